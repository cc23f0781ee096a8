/- Format HdMath HdLaws Format2 Bytes -/
import Derived.ChangeAlike
import Derived.Laws.BytesArg
import Derived.Test.YthnenedoblncjaaGreatDoorPkA00
set_option maxRecDepth 1000000
set_option maxHeartbeats 8000000
namespace Go.Proofs.YthnenedoblncjaaGreatDoor
open Go.Proofs.Tryz
section
open Go.RowKit
theorem Xt:(prog.info? 5).map (fun i=>(i.zero,i.size,i.bytes))=some (some (.int .u8 0),1,1):=by kernel_rfl
theorem Y9(bs:List Int):∀ u∈ZY bs,u.oneCell'=true:=by
 intro u hu;simp only [ZY,List.mem_map] at hu;obtain ⟨x,_,rfl⟩:=hu;rfl
def Zj(r:Rg):Int:=r.v+(if r.d then 128 else 0)
def Zx(op vs:Int)(rs:List Rg)(Z0:Int):List Int :=
 [op]++(if op=3 then [vs] else if 4<=op then [(rs.length:Int)] else [])++rs.map Zj++(if op=5 then [Z0 % 256,Z0 / 256] else [])
def ZP(op vs:Int)(rs:List Rg)(Z0:Int):List Int × Int:=if ZT op vs rs Z0=0 then (Zx op vs rs Z0,0) else ([],ZT op vs rs Z0)
def Zy(r:List Int × Int)(w:World)(e:Ending)(w':World):Prop :=
 ∃ v,e=.returned (.tuple #[v,.int .i64 r.2])/\w'.ownsRow w.heap.size 5 1 v r.1.length (ZY r.1)/\Below w.heap.size w w'
theorem zi:∀ n:Fin 128,bits BinOp.or IntKind.u8 (n.val:Int) 128=(n.val:Int)+128:=by decide +kernel
theorem kE(x:Int)(h0:0<=x)(h1:x<128):bits BinOp.or IntKind.u8 x 128=x+128:=by
 obtain ⟨n,rfl⟩:=Int.eq_ofNat_of_zero_le h0;exact zi ⟨n,by omega⟩
theorem Yp(a b:List Int):ZY (a++b)=ZY a++ZY b:=by simp [ZY]
section
variable (vs:Int)(rs:List Rg)(A:Option Addr)(c:Nat)(Z0:Int)(w:World)
variable (hs:Sl w w.heap.size A (rgCells rs))(hn:rs.length<=maxLen)
include hs hn
theorem Cg(op:Int)(he:ZT op vs rs Z0≠0):
 Calls prog 213 #[.agg #[.int .i64 op,.int .i64 vs,.slice A rs.length c,.int .i64 Z0]] w (Zy (ZP op vs rs Z0) w):=by
 have hf:ZP op vs rs Z0=([],ZT op vs rs Z0):=by unfold ZP;rw [if_neg he]
 rw [hf];have hs':=hide hs;clear hs;have he':(ZT op vs rs Z0 != 0)=true:=by rw [bne_iff_ne];exact he
 have HF:=hide hf;clear hf;have HE:=hide he;clear he;go_enter func213,ntmps213;go_wp2_with fail;refine (U7 vs rs A c Z0 _ ((hs'.out.below (bA)).more (by simp)) hn op).mono ?_;rintro e w1 ⟨rfl,hb⟩;go_wp2;go_ret2;exact ⟨_,rfl,World.ownsRow_nil _ _ _ _,Z9 (bA) hb⟩
theorem yB(op:Int)(hop:op=1\/op=2)(hz:ZT op vs rs Z0=0):
 Calls prog 213 #[.agg #[.int .i64 op,.int .i64 vs,.slice A rs.length c,.int .i64 Z0]] w (Zy (ZP op vs rs Z0) w):=by
 have hf:ZP op vs rs Z0=(Zx op vs rs Z0,0):=by unfold ZP;rw [if_pos hz]
 rw [hf];obtain ⟨_,_,_,hv,_,hl,_,hp,_⟩:=Zu hz;have e1:=hl (by omega);have e2:=hv (by omega);have e3:=hp (by omega);subst e1 e2 e3;clear hv hl hp;have hs':=hide hs;clear hs;have HF:=hide hf;clear hf;have HZ:=hide hz;clear hz;rcases hop with rfl|rfl
 all_goals
  go_enter func213,ntmps213;go_wp2_with fail;refine (U7 0 [] A c 0 _ ((hs'.out.below (bA)).more (by simp)) hn _).mono ?_;rintro e w1 ⟨rfl,hb⟩;rw [HZ.out];obtain ⟨hcl,hfr⟩:=NM hb;have hl:=hb.size;simp at hl;have hl2:w.heap.size<w1.heap.size:=by omega
  go_wp2;refine wp_loop_rounds 1 ?_;rw [rounds_succ];go_wp2;go_ret2;refine ⟨_,rfl,Yz (xs:=ZY [_]) (Z6.new _ _ _) (by omega) rfl (by unfold maxLen;omega),Z7 (Z9 (bA) hb) _⟩
end
end
section
open Go.RowKit
theorem WW {op vs Z0:Int} {rs:List Rg} (h1:1<=op/\op<=5) (h3:op=3->3<=vs/\vs<=64) (hv:op≠3->vs=0) (h4:4<=op->1<=rs.length/\rs.length<=64/\rs.any Zt=false) (hl:op<4->rs=[])
 (h5:op=5->1<=Z0/\Z0<=4096) (hp:op≠5->Z0=0) (hf:rs.any Yq=false):ZT op vs rs Z0=0:=by
 unfold ZT Zd;have hlen:op<4->rs.length=0:=fun h=>by rw [hl h];rfl
 have hd:(decide (op=4\/op=5) && rs.any Zt)=false:=by
  by_cases h:op=4\/op=5
  · rw [(h4 (by omega)).2.2,Bool.and_false]
  · rw [decide_eq_false h,Bool.false_and]
 rw [hd,hf,if_neg (by omega),if_neg (by omega),if_neg (by omega),cond_false,if_neg (by omega),if_neg (by omega),cond_false]
theorem Kk(xs:List Int):(xs.map YR).any Yq=false:=by
 rw [List.any_eq_false];intro r hr;obtain ⟨x,_,rfl⟩:=List.mem_map.1 hr;simp [YR,Yq]
def zsd(r:PH × Int × Int):Prop:=r.2.2=0->ZT r.1.op r.1.vs r.1.rs r.1.Z0=0
theorem V4(e:Int)(he:e≠0):zsd (Y5,0,e):=fun h=>absurd h he
theorem JV(bs:List Int):zsd (ZX bs):=by
 unfold ZX;refine YG (fun _=>V4 4 (by omega)) (fun h0=>?_);refine YG (fun h1 _=>WW (by dsimp only;omega) (by dsimp only;omega) (by dsimp only;omega) (by dsimp only;omega) (fun _=>rfl) (by dsimp only;omega) (by dsimp only;omega) rfl) (fun h1=>?_);refine YG (fun _=>V4 5 (by omega)) (fun h2=>?_);refine YG (fun _=>V4 4 (by omega)) (fun h3=>?_);refine YG (fun h4=>?_) (fun h4=>?_)
 · exact YG (fun _=>V4 6 (by omega)) (fun h5 _=>WW (by dsimp only;omega) (by dsimp only;omega) (by dsimp only;omega) (by dsimp only;omega) (fun _=>rfl) (by dsimp only;omega) (by dsimp only;omega) rfl)
 refine YG (fun _=>V4 6 (by omega)) (fun h5=>?_);refine YG (fun _=>V4 4 (by omega)) (fun h6=>?_);refine YG (fun _=>V4 7 (by omega)) (fun h7=>?_);have hlen:(((bs.drop 2).take (bs.getD 1 0).toNat).map YR).length=(bs.getD 1 0).toNat:=by
  rw [List.length_map,List.length_take,List.length_drop];omega
 rw [Bool.not_eq_true] at h7;refine YG (fun h8 _=>WW (by dsimp only;omega) (by dsimp only;omega) (by dsimp only;omega) (fun _=>⟨by dsimp only;omega,by dsimp only;omega,h7⟩) (by dsimp only;omega) (by dsimp only;omega) (by dsimp only;omega) (Kk _)) (fun h8=>?_);refine YG (fun _=>V4 4 (by omega)) (fun h9=>?_);exact YG (fun _=>V4 6 (by omega)) (fun h10 _=>WW (by dsimp only;omega) (by dsimp only;omega) (by dsimp only;omega) (fun _=>⟨by dsimp only;omega,by dsimp only;omega,h7⟩) (by dsimp only;omega) (by dsimp only;omega) (by dsimp only;omega) (Kk _))
def VK(r:Rg):Rg:=⟨r.d,r.v,none,0,0⟩
theorem DK(r:Rg)(h0:0<=r.v)(h1:r.v<=64):YR (Zj r)=VK r:=by
 unfold YR Zj VK;cases r.d
 · simp only [Bool.false_eq_true,if_false,Int.add_zero];rw [decide_eq_false (by omega),show r.v % 128=r.v by omega]
 · simp only [if_true];rw [decide_eq_true (by omega),show (r.v+128) % 128=r.v by omega]
theorem wM{rs:List Rg}(h:rs.any Zt=false):∀ r∈rs,0<=r.v/\r.v<=64:=by
 intro r hr;have h1:=List.any_eq_false.1 h r hr;unfold Zt ZO at h1
 by_cases h0:r.v=0
 · omega
 · by_cases h3:3<=r.v/\r.v<=64
   · omega
   · rw [if_neg h0,if_neg h3] at h1;simp at h1
theorem Ma{rs:List Rg}(h:∀ r∈rs,0<=r.v/\r.v<=64):(rs.map Zj).map YR=rs.map VK:=by
 rw [List.map_map];exact List.map_congr_left fun r hr=>DK r (h r hr).1 (h r hr).2
theorem BD(rs:List Rg):(rs.map VK).any Zt=rs.any Zt:=by
 rw [List.any_map];rfl
theorem JN(a b:Int)(l:List Int):(a::b::l).getD 0 0=a/\(a::b::l).getD 1 0=b:=⟨rfl,rfl⟩
theorem sK(a b:Int)(m:List Int)(x y:Int)(rest:List Int)(n:Nat)(hn:m.length=n):
 (a::b::(m++x::y::rest)).getD (2+n) 0=x/\(a::b::(m++x::y::rest)).getD (3+n) 0=y:=by
 subst hn;constructor
 · rw [List.getD_eq_getElem?_getD,show 2+m.length=m.length+1+1 by omega,List.getElem?_cons_succ,List.getElem?_cons_succ,List.getElem?_append_right (Nat.le_refl _)];simp
 · rw [List.getD_eq_getElem?_getD,show 3+m.length=(m.length+1)+1+1 by omega,List.getElem?_cons_succ,List.getElem?_cons_succ,List.getElem?_append_right (by omega)];simp
theorem Sy{a:Int}{m:List Int}{tl:List Int}(ha:a=4\/a=5)(h1:1<=m.length)(h2:m.length<=64)(hw:(m.map YR).any Zt=false):
 ZX (a::(m.length:Int)::(m++tl)) =
  (if a=4 then (⟨4,0,m.map YR,0⟩,2+(m.length:Int),0)
   else if tl.length<2 then (Y5,0,4)
   else if tl.getD 0 0+256*tl.getD 1 0<1\/4096<tl.getD 0 0+256*tl.getD 1 0 then (Y5,0,6)
   else (⟨5,0,m.map YR,tl.getD 0 0+256*tl.getD 1 0⟩,4+(m.length:Int),0)):=by
 obtain ⟨g0,g1⟩:=JN a (m.length:Int) (m++tl);have hlen:(a::(m.length:Int)::(m++tl)).length=2+m.length+tl.length:=by simp;omega
 have htake:((a::(m.length:Int)::(m++tl)).drop 2).take m.length=m:=by simp
 unfold ZX;rw [hlen,g0,g1,Int.toNat_natCast,htake,hw,if_neg (by omega),if_neg (by omega),if_neg (by omega),if_neg (by omega),if_neg (by omega),if_neg (by omega),if_neg (by omega),if_neg (by simp)]
 by_cases h4:a=4
 · rw [if_pos h4,if_pos h4]
 · rw [if_neg h4,if_neg h4]
   by_cases ht:tl.length<2
   · rw [if_pos (by omega),if_pos ht]
   · rw [if_neg (by omega),if_neg ht]
     match tl,ht with
     | [],ht=>simp at ht
     | [_],ht=>simp at ht
     | x::y::rest,_ =>
       obtain ⟨e1,e2⟩:=sK a (m.length:Int) m x y rest m.length rfl;rw [e1,e2];rfl
theorem KI{op vs Z0:Int}{rs:List Rg}(h:ZT op vs rs Z0=0)(rest:List Int):
 ZX (Zx op vs rs Z0++rest)=(⟨op,vs,rs.map VK,Z0⟩,((Zx op vs rs Z0).length:Int),0):=by
 obtain ⟨h1,h2,h3,hv,h4,hl,h5,hp,_⟩:=Zu h
 by_cases c12:op=1\/op=2
 · have e1:=hl (by omega);have e2:=hv (by omega);have e3:=hp (by omega);subst e1 e2 e3;rcases c12 with rfl|rfl <;> (unfold ZX Zx;simp)
 by_cases c3:op=3
 · have e1:=hl (by omega);have e3:=hp (by omega);obtain ⟨v1,v2⟩:=h3 c3;subst c3 e1 e3;unfold ZX Zx;simp;rw [if_neg (by omega),if_neg (by omega)]
 obtain ⟨l1,l2,hw⟩:=h4 (by omega);have hvk:=wM hw;have e2:=hv c3;subst e2;have hm:((rs.map Zj).map YR).any Zt=false:=by rw [Ma hvk,BD,hw]
 by_cases c4:op=4
 · have e3:=hp (by omega);subst c4 e3;have hb:Zx 4 0 rs 0++rest=4::((rs.map Zj).length:Int)::(rs.map Zj++rest):=(by simp [Zx]);rw [hb,Sy (.inl rfl) (by simpa using l1) (by simpa using l2) hm,if_pos rfl,Ma hvk];simp [Zx];omega
 · have c5:op=5:=(by omega);obtain ⟨p1,p2⟩:=h5 c5;subst c5;have hb:Zx 5 0 rs Z0++rest=5::((rs.map Zj).length:Int)::(rs.map Zj++(Z0 % 256::Z0 / 256::rest)):=(by simp [Zx]);rw [hb,Sy (.inr rfl) (by simpa using l1) (by simpa using l2) hm,if_neg (by omega),if_neg (by simp),if_neg (by simp;omega),Ma hvk];simp [Zx];omega
theorem Cc(x:Int)(h0:0<=x)(h1:x<=255):Zj (YR x)=x:=by
 unfold Zj YR
 by_cases h:128<=x
 · simp only [h,decide_true,if_true];omega
 · simp only [h,decide_false,Bool.false_eq_true,if_false];omega
theorem yZ{l:List Int}(h:∀ x∈l,0<=x/\x<=255):(l.map YR).map Zj=l:=by
 rw [List.map_map]
 conv=>rhs;rw [<- List.map_id l]
 exact List.map_congr_left fun x hx=>Cc x (h x hx).1 (h x hx).2
def jr(bs:List Int)(r:PH × Int × Int):Prop:=r.2.2=0->Zx r.1.op r.1.vs r.1.rs r.1.Z0=bs.take r.2.1.toNat/\1<=r.2.1/\r.2.1<=bs.length
theorem WR{bs:List Int}(e:Int)(he:e≠0):jr bs (Y5,0,e):=fun h=>absurd h he
theorem O8(bs:List Int)(hby:∀ (j:Nat) (x:Int),bs[j]?=some x->0<=x/\x<=255):jr bs (ZX bs):=by
 have hmem:∀ x∈bs,0<=x/\x<=255:=fun x hx=>by
  obtain ⟨j,hj⟩:=List.mem_iff_getElem?.1 hx;exact hby j x hj
 unfold ZX;refine YG (fun _=>WR 4 (by omega)) (fun h0=>?_)
 match bs,h0 with
 | [],h0=>simp at h0
 | a::l,h0 =>
   have ga:(a::l).getD 0 0=a:=rfl;rw [ga];refine YG (fun h1 _=>?_) (fun h1=>?_)
   · refine ⟨?_,by simp,by simp;omega⟩;rcases h1 with rfl|rfl <;> simp [Zx]
   refine YG (fun _=>WR 5 (by omega)) (fun h2=>?_);refine YG (fun _=>WR 4 (by omega)) (fun h3=>?_)
   match l,h3 with
   | [],h3=>simp at h3
   | n::l,h3 =>
     obtain ⟨_,g1⟩:=JN a n l;have hl:∀ x∈l,0<=x/\x<=255:=fun x hx=>hmem x (by simp [hx]);rw [g1];refine YG (fun h4=>YG (fun _=>WR 6 (by omega)) (fun h5 _=>?_)) (fun h4=>?_)
     · subst h4;exact ⟨by simp [Zx],by simp,by simp;omega⟩
     refine YG (fun _=>WR 6 (by omega)) (fun h5=>?_);refine YG (fun _=>WR 4 (by omega)) (fun h6=>?_);refine YG (fun _=>WR 7 (by omega)) (fun h7=>?_);obtain ⟨m,hm⟩:=Int.eq_ofNat_of_zero_le (show 0<=n by omega);subst hm;simp only [List.length_cons] at h6;have hdt:((a::(m:Int)::l).drop 2).take (m:Int).toNat=l.take m:=(by simp);rw [hdt];have hfb:((l.take m).map YR).map Zj=l.take m:=yZ fun x hx=>hl x (List.mem_of_mem_take hx);have hlm:((l.take m).map YR).length=m:=(by rw [List.length_map,List.length_take];omega);refine YG (fun h8 _=>⟨?_,by dsimp only;omega,by dsimp only;simp only [List.length_cons];omega⟩) (fun h8=>?_)
     · dsimp only;subst h8;rw [show (2+(m:Int)).toNat=m+2 by omega];unfold Zx;rw [hfb,hlm];simp
     refine YG (fun _=>WR 4 (by omega)) (fun h9=>?_);simp only [List.length_cons] at h9;refine YG (fun _=>WR 6 (by omega)) (fun h10 _=>⟨?_,by dsimp only;omega,by dsimp only;simp only [List.length_cons];omega⟩);dsimp only;have h5':a=5:=(by omega);subst h5';obtain ⟨x,hx⟩:∃ x,l[m]?=some x:=⟨_,List.getElem?_eq_getElem (by omega)⟩;obtain ⟨y,hy⟩:∃ y,l[m+1]?=some y:=⟨_,List.getElem?_eq_getElem (by omega)⟩;have gx:(5::(m:Int)::l).getD (2+(m:Int).toNat) 0=x:=by
      rw [List.getD_eq_getElem?_getD,Int.toNat_natCast,show 2+m=m+1+1 by omega,List.getElem?_cons_succ,List.getElem?_cons_succ,hx];rfl
     have gy:(5::(m:Int)::l).getD (3+(m:Int).toNat) 0=y:=by
      rw [List.getD_eq_getElem?_getD,Int.toNat_natCast,show 3+m=(m+1)+1+1 by omega,List.getElem?_cons_succ,List.getElem?_cons_succ,hy];rfl
     rw [gx,gy];obtain ⟨x0,x1⟩:=hl x (List.mem_of_getElem? hx);obtain ⟨y0,y1⟩:=hl y (List.mem_of_getElem? hy);have ht:l.take (m+2)=l.take m++[x,y]:=by
      rw [List.take_add_one,List.take_add_one,hx,hy];simp
     rw [show (4+(m:Int)).toNat=m+2+2 by omega];unfold Zx;rw [hfb,hlm,show (x+256*y) % 256=x by omega,show (x+256*y) / 256=y by omega];simp [ht]
end
section
open Go.RowKit
section
variable (vs:Int)(rs:List Rg)(A:Option Addr)(c:Nat)(Z0:Int)(w:World)
variable (hs:Sl w w.heap.size A (rgCells rs))(hn:rs.length<=maxLen)
include hs hn
theorem sF(hz:ZT 3 vs rs Z0=0):
 Calls prog 213 #[.agg #[.int .i64 3,.int .i64 vs,.slice A rs.length c,.int .i64 Z0]] w (Zy (ZP 3 vs rs Z0) w):=by
 have hf:ZP 3 vs rs Z0=(Zx 3 vs rs Z0,0):=by unfold ZP;rw [if_pos hz]
 rw [hf];obtain ⟨_,_,hv,_,_,hl,_,hp,_⟩:=Zu hz;have e1:=hl (by omega);have e3:=hp (by omega);obtain ⟨hv1,hv2⟩:=hv rfl;subst e1 e3;clear hv hl hp;have hs':=hide hs;clear hs;have HF:=hide hf;clear hf;have HZ:=hide hz;clear hz;obtain ⟨i0,hi,hz0,hz1,hz2⟩:=info_parts Xt;go_enter func213,ntmps213;go_wp2_with fail;refine (U7 vs [] A c 0 _ ((hs'.out.below (bA)).more (by simp)) hn _).mono ?_;rintro e w1 ⟨rfl,hb⟩;rw [HZ.out];obtain ⟨hcl,hfr⟩:=NM hb;have hl:=hb.size;simp at hl;have hl2:w.heap.size<w1.heap.size:=by omega
 go_wp2_with (at_builtin;refine wpList_append_own _ rfl (.tmp 22) (.tmp 26) 49 rfl w1.heap.size 5 i0 (.int .u8 0) 1 1 underlying49 hi hz0 ‹_› hz2 rfl (by decide) (.slice (some ⟨w1.heap.size,0,none⟩) 1 1) 1 (ZY [3]) rfl ((Yz (Z6.new _ _ _) (Nat.le_refl _) rfl (by unfold maxLen;omega)).alloc _) ⟨w1.heap.size+1,0,none⟩ 1 1 (ZY [vs]) rfl rfl ?c1 ?c2 ?c3 ?c4 ?c5 ?_)
 case c1=>exact ZF (Z6.new2 _ _ _ _)
 case c2=>exact Y9 _
 case c3=>unfold maxLen;omega
 case c4=>omega
 case c5=>simp;omega
 intro v' w2 hown' ZQ _;have hb2:Below w.heap.size w w2:=(Z7 (Z7 (Z9 (bA) hb) _) _).grown ZQ (by simp;omega) (fun k hk=>by simp [Value.ownBlock] at hk;omega);have B1:=((((Z6.new w 53 #[.int .i64 3,.int .i64 vs,.slice A 0 c,.int .i64 0]).step hb).alloc (.cells #[.int .u8 3] 5)).alloc (.cells #[.int .u8 vs] 5)).grown ZQ (by simp [Value.ownBlock];omega);have f0:=B1.q0 rfl;have f1:=B1.q2 rfl;clear hcl hfr;go_wp2;refine wp_loop_rounds 1 ?_;rw [rounds_succ];go_wp2;go_ret2;exact ⟨v',rfl,Wh hown' (by omega),hb2⟩
theorem sG(hz:ZT 4 vs rs Z0=0):
 Calls prog 213 #[.agg #[.int .i64 4,.int .i64 vs,.slice A rs.length c,.int .i64 Z0]] w (Zy (ZP 4 vs rs Z0) w):=by
 have hf:ZP 4 vs rs Z0=(Zx 4 vs rs Z0,0):=by unfold ZP;rw [if_pos hz]
 rw [hf];obtain ⟨_,_,_,hv,hl,_,hp1,hp,_⟩:=Zu hz;have e2:=hv (by omega);obtain ⟨hl1,hl2,hw⟩:=hl (by omega);have e3:=hp (by omega);subst e2 e3;clear hv hl hp hp1;have hs':=hide hs;clear hs;have HF:=hide hf;clear hf;have HZ:=hide hz;clear hz;have hvb:∀ r∈rs,0<=r.v/\r.v<=64:=by
  intro r hr;have h1:=List.any_eq_false.1 hw r hr;unfold Zt ZO at h1
  by_cases h0:r.v=0
  · omega
  · by_cases h3:3<=r.v/\r.v<=64
    · omega
    · rw [if_neg h0,if_neg h3] at h1;simp at h1
 have HVB:=hide hvb;clear hvb hw;obtain ⟨i0,hi,hz0,hz1,hz2⟩:=info_parts Xt;go_enter func213,ntmps213;go_wp2_with fail;refine (U7 0 rs A c 0 _ ((hs'.out.below (bA)).more (by simp)) hn _).mono ?_;rintro e w1 ⟨rfl,hb⟩;rw [HZ.out];obtain ⟨hcl,hfr⟩:=NM hb;have hlt:=hb.size;simp at hlt;have hlt2:w.heap.size<w1.heap.size:=by omega
 go_wp2_with (at_builtin;refine wpList_append_own _ rfl (.tmp 31) (.tmp 36) 49 rfl w1.heap.size 5 i0 (.int .u8 0) 1 1 underlying49 hi hz0 ‹_› hz2 rfl (by decide) (.slice (some ⟨w1.heap.size,0,none⟩) 1 1) 1 (ZY [4]) rfl ((Yz (Z6.new _ _ _) (Nat.le_refl _) rfl (by unfold maxLen;omega)).alloc _) ⟨w1.heap.size+1,0,none⟩ 1 1 (ZY [(rs.length:Int)]) rfl rfl ?c1 ?c2 ?c3 ?c4 ?c5 ?_)
 case c1=>exact ZF (Z6.new2 _ _ _ _)
 case c2=>exact Y9 _
 case c3=>unfold maxLen;omega
 case c4=>omega
 case c5=>simp;omega
 intro v2 w2 V6 Yb _;have hb2:Below w.heap.size w w2:=(Z7 (Z7 (Z9 (bA) hb) _) _).grown Yb (by simp;omega) (fun k hk=>by simp [Value.ownBlock] at hk;omega);have hb2':Below w1.heap.size w1 w2:=(Z7 (bA) _).grown Yb (by simp;omega) (fun k hk=>by simp [Value.ownBlock] at hk;omega);have B2:=((((Z6.new w 53 #[.int .i64 4,.int .i64 0,.slice A rs.length c,.int .i64 0]).step hb).alloc (.cells #[.int .u8 4] 5)).alloc (.cells #[.int .u8 (rs.length:Int)] 5)).grown Yb (by simp [Value.ownBlock];omega);have f22:=B2.q2 rfl;have hsl:=hs'.out.below hb2;clear hcl hfr Yb;go_wp2
 go_loopw [5,7,8,41] (fun v _ _ i wr=>∃ k:Nat,k<=rs.length/\i=.int .i64 k/\wr.ownsRow w1.heap.size 5 1 v (2+k) (ZY ([4,(rs.length:Int)]++(rs.take k).map Zj))/\Below w1.heap.size w2 wr)
  (fun _ _ _ i _=>rs.length - (intOf i).toNat)
 case atStart=>exact ⟨0,by omega,rfl,by simpa [ZY] using V6,Below.refl _ _⟩
 case round =>
  obtain ⟨k,hk,rfl,ZL,hbr⟩:=hrel;have hrs:=hbr.size;have ug:=hb2'.size
  by_cases hlt3:k<rs.length
  · obtain ⟨r,hr⟩:∃ r,rs[k]?=some r:=⟨_,List.getElem?_eq_getElem hlt3⟩;obtain ⟨hr1,hr2⟩:=HVB.out r (List.mem_of_getElem? hr);obtain ⟨b,off,rfl,hB,c0,c1,c2⟩:=(hsl.below (hbr.mono (by omega))).rg hr;have hts:(rs.take (k+1)).map Zj=(rs.take k).map Zj++[Zj r]:=(by rw [List.take_add_one,hr];simp);have HR:=hide hr;clear hr;have Pz:=hide hts;clear hts;have hor:=kE r.v hr1 (by omega);obtain ⟨y,hy⟩:=eE (Zj r);cases hd:r.d
    · have hyv:y=r.v:=(by rw [hy];unfold Zj;rw [hd];simp);rw [hd] at c0;have HY:=hide hy;clear hy hd;subst hyv;go_wp2_with (at_builtin;refine wpList_append_own _ rfl (.tmp 52) (.tmp 54) 49 rfl w1.heap.size 5 i0 (.int .u8 0) 1 1 underlying49 hi hz0 ‹_› hz2 rfl (by decide) _ (2+k) (ZY ([4,(rs.length:Int)]++(rs.take k).map Zj)) rfl ((ZL.alloc _).alloc _) ⟨wr.heap.size+1,0,none⟩ 1 1 (ZY [r.v]) rfl rfl ?d1 ?d2 ?d3 ?d4 ?d5 ?_)
      case d1=>exact ZF (Z6.new2 _ _ _ _)
      case d2=>exact Y9 _
      case d3=>unfold maxLen;omega
      case d4=>omega
      case d5=>simp;omega
      intro v3 w3 Zw Zo _;have hb3:Below w1.heap.size w2 w3:=((hbr.alloc (by omega) _).alloc (by simp;omega) _).grown Zo (by simp;omega) (fun k hk=>ZG ZL hk);have YO:w3.ownsRow w1.heap.size 5 1 v3 (2+(k+1)) (ZY ([4,(rs.length:Int)]++(rs.take (k+1)).map Zj)):=by
       rw [Pz.out,<- HY.out];simp [ZY] at Zw ⊢;exact Zw
      have HO:=hide YO;clear Zw YO Zo;go_wp2;go_roundw
      case rel=>exact ⟨k+1,by omega,by go_num,HO.out,hb3⟩
      case measure=>simp [intOf];omega
    · have hyv:y=r.v+128:=(by rw [hy];unfold Zj;rw [hd];simp);rw [hd] at c0;have HY:=hide hy;clear hy hd;have aX:=hide hyv;clear hyv;go_wp2_with (at_builtin;refine wpList_append_own _ rfl (.tmp 52) (.tmp 54) 49 rfl w1.heap.size 5 i0 (.int .u8 0) 1 1 underlying49 hi hz0 ‹_› hz2 rfl (by decide) _ (2+k) (ZY ([4,(rs.length:Int)]++(rs.take k).map Zj)) rfl ((ZL.alloc _).alloc _) ⟨wr.heap.size+1,0,none⟩ 1 1 (ZY [r.v+128]) rfl rfl ?d1 ?d2 ?d3 ?d4 ?d5 ?_)
      case d1=>exact ZF (Z6.new2 _ _ _ _)
      case d2=>exact Y9 _
      case d3=>unfold maxLen;omega
      case d4=>omega
      case d5=>simp;omega
      intro v3 w3 Zw Zo _;have hb3:Below w1.heap.size w2 w3:=((hbr.alloc (by omega) _).alloc (by simp;omega) _).grown Zo (by simp;omega) (fun k hk=>ZG ZL hk);have YO:w3.ownsRow w1.heap.size 5 1 v3 (2+(k+1)) (ZY ([4,(rs.length:Int)]++(rs.take (k+1)).map Zj)):=by
       rw [Pz.out,<- HY.out,aX.out];simp [ZY] at Zw ⊢;exact Zw
      have HO:=hide YO;clear Zw YO Zo;go_wp2;go_roundw
      case rel=>exact ⟨k+1,by omega,by go_num,HO.out,hb3⟩
      case measure=>simp [intOf];omega
  · have hk':k=rs.length:=(by omega);subst hk';rw [List.take_length] at ZL;have Br:=B2.below hbr hlt2;have f0:=Br.q0 rfl;have f3:=Br.q3 rfl;go_wp2;go_ret2;refine ⟨_,rfl,?_,hb2.trans (hbr.mono (by omega))⟩;have h:=Wh ZL (base':=w.heap.size) (by omega);have hlf:(Zx 4 0 rs 0).length=2+rs.length:=(by simp [Zx];omega);dsimp only;rw [hlf];simp [Zx,ZY] at h ⊢;exact h
theorem sH(hz:ZT 5 vs rs Z0=0):
 Calls prog 213 #[.agg #[.int .i64 5,.int .i64 vs,.slice A rs.length c,.int .i64 Z0]] w (Zy (ZP 5 vs rs Z0) w):=by
 have hf:ZP 5 vs rs Z0=(Zx 5 vs rs Z0,0):=by unfold ZP;rw [if_pos hz]
 rw [hf];obtain ⟨_,_,_,hv,hl,_,hp1,hp,_⟩:=Zu hz;have e2:=hv (by omega);obtain ⟨hl1,hl2,hw⟩:=hl (by omega);obtain ⟨hp3,hp4⟩:=hp1 rfl;subst e2;clear hv hl hp hp1;have hs':=hide hs;clear hs;have HF:=hide hf;clear hf;have HZ:=hide hz;clear hz;have hvb:∀ r∈rs,0<=r.v/\r.v<=64:=by
  intro r hr;have h1:=List.any_eq_false.1 hw r hr;unfold Zt ZO at h1
  by_cases h0:r.v=0
  · omega
  · by_cases h3:3<=r.v/\r.v<=64
    · omega
    · rw [if_neg h0,if_neg h3] at h1;simp at h1
 have HVB:=hide hvb;clear hvb hw;obtain ⟨i0,hi,hz0,hz1,hz2⟩:=info_parts Xt;go_enter func213,ntmps213;go_wp2_with fail;refine (U7 0 rs A c Z0 _ ((hs'.out.below (bA)).more (by simp)) hn _).mono ?_;rintro e w1 ⟨rfl,hb⟩;rw [HZ.out];obtain ⟨hcl,hfr⟩:=NM hb;have hlt:=hb.size;simp at hlt;have hlt2:w.heap.size<w1.heap.size:=by omega
 go_wp2_with (at_builtin;refine wpList_append_own _ rfl (.tmp 31) (.tmp 36) 49 rfl w1.heap.size 5 i0 (.int .u8 0) 1 1 underlying49 hi hz0 ‹_› hz2 rfl (by decide) (.slice (some ⟨w1.heap.size,0,none⟩) 1 1) 1 (ZY [5]) rfl ((Yz (Z6.new _ _ _) (Nat.le_refl _) rfl (by unfold maxLen;omega)).alloc _) ⟨w1.heap.size+1,0,none⟩ 1 1 (ZY [(rs.length:Int)]) rfl rfl ?c1 ?c2 ?c3 ?c4 ?c5 ?_)
 case c1=>exact ZF (Z6.new2 _ _ _ _)
 case c2=>exact Y9 _
 case c3=>unfold maxLen;omega
 case c4=>omega
 case c5=>simp;omega
 intro v2 w2 V6 Yb _;have hb2:Below w.heap.size w w2:=(Z7 (Z7 (Z9 (bA) hb) _) _).grown Yb (by simp;omega) (fun k hk=>by simp [Value.ownBlock] at hk;omega);have hb2':Below w1.heap.size w1 w2:=(Z7 (bA) _).grown Yb (by simp;omega) (fun k hk=>by simp [Value.ownBlock] at hk;omega);have B2:=((((Z6.new w 53 #[.int .i64 5,.int .i64 0,.slice A rs.length c,.int .i64 Z0]).step hb).alloc (.cells #[.int .u8 5] 5)).alloc (.cells #[.int .u8 (rs.length:Int)] 5)).grown Yb (by simp [Value.ownBlock];omega);have f22:=B2.q2 rfl;have hsl:=hs'.out.below hb2;clear hcl hfr Yb;go_wp2
 go_loopw [5,7,8,41] (fun v _ _ i wr=>∃ k:Nat,k<=rs.length/\i=.int .i64 k/\wr.ownsRow w1.heap.size 5 1 v (2+k) (ZY ([5,(rs.length:Int)]++(rs.take k).map Zj))/\Below w1.heap.size w2 wr)
  (fun _ _ _ i _=>rs.length - (intOf i).toNat)
 case atStart=>exact ⟨0,by omega,rfl,by simpa [ZY] using V6,Below.refl _ _⟩
 case round =>
  obtain ⟨k,hk,rfl,ZL,hbr⟩:=hrel;have hrs:=hbr.size;have ug:=hb2'.size
  by_cases hlt3:k<rs.length
  · obtain ⟨r,hr⟩:∃ r,rs[k]?=some r:=⟨_,List.getElem?_eq_getElem hlt3⟩;obtain ⟨hr1,hr2⟩:=HVB.out r (List.mem_of_getElem? hr);obtain ⟨b,off,rfl,hB,c0,c1,c2⟩:=(hsl.below (hbr.mono (by omega))).rg hr;have hts:(rs.take (k+1)).map Zj=(rs.take k).map Zj++[Zj r]:=(by rw [List.take_add_one,hr];simp);have HR:=hide hr;clear hr;have Pz:=hide hts;clear hts;have hor:=kE r.v hr1 (by omega);obtain ⟨y,hy⟩:=eE (Zj r);cases hd:r.d
    · have hyv:y=r.v:=(by rw [hy];unfold Zj;rw [hd];simp);rw [hd] at c0;have HY:=hide hy;clear hy hd;subst hyv;go_wp2_with (at_builtin;refine wpList_append_own _ rfl (.tmp 52) (.tmp 54) 49 rfl w1.heap.size 5 i0 (.int .u8 0) 1 1 underlying49 hi hz0 ‹_› hz2 rfl (by decide) _ (2+k) (ZY ([5,(rs.length:Int)]++(rs.take k).map Zj)) rfl ((ZL.alloc _).alloc _) ⟨wr.heap.size+1,0,none⟩ 1 1 (ZY [r.v]) rfl rfl ?d1 ?d2 ?d3 ?d4 ?d5 ?_)
      case d1=>exact ZF (Z6.new2 _ _ _ _)
      case d2=>exact Y9 _
      case d3=>unfold maxLen;omega
      case d4=>omega
      case d5=>simp;omega
      intro v3 w3 Zw Zo _;have hb3:Below w1.heap.size w2 w3:=((hbr.alloc (by omega) _).alloc (by simp;omega) _).grown Zo (by simp;omega) (fun k hk=>ZG ZL hk);have YO:w3.ownsRow w1.heap.size 5 1 v3 (2+(k+1)) (ZY ([5,(rs.length:Int)]++(rs.take (k+1)).map Zj)):=by
       rw [Pz.out,<- HY.out];simp [ZY] at Zw ⊢;exact Zw
      have HO:=hide YO;clear Zw YO Zo;go_wp2;go_roundw
      case rel=>exact ⟨k+1,by omega,by go_num,HO.out,hb3⟩
      case measure=>simp [intOf];omega
    · have hyv:y=r.v+128:=(by rw [hy];unfold Zj;rw [hd];simp);rw [hd] at c0;have HY:=hide hy;clear hy hd;have aX:=hide hyv;clear hyv;go_wp2_with (at_builtin;refine wpList_append_own _ rfl (.tmp 52) (.tmp 54) 49 rfl w1.heap.size 5 i0 (.int .u8 0) 1 1 underlying49 hi hz0 ‹_› hz2 rfl (by decide) _ (2+k) (ZY ([5,(rs.length:Int)]++(rs.take k).map Zj)) rfl ((ZL.alloc _).alloc _) ⟨wr.heap.size+1,0,none⟩ 1 1 (ZY [r.v+128]) rfl rfl ?d1 ?d2 ?d3 ?d4 ?d5 ?_)
      case d1=>exact ZF (Z6.new2 _ _ _ _)
      case d2=>exact Y9 _
      case d3=>unfold maxLen;omega
      case d4=>omega
      case d5=>simp;omega
      intro v3 w3 Zw Zo _;have hb3:Below w1.heap.size w2 w3:=((hbr.alloc (by omega) _).alloc (by simp;omega) _).grown Zo (by simp;omega) (fun k hk=>ZG ZL hk);have YO:w3.ownsRow w1.heap.size 5 1 v3 (2+(k+1)) (ZY ([5,(rs.length:Int)]++(rs.take (k+1)).map Zj)):=by
       rw [Pz.out,<- HY.out,aX.out];simp [ZY] at Zw ⊢;exact Zw
      have HO:=hide YO;clear Zw YO Zo;go_wp2;go_roundw
      case rel=>exact ⟨k+1,by omega,by go_num,HO.out,hb3⟩
      case measure=>simp [intOf];omega
  · have hk':k=rs.length:=(by omega);subst hk';rw [List.take_length] at ZL;have Br:=B2.below hbr hlt2;have f0:=Br.q0 rfl;have f3:=Br.q3 rfl;go_wp2_with (at_builtin;refine wpList_append_own _ rfl (.tmp 60) (.tmp 68) 49 rfl w1.heap.size 5 i0 (.int .u8 0) 1 1 underlying49 hi hz0 ‹_› hz2 rfl (by decide) _ (2+rs.length) (ZY ([5,(rs.length:Int)]++rs.map Zj)) rfl (ZL.alloc _) ⟨wr.heap.size,0,none⟩ 2 2 (ZY [Z0 % 256,Z0 / 256]) rfl rfl ?g1 ?g2 ?g3 ?g4 ?g5 ?_)
    case g1=>exact ZF (Z6.new _ _ _)
    case g2=>exact Y9 _
    case g3=>unfold maxLen;omega
    case g4=>omega
    case g5=>simp;omega
    intro v3 w3 Zw Zo _;have hb3:Below w.heap.size w w3:=((hb2.trans (hbr.mono (by omega))).alloc (by omega) _).grown Zo (by simp;omega) (fun k hk=>by have:=ZG ZL hk;omega);have HO:=hide Zw;clear Zw Zo;go_wp2;go_ret2;refine ⟨_,rfl,?_,hb3⟩;have h:=Wh HO.out (base':=w.heap.size) (by omega);have hlf:(Zx 5 0 rs Z0).length=2+rs.length+2:=(by simp [Zx];omega);dsimp only;rw [hlf];simp [Zx,ZY] at h ⊢;exact h
theorem QL(op:Int):
 Calls prog 213 #[.agg #[.int .i64 op,.int .i64 vs,.slice A rs.length c,.int .i64 Z0]] w (Zy (ZP op vs rs Z0) w):=by
 by_cases he:ZT op vs rs Z0=0
 · obtain ⟨h1,h2,_⟩:=Zu he
   by_cases h3:op=1\/op=2
   · exact yB vs rs A c Z0 w hs hn op h3 he
   by_cases h4:op=3
   · subst h4;exact sF vs rs A c Z0 w hs hn he
   by_cases h5:op=4
   · subst h5;exact sG vs rs A c Z0 w hs hn he
   · have h6:op=5:=(by omega);subst h6;exact sH vs rs A c Z0 w hs hn he
 · exact Cg vs rs A c Z0 w hs hn op he
end
end
section
open Go.RowKit
theorem Sl.take{w:World}{B:Nat}{A:Option Addr}{xs:List Value}(h:Sl w B A xs)(k:Nat):Sl w B A (xs.take k):=by
 rcases h with h|⟨b,off,hA,hB,hc⟩
 · exact .inl (by simp [h])
 · exact .inr ⟨b,off,hA,hB,fun j u hu=>by
    rw [List.getElem?_take] at hu;split at hu
    · exact hc j u hu
    · cases hu⟩
theorem LB(bs:List Int)(A A':Option Addr)(c c':Nat)(w:World)(hs:Sl w w.heap.size A (ZY bs))(hs':Sl w w.heap.size A' (ZY bs)):
 Calls prog 68 #[.slice A bs.length c,.slice A' bs.length c'] w fun e w'=>e=.returned (.bool true)/\w=w':=by
 have h1:=QF w _ A bs c hs;have h2:=QF w _ A' bs c' hs';go_enter func68,ntmps68;go_wp2;go_ret;exact ⟨YS (by simp),rfl⟩
end
end Go.Proofs.YthnenedoblncjaaGreatDoor