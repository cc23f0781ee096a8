/- Format HdMath HdLaws Format2 Bytes -/
import Derived.ChangeAlike
import Derived.Laws.BytesArg
import Derived.Test.YtfljlmleiggmjaaGreatDoorPkD00
set_option maxRecDepth 1000000
set_option maxHeartbeats 8000000
namespace Go.Proofs.YtfljlmleiggmjaaGreatDoor
open Go.Proofs.Tryz
section
open Go.RowKit
theorem WB:(prog.info? 5).map (fun i=>(i.zero,i.size,i.bytes))=some (some (.int .u8 0),1,1):=by kernel_rfl
theorem YW(bs:List Int):∀ u∈ZY bs,u.oneCell'=true:=by
 intro u hu;simp only [ZY,List.mem_map] at hu;obtain ⟨x,_,rfl⟩:=hu;rfl
def Zf(r:Rg):Int:=r.v+(if r.d then 128 else 0)
def Zo(op vs:Int)(rs:List Rg)(Z0:Int):List Int :=
 [op]++(if op=3 then [vs] else if 4<=op then [(rs.length:Int)] else [])++rs.map Zf++(if op=5 then [Z0 % 256,Z0 / 256] else [])
def ZK(op vs:Int)(rs:List Rg)(Z0:Int):List Int × Int:=if ZT op vs rs Z0=0 then (Zo op vs rs Z0,0) else ([],ZT op vs rs Z0)
def Zr(r:List Int × Int)(w:World)(e:Ending)(w':World):Prop :=
 ∃ v,e=.returned (.tuple #[v,.int .i64 r.2])/\w'.ownsRow w.heap.size 5 1 v r.1.length (ZY r.1)/\Below w.heap.size w w'
theorem wI:∀ n:Fin 128,bits BinOp.or IntKind.u8 (n.val:Int) 128=(n.val:Int)+128:=by decide +kernel
theorem fC(x:Int)(h0:0<=x)(h1:x<128):bits BinOp.or IntKind.u8 x 128=x+128:=by
 obtain ⟨n,rfl⟩:=Int.eq_ofNat_of_zero_le h0;exact wI ⟨n,by omega⟩
theorem XZ(a b:List Int):ZY (a++b)=ZY a++ZY b:=by simp [ZY]
section
variable (vs:Int)(rs:List Rg)(A:Option Addr)(c:Nat)(Z0:Int)(w:World)
variable (hs:Sl w w.heap.size A (rgCells rs))(hn:rs.length<=maxLen)
include hs hn
theorem zT(op:Int)(he:ZT op vs rs Z0≠0):
 Calls prog 35 #[.agg #[.int .i64 op,.int .i64 vs,.slice A rs.length c,.int .i64 Z0]] w (Zr (ZK op vs rs Z0) w):=by
 have hf:ZK op vs rs Z0=([],ZT op vs rs Z0):=by unfold ZK;rw [if_neg he]
 rw [hf];have hs':=hide hs;clear hs;have he':(ZT op vs rs Z0 != 0)=true:=by rw [bne_iff_ne];exact he
 have HF:=hide hf;clear hf;have HE:=hide he;clear he;go_enter func35,ntmps35;go_wp2_with fail;refine (UD vs rs A c Z0 _ ((hs'.out.below (bA)).more (by simp)) hn op).mono ?_;rintro e w1 ⟨rfl,hb⟩;go_wp2;go_ret2;exact ⟨_,rfl,World.ownsRow_nil _ _ _ _,Z9 (bA) hb⟩
theorem vE(op:Int)(hop:op=1\/op=2)(hz:ZT op vs rs Z0=0):
 Calls prog 35 #[.agg #[.int .i64 op,.int .i64 vs,.slice A rs.length c,.int .i64 Z0]] w (Zr (ZK op vs rs Z0) w):=by
 have hf:ZK op vs rs Z0=(Zo op vs rs Z0,0):=by unfold ZK;rw [if_pos hz]
 rw [hf];obtain ⟨_,_,_,hv,_,hl,_,hp,_⟩:=Zp hz;have e1:=hl (by omega);have e2:=hv (by omega);have e3:=hp (by omega);subst e1 e2 e3;clear hv hl hp;have hs':=hide hs;clear hs;have HF:=hide hf;clear hf;have HZ:=hide hz;clear hz;rcases hop with rfl|rfl
 all_goals
  go_enter func35,ntmps35;go_wp2_with fail;refine (UD 0 [] A c 0 _ ((hs'.out.below (bA)).more (by simp)) hn _).mono ?_;rintro e w1 ⟨rfl,hb⟩;rw [HZ.out];obtain ⟨hcl,hfr⟩:=MB hb;have hl:=hb.size;simp at hl;have hl2:w.heap.size<w1.heap.size:=by omega
  go_wp2;refine wp_loop_rounds 1 ?_;rw [rounds_succ];go_wp2;go_ret2;refine ⟨_,rfl,Yt (xs:=ZY [_]) (Z6.new _ _ _) (by omega) rfl (by unfold maxLen;omega),Z7 (Z9 (bA) hb) _⟩
end
end
section
open Go.RowKit
theorem Wv {op vs Z0:Int} {rs:List Rg} (h1:1<=op/\op<=5) (h3:op=3->3<=vs/\vs<=64) (hv:op≠3->vs=0) (h4:4<=op->1<=rs.length/\rs.length<=64/\rs.any Zq=false) (hl:op<4->rs=[])
 (h5:op=5->1<=Z0/\Z0<=4096) (hp:op≠5->Z0=0) (hf:rs.any X8=false):ZT op vs rs Z0=0:=by
 unfold ZT Y8;have hlen:op<4->rs.length=0:=fun h=>by rw [hl h];rfl
 have hd:(decide (op=4\/op=5) && rs.any Zq)=false:=by
  by_cases h:op=4\/op=5
  · rw [(h4 (by omega)).2.2,Bool.and_false]
  · rw [decide_eq_false h,Bool.false_and]
 rw [hd,hf,if_neg (by omega),if_neg (by omega),if_neg (by omega),cond_false,if_neg (by omega),if_neg (by omega),cond_false]
theorem I6(xs:List Int):(xs.map YF).any X8=false:=by
 rw [List.any_eq_false];intro r hr;obtain ⟨x,_,rfl⟩:=List.mem_map.1 hr;simp [YF,X8]
def znl(r:PH × Int × Int):Prop:=r.2.2=0->ZT r.1.op r.1.vs r.1.rs r.1.Z0=0
theorem Vz(e:Int)(he:e≠0):znl (YR,0,e):=fun h=>absurd h he
theorem Il(bs:List Int):znl (ZW bs):=by
 unfold ZW;refine Yp (fun _=>Vz 4 (by omega)) (fun h0=>?_);refine Yp (fun h1 _=>Wv (by dsimp only;omega) (by dsimp only;omega) (by dsimp only;omega) (by dsimp only;omega) (fun _=>rfl) (by dsimp only;omega) (by dsimp only;omega) rfl) (fun h1=>?_);refine Yp (fun _=>Vz 5 (by omega)) (fun h2=>?_);refine Yp (fun _=>Vz 4 (by omega)) (fun h3=>?_);refine Yp (fun h4=>?_) (fun h4=>?_)
 · exact Yp (fun _=>Vz 6 (by omega)) (fun h5 _=>Wv (by dsimp only;omega) (by dsimp only;omega) (by dsimp only;omega) (by dsimp only;omega) (fun _=>rfl) (by dsimp only;omega) (by dsimp only;omega) rfl)
 refine Yp (fun _=>Vz 6 (by omega)) (fun h5=>?_);refine Yp (fun _=>Vz 4 (by omega)) (fun h6=>?_);refine Yp (fun _=>Vz 7 (by omega)) (fun h7=>?_);have hlen:(((bs.drop 2).take (bs.getD 1 0).toNat).map YF).length=(bs.getD 1 0).toNat:=by
  rw [List.length_map,List.length_take,List.length_drop];omega
 rw [Bool.not_eq_true] at h7;refine Yp (fun h8 _=>Wv (by dsimp only;omega) (by dsimp only;omega) (by dsimp only;omega) (fun _=>⟨by dsimp only;omega,by dsimp only;omega,h7⟩) (by dsimp only;omega) (by dsimp only;omega) (by dsimp only;omega) (I6 _)) (fun h8=>?_);refine Yp (fun _=>Vz 4 (by omega)) (fun h9=>?_);exact Yp (fun _=>Vz 6 (by omega)) (fun h10 _=>Wv (by dsimp only;omega) (by dsimp only;omega) (by dsimp only;omega) (fun _=>⟨by dsimp only;omega,by dsimp only;omega,h7⟩) (by dsimp only;omega) (by dsimp only;omega) (by dsimp only;omega) (I6 _))
def Vm(r:Rg):Rg:=⟨r.d,r.v,none,0,0⟩
theorem BG(r:Rg)(h0:0<=r.v)(h1:r.v<=64):YF (Zf r)=Vm r:=by
 unfold YF Zf Vm;cases r.d
 · simp only [Bool.false_eq_true,if_false,Int.add_zero];rw [decide_eq_false (by omega),show r.v % 128=r.v by omega]
 · simp only [if_true];rw [decide_eq_true (by omega),show (r.v+128) % 128=r.v by omega]
theorem sS{rs:List Rg}(h:rs.any Zq=false):∀ r∈rs,0<=r.v/\r.v<=64:=by
 intro r hr;have h1:=List.any_eq_false.1 h r hr;unfold Zq ZN at h1
 by_cases h0:r.v=0
 · omega
 · by_cases h3:3<=r.v/\r.v<=64
   · omega
   · rw [if_neg h0,if_neg h3] at h1;simp at h1
theorem KH{rs:List Rg}(h:∀ r∈rs,0<=r.v/\r.v<=64):(rs.map Zf).map YF=rs.map Vm:=by
 rw [List.map_map];exact List.map_congr_left fun r hr=>BG r (h r hr).1 (h r hr).2
theorem zo(rs:List Rg):(rs.map Vm).any Zq=rs.any Zq:=by
 rw [List.any_map];rfl
theorem Ie(a b:Int)(l:List Int):(a::b::l).getD 0 0=a/\(a::b::l).getD 1 0=b:=⟨rfl,rfl⟩
theorem oD(a b:Int)(m:List Int)(x y:Int)(rest:List Int)(n:Nat)(hn:m.length=n):
 (a::b::(m++x::y::rest)).getD (2+n) 0=x/\(a::b::(m++x::y::rest)).getD (3+n) 0=y:=by
 subst hn;constructor
 · rw [List.getD_eq_getElem?_getD,show 2+m.length=m.length+1+1 by omega,List.getElem?_cons_succ,List.getElem?_cons_succ,List.getElem?_append_right (Nat.le_refl _)];simp
 · rw [List.getD_eq_getElem?_getD,show 3+m.length=(m.length+1)+1+1 by omega,List.getElem?_cons_succ,List.getElem?_cons_succ,List.getElem?_append_right (by omega)];simp
theorem Rc{a:Int}{m:List Int}{tl:List Int}(ha:a=4\/a=5)(h1:1<=m.length)(h2:m.length<=64)(hw:(m.map YF).any Zq=false):
 ZW (a::(m.length:Int)::(m++tl)) =
  (if a=4 then (⟨4,0,m.map YF,0⟩,2+(m.length:Int),0)
   else if tl.length<2 then (YR,0,4)
   else if tl.getD 0 0+256*tl.getD 1 0<1\/4096<tl.getD 0 0+256*tl.getD 1 0 then (YR,0,6)
   else (⟨5,0,m.map YF,tl.getD 0 0+256*tl.getD 1 0⟩,4+(m.length:Int),0)):=by
 obtain ⟨g0,g1⟩:=Ie a (m.length:Int) (m++tl);have hlen:(a::(m.length:Int)::(m++tl)).length=2+m.length+tl.length:=by simp;omega
 have htake:((a::(m.length:Int)::(m++tl)).drop 2).take m.length=m:=by simp
 unfold ZW;rw [hlen,g0,g1,Int.toNat_natCast,htake,hw,if_neg (by omega),if_neg (by omega),if_neg (by omega),if_neg (by omega),if_neg (by omega),if_neg (by omega),if_neg (by omega),if_neg (by simp)]
 by_cases h4:a=4
 · rw [if_pos h4,if_pos h4]
 · rw [if_neg h4,if_neg h4]
   by_cases ht:tl.length<2
   · rw [if_pos (by omega),if_pos ht]
   · rw [if_neg (by omega),if_neg ht]
     match tl,ht with
     | [],ht=>simp at ht
     | [_],ht=>simp at ht
     | x::y::rest,_ =>
       obtain ⟨e1,e2⟩:=oD a (m.length:Int) m x y rest m.length rfl;rw [e1,e2];rfl
theorem Jy{op vs Z0:Int}{rs:List Rg}(h:ZT op vs rs Z0=0)(rest:List Int):
 ZW (Zo op vs rs Z0++rest)=(⟨op,vs,rs.map Vm,Z0⟩,((Zo op vs rs Z0).length:Int),0):=by
 obtain ⟨h1,h2,h3,hv,h4,hl,h5,hp,_⟩:=Zp h
 by_cases c12:op=1\/op=2
 · have e1:=hl (by omega);have e2:=hv (by omega);have e3:=hp (by omega);subst e1 e2 e3;rcases c12 with rfl|rfl <;> (unfold ZW Zo;simp)
 by_cases c3:op=3
 · have e1:=hl (by omega);have e3:=hp (by omega);obtain ⟨v1,v2⟩:=h3 c3;subst c3 e1 e3;unfold ZW Zo;simp;rw [if_neg (by omega),if_neg (by omega)]
 obtain ⟨l1,l2,hw⟩:=h4 (by omega);have hvk:=sS hw;have e2:=hv c3;subst e2;have hm:((rs.map Zf).map YF).any Zq=false:=by rw [KH hvk,zo,hw]
 by_cases c4:op=4
 · have e3:=hp (by omega);subst c4 e3;have hb:Zo 4 0 rs 0++rest=4::((rs.map Zf).length:Int)::(rs.map Zf++rest):=(by simp [Zo]);rw [hb,Rc (.inl rfl) (by simpa using l1) (by simpa using l2) hm,if_pos rfl,KH hvk];simp [Zo];omega
 · have c5:op=5:=(by omega);obtain ⟨p1,p2⟩:=h5 c5;subst c5;have hb:Zo 5 0 rs Z0++rest=5::((rs.map Zf).length:Int)::(rs.map Zf++(Z0 % 256::Z0 / 256::rest)):=(by simp [Zo]);rw [hb,Rc (.inr rfl) (by simpa using l1) (by simpa using l2) hm,if_neg (by omega),if_neg (by simp),if_neg (by simp;omega),KH hvk];simp [Zo];omega
theorem zQ(x:Int)(h0:0<=x)(h1:x<=255):Zf (YF x)=x:=by
 unfold Zf YF
 by_cases h:128<=x
 · simp only [h,decide_true,if_true];omega
 · simp only [h,decide_false,Bool.false_eq_true,if_false];omega
theorem wB{l:List Int}(h:∀ x∈l,0<=x/\x<=255):(l.map YF).map Zf=l:=by
 rw [List.map_map]
 conv=>rhs;rw [<- List.map_id l]
 exact List.map_congr_left fun x hx=>zQ x (h x hx).1 (h x hx).2
def dA(bs:List Int)(r:PH × Int × Int):Prop:=r.2.2=0->Zo r.1.op r.1.vs r.1.rs r.1.Z0=bs.take r.2.1.toNat/\1<=r.2.1/\r.2.1<=bs.length
theorem Ws{bs:List Int}(e:Int)(he:e≠0):dA bs (YR,0,e):=fun h=>absurd h he
theorem NK(bs:List Int)(hby:∀ (j:Nat) (x:Int),bs[j]?=some x->0<=x/\x<=255):dA bs (ZW bs):=by
 have hmem:∀ x∈bs,0<=x/\x<=255:=fun x hx=>by
  obtain ⟨j,hj⟩:=List.mem_iff_getElem?.1 hx;exact hby j x hj
 unfold ZW;refine Yp (fun _=>Ws 4 (by omega)) (fun h0=>?_)
 match bs,h0 with
 | [],h0=>simp at h0
 | a::l,h0 =>
   have ga:(a::l).getD 0 0=a:=rfl;rw [ga];refine Yp (fun h1 _=>?_) (fun h1=>?_)
   · refine ⟨?_,by simp,by simp;omega⟩;rcases h1 with rfl|rfl <;> simp [Zo]
   refine Yp (fun _=>Ws 5 (by omega)) (fun h2=>?_);refine Yp (fun _=>Ws 4 (by omega)) (fun h3=>?_)
   match l,h3 with
   | [],h3=>simp at h3
   | n::l,h3 =>
     obtain ⟨_,g1⟩:=Ie a n l;have hl:∀ x∈l,0<=x/\x<=255:=fun x hx=>hmem x (by simp [hx]);rw [g1];refine Yp (fun h4=>Yp (fun _=>Ws 6 (by omega)) (fun h5 _=>?_)) (fun h4=>?_)
     · subst h4;exact ⟨by simp [Zo],by simp,by simp;omega⟩
     refine Yp (fun _=>Ws 6 (by omega)) (fun h5=>?_);refine Yp (fun _=>Ws 4 (by omega)) (fun h6=>?_);refine Yp (fun _=>Ws 7 (by omega)) (fun h7=>?_);obtain ⟨m,hm⟩:=Int.eq_ofNat_of_zero_le (show 0<=n by omega);subst hm;simp only [List.length_cons] at h6;have hdt:((a::(m:Int)::l).drop 2).take (m:Int).toNat=l.take m:=(by simp);rw [hdt];have hfb:((l.take m).map YF).map Zf=l.take m:=wB fun x hx=>hl x (List.mem_of_mem_take hx);have hlm:((l.take m).map YF).length=m:=(by rw [List.length_map,List.length_take];omega);refine Yp (fun h8 _=>⟨?_,by dsimp only;omega,by dsimp only;simp only [List.length_cons];omega⟩) (fun h8=>?_)
     · dsimp only;subst h8;rw [show (2+(m:Int)).toNat=m+2 by omega];unfold Zo;rw [hfb,hlm];simp
     refine Yp (fun _=>Ws 4 (by omega)) (fun h9=>?_);simp only [List.length_cons] at h9;refine Yp (fun _=>Ws 6 (by omega)) (fun h10 _=>⟨?_,by dsimp only;omega,by dsimp only;simp only [List.length_cons];omega⟩);dsimp only;have h5':a=5:=(by omega);subst h5';obtain ⟨x,hx⟩:∃ x,l[m]?=some x:=⟨_,List.getElem?_eq_getElem (by omega)⟩;obtain ⟨y,hy⟩:∃ y,l[m+1]?=some y:=⟨_,List.getElem?_eq_getElem (by omega)⟩;have gx:(5::(m:Int)::l).getD (2+(m:Int).toNat) 0=x:=by
      rw [List.getD_eq_getElem?_getD,Int.toNat_natCast,show 2+m=m+1+1 by omega,List.getElem?_cons_succ,List.getElem?_cons_succ,hx];rfl
     have gy:(5::(m:Int)::l).getD (3+(m:Int).toNat) 0=y:=by
      rw [List.getD_eq_getElem?_getD,Int.toNat_natCast,show 3+m=(m+1)+1+1 by omega,List.getElem?_cons_succ,List.getElem?_cons_succ,hy];rfl
     rw [gx,gy];obtain ⟨x0,x1⟩:=hl x (List.mem_of_getElem? hx);obtain ⟨y0,y1⟩:=hl y (List.mem_of_getElem? hy);have ht:l.take (m+2)=l.take m++[x,y]:=by
      rw [List.take_add_one,List.take_add_one,hx,hy];simp
     rw [show (4+(m:Int)).toNat=m+2+2 by omega];unfold Zo;rw [hfb,hlm,show (x+256*y) % 256=x by omega,show (x+256*y) / 256=y by omega];simp [ht]
end
section
open Go.RowKit
section
variable (vs:Int)(rs:List Rg)(A:Option Addr)(c:Nat)(Z0:Int)(w:World)
variable (hs:Sl w w.heap.size A (rgCells rs))(hn:rs.length<=maxLen)
include hs hn
theorem oo(hz:ZT 3 vs rs Z0=0):
 Calls prog 35 #[.agg #[.int .i64 3,.int .i64 vs,.slice A rs.length c,.int .i64 Z0]] w (Zr (ZK 3 vs rs Z0) w):=by
 have hf:ZK 3 vs rs Z0=(Zo 3 vs rs Z0,0):=by unfold ZK;rw [if_pos hz]
 rw [hf];obtain ⟨_,_,hv,_,_,hl,_,hp,_⟩:=Zp hz;have e1:=hl (by omega);have e3:=hp (by omega);obtain ⟨hv1,hv2⟩:=hv rfl;subst e1 e3;clear hv hl hp;have hs':=hide hs;clear hs;have HF:=hide hf;clear hf;have HZ:=hide hz;clear hz;obtain ⟨i0,hi,hz0,hz1,hz2⟩:=info_parts WB;go_enter func35,ntmps35;go_wp2_with fail;refine (UD vs [] A c 0 _ ((hs'.out.below (bA)).more (by simp)) hn _).mono ?_;rintro e w1 ⟨rfl,hb⟩;rw [HZ.out];obtain ⟨hcl,hfr⟩:=MB hb;have hl:=hb.size;simp at hl;have hl2:w.heap.size<w1.heap.size:=by omega
 go_wp2_with (at_builtin;refine wpList_append_own _ rfl (.tmp 22) (.tmp 26) 36 rfl w1.heap.size 5 i0 (.int .u8 0) 1 1 underlying36 hi hz0 ‹_› hz2 rfl (by decide) (.slice (some ⟨w1.heap.size,0,none⟩) 1 1) 1 (ZY [3]) rfl ((Yt (Z6.new _ _ _) (Nat.le_refl _) rfl (by unfold maxLen;omega)).alloc _) ⟨w1.heap.size+1,0,none⟩ 1 1 (ZY [vs]) rfl rfl ?c1 ?c2 ?c3 ?c4 ?c5 ?_)
 case c1=>exact ZI (Z6.new2 _ _ _ _)
 case c2=>exact YW _
 case c3=>unfold maxLen;omega
 case c4=>omega
 case c5=>simp;omega
 intro v' w2 hown' ZL _;have hb2:Below w.heap.size w w2:=(Z7 (Z7 (Z9 (bA) hb) _) _).grown ZL (by simp;omega) (fun k hk=>by simp [Value.ownBlock] at hk;omega);have B1:=((((Z6.new w 24 #[.int .i64 3,.int .i64 vs,.slice A 0 c,.int .i64 0]).step hb).alloc (.cells #[.int .u8 3] 5)).alloc (.cells #[.int .u8 vs] 5)).grown ZL (by simp [Value.ownBlock];omega);have f0:=B1.q0 rfl;have f1:=B1.q2 rfl;clear hcl hfr;go_wp2;refine wp_loop_rounds 1 ?_;rw [rounds_succ];go_wp2;go_ret2;exact ⟨v',rfl,VH hown' (by omega),hb2⟩
theorem oq(hz:ZT 4 vs rs Z0=0):
 Calls prog 35 #[.agg #[.int .i64 4,.int .i64 vs,.slice A rs.length c,.int .i64 Z0]] w (Zr (ZK 4 vs rs Z0) w):=by
 have hf:ZK 4 vs rs Z0=(Zo 4 vs rs Z0,0):=by unfold ZK;rw [if_pos hz]
 rw [hf];obtain ⟨_,_,_,hv,hl,_,hp1,hp,_⟩:=Zp hz;have e2:=hv (by omega);obtain ⟨hl1,hl2,hw⟩:=hl (by omega);have e3:=hp (by omega);subst e2 e3;clear hv hl hp hp1;have hs':=hide hs;clear hs;have HF:=hide hf;clear hf;have HZ:=hide hz;clear hz;have hvb:∀ r∈rs,0<=r.v/\r.v<=64:=by
  intro r hr;have h1:=List.any_eq_false.1 hw r hr;unfold Zq ZN at h1
  by_cases h0:r.v=0
  · omega
  · by_cases h3:3<=r.v/\r.v<=64
    · omega
    · rw [if_neg h0,if_neg h3] at h1;simp at h1
 have HVB:=hide hvb;clear hvb hw;obtain ⟨i0,hi,hz0,hz1,hz2⟩:=info_parts WB;go_enter func35,ntmps35;go_wp2_with fail;refine (UD 0 rs A c 0 _ ((hs'.out.below (bA)).more (by simp)) hn _).mono ?_;rintro e w1 ⟨rfl,hb⟩;rw [HZ.out];obtain ⟨hcl,hfr⟩:=MB hb;have hlt:=hb.size;simp at hlt;have hlt2:w.heap.size<w1.heap.size:=by omega
 go_wp2_with (at_builtin;refine wpList_append_own _ rfl (.tmp 31) (.tmp 36) 36 rfl w1.heap.size 5 i0 (.int .u8 0) 1 1 underlying36 hi hz0 ‹_› hz2 rfl (by decide) (.slice (some ⟨w1.heap.size,0,none⟩) 1 1) 1 (ZY [4]) rfl ((Yt (Z6.new _ _ _) (Nat.le_refl _) rfl (by unfold maxLen;omega)).alloc _) ⟨w1.heap.size+1,0,none⟩ 1 1 (ZY [(rs.length:Int)]) rfl rfl ?c1 ?c2 ?c3 ?c4 ?c5 ?_)
 case c1=>exact ZI (Z6.new2 _ _ _ _)
 case c2=>exact YW _
 case c3=>unfold maxLen;omega
 case c4=>omega
 case c5=>simp;omega
 intro v2 w2 Zj Yj _;have hb2:Below w.heap.size w w2:=(Z7 (Z7 (Z9 (bA) hb) _) _).grown Yj (by simp;omega) (fun k hk=>by simp [Value.ownBlock] at hk;omega);have hb2':Below w1.heap.size w1 w2:=(Z7 (bA) _).grown Yj (by simp;omega) (fun k hk=>by simp [Value.ownBlock] at hk;omega);have B2:=((((Z6.new w 24 #[.int .i64 4,.int .i64 0,.slice A rs.length c,.int .i64 0]).step hb).alloc (.cells #[.int .u8 4] 5)).alloc (.cells #[.int .u8 (rs.length:Int)] 5)).grown Yj (by simp [Value.ownBlock];omega);have f22:=B2.q2 rfl;have hsl:=hs'.out.below hb2;clear hcl hfr Yj;go_wp2
 go_loopw [5,7,8,41] (fun v _ _ i wr=>∃ k:Nat,k<=rs.length/\i=.int .i64 k/\wr.ownsRow w1.heap.size 5 1 v (2+k) (ZY ([4,(rs.length:Int)]++(rs.take k).map Zf))/\Below w1.heap.size w2 wr)
  (fun _ _ _ i _=>rs.length - (intOf i).toNat)
 case atStart=>exact ⟨0,by omega,rfl,by simpa [ZY] using Zj,Below.refl _ _⟩
 case round =>
  obtain ⟨k,hk,rfl,ZQ,hbr⟩:=hrel;have hrs:=hbr.size;have pQ:=hb2'.size
  by_cases hlt3:k<rs.length
  · obtain ⟨r,hr⟩:∃ r,rs[k]?=some r:=⟨_,List.getElem?_eq_getElem hlt3⟩;obtain ⟨hr1,hr2⟩:=HVB.out r (List.mem_of_getElem? hr);obtain ⟨b,off,rfl,hB,c0,c1,c2⟩:=(hsl.below (hbr.mono (by omega))).rg hr;have hts:(rs.take (k+1)).map Zf=(rs.take k).map Zf++[Zf r]:=(by rw [List.take_add_one,hr];simp);have HR:=hide hr;clear hr;have Oe:=hide hts;clear hts;have hor:=fC r.v hr1 (by omega);obtain ⟨y,hy⟩:=eE (Zf r);cases hd:r.d
    · have hyv:y=r.v:=(by rw [hy];unfold Zf;rw [hd];simp);rw [hd] at c0;have HY:=hide hy;clear hy hd;subst hyv;go_wp2_with (at_builtin;refine wpList_append_own _ rfl (.tmp 52) (.tmp 54) 36 rfl w1.heap.size 5 i0 (.int .u8 0) 1 1 underlying36 hi hz0 ‹_› hz2 rfl (by decide) _ (2+k) (ZY ([4,(rs.length:Int)]++(rs.take k).map Zf)) rfl ((ZQ.alloc _).alloc _) ⟨wr.heap.size+1,0,none⟩ 1 1 (ZY [r.v]) rfl rfl ?d1 ?d2 ?d3 ?d4 ?d5 ?_)
      case d1=>exact ZI (Z6.new2 _ _ _ _)
      case d2=>exact YW _
      case d3=>unfold maxLen;omega
      case d4=>omega
      case d5=>simp;omega
      intro v3 w3 ZM ZE _;have hb3:Below w1.heap.size w2 w3:=((hbr.alloc (by omega) _).alloc (by simp;omega) _).grown ZE (by simp;omega) (fun k hk=>ZP ZQ hk);have Y9:w3.ownsRow w1.heap.size 5 1 v3 (2+(k+1)) (ZY ([4,(rs.length:Int)]++(rs.take (k+1)).map Zf)):=by
       rw [Oe.out,<- HY.out];simp [ZY] at ZM ⊢;exact ZM
      have HO:=hide Y9;clear ZM Y9 ZE;go_wp2;go_roundw
      case rel=>exact ⟨k+1,by omega,by go_num,HO.out,hb3⟩
      case measure=>simp [intOf];omega
    · have hyv:y=r.v+128:=(by rw [hy];unfold Zf;rw [hd];simp);rw [hd] at c0;have HY:=hide hy;clear hy hd;have HYV:=hide hyv;clear hyv;go_wp2_with (at_builtin;refine wpList_append_own _ rfl (.tmp 52) (.tmp 54) 36 rfl w1.heap.size 5 i0 (.int .u8 0) 1 1 underlying36 hi hz0 ‹_› hz2 rfl (by decide) _ (2+k) (ZY ([4,(rs.length:Int)]++(rs.take k).map Zf)) rfl ((ZQ.alloc _).alloc _) ⟨wr.heap.size+1,0,none⟩ 1 1 (ZY [r.v+128]) rfl rfl ?d1 ?d2 ?d3 ?d4 ?d5 ?_)
      case d1=>exact ZI (Z6.new2 _ _ _ _)
      case d2=>exact YW _
      case d3=>unfold maxLen;omega
      case d4=>omega
      case d5=>simp;omega
      intro v3 w3 ZM ZE _;have hb3:Below w1.heap.size w2 w3:=((hbr.alloc (by omega) _).alloc (by simp;omega) _).grown ZE (by simp;omega) (fun k hk=>ZP ZQ hk);have Y9:w3.ownsRow w1.heap.size 5 1 v3 (2+(k+1)) (ZY ([4,(rs.length:Int)]++(rs.take (k+1)).map Zf)):=by
       rw [Oe.out,<- HY.out,HYV.out];simp [ZY] at ZM ⊢;exact ZM
      have HO:=hide Y9;clear ZM Y9 ZE;go_wp2;go_roundw
      case rel=>exact ⟨k+1,by omega,by go_num,HO.out,hb3⟩
      case measure=>simp [intOf];omega
  · have hk':k=rs.length:=(by omega);subst hk';rw [List.take_length] at ZQ;have Br:=B2.below hbr hlt2;have f0:=Br.q0 rfl;have f3:=Br.q3 rfl;go_wp2;go_ret2;refine ⟨_,rfl,?_,hb2.trans (hbr.mono (by omega))⟩;have h:=VH ZQ (base':=w.heap.size) (by omega);have hlf:(Zo 4 0 rs 0).length=2+rs.length:=(by simp [Zo];omega);dsimp only;rw [hlf];simp [Zo,ZY] at h ⊢;exact h
theorem ou(hz:ZT 5 vs rs Z0=0):
 Calls prog 35 #[.agg #[.int .i64 5,.int .i64 vs,.slice A rs.length c,.int .i64 Z0]] w (Zr (ZK 5 vs rs Z0) w):=by
 have hf:ZK 5 vs rs Z0=(Zo 5 vs rs Z0,0):=by unfold ZK;rw [if_pos hz]
 rw [hf];obtain ⟨_,_,_,hv,hl,_,hp1,hp,_⟩:=Zp hz;have e2:=hv (by omega);obtain ⟨hl1,hl2,hw⟩:=hl (by omega);obtain ⟨hp3,hp4⟩:=hp1 rfl;subst e2;clear hv hl hp hp1;have hs':=hide hs;clear hs;have HF:=hide hf;clear hf;have HZ:=hide hz;clear hz;have hvb:∀ r∈rs,0<=r.v/\r.v<=64:=by
  intro r hr;have h1:=List.any_eq_false.1 hw r hr;unfold Zq ZN at h1
  by_cases h0:r.v=0
  · omega
  · by_cases h3:3<=r.v/\r.v<=64
    · omega
    · rw [if_neg h0,if_neg h3] at h1;simp at h1
 have HVB:=hide hvb;clear hvb hw;obtain ⟨i0,hi,hz0,hz1,hz2⟩:=info_parts WB;go_enter func35,ntmps35;go_wp2_with fail;refine (UD 0 rs A c Z0 _ ((hs'.out.below (bA)).more (by simp)) hn _).mono ?_;rintro e w1 ⟨rfl,hb⟩;rw [HZ.out];obtain ⟨hcl,hfr⟩:=MB hb;have hlt:=hb.size;simp at hlt;have hlt2:w.heap.size<w1.heap.size:=by omega
 go_wp2_with (at_builtin;refine wpList_append_own _ rfl (.tmp 31) (.tmp 36) 36 rfl w1.heap.size 5 i0 (.int .u8 0) 1 1 underlying36 hi hz0 ‹_› hz2 rfl (by decide) (.slice (some ⟨w1.heap.size,0,none⟩) 1 1) 1 (ZY [5]) rfl ((Yt (Z6.new _ _ _) (Nat.le_refl _) rfl (by unfold maxLen;omega)).alloc _) ⟨w1.heap.size+1,0,none⟩ 1 1 (ZY [(rs.length:Int)]) rfl rfl ?c1 ?c2 ?c3 ?c4 ?c5 ?_)
 case c1=>exact ZI (Z6.new2 _ _ _ _)
 case c2=>exact YW _
 case c3=>unfold maxLen;omega
 case c4=>omega
 case c5=>simp;omega
 intro v2 w2 Zj Yj _;have hb2:Below w.heap.size w w2:=(Z7 (Z7 (Z9 (bA) hb) _) _).grown Yj (by simp;omega) (fun k hk=>by simp [Value.ownBlock] at hk;omega);have hb2':Below w1.heap.size w1 w2:=(Z7 (bA) _).grown Yj (by simp;omega) (fun k hk=>by simp [Value.ownBlock] at hk;omega);have B2:=((((Z6.new w 24 #[.int .i64 5,.int .i64 0,.slice A rs.length c,.int .i64 Z0]).step hb).alloc (.cells #[.int .u8 5] 5)).alloc (.cells #[.int .u8 (rs.length:Int)] 5)).grown Yj (by simp [Value.ownBlock];omega);have f22:=B2.q2 rfl;have hsl:=hs'.out.below hb2;clear hcl hfr Yj;go_wp2
 go_loopw [5,7,8,41] (fun v _ _ i wr=>∃ k:Nat,k<=rs.length/\i=.int .i64 k/\wr.ownsRow w1.heap.size 5 1 v (2+k) (ZY ([5,(rs.length:Int)]++(rs.take k).map Zf))/\Below w1.heap.size w2 wr)
  (fun _ _ _ i _=>rs.length - (intOf i).toNat)
 case atStart=>exact ⟨0,by omega,rfl,by simpa [ZY] using Zj,Below.refl _ _⟩
 case round =>
  obtain ⟨k,hk,rfl,ZQ,hbr⟩:=hrel;have hrs:=hbr.size;have pQ:=hb2'.size
  by_cases hlt3:k<rs.length
  · obtain ⟨r,hr⟩:∃ r,rs[k]?=some r:=⟨_,List.getElem?_eq_getElem hlt3⟩;obtain ⟨hr1,hr2⟩:=HVB.out r (List.mem_of_getElem? hr);obtain ⟨b,off,rfl,hB,c0,c1,c2⟩:=(hsl.below (hbr.mono (by omega))).rg hr;have hts:(rs.take (k+1)).map Zf=(rs.take k).map Zf++[Zf r]:=(by rw [List.take_add_one,hr];simp);have HR:=hide hr;clear hr;have Oe:=hide hts;clear hts;have hor:=fC r.v hr1 (by omega);obtain ⟨y,hy⟩:=eE (Zf r);cases hd:r.d
    · have hyv:y=r.v:=(by rw [hy];unfold Zf;rw [hd];simp);rw [hd] at c0;have HY:=hide hy;clear hy hd;subst hyv;go_wp2_with (at_builtin;refine wpList_append_own _ rfl (.tmp 52) (.tmp 54) 36 rfl w1.heap.size 5 i0 (.int .u8 0) 1 1 underlying36 hi hz0 ‹_› hz2 rfl (by decide) _ (2+k) (ZY ([5,(rs.length:Int)]++(rs.take k).map Zf)) rfl ((ZQ.alloc _).alloc _) ⟨wr.heap.size+1,0,none⟩ 1 1 (ZY [r.v]) rfl rfl ?d1 ?d2 ?d3 ?d4 ?d5 ?_)
      case d1=>exact ZI (Z6.new2 _ _ _ _)
      case d2=>exact YW _
      case d3=>unfold maxLen;omega
      case d4=>omega
      case d5=>simp;omega
      intro v3 w3 ZM ZE _;have hb3:Below w1.heap.size w2 w3:=((hbr.alloc (by omega) _).alloc (by simp;omega) _).grown ZE (by simp;omega) (fun k hk=>ZP ZQ hk);have Y9:w3.ownsRow w1.heap.size 5 1 v3 (2+(k+1)) (ZY ([5,(rs.length:Int)]++(rs.take (k+1)).map Zf)):=by
       rw [Oe.out,<- HY.out];simp [ZY] at ZM ⊢;exact ZM
      have HO:=hide Y9;clear ZM Y9 ZE;go_wp2;go_roundw
      case rel=>exact ⟨k+1,by omega,by go_num,HO.out,hb3⟩
      case measure=>simp [intOf];omega
    · have hyv:y=r.v+128:=(by rw [hy];unfold Zf;rw [hd];simp);rw [hd] at c0;have HY:=hide hy;clear hy hd;have HYV:=hide hyv;clear hyv;go_wp2_with (at_builtin;refine wpList_append_own _ rfl (.tmp 52) (.tmp 54) 36 rfl w1.heap.size 5 i0 (.int .u8 0) 1 1 underlying36 hi hz0 ‹_› hz2 rfl (by decide) _ (2+k) (ZY ([5,(rs.length:Int)]++(rs.take k).map Zf)) rfl ((ZQ.alloc _).alloc _) ⟨wr.heap.size+1,0,none⟩ 1 1 (ZY [r.v+128]) rfl rfl ?d1 ?d2 ?d3 ?d4 ?d5 ?_)
      case d1=>exact ZI (Z6.new2 _ _ _ _)
      case d2=>exact YW _
      case d3=>unfold maxLen;omega
      case d4=>omega
      case d5=>simp;omega
      intro v3 w3 ZM ZE _;have hb3:Below w1.heap.size w2 w3:=((hbr.alloc (by omega) _).alloc (by simp;omega) _).grown ZE (by simp;omega) (fun k hk=>ZP ZQ hk);have Y9:w3.ownsRow w1.heap.size 5 1 v3 (2+(k+1)) (ZY ([5,(rs.length:Int)]++(rs.take (k+1)).map Zf)):=by
       rw [Oe.out,<- HY.out,HYV.out];simp [ZY] at ZM ⊢;exact ZM
      have HO:=hide Y9;clear ZM Y9 ZE;go_wp2;go_roundw
      case rel=>exact ⟨k+1,by omega,by go_num,HO.out,hb3⟩
      case measure=>simp [intOf];omega
  · have hk':k=rs.length:=(by omega);subst hk';rw [List.take_length] at ZQ;have Br:=B2.below hbr hlt2;have f0:=Br.q0 rfl;have f3:=Br.q3 rfl;go_wp2_with (at_builtin;refine wpList_append_own _ rfl (.tmp 60) (.tmp 68) 36 rfl w1.heap.size 5 i0 (.int .u8 0) 1 1 underlying36 hi hz0 ‹_› hz2 rfl (by decide) _ (2+rs.length) (ZY ([5,(rs.length:Int)]++rs.map Zf)) rfl (ZQ.alloc _) ⟨wr.heap.size,0,none⟩ 2 2 (ZY [Z0 % 256,Z0 / 256]) rfl rfl ?g1 ?g2 ?g3 ?g4 ?g5 ?_)
    case g1=>exact ZI (Z6.new _ _ _)
    case g2=>exact YW _
    case g3=>unfold maxLen;omega
    case g4=>omega
    case g5=>simp;omega
    intro v3 w3 ZM ZE _;have hb3:Below w.heap.size w w3:=((hb2.trans (hbr.mono (by omega))).alloc (by omega) _).grown ZE (by simp;omega) (fun k hk=>by have:=ZP ZQ hk;omega);have HO:=hide ZM;clear ZM ZE;go_wp2;go_ret2;refine ⟨_,rfl,?_,hb3⟩;have h:=VH HO.out (base':=w.heap.size) (by omega);have hlf:(Zo 5 0 rs Z0).length=2+rs.length+2:=(by simp [Zo];omega);dsimp only;rw [hlf];simp [Zo,ZY] at h ⊢;exact h
theorem SH(op:Int):
 Calls prog 35 #[.agg #[.int .i64 op,.int .i64 vs,.slice A rs.length c,.int .i64 Z0]] w (Zr (ZK op vs rs Z0) w):=by
 by_cases he:ZT op vs rs Z0=0
 · obtain ⟨h1,h2,_⟩:=Zp he
   by_cases h3:op=1\/op=2
   · exact vE vs rs A c Z0 w hs hn op h3 he
   by_cases h4:op=3
   · subst h4;exact oo vs rs A c Z0 w hs hn he
   by_cases h5:op=4
   · subst h5;exact oq vs rs A c Z0 w hs hn he
   · have h6:op=5:=(by omega);subst h6;exact ou vs rs A c Z0 w hs hn he
 · exact zT vs rs A c Z0 w hs hn op he
end
end
section
open Go.RowKit
theorem Sl.take{w:World}{B:Nat}{A:Option Addr}{xs:List Value}(h:Sl w B A xs)(k:Nat):Sl w B A (xs.take k):=by
 rcases h with h|⟨b,off,hA,hB,hc⟩
 · exact .inl (by simp [h])
 · exact .inr ⟨b,off,hA,hB,fun j u hu=>by
    rw [List.getElem?_take] at hu;split at hu
    · exact hc j u hu
    · cases hu⟩
theorem zL(bs:List Int)(A A':Option Addr)(c c':Nat)(w:World)(hs:Sl w w.heap.size A (ZY bs))(hs':Sl w w.heap.size A' (ZY bs)):
 Calls prog 23 #[.slice A bs.length c,.slice A' bs.length c'] w fun e w'=>e=.returned (.bool true)/\w=w':=by
 have h1:=J6 w _ A bs c hs;have h2:=J6 w _ A' bs c' hs';go_enter func23,ntmps23;go_wp2;go_ret;exact ⟨YM (by simp),rfl⟩
end
end Go.Proofs.YtfljlmleiggmjaaGreatDoor