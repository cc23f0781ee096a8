/- Format HdMath HdLaws U64 Each Format2 Bytes Tape SortA Events -/
import Derived.BigQuiet
import Derived.ChangeAlike
import Derived.Deep.AppendLies
import Derived.Deep.QuietTactic
import Derived.Deep.RegionHeld3
import Derived.Deep.RegionLaw
import Derived.Laws.BytesArg
import Derived.Lib.SliceRun
import Derived.Maps.OwnOps
import Derived.RangeFuncBound
import Derived.RangeFuncNested
import Derived.Test.YthnenedoblncjaaGreatDoorPkR01
set_option maxRecDepth 1000000
set_option maxHeartbeats 8000000
namespace Go.Proofs.YthnenedoblncjaaGreatDoor
open Go.Proofs.Tryz
section
open Go.RowKit
theorem UE:(prog.info? 5).map (fun i=>(i.zero,i.size,i.bytes))=some (some (.int .u8 0),1,1):=by kernel_rfl
theorem XT(bs:List Int):∀ u∈ZU bs,u.oneCell'=true:=by
 intro u hu;simp only [ZU,List.mem_map] at hu;obtain ⟨x,_,rfl⟩:=hu;rfl
def YP(r:Rg):Int:=r.v+(if r.d then 128 else 0)
def Zo(op vs:Int)(rs:List Rg)(ZY:Int):List Int :=
 [op]++(if op=3 then [vs] else if 4<=op then [(rs.length:Int)] else [])++rs.map YP++(if op=5 then [ZY % 256,ZY / 256] else [])
def Ze(op vs:Int)(rs:List Rg)(ZY:Int):List Int × Int:=if ZM op vs rs ZY=0 then (Zo op vs rs ZY,0) else ([],ZM op vs rs ZY)
def Xj(r:List Int × Int)(w:World)(e:Ending)(w':World):Prop :=
 ∃ v,e=.returned (.tuple #[v,.int .i64 r.2])/\w'.ownsRow w.heap.size 5 1 v r.1.length (ZU r.1)/\Below w.heap.size w w'
theorem qE:∀ n:Fin 128,bits BinOp.or IntKind.u8 (n.val:Int) 128=(n.val:Int)+128:=by decide +kernel
theorem zwk(x:Int)(h0:0<=x)(h1:x<128):bits BinOp.or IntKind.u8 x 128=x+128:=by
 obtain ⟨n,rfl⟩:=Int.eq_ofNat_of_zero_le h0;exact qE ⟨n,by omega⟩
theorem Ww(a b:List Int):ZU (a++b)=ZU a++ZU b:=by simp [ZU]
section
variable (vs:Int)(rs:List Rg)(A:Option Addr)(c:Nat)(ZY:Int)(w:World)
variable (hs:Sl w w.heap.size A (rgCells rs))(hn:rs.length<=maxLen)
include hs hn
theorem wV(op:Int)(he:ZM op vs rs ZY≠0):
 Calls prog 213 #[.agg #[.int .i64 op,.int .i64 vs,.slice A rs.length c,.int .i64 ZY]] w (Xj (Ze op vs rs ZY) w):=by
 have hf:Ze op vs rs ZY=([],ZM op vs rs ZY):=by unfold Ze;rw [if_neg he]
 rw [hf];have hs':=hide hs;clear hs;have he':(ZM op vs rs ZY != 0)=true:=by rw [bne_iff_ne];exact he
 have HF:=hide hf;clear hf;have HE:=hide he;clear he;go_enter func213,ntmps213;go_wp2_with fail;refine (Ve vs rs A c ZY _ ((hs'.out.below (bA)).more (by simp)) hn op).mono ?_;rintro e w1 ⟨rfl,hb⟩;go_wp2;go_ret2;exact ⟨_,rfl,World.ownsRow_nil _ _ _ _,Z8 (bA) hb⟩
theorem oU(op:Int)(hop:op=1\/op=2)(hz:ZM op vs rs ZY=0):
 Calls prog 213 #[.agg #[.int .i64 op,.int .i64 vs,.slice A rs.length c,.int .i64 ZY]] w (Xj (Ze op vs rs ZY) w):=by
 have hf:Ze op vs rs ZY=(Zo op vs rs ZY,0):=by unfold Ze;rw [if_pos hz]
 rw [hf];obtain ⟨_,_,_,hv,_,hl,_,hp,_⟩:=ZA hz;have e1:=hl (by omega);have e2:=hv (by omega);have e3:=hp (by omega);subst e1 e2 e3;clear hv hl hp;have hs':=hide hs;clear hs;have HF:=hide hf;clear hf;have HZ:=hide hz;clear hz;rcases hop with rfl|rfl
 all_goals
  go_enter func213,ntmps213;go_wp2_with fail;refine (Ve 0 [] A c 0 _ ((hs'.out.below (bA)).more (by simp)) hn _).mono ?_;rintro e w1 ⟨rfl,hb⟩;rw [HZ.out];obtain ⟨hcl,hfr⟩:=Mq hb;have hl:=hb.size;simp at hl;have hl2:w.heap.size<w1.heap.size:=by omega
  go_wp2;refine wp_loop_rounds 1 ?_;rw [rounds_succ];go_wp2;go_ret2;refine ⟨_,rfl,Xz (xs:=ZU [_]) (Z7.new _ _ _) (by omega) rfl (by unfold maxLen;omega),Z5 (Z8 (bA) hb) _⟩
end
end
section
open Go.RowKit
theorem QG {op vs ZY:Int} {rs:List Rg} (h1:1<=op/\op<=5) (h3:op=3->3<=vs/\vs<=64) (hv:op≠3->vs=0) (h4:4<=op->1<=rs.length/\rs.length<=64/\rs.any Zq=false) (hl:op<4->rs=[])
 (h5:op=5->1<=ZY/\ZY<=4096) (hp:op≠5->ZY=0) (hf:rs.any V7=false):ZM op vs rs ZY=0:=by
 unfold ZM Uv;have hlen:op<4->rs.length=0:=fun h=>by rw [hl h];rfl
 have hd:(decide (op=4\/op=5) && rs.any Zq)=false:=by
  by_cases h:op=4\/op=5
  · rw [(h4 (by omega)).2.2,Bool.and_false]
  · rw [decide_eq_false h,Bool.false_and]
 rw [hd,hf,if_neg (by omega),if_neg (by omega),if_neg (by omega),cond_false,if_neg (by omega),if_neg (by omega),cond_false]
theorem Ig(xs:List Int):(xs.map YX).any V7=false:=by
 rw [List.any_eq_false];intro r hr;obtain ⟨x,_,rfl⟩:=List.mem_map.1 hr;simp [YX,V7]
def zfn(r:PH × Int × Int):Prop:=r.2.2=0->ZM r.1.op r.1.vs r.1.rs r.1.ZY=0
theorem WB(e:Int)(he:e≠0):zfn (Zh,0,e):=fun h=>absurd h he
theorem GY(bs:List Int):zfn (ZW bs):=by
 unfold ZW;refine YJ (fun _=>WB 4 (by omega)) (fun h0=>?_);refine YJ (fun h1 _=>QG (by dsimp only;omega) (by dsimp only;omega) (by dsimp only;omega) (by dsimp only;omega) (fun _=>rfl) (by dsimp only;omega) (by dsimp only;omega) rfl) (fun h1=>?_);refine YJ (fun _=>WB 5 (by omega)) (fun h2=>?_);refine YJ (fun _=>WB 4 (by omega)) (fun h3=>?_);refine YJ (fun h4=>?_) (fun h4=>?_)
 · exact YJ (fun _=>WB 6 (by omega)) (fun h5 _=>QG (by dsimp only;omega) (by dsimp only;omega) (by dsimp only;omega) (by dsimp only;omega) (fun _=>rfl) (by dsimp only;omega) (by dsimp only;omega) rfl)
 refine YJ (fun _=>WB 6 (by omega)) (fun h5=>?_);refine YJ (fun _=>WB 4 (by omega)) (fun h6=>?_);refine YJ (fun _=>WB 7 (by omega)) (fun h7=>?_);have hlen:(((bs.drop 2).take (bs.getD 1 0).toNat).map YX).length=(bs.getD 1 0).toNat:=by
  rw [List.length_map,List.length_take,List.length_drop];omega
 rw [Bool.not_eq_true] at h7;refine YJ (fun h8 _=>QG (by dsimp only;omega) (by dsimp only;omega) (by dsimp only;omega) (fun _=>⟨by dsimp only;omega,by dsimp only;omega,h7⟩) (by dsimp only;omega) (by dsimp only;omega) (by dsimp only;omega) (Ig _)) (fun h8=>?_);refine YJ (fun _=>WB 4 (by omega)) (fun h9=>?_);exact YJ (fun _=>WB 6 (by omega)) (fun h10 _=>QG (by dsimp only;omega) (by dsimp only;omega) (by dsimp only;omega) (fun _=>⟨by dsimp only;omega,by dsimp only;omega,h7⟩) (by dsimp only;omega) (by dsimp only;omega) (by dsimp only;omega) (Ig _))
def Wm(r:Rg):Rg:=⟨r.d,r.v,none,0,0⟩
theorem y7(r:Rg)(h0:0<=r.v)(h1:r.v<=64):YX (YP r)=Wm r:=by
 unfold YX YP Wm;cases r.d
 · simp only [Bool.false_eq_true,if_false,Int.add_zero];rw [decide_eq_false (by omega),show r.v % 128=r.v by omega]
 · simp only [if_true];rw [decide_eq_true (by omega),show (r.v+128) % 128=r.v by omega]
theorem DZ{rs:List Rg}(h:rs.any Zq=false):∀ r∈rs,0<=r.v/\r.v<=64:=by
 intro r hr;have h1:=List.any_eq_false.1 h r hr;unfold Zq ZJ at h1
 by_cases h0:r.v=0
 · omega
 · by_cases h3:3<=r.v/\r.v<=64
   · omega
   · rw [if_neg h0,if_neg h3] at h1;simp at h1
theorem KA{rs:List Rg}(h:∀ r∈rs,0<=r.v/\r.v<=64):(rs.map YP).map YX=rs.map Wm:=by
 rw [List.map_map];exact List.map_congr_left fun r hr=>y7 r (h r hr).1 (h r hr).2
theorem vX(rs:List Rg):(rs.map Wm).any Zq=rs.any Zq:=by
 rw [List.any_map];rfl
theorem GK(a b:Int)(l:List Int):(a::b::l).getD 0 0=a/\(a::b::l).getD 1 0=b:=⟨rfl,rfl⟩
theorem iy(a b:Int)(m:List Int)(x y:Int)(rest:List Int)(n:Nat)(hn:m.length=n):
 (a::b::(m++x::y::rest)).getD (2+n) 0=x/\(a::b::(m++x::y::rest)).getD (3+n) 0=y:=by
 subst hn;constructor
 · rw [List.getD_eq_getElem?_getD,show 2+m.length=m.length+1+1 by omega,List.getElem?_cons_succ,List.getElem?_cons_succ,List.getElem?_append_right (Nat.le_refl _)];simp
 · rw [List.getD_eq_getElem?_getD,show 3+m.length=(m.length+1)+1+1 by omega,List.getElem?_cons_succ,List.getElem?_cons_succ,List.getElem?_append_right (by omega)];simp
theorem Rb{a:Int}{m:List Int}{tl:List Int}(ha:a=4\/a=5)(h1:1<=m.length)(h2:m.length<=64)(hw:(m.map YX).any Zq=false):
 ZW (a::(m.length:Int)::(m++tl)) =
  (if a=4 then (⟨4,0,m.map YX,0⟩,2+(m.length:Int),0)
   else if tl.length<2 then (Zh,0,4)
   else if tl.getD 0 0+256*tl.getD 1 0<1\/4096<tl.getD 0 0+256*tl.getD 1 0 then (Zh,0,6)
   else (⟨5,0,m.map YX,tl.getD 0 0+256*tl.getD 1 0⟩,4+(m.length:Int),0)):=by
 obtain ⟨g0,g1⟩:=GK a (m.length:Int) (m++tl);have hlen:(a::(m.length:Int)::(m++tl)).length=2+m.length+tl.length:=by simp;omega
 have htake:((a::(m.length:Int)::(m++tl)).drop 2).take m.length=m:=by simp
 unfold ZW;rw [hlen,g0,g1,Int.toNat_natCast,htake,hw,if_neg (by omega),if_neg (by omega),if_neg (by omega),if_neg (by omega),if_neg (by omega),if_neg (by omega),if_neg (by omega),if_neg (by simp)]
 by_cases h4:a=4
 · rw [if_pos h4,if_pos h4]
 · rw [if_neg h4,if_neg h4]
   by_cases ht:tl.length<2
   · rw [if_pos (by omega),if_pos ht]
   · rw [if_neg (by omega),if_neg ht]
     match tl,ht with
     | [],ht=>simp at ht
     | [_],ht=>simp at ht
     | x::y::rest,_ =>
       obtain ⟨e1,e2⟩:=iy a (m.length:Int) m x y rest m.length rfl;rw [e1,e2];rfl
theorem I4{op vs ZY:Int}{rs:List Rg}(h:ZM op vs rs ZY=0)(rest:List Int):
 ZW (Zo op vs rs ZY++rest)=(⟨op,vs,rs.map Wm,ZY⟩,((Zo op vs rs ZY).length:Int),0):=by
 obtain ⟨h1,h2,h3,hv,h4,hl,h5,hp,_⟩:=ZA h
 by_cases c12:op=1\/op=2
 · have e1:=hl (by omega);have e2:=hv (by omega);have e3:=hp (by omega);subst e1 e2 e3;rcases c12 with rfl|rfl <;> (unfold ZW Zo;simp)
 by_cases c3:op=3
 · have e1:=hl (by omega);have e3:=hp (by omega);obtain ⟨v1,v2⟩:=h3 c3;subst c3 e1 e3;unfold ZW Zo;simp;rw [if_neg (by omega),if_neg (by omega)]
 obtain ⟨l1,l2,hw⟩:=h4 (by omega);have hvk:=DZ hw;have e2:=hv c3;subst e2;have hm:((rs.map YP).map YX).any Zq=false:=by rw [KA hvk,vX,hw]
 by_cases c4:op=4
 · have e3:=hp (by omega);subst c4 e3;have hb:Zo 4 0 rs 0++rest=4::((rs.map YP).length:Int)::(rs.map YP++rest):=(by simp [Zo]);rw [hb,Rb (.inl rfl) (by simpa using l1) (by simpa using l2) hm,if_pos rfl,KA hvk];simp [Zo];omega
 · have c5:op=5:=(by omega);obtain ⟨p1,p2⟩:=h5 c5;subst c5;have hb:Zo 5 0 rs ZY++rest=5::((rs.map YP).length:Int)::(rs.map YP++(ZY % 256::ZY / 256::rest)):=(by simp [Zo]);rw [hb,Rb (.inr rfl) (by simpa using l1) (by simpa using l2) hm,if_neg (by omega),if_neg (by simp),if_neg (by simp;omega),KA hvk];simp [Zo];omega
theorem wS(x:Int)(h0:0<=x)(h1:x<=255):YP (YX x)=x:=by
 unfold YP YX
 by_cases h:128<=x
 · simp only [h,decide_true,if_true];omega
 · simp only [h,decide_false,Bool.false_eq_true,if_false];omega
theorem qx{l:List Int}(h:∀ x∈l,0<=x/\x<=255):(l.map YX).map YP=l:=by
 rw [List.map_map]
 conv=>rhs;rw [<- List.map_id l]
 exact List.map_congr_left fun x hx=>wS x (h x hx).1 (h x hx).2
def zvt(bs:List Int)(r:PH × Int × Int):Prop:=r.2.2=0->Zo r.1.op r.1.vs r.1.rs r.1.ZY=bs.take r.2.1.toNat/\1<=r.2.1/\r.2.1<=bs.length
theorem Xk{bs:List Int}(e:Int)(he:e≠0):zvt bs (Zh,0,e):=fun h=>absurd h he
theorem Nw(bs:List Int)(hby:∀ (j:Nat) (x:Int),bs[j]?=some x->0<=x/\x<=255):zvt bs (ZW bs):=by
 have hmem:∀ x∈bs,0<=x/\x<=255:=fun x hx=>by
  obtain ⟨j,hj⟩:=List.mem_iff_getElem?.1 hx;exact hby j x hj
 unfold ZW;refine YJ (fun _=>Xk 4 (by omega)) (fun h0=>?_)
 match bs,h0 with
 | [],h0=>simp at h0
 | a::l,h0 =>
   have ga:(a::l).getD 0 0=a:=rfl;rw [ga];refine YJ (fun h1 _=>?_) (fun h1=>?_)
   · refine ⟨?_,by simp,by simp;omega⟩;rcases h1 with rfl|rfl <;> simp [Zo]
   refine YJ (fun _=>Xk 5 (by omega)) (fun h2=>?_);refine YJ (fun _=>Xk 4 (by omega)) (fun h3=>?_)
   match l,h3 with
   | [],h3=>simp at h3
   | n::l,h3 =>
     obtain ⟨_,g1⟩:=GK a n l;have hl:∀ x∈l,0<=x/\x<=255:=fun x hx=>hmem x (by simp [hx]);rw [g1];refine YJ (fun h4=>YJ (fun _=>Xk 6 (by omega)) (fun h5 _=>?_)) (fun h4=>?_)
     · subst h4;exact ⟨by simp [Zo],by simp,by simp;omega⟩
     refine YJ (fun _=>Xk 6 (by omega)) (fun h5=>?_);refine YJ (fun _=>Xk 4 (by omega)) (fun h6=>?_);refine YJ (fun _=>Xk 7 (by omega)) (fun h7=>?_);obtain ⟨m,hm⟩:=Int.eq_ofNat_of_zero_le (show 0<=n by omega);subst hm;simp only [List.length_cons] at h6;have hdt:((a::(m:Int)::l).drop 2).take (m:Int).toNat=l.take m:=(by simp);rw [hdt];have hfb:((l.take m).map YX).map YP=l.take m:=qx fun x hx=>hl x (List.mem_of_mem_take hx);have hlm:((l.take m).map YX).length=m:=(by rw [List.length_map,List.length_take];omega);refine YJ (fun h8 _=>⟨?_,by dsimp only;omega,by dsimp only;simp only [List.length_cons];omega⟩) (fun h8=>?_)
     · dsimp only;subst h8;rw [show (2+(m:Int)).toNat=m+2 by omega];unfold Zo;rw [hfb,hlm];simp
     refine YJ (fun _=>Xk 4 (by omega)) (fun h9=>?_);simp only [List.length_cons] at h9;refine YJ (fun _=>Xk 6 (by omega)) (fun h10 _=>⟨?_,by dsimp only;omega,by dsimp only;simp only [List.length_cons];omega⟩);dsimp only;have h5':a=5:=(by omega);subst h5';obtain ⟨x,hx⟩:∃ x,l[m]?=some x:=⟨_,List.getElem?_eq_getElem (by omega)⟩;obtain ⟨y,hy⟩:∃ y,l[m+1]?=some y:=⟨_,List.getElem?_eq_getElem (by omega)⟩;have gx:(5::(m:Int)::l).getD (2+(m:Int).toNat) 0=x:=by
      rw [List.getD_eq_getElem?_getD,Int.toNat_natCast,show 2+m=m+1+1 by omega,List.getElem?_cons_succ,List.getElem?_cons_succ,hx];rfl
     have gy:(5::(m:Int)::l).getD (3+(m:Int).toNat) 0=y:=by
      rw [List.getD_eq_getElem?_getD,Int.toNat_natCast,show 3+m=(m+1)+1+1 by omega,List.getElem?_cons_succ,List.getElem?_cons_succ,hy];rfl
     rw [gx,gy];obtain ⟨x0,x1⟩:=hl x (List.mem_of_getElem? hx);obtain ⟨y0,y1⟩:=hl y (List.mem_of_getElem? hy);have ht:l.take (m+2)=l.take m++[x,y]:=by
      rw [List.take_add_one,List.take_add_one,hx,hy];simp
     rw [show (4+(m:Int)).toNat=m+2+2 by omega];unfold Zo;rw [hfb,hlm,show (x+256*y) % 256=x by omega,show (x+256*y) / 256=y by omega];simp [ht]
theorem Bj{op vs ZY:Int}{rs:List Rg}(h:ZM op vs rs ZY=0):∀ (j:Nat) (x:Int),(Zo op vs rs ZY)[j]?=some x->0<=x/\x<=255:=by
 obtain ⟨h1,h2,h3,hv,h4,hl,h5,hp,_⟩:=ZA h;intro j x hx;have hm:=List.mem_of_getElem? hx;unfold Zo at hm;simp only [List.mem_append,List.mem_singleton,List.mem_map] at hm;rcases hm with ((hm|hm)|⟨r,hr,hm⟩)|hm
 · omega
 · by_cases c3:op=3
   · rw [if_pos c3] at hm;simp at hm;have:=h3 c3;omega
   · rw [if_neg c3] at hm
     by_cases c4:4<=op
     · rw [if_pos c4] at hm;simp at hm;have:=h4 c4;omega
     · rw [if_neg c4] at hm;simp at hm
 · by_cases c4:4<=op
   · have:=DZ (h4 c4).2.2 r hr;subst hm;unfold YP;split <;> omega
   · rw [hl (by omega)] at hr;simp at hr
 · by_cases c5:op=5
   · rw [if_pos c5] at hm;have:=h5 c5;simp at hm;rcases hm with rfl|rfl <;> omega
   · rw [if_neg c5] at hm;simp at hm
end
section
open Go.RowKit
structure Z9(P:Nat->Prop)(w w':World):Prop where
 os:w'.os=w.os
 tape:w'.tape=w.tape
 output:w'.output=w.output
 size:w.heap.size<=w'.heap.size
 block:∀ k,P k->w'.heap[k]?=w.heap[k]?
section
variable {P R:Nat->Prop}{w w' w'':World}{B:Nat}
theorem Z9.refl(P:Nat->Prop)(w:World):Z9 P w w:=⟨rfl,rfl,rfl,Nat.le_refl _,fun _ _=>rfl⟩
theorem Z9.trans(h:Z9 P w w')(k:Z9 P w' w''):Z9 P w w'' :=
 ⟨k.os.trans h.os,k.tape.trans h.tape,k.output.trans h.output,Nat.le_trans h.size k.size,fun i hi=>(k.block i hi).trans (h.block i hi)⟩
theorem Z9.of_below(h:Below B w w')(hP:∀ k,P k->k<B):Z9 P w w':=⟨h.os,h.tape,h.output,h.size,fun k hk=>h.block k (hP k hk)⟩
theorem Z9.below(h:Z9 P w w')(hP:∀ k,k<B->P k):Below B w w':=⟨h.os,h.tape,h.output,h.size,fun k hk=>h.block k (hP k hk)⟩
theorem Z9.mono(h:Z9 P w w')(hP:∀ k,R k->P k):Z9 R w w':=⟨h.os,h.tape,h.output,h.size,fun k hk=>h.block k (hP k hk)⟩
theorem Z9.cell(h:Z9 P w w'){b:Nat}(hb:P b)(o:Nat):w'.cell? ⟨b,o,none⟩=w.cell? ⟨b,o,none⟩:=World.cell?_of_block (h.block b hb)
theorem Z9.frozen(h:Z9 P w w'){b:Nat}(hb:P b)(o:Nat):w'.frozen? ⟨b,o,none⟩=w.frozen? ⟨b,o,none⟩:=World.frozen?_of_block (h.block b hb)
theorem Z7.kept{g:Nat}{t:TypeId}{cs:Array Value}(hb:Z7 w g t cs)(h:Z9 P w w')(hP:P g):Z7 w' g t cs:=(h.block g hP).trans hb
theorem Sl.kept{A:Option Addr}{xs:List Value}(hs:Sl w B A xs)(h:Z9 P w w')(hP:∀ k,k<B->P k):Sl w' B A xs:=by
 rcases hs with hs|⟨b,off,hA,hlt,hc⟩
 · exact .inl hs
 · exact .inr ⟨b,off,hA,hlt,fun j u hu=>(h.cell (hP b hlt) _).trans (hc j u hu)⟩
end
def WS(w:World)(P:Nat->Prop)(g:Nat)(bs:List Int):Prop :=
 ∃ v,Z7 w g 250 #[v]/\¬ P g/\w.ownsRow 0 5 1 v bs.length (ZU bs)/\v.ownBlock≠some g/\∀ k,v.ownBlock=some k->¬ P k
def XB(x:Int):List Int:=(List.range 8).map fun k=>x / 256 ^ k % 256
theorem TD(x:Int):(XB x).length=8:=rfl
theorem zM(x:Int)(k:Nat)(hk:k<8):(XB x).take (k+1)=(XB x).take k++[x / 256 ^ k % 256]:=by
 unfold XB;rw [List.take_add_one]
 congr 1
 rw [List.getElem?_map,List.getElem?_range hk];rfl
theorem F5 {wr wa w1:World} {P:Nat->Prop} {g g' cap n:Nat} {t:TypeId} {v:Value} {bs news:List Int} {xs:List Value} (hP:∀ k,P k->k<wr.heap.size)
 (hblk:Z7 wr g t #[v]) (hg:¬ P g) (hne:v.ownBlock≠some g) (hvP:∀ k,v.ownBlock=some k->¬ P k) (hb:Below wr.heap.size wr wa)
 (YZ:w1.ownsRow 0 5 1 (.slice (some ⟨g',0,none⟩) n cap) n xs) (hn:n=(bs++news).length) (hx:xs=ZU (bs++news))
 (ZL:wa.grownBy w1 v.ownBlock) (hat:v.ownBlock=some g'\/g'=wa.heap.size) (ht:t=250) :
 WS (w1.setCell ⟨g,0,none⟩ (.slice (some ⟨g',0,none⟩) n cap)) P g (bs++news)/\Z9 P wr (w1.setCell ⟨g,0,none⟩ (.slice (some ⟨g',0,none⟩) n cap)):=by
 subst ht hn hx;have hgl:g<wa.heap.size:=Nat.lt_of_lt_of_le hblk.lt hb.size;have hgg:some g'≠some g:=by
  rcases hat with h|h
  · rw [<- h];exact hne
  · intro e;injection e with e;omega
 have zdk:¬ P g':=by
  rcases hat with h|h
  · exact hvP g' h
  · intro hp;have:=hP g' hp;have:=hb.size;omega
 refine ⟨⟨_,?_,hg,Yt YZ (by simpa [Value.ownBlock] using hgg) _,by simpa [Value.ownBlock] using hgg,fun k hk=>by
  have:g'=k:=by simpa [Value.ownBlock] using hk
  subst this;exact zdk⟩,?_⟩
 · have:=((hblk.step hb).grown ZL (fun e=>hne e.symm)).set 0 (.slice (some ⟨g',0,none⟩) (bs++news).length cap);exact this
 · refine ⟨ZL.os.trans hb.os,ZL.tape.trans hb.tape,ZL.output.trans hb.output,?_,fun k hk=>?_⟩
   · have h1:=hb.size;have h2:=ZL.size;rw [World.size_setCell];omega
   · have hkl:=hP k hk;refine (Below.heap_setCell w1 ⟨g,0,none⟩ _ k ?_).trans ((ZL.block k (Nat.lt_of_lt_of_le hkl hb.size) ?_).trans (hb.block k hkl))
     · rintro rfl;exact hg hk
     · intro e;exact hvP k e.symm hk
theorem keepW{wk w':World}{g:Nat}{v:Value}(h:wk.cell? ⟨g,0,none⟩=some v/\wk.frozen? ⟨g,0,none⟩=false)(hb:Below wk.heap.size wk w'):w'.cell? ⟨g,0,none⟩=some v/\w'.frozen? ⟨g,0,none⟩=false :=
 have hl:=Zz h.1
 ⟨(hb.cell (p:=⟨g,0,none⟩) hl).trans h.1,(hb.frozen (p:=⟨g,0,none⟩) hl).trans h.2⟩
section
variable (P:Nat->Prop)(g:Nat)(bs:List Int)(x:Int)(w:World)
variable (hP:∀ k,P k->k<w.heap.size)(hw:WS w P g bs)(hlen:bs.length<=1000000)
include hP hw hlen
theorem Pk:Calls prog 283 #[.pointer (some ⟨g,0,none⟩),.int .u64 x] w fun e w'=>e=.returned (.tuple #[])/\Z9 P w w'/\WS w' P g (bs++XB x):=by
 have HP:=hide hP;clear hP;go_enter func283,ntmps283;go_wp2
 go_loopw [4,5] (fun _ i wr=>∃ k:Nat,k<=8/\i=.int .i64 k/\Z9 P w wr/\WS wr P g (bs++(XB x).take k))
  (fun _ i _=>8 - (intOf i).toNat)
 case atStart=>exact ⟨0,by omega,rfl,Z9.refl _ _,by simpa using hw⟩
 case round =>
  obtain ⟨k,hk,rfl,hbr,v,hblk,hg,ZT,hne,hvP⟩:=hrel;have HV:=hide hvP;clear hvP
  by_cases hlt:k<8
  · have c0:=hblk.q0 rfl;have f0:=hblk.frozen 0;have hgl:=hblk.lt;obtain ⟨i0,hi,hz0,hz1,hz2⟩:=info_parts UE;have hsh:Op.shift .shr .u64 x .i64 (IntKind.i64.wrap (8*(k:Int)))=pure (.int .u64 (x / 256 ^ k)):=by
     have h8:IntKind.i64.wrap (8*(k:Int))=8*(k:Int):=(by rw [IntKind.wrap_i64];omega);have e:(8*(k:Int)).toNat=8*k:=(by omega);have e2:=shift_shr .u64 .i64 x (8*(k:Int)) (by omega) (by simp [IntKind.bits];omega);rw [h8,e2,e]
     congr 3
     exact Int.pow_mul
    have hln:(bs++List.take k (XB x)).length<=1000008:=(by rw [List.length_append,List.length_take,TD];omega);have hbd:IntKind.u8.wrap (x / 256 ^ k)=x / 256 ^ k % 256:=(by rw [IntKind.wrap_u8]);have HB:=hide hbd;clear hbd;have hsn:∀ cs,cs=bs++List.take k (XB x)->bs++List.take (k+1) (XB x)=cs++[x / 256 ^ k % 256]:=fun cs h=>by rw [h,zM x k hlt,List.append_assoc]
    generalize hcs:bs++List.take k (XB x)=cs at ZT hln hsn;have HS:=hide (hsn cs rfl);clear hsn hcs;go_wp2
    go_region_law ((refine step_append_lies _ (by rfl) (.tmp 12) (.tmp 18) 49 (by rfl) 0 5 i0 (.int .u8 0) 1 1 underlying49 hi hz0 hz1 hz2 (by rfl) (by decide) v _ _ (by rfl) (ZI ZT (ZV (bA))) ⟨wr.heap.size,0,none⟩ 1 1 [.int .u8 (IntKind.u8.wrap (x / 256 ^ k))] (by rfl) (by rfl) (ZB (Z7.new _ _ _).drew) (by simp [Value.oneCell']) (by omega) (by unfold maxLen;omega) (by omega) (by omega) (wr.heap.size+1) (by simp) ?_;intro g' cap w1 YZ ZL hat hlt';have c1:=(World.grownBy.cell_far ZL ⟨g,0,none⟩ (by simp;omega) (Ne.symm hne)).trans (keepW ⟨c0,f0⟩ (ZV (bA))).1;have f1:=(World.grownBy.frozen_far ZL ⟨g,0,none⟩ (by simp;omega) (Ne.symm hne)).trans (keepW ⟨c0,f0⟩ (ZV (bA))).2))
    all_goals
     obtain ⟨p1,p2⟩:=F5 (P:=P) (fun k hk=>Nat.lt_of_lt_of_le (HP.out k hk) hbr.size) hblk hg hne HV.out (ZV (bA)) YZ (bs:=cs) (news:=[x / 256 ^ k % 256]) (by simp) (by rw [HB.out,Ww];rfl) ZL (by simpa using hat) rfl;go_wp2;go_roundw
     case rel=>exact ⟨k+1,by omega,by go_num,hbr.trans p2,by rw [HS.out];exact p1⟩
     case measure=>simp [intOf];omega
  · have hk':k=8:=(by omega);subst hk';go_wp2;go_end0;exact ⟨rfl,hbr,v,hblk,hg,ZT,hne,HV.out⟩
end
end
section
open Go.RowKit
section
variable {w w':World}{P R:Nat->Prop}{g:Nat}{bs:List Int}
theorem WS.lt(h:WS w P g bs):g<w.heap.size:=by
 obtain ⟨v,hb,_⟩:=h;exact hb.lt
theorem WS.step(h:WS w P g bs)(hb:Below w.heap.size w w'):WS w' P g bs:=by
 obtain ⟨v,h1,h2,h3,h4,h5⟩:=h;exact ⟨v,h1.step hb,h2,ZI h3 hb,h4,h5⟩
theorem WS.mono(h:WS w P g bs)(hR:∀ k,R k->P k):WS w R g bs:=by
 obtain ⟨v,h1,h2,h3,h4,h5⟩:=h;exact ⟨v,h1,fun hr=>h2 (hR _ hr),h3,h4,fun k hk hr=>h5 k hk (hR _ hr)⟩
def More(P:Nat->Prop)(w w':World)(k:Nat):Prop:=P k\/w.heap.size<=k/\k<w'.heap.size
theorem WS.more(h:WS w P g bs)(hb:Below w.heap.size w w'):WS w' (More P w w') g bs:=by
 obtain ⟨v,h1,h2,h3,h4,h5⟩:=h;have:=h1.lt;refine ⟨v,h1.step hb,fun h=>?_,ZI h3 hb,h4,fun k hk h=>?_⟩
 · rcases h with h|h
   · exact h2 h
   · omega
 · have:=KF h3 hk;rcases h with h|h
   · exact h5 k hk h
   · omega
theorem Z9.more{w1:World}{P:Nat->Prop}(hb:Below w.heap.size w w')(hP:∀ k,P k->k<w.heap.size)(h:Z9 (More P w w') w' w1):Z9 P w w1 :=
 (Z9.of_below hb hP).trans (h.mono fun _ hk=>.inl hk)
theorem Yr{P:Nat->Prop}(hP:∀ k,P k->k<w.heap.size)(hb:Below w.heap.size w w'):∀ k,More P w w' k->k<w'.heap.size:=by
 intro k hk;rcases hk with hk|hk
 · exact Nat.lt_of_lt_of_le (hP k hk) hb.size
 · exact hk.2
end
def zvq(x:Int):Int:=IntKind.u64.wrap x
def Vo(p:Int × Int):List Int:=XB (zvq p.1)++XB (zvq p.2)
theorem VU(p:Int × Int):(Vo p).length=16:=rfl
def q24(q:(Int × Int) × Int):List Int:=Vo q.1++XB q.2
theorem KL(q:(Int × Int) × Int):(q24 q).length=24:=rfl
def Vp(r:Int × Int):List Int:=[r.1 % 256]++XB r.2
theorem MU(r:Int × Int):(Vp r).length=9:=rfl
section
variable (P:Nat->Prop)(g:Nat)(bs:List Int)(w:World)
variable (hP:∀ k,P k->k<w.heap.size)(hw:WS w P g bs)(hlen:bs.length<=900000)
include hP hw hlen
theorem H9(x y:Int):Calls prog 217 #[.pointer (some ⟨g,0,none⟩),.agg #[.int .i64 x,.int .i64 y]] w fun e w'=>e=.returned (.tuple #[])/\Z9 P w w'/\WS w' P g (bs++Vo (x,y)):=by
 obtain ⟨w0,hw0⟩:=eE (w.alloc (.cells #[.int .i64 x,.int .i64 y] 41));have hb:=bE hw0;have hz:w0.heap.size=w.heap.size+1:=by rw [hw0];simp
 have B0:Z7 w0 w.heap.size 41 #[.int .i64 x,.int .i64 y]:=by rw [hw0];exact Z7.new _ _ _
 have hP1:=Yr hP hb;have h0:=hw.more hb;have hm:∀ w1,Z9 (More P w w0) w0 w1->Z9 P w w1:=fun w1=>Z9.more hb hP;have hRk:More P w w0 w.heap.size:=.inr ⟨Nat.le_refl _,by omega⟩;have HM:=hide hm;have HZ:=hide hz;clear hm hz hP;have Ei:=hide hP1;clear hP1;go_enter func217,ntmps217;go_wp2_with fail;rw [<- hw0];have HW0:=hide hw0;clear hw0;refine (Pk (More P w w0) g bs _ _ Ei.out h0 (by omega)).mono ?_;rintro e w1 ⟨rfl,k1,s1⟩;have B1:=B0.kept k1 hRk;have c1:=B1.q1 rfl;go_wp2_with fail;refine (Pk (More P w w0) g _ _ _ (fun k hk=>Nat.lt_of_lt_of_le (Ei.out k hk) k1.size) s1 (by rw [List.length_append,TD];omega)).mono ?_;rintro e w2 ⟨rfl,k2,s2⟩;go_wp2;go_end0;refine ⟨rfl,HM.out _ (k1.trans k2),?_⟩;have s3:=s2.mono (R:=P) (fun k hk=>.inl hk);rw [List.append_assoc] at s3;exact s3
theorem qW(x y d:Int):Calls prog 219 #[.pointer (some ⟨g,0,none⟩),.agg #[.int .i64 x,.int .i64 y,.int .u64 d]] w fun e w'=>e=.returned (.tuple #[])/\Z9 P w w'/\WS w' P g (bs++q24 ((x,y),d)):=by
 obtain ⟨w0,hw0⟩:=eE (w.alloc (.cells #[.int .i64 x,.int .i64 y,.int .u64 d] 46));have hb:=bE hw0;have hz:w0.heap.size=w.heap.size+1:=by rw [hw0];simp
 have B0:Z7 w0 w.heap.size 46 #[.int .i64 x,.int .i64 y,.int .u64 d]:=by rw [hw0];exact Z7.new _ _ _
 have hP1:=Yr hP hb;have h0:=hw.more hb;have hm:∀ w1,Z9 (More P w w0) w0 w1->Z9 P w w1:=fun w1=>Z9.more hb hP;have hRk:More P w w0 w.heap.size:=.inr ⟨Nat.le_refl _,by omega⟩;have HM:=hide hm;have HZ:=hide hz;clear hm hz hP;have Ei:=hide hP1;clear hP1;go_enter func219,ntmps219;go_wp2_with fail;rw [<- hw0];have HW0:=hide hw0;clear hw0;refine (H9 (More P w w0) g bs _ Ei.out h0 (by omega) x y).mono ?_;rintro e w1 ⟨rfl,k1,s1⟩;have B1:=B0.kept k1 hRk;have c2:=B1.q2 rfl;go_wp2_with fail;refine (Pk (More P w w0) g _ _ _ (fun k hk=>Nat.lt_of_lt_of_le (Ei.out k hk) k1.size) s1 (by rw [List.length_append,VU];omega)).mono ?_;rintro e w2 ⟨rfl,k2,s2⟩;go_wp2;go_end0;refine ⟨rfl,HM.out _ (k1.trans k2),?_⟩;have s3:=s2.mono (R:=P) (fun k hk=>.inl hk);rw [List.append_assoc] at s3;exact s3
theorem yX(x d:Int):Calls prog 234 #[.pointer (some ⟨g,0,none⟩),.agg #[.int .u64 x,.int .u64 d]] w fun e w'=>e=.returned (.tuple #[])/\Z9 P w w'/\WS w' P g (bs++Vp (x,d)):=by
 obtain ⟨w0,hw0⟩:=eE (w.alloc (.cells #[.int .u64 x,.int .u64 d] 148));have hb:=bE hw0;have hz:w0.heap.size=w.heap.size+1:=by rw [hw0];simp
 have B0:Z7 w0 w.heap.size 148 #[.int .u64 x,.int .u64 d]:=by rw [hw0];exact Z7.new _ _ _
 have hP1:=Yr hP hb;have h0:=hw.more hb;have hm:∀ w1,Z9 (More P w w0) w0 w1->Z9 P w w1:=fun w1=>Z9.more hb hP;have hRk:More P w w0 w.heap.size:=.inr ⟨Nat.le_refl _,by omega⟩;obtain ⟨v,hblk,hg,ZT,hne,hvP⟩:=h0;have HV:=hide hvP;clear hvP;have HM:=hide hm;have HZ:=hide hz;clear hm hz hP;have Ei:=hide hP1;clear hP1;have c0:=hblk.q0 rfl;have f0:=hblk.frozen 0;have hgl:=hblk.lt;have d0:=B0.q0 rfl;have d1:=B0.q1 rfl;obtain ⟨i0,hi,hz0,hz1,hz2⟩:=info_parts UE;have hbd:IntKind.u8.wrap x=x % 256:=by rw [IntKind.wrap_u8]
 have HB:=hide hbd;clear hbd;go_enter func234,ntmps234;go_wp2;rw [<- hw0];have HW0:=hide hw0;clear hw0
 go_region_law ((refine step_append_lies _ (by rfl) (.tmp 8) (.tmp 12) 49 (by rfl) 0 5 i0 (.int .u8 0) 1 1 underlying49 hi hz0 hz1 hz2 (by rfl) (by decide) v _ _ (by rfl) (ZI ZT (ZV (bA))) ⟨w0.heap.size,0,none⟩ 1 1 [.int .u8 (IntKind.u8.wrap x)] (by rfl) (by rfl) (ZB (Z7.new _ _ _).drew) (by simp [Value.oneCell']) (by omega) (by unfold maxLen;omega) (by omega) (by omega) (w0.heap.size+1) (by simp) ?_;intro g' cap w1 YZ ZL hat hlt';have c1:=(World.grownBy.cell_far ZL ⟨g,0,none⟩ (by simp;omega) (Ne.symm hne)).trans (keepW ⟨c0,f0⟩ (ZV (bA))).1;have f1:=(World.grownBy.frozen_far ZL ⟨g,0,none⟩ (by simp;omega) (Ne.symm hne)).trans (keepW ⟨c0,f0⟩ (ZV (bA))).2))
 all_goals
  obtain ⟨p1,p2⟩:=F5 (P:=More P w w0) Ei.out hblk hg hne HV.out (ZV (bA)) YZ (bs:=bs) (news:=[x % 256]) (by simp) (by rw [HB.out,Ww];rfl) ZL (by simpa using hat) rfl;have B1:=B0.kept p2 hRk;have e1:=B1.q1 rfl;clear c0 f0 d0 d1 c1 f1;go_wp2_with fail;refine (Pk (More P w w0) g _ _ _ (fun k hk=>Nat.lt_of_lt_of_le (Ei.out k hk) p2.size) p1 (by rw [List.length_append];simp;omega)).mono ?_;rintro e w2 ⟨rfl,k2,s2⟩;go_wp2;go_end0;refine ⟨rfl,HM.out _ (p2.trans k2),?_⟩;have s3:=s2.mono (R:=P) (fun k hk=>.inl hk);rw [List.append_assoc] at s3;exact s3
end
end
section
open Go.RowKit
def Ua(x:Int):Prop:=0<=x/\x<18446744073709551616
theorem Z9.drew(P:Nat->Prop)(w:World):Z9 P w w.drew:=⟨rfl,rfl,rfl,Nat.le_refl _,fun _ _=>rfl⟩
theorem AP(x:Int)(k:Nat):x / 256 ^ k / 256=x / 256 ^ (k+1):=by
 rw [Int.pow_succ,Int.ediv_ediv_of_nonneg (Int.pow_nonneg (by omega))]
end
section
open Go.RowKit
def Zl(ps:List (Int × Int)):List Value:=ps.flatMap fun p=>[.int .i64 p.1,.int .i64 p.2]
def Zb(ps:List (Int × Int)):List Value:=ps.flatMap fun p=>[.int .u64 p.1,.int .u64 p.2]
def XC(qs:List ((Int × Int) × Int)):List Value:=qs.flatMap fun q=>[.int .i64 q.1.1,.int .i64 q.1.2,.int .u64 q.2]
theorem flat_get{α:Type}(f:α->List Value)(n:Nat)(hf:∀ a,(f a).length=n):∀ (l:List α) (i:Nat) (a:α),l[i]?=some a->∀ j,j<n->(l.flatMap f)[i*n+j]?=(f a)[j]?
 | [],i,a,h,j,hj=>by simp at h
 | b::l,0,a,h,j,hj=>by
   simp only [List.getElem?_cons_zero,Option.some.injEq] at h;subst h;rw [List.flatMap_cons,List.getElem?_append_left (by rw [hf];omega)]
   congr 1;omega
 | b::l,i+1,a,h,j,hj=>by
   have h':l[i]?=some a:=(by simpa using h);rw [List.flatMap_cons,List.getElem?_append_right (by rw [hf,Nat.succ_mul];omega),hf];have e:(i+1)*n+j - n=i*n+j:=(by rw [Nat.succ_mul];omega);rw [e];exact flat_get f n hf l i a h' j hj
theorem Y5{α:Type}(f:α->List Value)(n:Nat)(hf:∀ a,(f a).length=n)(l:List α):(l.flatMap f).length=l.length*n:=by
 induction l with
 | nil=>simp
 | cons a l ih=>rw [List.flatMap_cons,List.length_append,ih,hf,List.length_cons,Nat.succ_mul];omega
section
variable {w:World}{B:Nat}{A:Option Addr}
theorem Sl.pt{ps:List (Int × Int)}(h:Sl w B A (Zl ps)){k:Nat}{p:Int × Int}(hk:ps[k]?=some p):
 ∃ b off,A=some ⟨b,off,none⟩/\b<B/\w.cell? ⟨b,off+k*2,none⟩=some (.int .i64 p.1)/\w.cell? ⟨b,off+k*2+1,none⟩=some (.int .i64 p.2):=by
 have hl:=Y5 (fun p:Int × Int=>[Value.int .i64 p.1,.int .i64 p.2]) 2 (fun _=>rfl) ps;have hlt:k<ps.length:=(List.getElem?_eq_some_iff.1 hk).1;obtain ⟨b,off,rfl,hB,hc⟩:=h.open_ (by unfold Zl;rw [hl];omega);have g:=flat_get (fun p:Int × Int=>[Value.int .i64 p.1,.int .i64 p.2]) 2 (fun _=>rfl) ps k p hk;exact ⟨b,off,rfl,hB,hc _ _ (g 0 (by omega)),hc _ _ (g 1 (by omega))⟩
theorem Sl.aR{ps:List (Int × Int)}(h:Sl w B A (Zb ps)){k:Nat}{p:Int × Int}(hk:ps[k]?=some p):
 ∃ b off,A=some ⟨b,off,none⟩/\b<B/\w.cell? ⟨b,off+k*2,none⟩=some (.int .u64 p.1)/\w.cell? ⟨b,off+k*2+1,none⟩=some (.int .u64 p.2):=by
 have hl:=Y5 (fun p:Int × Int=>[Value.int .u64 p.1,.int .u64 p.2]) 2 (fun _=>rfl) ps;have hlt:k<ps.length:=(List.getElem?_eq_some_iff.1 hk).1;obtain ⟨b,off,rfl,hB,hc⟩:=h.open_ (by unfold Zb;rw [hl];omega);have g:=flat_get (fun p:Int × Int=>[Value.int .u64 p.1,.int .u64 p.2]) 2 (fun _=>rfl) ps k p hk;exact ⟨b,off,rfl,hB,hc _ _ (g 0 (by omega)),hc _ _ (g 1 (by omega))⟩
theorem Sl.qu{qs:List ((Int × Int) × Int)}(h:Sl w B A (XC qs)){k:Nat}{q:(Int × Int) × Int}(hk:qs[k]?=some q):
 ∃ b off,A=some ⟨b,off,none⟩/\b<B/\w.cell? ⟨b,off+k*3,none⟩=some (.int .i64 q.1.1)/\w.cell? ⟨b,off+k*3+1,none⟩=some (.int .i64 q.1.2)/\w.cell? ⟨b,off+k*3+2,none⟩=some (.int .u64 q.2):=by
 have hl:=Y5 (fun q:(Int × Int) × Int=>[Value.int .i64 q.1.1,.int .i64 q.1.2,.int .u64 q.2]) 3 (fun _=>rfl) qs;have hlt:k<qs.length:=(List.getElem?_eq_some_iff.1 hk).1;obtain ⟨b,off,rfl,hB,hc⟩:=h.open_ (by unfold XC;rw [hl];omega);have g:=flat_get (fun q:(Int × Int) × Int=>[Value.int .i64 q.1.1,.int .i64 q.1.2,.int .u64 q.2]) 3 (fun _=>rfl) qs k q hk;exact ⟨b,off,rfl,hB,hc _ _ (g 0 (by omega)),hc _ _ (g 1 (by omega)),hc _ _ (g 2 (by omega))⟩
end
theorem UW{α β:Type}(f:α->List β)(l:List α)(k:Nat)(a:α)(h:l[k]?=some a):(l.take (k+1)).flatMap f=(l.take k).flatMap f++f a:=by
 rw [List.take_add_one,h];simp
theorem VG{α β:Type}(f:α->List β)(n:Nat)(hf:∀ a,(f a).length=n)(l:List α):(l.flatMap f).length=l.length*n:=by
 induction l with
 | nil=>simp
 | cons a l ih=>rw [List.flatMap_cons,List.length_append,ih,hf,List.length_cons,Nat.succ_mul];omega
section
variable (P:Nat->Prop)(g:Nat)(bs:List Int)(w:World)(B:Nat)(A:Option Addr)(c:Nat)
variable (hP:∀ k,P k->k<w.heap.size)(hw:WS w P g bs)(hlen:bs.length<=400000)(hB:∀ k,k<B->P k)
include hP hw hlen hB
theorem JU(ps:List (Int × Int))(hs:Sl w B A (Zl ps))(hn:ps.length<=10000):
 Calls prog 216 #[.slice A ps.length c,.func (.func 217) #[.pointer (some ⟨g,0,none⟩)] #[]] w fun e w'=>e=.returned (.tuple #[])/\Z9 P w w'/\WS w' P g (bs++ps.flatMap Vo):=by
 have HP:=hide hP;clear hP;have HB:=hide hB;clear hB;go_enter func216,ntmps216;go_wp2
 go_loopw [8] (fun i wr=>∃ k:Nat,k<=ps.length/\i=.int .i64 k/\Z9 P w wr/\WS wr P g (bs++(ps.take k).flatMap Vo))
  (fun i _=>ps.length - (intOf i).toNat)
 case atStart=>exact ⟨0,by omega,rfl,Z9.refl _ _,by simpa using hw⟩
 case round =>
  obtain ⟨k,hk,rfl,hbr,hwr⟩:=hrel
  by_cases hlt:k<ps.length
  · obtain ⟨p,hp⟩:∃ p,ps[k]?=some p:=⟨_,List.getElem?_eq_getElem hlt⟩;obtain ⟨b,off,rfl,hbB,c0,c1⟩:=(hs.kept hbr HB.out).pt hp;have hfl:=VG Vo 16 VU (ps.take k);have hln:(bs++(ps.take k).flatMap Vo).length<=900000:=(by rw [List.length_append,hfl,List.length_take];omega);have hts:=UW Vo ps k p hp;have HT:=hide hts;clear hts hp hfl;have hbl:=Zz c0;go_wp2_with fail;refine (H9 P g _ _ (fun j hj=>Nat.lt_of_lt_of_le (Nat.lt_of_lt_of_le (HP.out j hj) hbr.size) (by simp)) (hwr.step (bA)) hln p.1 p.2).mono ?_;rintro e w1 ⟨rfl,k1,s1⟩;have hk2:=Z9.trans (Z9.of_below (P:=P) (bA) (fun j hj=>Nat.lt_of_lt_of_le (HP.out j hj) hbr.size)) k1;go_wp2;go_roundw
    case rel=>exact ⟨k+1,by omega,by go_num,hbr.trans hk2,by rw [HT.out,<- List.append_assoc];exact s1⟩
    case measure=>simp [intOf];omega
  · have hk':k=ps.length:=(by omega);subst hk';rw [List.take_length] at hwr;go_wp2;go_end0;exact ⟨rfl,hbr,hwr⟩
theorem Mt(ps:List (Int × Int))(hs:Sl w B A (Zb ps))(hn:ps.length<=10000):
 Calls prog 233 #[.slice A ps.length c,.func (.func 234) #[.pointer (some ⟨g,0,none⟩)] #[]] w fun e w'=>e=.returned (.tuple #[])/\Z9 P w w'/\WS w' P g (bs++ps.flatMap Vp):=by
 have HP:=hide hP;clear hP;have HB:=hide hB;clear hB;go_enter func233,ntmps233;go_wp2
 go_loopw [8] (fun i wr=>∃ k:Nat,k<=ps.length/\i=.int .i64 k/\Z9 P w wr/\WS wr P g (bs++(ps.take k).flatMap Vp))
  (fun i _=>ps.length - (intOf i).toNat)
 case atStart=>exact ⟨0,by omega,rfl,Z9.refl _ _,by simpa using hw⟩
 case round =>
  obtain ⟨k,hk,rfl,hbr,hwr⟩:=hrel
  by_cases hlt:k<ps.length
  · obtain ⟨p,hp⟩:∃ p,ps[k]?=some p:=⟨_,List.getElem?_eq_getElem hlt⟩;obtain ⟨b,off,rfl,hbB,c0,c1⟩:=(hs.kept hbr HB.out).aR hp;have hfl:=VG Vp 9 MU (ps.take k);have hln:(bs++(ps.take k).flatMap Vp).length<=900000:=(by rw [List.length_append,hfl,List.length_take];omega);have hts:=UW Vp ps k p hp;have HT:=hide hts;clear hts hp hfl;have hbl:=Zz c0;go_wp2_with fail;refine (yX P g _ _ (fun j hj=>Nat.lt_of_lt_of_le (Nat.lt_of_lt_of_le (HP.out j hj) hbr.size) (by simp)) (hwr.step (bA)) hln p.1 p.2).mono ?_;rintro e w1 ⟨rfl,k1,s1⟩;have hk2:=Z9.trans (Z9.of_below (P:=P) (bA) (fun j hj=>Nat.lt_of_lt_of_le (HP.out j hj) hbr.size)) k1;go_wp2;go_roundw
    case rel=>exact ⟨k+1,by omega,by go_num,hbr.trans hk2,by rw [HT.out,<- List.append_assoc];exact s1⟩
    case measure=>simp [intOf];omega
  · have hk':k=ps.length:=(by omega);subst hk';rw [List.take_length] at hwr;go_wp2;go_end0;exact ⟨rfl,hbr,hwr⟩
theorem wM(ps:List ((Int × Int) × Int))(hs:Sl w B A (XC ps))(hn:ps.length<=10000):
 Calls prog 218 #[.slice A ps.length c,.func (.func 219) #[.pointer (some ⟨g,0,none⟩)] #[]] w fun e w'=>e=.returned (.tuple #[])/\Z9 P w w'/\WS w' P g (bs++ps.flatMap q24):=by
 have HP:=hide hP;clear hP;have HB:=hide hB;clear hB;go_enter func218,ntmps218;go_wp2
 go_loopw [8] (fun i wr=>∃ k:Nat,k<=ps.length/\i=.int .i64 k/\Z9 P w wr/\WS wr P g (bs++(ps.take k).flatMap q24))
  (fun i _=>ps.length - (intOf i).toNat)
 case atStart=>exact ⟨0,by omega,rfl,Z9.refl _ _,by simpa using hw⟩
 case round =>
  obtain ⟨k,hk,rfl,hbr,hwr⟩:=hrel
  by_cases hlt:k<ps.length
  · obtain ⟨p,hp⟩:∃ p,ps[k]?=some p:=⟨_,List.getElem?_eq_getElem hlt⟩;obtain ⟨b,off,rfl,hbB,c0,c1,c2⟩:=(hs.kept hbr HB.out).qu hp;have hfl:=VG q24 24 KL (ps.take k);have hln:(bs++(ps.take k).flatMap q24).length<=900000:=(by rw [List.length_append,hfl,List.length_take];omega);have hts:=UW q24 ps k p hp;have HT:=hide hts;clear hts hp hfl;have hbl:=Zz c0;go_wp2_with fail;refine (qW P g _ _ (fun j hj=>Nat.lt_of_lt_of_le (Nat.lt_of_lt_of_le (HP.out j hj) hbr.size) (by simp)) (hwr.step (bA)) hln p.1.1 p.1.2 p.2).mono ?_;rintro e w1 ⟨rfl,k1,s1⟩;have hk2:=Z9.trans (Z9.of_below (P:=P) (bA) (fun j hj=>Nat.lt_of_lt_of_le (HP.out j hj) hbr.size)) k1;go_wp2;go_roundw
    case rel=>exact ⟨k+1,by omega,by go_num,hbr.trans hk2,by rw [HT.out,<- List.append_assoc];exact s1⟩
    case measure=>simp [intOf];omega
  · have hk':k=ps.length:=(by omega);subst hk';rw [List.take_length] at hwr;go_wp2;go_end0;exact ⟨rfl,hbr,hwr⟩
end
end
section
open Go.RowKit
section
variable (vs:Int)(rs:List Rg)(A:Option Addr)(c:Nat)(ZY:Int)(w:World)
variable (hs:Sl w w.heap.size A (rgCells rs))(hn:rs.length<=maxLen)
include hs hn
theorem gV(hz:ZM 3 vs rs ZY=0):
 Calls prog 213 #[.agg #[.int .i64 3,.int .i64 vs,.slice A rs.length c,.int .i64 ZY]] w (Xj (Ze 3 vs rs ZY) w):=by
 have hf:Ze 3 vs rs ZY=(Zo 3 vs rs ZY,0):=by unfold Ze;rw [if_pos hz]
 rw [hf];obtain ⟨_,_,hv,_,_,hl,_,hp,_⟩:=ZA hz;have e1:=hl (by omega);have e3:=hp (by omega);obtain ⟨hv1,hv2⟩:=hv rfl;subst e1 e3;clear hv hl hp;have hs':=hide hs;clear hs;have HF:=hide hf;clear hf;have HZ:=hide hz;clear hz;obtain ⟨i0,hi,hz0,hz1,hz2⟩:=info_parts UE;go_enter func213,ntmps213;go_wp2_with fail;refine (Ve vs [] A c 0 _ ((hs'.out.below (bA)).more (by simp)) hn _).mono ?_;rintro e w1 ⟨rfl,hb⟩;rw [HZ.out];obtain ⟨hcl,hfr⟩:=Mq hb;have hl:=hb.size;simp at hl;have hl2:w.heap.size<w1.heap.size:=by omega
 go_wp2_with (at_builtin;refine wpList_append_own _ rfl (.tmp 22) (.tmp 26) 49 rfl w1.heap.size 5 i0 (.int .u8 0) 1 1 underlying49 hi hz0 ‹_› hz2 rfl (by decide) (.slice (some ⟨w1.heap.size,0,none⟩) 1 1) 1 (ZU [3]) rfl ((Xz (Z7.new _ _ _) (Nat.le_refl _) rfl (by unfold maxLen;omega)).alloc _) ⟨w1.heap.size+1,0,none⟩ 1 1 (ZU [vs]) rfl rfl ?c1 ?c2 ?c3 ?c4 ?c5 ?_)
 case c1=>exact ZB (Z7.new2 _ _ _ _)
 case c2=>exact XT _
 case c3=>unfold maxLen;omega
 case c4=>omega
 case c5=>simp;omega
 intro v' w2 hown' ZL _;have hb2:Below w.heap.size w w2:=(Z5 (Z5 (Z8 (bA) hb) _) _).grown ZL (by simp;omega) (fun k hk=>by simp [Value.ownBlock] at hk;omega);have B1:=((((Z7.new w 53 #[.int .i64 3,.int .i64 vs,.slice A 0 c,.int .i64 0]).step hb).alloc (.cells #[.int .u8 3] 5)).alloc (.cells #[.int .u8 vs] 5)).grown ZL (by simp [Value.ownBlock];omega);have f0:=B1.q0 rfl;have f1:=B1.q2 rfl;clear hcl hfr;go_wp2;refine wp_loop_rounds 1 ?_;rw [rounds_succ];go_wp2;go_ret2;exact ⟨v',rfl,VT hown' (by omega),hb2⟩
theorem gX(hz:ZM 4 vs rs ZY=0):
 Calls prog 213 #[.agg #[.int .i64 4,.int .i64 vs,.slice A rs.length c,.int .i64 ZY]] w (Xj (Ze 4 vs rs ZY) w):=by
 have hf:Ze 4 vs rs ZY=(Zo 4 vs rs ZY,0):=by unfold Ze;rw [if_pos hz]
 rw [hf];obtain ⟨_,_,_,hv,hl,_,hp1,hp,_⟩:=ZA hz;have e2:=hv (by omega);obtain ⟨hl1,hl2,hw⟩:=hl (by omega);have e3:=hp (by omega);subst e2 e3;clear hv hl hp hp1;have hs':=hide hs;clear hs;have HF:=hide hf;clear hf;have HZ:=hide hz;clear hz;have hvb:∀ r∈rs,0<=r.v/\r.v<=64:=by
  intro r hr;have h1:=List.any_eq_false.1 hw r hr;unfold Zq ZJ at h1
  by_cases h0:r.v=0
  · omega
  · by_cases h3:3<=r.v/\r.v<=64
    · omega
    · rw [if_neg h0,if_neg h3] at h1;simp at h1
 have HVB:=hide hvb;clear hvb hw;obtain ⟨i0,hi,hz0,hz1,hz2⟩:=info_parts UE;go_enter func213,ntmps213;go_wp2_with fail;refine (Ve 0 rs A c 0 _ ((hs'.out.below (bA)).more (by simp)) hn _).mono ?_;rintro e w1 ⟨rfl,hb⟩;rw [HZ.out];obtain ⟨hcl,hfr⟩:=Mq hb;have hlt:=hb.size;simp at hlt;have hlt2:w.heap.size<w1.heap.size:=by omega
 go_wp2_with (at_builtin;refine wpList_append_own _ rfl (.tmp 31) (.tmp 36) 49 rfl w1.heap.size 5 i0 (.int .u8 0) 1 1 underlying49 hi hz0 ‹_› hz2 rfl (by decide) (.slice (some ⟨w1.heap.size,0,none⟩) 1 1) 1 (ZU [4]) rfl ((Xz (Z7.new _ _ _) (Nat.le_refl _) rfl (by unfold maxLen;omega)).alloc _) ⟨w1.heap.size+1,0,none⟩ 1 1 (ZU [(rs.length:Int)]) rfl rfl ?c1 ?c2 ?c3 ?c4 ?c5 ?_)
 case c1=>exact ZB (Z7.new2 _ _ _ _)
 case c2=>exact XT _
 case c3=>unfold maxLen;omega
 case c4=>omega
 case c5=>simp;omega
 intro v2 w2 Yd SY _;have hb2:Below w.heap.size w w2:=(Z5 (Z5 (Z8 (bA) hb) _) _).grown SY (by simp;omega) (fun k hk=>by simp [Value.ownBlock] at hk;omega);have hb2':Below w1.heap.size w1 w2:=(Z5 (bA) _).grown SY (by simp;omega) (fun k hk=>by simp [Value.ownBlock] at hk;omega);have B2:=((((Z7.new w 53 #[.int .i64 4,.int .i64 0,.slice A rs.length c,.int .i64 0]).step hb).alloc (.cells #[.int .u8 4] 5)).alloc (.cells #[.int .u8 (rs.length:Int)] 5)).grown SY (by simp [Value.ownBlock];omega);have f22:=B2.q2 rfl;have hsl:=hs'.out.below hb2;clear hcl hfr SY;go_wp2
 go_loopw [5,7,8,41] (fun v _ _ i wr=>∃ k:Nat,k<=rs.length/\i=.int .i64 k/\wr.ownsRow w1.heap.size 5 1 v (2+k) (ZU ([4,(rs.length:Int)]++(rs.take k).map YP))/\Below w1.heap.size w2 wr)
  (fun _ _ _ i _=>rs.length - (intOf i).toNat)
 case atStart=>exact ⟨0,by omega,rfl,by simpa [ZU] using Yd,Below.refl _ _⟩
 case round =>
  obtain ⟨k,hk,rfl,ZT,hbr⟩:=hrel;have hrs:=hbr.size;have jc:=hb2'.size
  by_cases hlt3:k<rs.length
  · obtain ⟨r,hr⟩:∃ r,rs[k]?=some r:=⟨_,List.getElem?_eq_getElem hlt3⟩;obtain ⟨hr1,hr2⟩:=HVB.out r (List.mem_of_getElem? hr);obtain ⟨b,off,rfl,hB,c0,c1,c2⟩:=(hsl.below (hbr.mono (by omega))).rg hr;have hts:(rs.take (k+1)).map YP=(rs.take k).map YP++[YP r]:=(by rw [List.take_add_one,hr];simp);have HR:=hide hr;clear hr;have Mj:=hide hts;clear hts;have hor:=zwk r.v hr1 (by omega);obtain ⟨y,hy⟩:=eE (YP r);cases hd:r.d
    · have hyv:y=r.v:=(by rw [hy];unfold YP;rw [hd];simp);rw [hd] at c0;have HY:=hide hy;clear hy hd;subst hyv;go_wp2_with (at_builtin;refine wpList_append_own _ rfl (.tmp 52) (.tmp 54) 49 rfl w1.heap.size 5 i0 (.int .u8 0) 1 1 underlying49 hi hz0 ‹_› hz2 rfl (by decide) _ (2+k) (ZU ([4,(rs.length:Int)]++(rs.take k).map YP)) rfl ((ZT.alloc _).alloc _) ⟨wr.heap.size+1,0,none⟩ 1 1 (ZU [r.v]) rfl rfl ?d1 ?d2 ?d3 ?d4 ?d5 ?_)
      case d1=>exact ZB (Z7.new2 _ _ _ _)
      case d2=>exact XT _
      case d3=>unfold maxLen;omega
      case d4=>omega
      case d5=>simp;omega
      intro v3 w3 Zt Zx _;have hb3:Below w1.heap.size w2 w3:=((hbr.alloc (by omega) _).alloc (by simp;omega) _).grown Zx (by simp;omega) (fun k hk=>ZN ZT hk);have Y1:w3.ownsRow w1.heap.size 5 1 v3 (2+(k+1)) (ZU ([4,(rs.length:Int)]++(rs.take (k+1)).map YP)):=by
       rw [Mj.out,<- HY.out];simp [ZU] at Zt ⊢;exact Zt
      have HO:=hide Y1;clear Zt Y1 Zx;go_wp2;go_roundw
      case rel=>exact ⟨k+1,by omega,by go_num,HO.out,hb3⟩
      case measure=>simp [intOf];omega
    · have hyv:y=r.v+128:=(by rw [hy];unfold YP;rw [hd];simp);rw [hd] at c0;have HY:=hide hy;clear hy hd;have HYV:=hide hyv;clear hyv;go_wp2_with (at_builtin;refine wpList_append_own _ rfl (.tmp 52) (.tmp 54) 49 rfl w1.heap.size 5 i0 (.int .u8 0) 1 1 underlying49 hi hz0 ‹_› hz2 rfl (by decide) _ (2+k) (ZU ([4,(rs.length:Int)]++(rs.take k).map YP)) rfl ((ZT.alloc _).alloc _) ⟨wr.heap.size+1,0,none⟩ 1 1 (ZU [r.v+128]) rfl rfl ?d1 ?d2 ?d3 ?d4 ?d5 ?_)
      case d1=>exact ZB (Z7.new2 _ _ _ _)
      case d2=>exact XT _
      case d3=>unfold maxLen;omega
      case d4=>omega
      case d5=>simp;omega
      intro v3 w3 Zt Zx _;have hb3:Below w1.heap.size w2 w3:=((hbr.alloc (by omega) _).alloc (by simp;omega) _).grown Zx (by simp;omega) (fun k hk=>ZN ZT hk);have Y1:w3.ownsRow w1.heap.size 5 1 v3 (2+(k+1)) (ZU ([4,(rs.length:Int)]++(rs.take (k+1)).map YP)):=by
       rw [Mj.out,<- HY.out,HYV.out];simp [ZU] at Zt ⊢;exact Zt
      have HO:=hide Y1;clear Zt Y1 Zx;go_wp2;go_roundw
      case rel=>exact ⟨k+1,by omega,by go_num,HO.out,hb3⟩
      case measure=>simp [intOf];omega
  · have hk':k=rs.length:=(by omega);subst hk';rw [List.take_length] at ZT;have Br:=B2.below hbr hlt2;have f0:=Br.q0 rfl;have f3:=Br.q3 rfl;go_wp2;go_ret2;refine ⟨_,rfl,?_,hb2.trans (hbr.mono (by omega))⟩;have h:=VT ZT (base':=w.heap.size) (by omega);have hlf:(Zo 4 0 rs 0).length=2+rs.length:=(by simp [Zo];omega);dsimp only;rw [hlf];simp [Zo,ZU] at h ⊢;exact h
theorem gY(hz:ZM 5 vs rs ZY=0):
 Calls prog 213 #[.agg #[.int .i64 5,.int .i64 vs,.slice A rs.length c,.int .i64 ZY]] w (Xj (Ze 5 vs rs ZY) w):=by
 have hf:Ze 5 vs rs ZY=(Zo 5 vs rs ZY,0):=by unfold Ze;rw [if_pos hz]
 rw [hf];obtain ⟨_,_,_,hv,hl,_,hp1,hp,_⟩:=ZA hz;have e2:=hv (by omega);obtain ⟨hl1,hl2,hw⟩:=hl (by omega);obtain ⟨hp3,hp4⟩:=hp1 rfl;subst e2;clear hv hl hp hp1;have hs':=hide hs;clear hs;have HF:=hide hf;clear hf;have HZ:=hide hz;clear hz;have hvb:∀ r∈rs,0<=r.v/\r.v<=64:=by
  intro r hr;have h1:=List.any_eq_false.1 hw r hr;unfold Zq ZJ at h1
  by_cases h0:r.v=0
  · omega
  · by_cases h3:3<=r.v/\r.v<=64
    · omega
    · rw [if_neg h0,if_neg h3] at h1;simp at h1
 have HVB:=hide hvb;clear hvb hw;obtain ⟨i0,hi,hz0,hz1,hz2⟩:=info_parts UE;go_enter func213,ntmps213;go_wp2_with fail;refine (Ve 0 rs A c ZY _ ((hs'.out.below (bA)).more (by simp)) hn _).mono ?_;rintro e w1 ⟨rfl,hb⟩;rw [HZ.out];obtain ⟨hcl,hfr⟩:=Mq hb;have hlt:=hb.size;simp at hlt;have hlt2:w.heap.size<w1.heap.size:=by omega
 go_wp2_with (at_builtin;refine wpList_append_own _ rfl (.tmp 31) (.tmp 36) 49 rfl w1.heap.size 5 i0 (.int .u8 0) 1 1 underlying49 hi hz0 ‹_› hz2 rfl (by decide) (.slice (some ⟨w1.heap.size,0,none⟩) 1 1) 1 (ZU [5]) rfl ((Xz (Z7.new _ _ _) (Nat.le_refl _) rfl (by unfold maxLen;omega)).alloc _) ⟨w1.heap.size+1,0,none⟩ 1 1 (ZU [(rs.length:Int)]) rfl rfl ?c1 ?c2 ?c3 ?c4 ?c5 ?_)
 case c1=>exact ZB (Z7.new2 _ _ _ _)
 case c2=>exact XT _
 case c3=>unfold maxLen;omega
 case c4=>omega
 case c5=>simp;omega
 intro v2 w2 Yd SY _;have hb2:Below w.heap.size w w2:=(Z5 (Z5 (Z8 (bA) hb) _) _).grown SY (by simp;omega) (fun k hk=>by simp [Value.ownBlock] at hk;omega);have hb2':Below w1.heap.size w1 w2:=(Z5 (bA) _).grown SY (by simp;omega) (fun k hk=>by simp [Value.ownBlock] at hk;omega);have B2:=((((Z7.new w 53 #[.int .i64 5,.int .i64 0,.slice A rs.length c,.int .i64 ZY]).step hb).alloc (.cells #[.int .u8 5] 5)).alloc (.cells #[.int .u8 (rs.length:Int)] 5)).grown SY (by simp [Value.ownBlock];omega);have f22:=B2.q2 rfl;have hsl:=hs'.out.below hb2;clear hcl hfr SY;go_wp2
 go_loopw [5,7,8,41] (fun v _ _ i wr=>∃ k:Nat,k<=rs.length/\i=.int .i64 k/\wr.ownsRow w1.heap.size 5 1 v (2+k) (ZU ([5,(rs.length:Int)]++(rs.take k).map YP))/\Below w1.heap.size w2 wr)
  (fun _ _ _ i _=>rs.length - (intOf i).toNat)
 case atStart=>exact ⟨0,by omega,rfl,by simpa [ZU] using Yd,Below.refl _ _⟩
 case round =>
  obtain ⟨k,hk,rfl,ZT,hbr⟩:=hrel;have hrs:=hbr.size;have jc:=hb2'.size
  by_cases hlt3:k<rs.length
  · obtain ⟨r,hr⟩:∃ r,rs[k]?=some r:=⟨_,List.getElem?_eq_getElem hlt3⟩;obtain ⟨hr1,hr2⟩:=HVB.out r (List.mem_of_getElem? hr);obtain ⟨b,off,rfl,hB,c0,c1,c2⟩:=(hsl.below (hbr.mono (by omega))).rg hr;have hts:(rs.take (k+1)).map YP=(rs.take k).map YP++[YP r]:=(by rw [List.take_add_one,hr];simp);have HR:=hide hr;clear hr;have Mj:=hide hts;clear hts;have hor:=zwk r.v hr1 (by omega);obtain ⟨y,hy⟩:=eE (YP r);cases hd:r.d
    · have hyv:y=r.v:=(by rw [hy];unfold YP;rw [hd];simp);rw [hd] at c0;have HY:=hide hy;clear hy hd;subst hyv;go_wp2_with (at_builtin;refine wpList_append_own _ rfl (.tmp 52) (.tmp 54) 49 rfl w1.heap.size 5 i0 (.int .u8 0) 1 1 underlying49 hi hz0 ‹_› hz2 rfl (by decide) _ (2+k) (ZU ([5,(rs.length:Int)]++(rs.take k).map YP)) rfl ((ZT.alloc _).alloc _) ⟨wr.heap.size+1,0,none⟩ 1 1 (ZU [r.v]) rfl rfl ?d1 ?d2 ?d3 ?d4 ?d5 ?_)
      case d1=>exact ZB (Z7.new2 _ _ _ _)
      case d2=>exact XT _
      case d3=>unfold maxLen;omega
      case d4=>omega
      case d5=>simp;omega
      intro v3 w3 Zt Zx _;have hb3:Below w1.heap.size w2 w3:=((hbr.alloc (by omega) _).alloc (by simp;omega) _).grown Zx (by simp;omega) (fun k hk=>ZN ZT hk);have Y1:w3.ownsRow w1.heap.size 5 1 v3 (2+(k+1)) (ZU ([5,(rs.length:Int)]++(rs.take (k+1)).map YP)):=by
       rw [Mj.out,<- HY.out];simp [ZU] at Zt ⊢;exact Zt
      have HO:=hide Y1;clear Zt Y1 Zx;go_wp2;go_roundw
      case rel=>exact ⟨k+1,by omega,by go_num,HO.out,hb3⟩
      case measure=>simp [intOf];omega
    · have hyv:y=r.v+128:=(by rw [hy];unfold YP;rw [hd];simp);rw [hd] at c0;have HY:=hide hy;clear hy hd;have HYV:=hide hyv;clear hyv;go_wp2_with (at_builtin;refine wpList_append_own _ rfl (.tmp 52) (.tmp 54) 49 rfl w1.heap.size 5 i0 (.int .u8 0) 1 1 underlying49 hi hz0 ‹_› hz2 rfl (by decide) _ (2+k) (ZU ([5,(rs.length:Int)]++(rs.take k).map YP)) rfl ((ZT.alloc _).alloc _) ⟨wr.heap.size+1,0,none⟩ 1 1 (ZU [r.v+128]) rfl rfl ?d1 ?d2 ?d3 ?d4 ?d5 ?_)
      case d1=>exact ZB (Z7.new2 _ _ _ _)
      case d2=>exact XT _
      case d3=>unfold maxLen;omega
      case d4=>omega
      case d5=>simp;omega
      intro v3 w3 Zt Zx _;have hb3:Below w1.heap.size w2 w3:=((hbr.alloc (by omega) _).alloc (by simp;omega) _).grown Zx (by simp;omega) (fun k hk=>ZN ZT hk);have Y1:w3.ownsRow w1.heap.size 5 1 v3 (2+(k+1)) (ZU ([5,(rs.length:Int)]++(rs.take (k+1)).map YP)):=by
       rw [Mj.out,<- HY.out,HYV.out];simp [ZU] at Zt ⊢;exact Zt
      have HO:=hide Y1;clear Zt Y1 Zx;go_wp2;go_roundw
      case rel=>exact ⟨k+1,by omega,by go_num,HO.out,hb3⟩
      case measure=>simp [intOf];omega
  · have hk':k=rs.length:=(by omega);subst hk';rw [List.take_length] at ZT;have Br:=B2.below hbr hlt2;have f0:=Br.q0 rfl;have f3:=Br.q3 rfl;go_wp2_with (at_builtin;refine wpList_append_own _ rfl (.tmp 60) (.tmp 68) 49 rfl w1.heap.size 5 i0 (.int .u8 0) 1 1 underlying49 hi hz0 ‹_› hz2 rfl (by decide) _ (2+rs.length) (ZU ([5,(rs.length:Int)]++rs.map YP)) rfl (ZT.alloc _) ⟨wr.heap.size,0,none⟩ 2 2 (ZU [ZY % 256,ZY / 256]) rfl rfl ?g1 ?g2 ?g3 ?g4 ?g5 ?_)
    case g1=>exact ZB (Z7.new _ _ _)
    case g2=>exact XT _
    case g3=>unfold maxLen;omega
    case g4=>omega
    case g5=>simp;omega
    intro v3 w3 Zt Zx _;have hb3:Below w.heap.size w w3:=((hb2.trans (hbr.mono (by omega))).alloc (by omega) _).grown Zx (by simp;omega) (fun k hk=>by have:=ZN ZT hk;omega);have HO:=hide Zt;clear Zt Zx;go_wp2;go_ret2;refine ⟨_,rfl,?_,hb3⟩;have h:=VT HO.out (base':=w.heap.size) (by omega);have hlf:(Zo 5 0 rs ZY).length=2+rs.length+2:=(by simp [Zo];omega);dsimp only;rw [hlf];simp [Zo,ZU] at h ⊢;exact h
theorem SX(op:Int):
 Calls prog 213 #[.agg #[.int .i64 op,.int .i64 vs,.slice A rs.length c,.int .i64 ZY]] w (Xj (Ze op vs rs ZY) w):=by
 by_cases he:ZM op vs rs ZY=0
 · obtain ⟨h1,h2,_⟩:=ZA he
   by_cases h3:op=1\/op=2
   · exact oU vs rs A c ZY w hs hn op h3 he
   by_cases h4:op=3
   · subst h4;exact gV vs rs A c ZY w hs hn he
   by_cases h5:op=4
   · subst h5;exact gX vs rs A c ZY w hs hn he
   · have h6:op=5:=(by omega);subst h6;exact gY vs rs A c ZY w hs hn he
 · exact wV vs rs A c ZY w hs hn op he
end
end
section
open Go.RowKit
theorem Sl.take{w:World}{B:Nat}{A:Option Addr}{xs:List Value}(h:Sl w B A xs)(k:Nat):Sl w B A (xs.take k):=by
 rcases h with h|⟨b,off,hA,hB,hc⟩
 · exact .inl (by simp [h])
 · exact .inr ⟨b,off,hA,hB,fun j u hu=>by
    rw [List.getElem?_take] at hu;split at hu
    · exact hc j u hu
    · cases hu⟩
end
section
open Go.RowKit Go.Maps
abbrev Ev:=Int × Int × Int
def SV(es:List Ev):List Value:=es.flatMap fun e=>[.int .i64 e.1,.int .i64 e.2.1,.int .i64 e.2.2]
theorem Gx(es:List Ev)(k a b:Int):SV (es++[(k,a,b)])=SV es++[.int .i64 k,.int .i64 a,.int .i64 b]:=by simp [SV]
def ZG:Option (Nat × Nat)->Option Addr
 | none=>none
 | some t=>some ⟨t.1,0,none⟩
def Ac(w:World)(P:Nat->Prop)(g m:Nat)(es:List Ev):Prop :=
 ∃ v n D,Z7 w g 377 #[v,.map (some m)]/\¬ P g/\¬ P m/\w.ownsRow 0 273 3 v es.length (SV es)/\v.ownBlock≠some g/\(∀ k,v.ownBlock=some k->¬ P k/\k≠m)/\n<=es.length/\w.ownsMap (H:=Unit) prog 3 (plainElem prog 3) m n D
def Tp(w:World)(P:Nat->Prop):Option (Nat × Nat)->List Ev->Prop
 | none,_=>True
 | some t,es=>Ac w P t.1 t.2 es
structure Xw(t:Option (Nat × Nat))(w w':World):Prop where
 size:w.heap.size<=w'.heap.size
 same:∀ (k:Nat) (o:Obj),w.heap[k]?=some o->o.isCells=false->(∀ u,t=some u->k≠u.2)->w'.heap[k]?=some o
section
variable {w w' w'':World}{P R:Nat->Prop}{t:Option (Nat × Nat)}{es:List Ev}
theorem Xw.refl(t:Option (Nat × Nat))(w:World):Xw t w w:=⟨Nat.le_refl _,fun _ _ h _ _=>h⟩
theorem Xw.trans(h:Xw t w w')(k:Xw t w' w''):Xw t w w'':=⟨Nat.le_trans h.size k.size,fun i o hi ho hn=>k.same i o (h.same i o hi ho hn) ho hn⟩
theorem Xw.of(h:KeepsOthers w w'):Xw t w w':=⟨h.size,fun i o hi ho _=>h.same i o hi ho⟩
theorem Xw.below(h:Below w.heap.size w w'):Xw t w w':=⟨h.size,fun i _ hi _ _=>(h.block i (Array.getElem?_eq_some_iff.1 hi).1).trans hi⟩
theorem Xw.from{B:Nat}(h:Xw t w w')(hB:∀ u,t=some u->u.2<B):KeepsFrom B w w':=⟨h.size,fun i o hb hi ho=>h.same i o hi ho fun u hu=>by have:=hB u hu;omega⟩
theorem Yk{base:Nat}{e:TypeId}{size n:Nat}{v:Value}{xs:List Value}(h:w.ownsRow base e size v n xs){k:Nat}(hk:v.ownBlock=some k):k<w.heap.size:=by
 rcases h.2 with ⟨rfl,_⟩|⟨g',cap,cur,rfl,hb,hh,_⟩
 · simp [Value.ownBlock] at hk
 · have:g'=k:=(by simpa [Value.ownBlock] using hk);subst this;exact Z7.lt hh
theorem QN{base:Nat}{e:TypeId}{size n:Nat}{v:Value}{xs:List Value}(h:w.ownsRow base e size v n xs){k:Nat}(hk:v.ownBlock=some k):∃ o:Obj,w.heap[k]?=some o/\o.isCells=true:=by
 rcases h.2 with ⟨rfl,_⟩|⟨g',cap,cur,rfl,hb,hh,_⟩
 · simp [Value.ownBlock] at hk
 · have:g'=k:=(by simpa [Value.ownBlock] using hk);subst this;exact ⟨_,hh,rfl⟩
theorem KE{base:Nat}{e:TypeId}{size n:Nat}{v:Value}{xs:List Value}{row:Option Nat}(h:w.ownsRow base e size v n xs)(hb:w.grownBy w' row)(hne:∀ k,v.ownBlock=some k->some k≠row):w'.ownsRow base e size v n xs:=by
 refine ⟨h.1,?_⟩;rcases h.2 with h0|⟨g',cap,cur,hv,hb1,hh,r⟩
 · exact .inl h0
 · subst hv;exact .inr ⟨g',cap,cur,rfl,hb1,(hb.block g' (Z7.lt hh) (hne g' (by simp [Value.ownBlock]))).trans hh,r⟩
theorem below_grown(h:Below w.heap.size w w'):w.grownBy w' none:=⟨h.os,h.tape,h.output,h.size,fun k hk _=>h.block k hk⟩
theorem Ac.step{g m:Nat}(h:Ac w P g m es)(hb:Below w.heap.size w w'):Ac w' P g m es:=by
 obtain ⟨v,n,D,h1,h2,h3,h4,h5,h6,h7,h8⟩:=h;exact ⟨v,n,D,h1.step hb,h2,h3,ZI h4 hb,h5,h6,h7,h8.kept (below_grown hb) (by simp)⟩
theorem Tp.step(h:Tp w P t es)(hb:Below w.heap.size w w'):Tp w' P t es:=by
 cases t with
 | none=>trivial
 | some t=>exact Ac.step h hb
theorem Tp.mono(h:Tp w P t es)(hR:∀ k,R k->P k):Tp w R t es:=by
 cases t with
 | none=>trivial
 | some t =>
   obtain ⟨v,n,D,h1,h2,h3,h4,h5,h6,h7,h8⟩:=h;exact ⟨v,n,D,h1,fun h=>h2 (hR _ h),fun h=>h3 (hR _ h),h4,h5,fun k hk=>⟨fun h=>(h6 k hk).1 (hR _ h),(h6 k hk).2⟩,h7,h8⟩
theorem Tp.add(h:Tp w P t es)(hR:∀ k,R k->P k\/w.heap.size<=k):Tp w R t es:=by
 cases t with
 | none=>trivial
 | some t =>
   obtain ⟨v,n,D,h1,h2,h3,h4,h5,h6,h7,h8⟩:=h;have l1:=h1.lt;have l2:=h8.lt;refine ⟨v,n,D,h1,fun h=>?_,fun h=>?_,h4,h5,fun k hk=>⟨fun h=>?_,(h6 k hk).2⟩,h7,h8⟩
   · rcases hR _ h with h|h
     · exact h2 h
     · omega
   · rcases hR _ h with h|h
     · exact h3 h
     · omega
   · have:=Yk h4 hk;rcases hR _ h with h|h
     · exact (h6 k hk).1 h
     · omega
theorem Tp.more(h:Tp w P t es)(hb:Below w.heap.size w w'):Tp w' (More P w w') t es :=
 (h.add (R:=More P w w') fun k hk=>by rcases hk with hk|hk;exact .inl hk;exact .inr hk.1).step hb
theorem Tp.kept{b:Nat}(h:Tp w P t es)(hg:w.grownBy w' (some b))(hb:P b):Tp w' P t es:=by
 cases t with
 | none=>trivial
 | some t =>
   obtain ⟨v,n,D,h1,h2,h3,h4,h5,h6,h7,h8⟩:=h;refine ⟨v,n,D,h1.grown hg (fun e=>by cases e;exact h2 hb),h2,h3,KE h4 hg (fun k hk e=>by cases e;exact (h6 _ hk).1 hb),h5,h6,h7,h8.kept hg (fun e=>by cases e;exact h3 hb)⟩
theorem Tp.set{b:Nat}(h:Tp w P t es)(hb:P b)(o:Nat)(u:Value):Tp (w.setCell ⟨b,o,none⟩ u) P t es :=
 h.kept (b:=b) ⟨rfl,rfl,rfl,Nat.le_of_eq (World.size_setCell ..).symm,fun k _ hk=>Below.heap_setCell w ⟨b,o,none⟩ u k (fun e=>hk (by rw [e]))⟩ hb
theorem Tp.drew(h:Tp w P t es):Tp w.drew P t es:=h.step (ZV (Below.refl _ _))
theorem WY{β:Type}(B:Nat)(P:Nat->Prop)(t:Option (Nat × Nat))(f:β->List Ev)(hm:∀ u,t=some u->u.2<B):OwnFrom B (fun s W=>Tp W P t (f s)):=by
 intro s X Y row hs hg hr;cases t with
 | none=>trivial
 | some t =>
   obtain ⟨v,n,D,h1,h2,h3,h4,h5,h6,h7,h8⟩:=hs;refine ⟨v,n,D,h1.grown hg (fun e=>?_),h2,h3,KE h4 hg (fun k hk e=>?_),h5,h6,h7,h8.kept hg (fun e=>?_)⟩
   · obtain ⟨_,o,ho,hc⟩:=hr _ e.symm;rw [show X.heap[t.1]?=_ from h1] at ho;cases ho;cases hc
   · obtain ⟨_,o,ho,hc⟩:=hr _ e.symm;obtain ⟨o',ho',hc'⟩:=QN h4 hk;rw [ho'] at ho;cases ho;rw [hc'] at hc;cases hc
   · have:=(hr _ e.symm).1;have:=hm t rfl;omega
end
def Wp(w:World)(P:Nat->Prop)(A:Option Addr)(xs:List Value):Prop :=
 xs=[]\/∃ b off,A=some ⟨b,off,none⟩/\P b/\∀ j u,xs[j]?=some u->w.cell? ⟨b,off+j,none⟩=some u
section
variable {w w':World}{P R:Nat->Prop}{A:Option Addr}{xs:List Value}
theorem Wp.kept(h:Wp w P A xs)(hk:Z9 P w w'):Wp w' P A xs:=by
 rcases h with h|⟨b,off,hA,hb,hc⟩
 · exact .inl h
 · exact .inr ⟨b,off,hA,hb,fun j u hu=>(hk.cell hb _).trans (hc j u hu)⟩
theorem Wp.mono(h:Wp w P A xs)(hR:∀ k,P k->R k):Wp w R A xs:=by
 rcases h with h|⟨b,off,hA,hb,hc⟩
 · exact .inl h
 · exact .inr ⟨b,off,hA,hR _ hb,hc⟩
theorem Wp.sl{B:Nat}(h:Wp w P A xs)(hP:∀ k,P k->k<B):Sl w B A xs:=by
 rcases h with h|⟨b,off,hA,hb,hc⟩
 · exact .inl h
 · exact .inr ⟨b,off,hA,hP _ hb,hc⟩
theorem Sl.lX{B:Nat}(h:Sl w B A xs)(hP:∀ k,k<B->P k):Wp w P A xs:=by
 rcases h with h|⟨b,off,hA,hb,hc⟩
 · exact .inl h
 · exact .inr ⟨b,off,hA,hP _ hb,hc⟩
theorem Z9.putObj{l:Nat}(o:Obj)(hl:¬ P l)(W:World):Z9 P W (W.putObj l o) :=
 ⟨rfl,rfl,rfl,by simp,fun k hk=>World.putObj_heap_other (fun e=>hl (e ▸ hk))⟩
theorem Z9.setCell{b:Nat}(hb:¬ P b)(o:Nat)(u:Value)(W:World):Z9 P W (W.setCell ⟨b,o,none⟩ u) :=
 ⟨rfl,rfl,rfl,Nat.le_of_eq (World.size_setCell ..).symm,fun k hk=>Below.heap_setCell W ⟨b,o,none⟩ u k (fun e=>hb (by have e:k=b:=e;rw [<- e];exact hk))⟩
theorem Uk{β:Type}{B:Nat}{P:Nat->Prop}{w₀:World}(hB:∀ k,P k->k<w₀.heap.size/\k<B):OwnFrom B (fun (_:β) W=>Z9 P w₀ W) :=
 fun _ X Y row hs hg hr=>⟨hg.os.trans hs.os,hg.tape.trans hs.tape,hg.output.trans hs.output,Nat.le_trans hs.size hg.size,fun k hk =>
  (hg.block k (Nat.lt_of_lt_of_le (hB k hk).1 hs.size) (fun e=>by have:=(hr k e.symm).1;have:=(hB k hk).2;omega)).trans (hs.block k hk)⟩
end
section
variable {w w':World}{P R:Nat->Prop}{t:Option (Nat × Nat)}{es:List Ev}
theorem Tp.zuk(h:Tp w P t es):∀ u,t=some u->u.2<w.heap.size:=by
 rintro u rfl;obtain ⟨v,n,D,h1,h2,h3,h4,h5,h6,h7,h8⟩:=h;exact h8.lt
theorem Tp.putObj{l:Nat}{o:Obj}(h:Tp w P t es)(hm:∀ u,t=some u->u.2<l)(hl:w.heap[l]?=some o)(ho:o.isCells=false)(o':Obj):Tp (w.putObj l o') P t es :=
 (WY l P t (fun _:Unit=>es) hm).putObj (s:=()) o' h (Nat.le_refl _) hl ho
theorem Tp.with{es':List Ev}(h:Tp w P t es)(h':Tp w R t es'):Tp w R t es:=by
 cases t with
 | none=>trivial
 | some t =>
   obtain ⟨v,n,D,h1,h2,h3,h4,h5,h6,h7,h8⟩:=h;obtain ⟨v',n',D',k1,k2,k3,k4,k5,k6,k7,k8⟩:=h';have e:v'=v:=by
    have e1:=(show w.heap[t.1]?=_ from k1).symm.trans h1;injection e1 with e1;injection e1 with e1;have:=congrArg (fun c=>c[0]?) e1;simpa using this
   subst e;exact ⟨v',n,D,h1,k2,k3,h4,h5,k6,h7,h8⟩
end
theorem ug:(prog.info? 273).map (fun i=>(i.zero,i.size,i.bytes))=some (some (.agg #[.int .i64 0,.int .i64 0,.int .i64 0]),3,24):=by kernel_rfl
theorem bT(w:World):(zeroValue 3).run prog w=.ok (.int .i64 0) w:=by kernel_rfl
theorem VP:Keyed prog 3:=int_keyed underlying3
def Zg(x:Int):Prop:=-9223372036854775808<=x/\x<=9223372036854775807
theorem Zg.wf{x:Int}(h:Zg x):(Lit.int .i64 x).wf=true:=by unfold Zg at h;exact WalkArith.wf_i64 (by omega)
theorem bK {w w1 w3:World} {P:Nat->Prop} {g m g' cap n:Nat} {es:List Ev} {k a b:Int} {v:Value} {D':DataW Unit} {o:Obj} (hP:∀ j,P j->j<w.heap.size) (h1:Z7 w g 377 #[v,.map (some m)]) (h2:¬ P g) (h3:¬ P m)
 (h4:w.ownsRow 0 273 3 v es.length (SV es)) (h5:v.ownBlock≠some g) (h6:∀ k,v.ownBlock=some k->¬ P k/\k≠m) (h7:n<=es.length) (hml:m<w.heap.size) (hgm:g≠m)
 (YZ:w1.ownsRow 0 273 3 (.slice (some ⟨g',0,none⟩) (es.length+1) cap) (es.length+1) (SV es++[.int .i64 k,.int .i64 a,.int .i64 b]))
 (ZL:(w.alloc o).grownBy w1 v.ownBlock) (hat:v.ownBlock=some g'\/g'=w.heap.size+1)
 (Zt:w3.ownsMap (H:=Unit) prog 3 (plainElem prog 3) m (n+1) D') (Zx:(w1.setCell ⟨g,0,none⟩ (.slice (some ⟨g',0,none⟩) (es.length+1) cap)).grownBy w3 (some m)) :
 Z9 P w w3/\Xw (some (g,m)) w w3/\Ac w3 P g m (es++[(k,a,b)]):=by
 have hgl:=h1.lt;have hs1:=ZL.size;rw [World.size_alloc] at hs1;have hs3:=Zx.size;rw [World.size_setCell] at hs3;have hgg:g'≠g/\g'≠m/\¬ P g':=by
  rcases hat with h|h
  · exact ⟨fun e=>h5 (by rw [h,e]),(h6 _ h).2,(h6 _ h).1⟩
  · exact ⟨by omega,by omega,fun hp=>by have:=hP _ hp;omega⟩
 have key:∀ j,j<w.heap.size->j≠g->j≠m->v.ownBlock≠some j->w3.heap[j]?=w.heap[j]?:=fun j hj hg hm hv=>by
  refine (Zx.block j (by rw [World.size_setCell];omega) (fun e=>hm (by cases e;rfl))).trans ?_;refine (Below.heap_setCell w1 ⟨g,0,none⟩ _ j hg).trans ?_;refine (ZL.block j (by rw [World.size_alloc];omega) (fun e=>hv e.symm)).trans (Below.heap_alloc w o j hj)
 refine ⟨⟨Zx.os.trans ZL.os,Zx.tape.trans ZL.tape,Zx.output.trans ZL.output,by omega,fun j hj=>key j (hP j hj) (fun e=>h2 (e ▸ hj)) (fun e=>h3 (e ▸ hj)) (fun e=>(h6 _ e).1 hj)⟩,⟨by omega,fun j o' ho hc hn=>?_⟩,?_⟩
 · have hj:=(Array.getElem?_eq_some_iff.1 ho).1;refine (key j hj (fun e=>?_) (hn (g,m) rfl) (fun e=>?_)).trans ho
   · subst e;rw [show w.heap[j]?=_ from h1] at ho;cases ho;cases hc
   · obtain ⟨o2,ho2,hc2⟩:=QN h4 e;rw [ho2] at ho;cases ho;rw [hc2] at hc;cases hc
 · refine ⟨_,n+1,_,(((h1.alloc o).grown ZL (Ne.symm h5)).set 0 (.slice (some ⟨g',0,none⟩) (es.length+1) cap)).grown Zx (fun e=>hgm (by cases e;rfl)),h2,h3,?_,?_,?_,by simp;omega,Zt⟩
   · have e1:(es++[(k,a,b)]).length=es.length+1:=(by simp);rw [Gx,e1];refine KE (Yt YZ (by simpa [Value.ownBlock] using hgg.1) _) Zx (fun j hj e=>?_);have:g'=j:=(by simpa [Value.ownBlock] using hj);exact hgg.2.1 (by cases e;exact this)
   · simpa [Value.ownBlock] using hgg.1
   · intro j hj;have:g'=j:=(by simpa [Value.ownBlock] using hj);subst this;exact ⟨hgg.2.2,hgg.2.1⟩
theorem ku(k a b:Value)(w:World):Calls prog 259 #[.pointer none,k,a,b] w fun e w'=>e=.returned (.tuple #[])/\w=w':=by
 go_enter func259,ntmps259;go_wp2;refine bodyPost_ret (results_none rfl _ _ _) rfl ?_;exact ⟨rfl,rfl⟩
theorem ak(P:Nat->Prop)(g m:Nat)(es:List Ev)(k a b:Int)(w:World)(hP:∀ j,P j->j<w.heap.size)(ht:Ac w P g m es)(hl:es.length<=1000000)(hk:Zg k):
 Calls prog 259 #[.pointer (some ⟨g,0,none⟩),.int .i64 k,.int .i64 a,.int .i64 b] w fun e w'=>e=.returned (.tuple #[])/\Z9 P w w'/\Xw (some (g,m)) w w'/\Ac w' P g m (es++[(k,a,b)]):=by
 obtain ⟨v,n,D,h1,h2,h3,h4,h5,h6,h7,h8⟩:=ht;have c0:w.cell? ⟨g,0,none⟩=some v:=h1.q0 rfl;have f0:=h1.frozen 0;have hgl:=h1.lt;have hml:=h8.lt;obtain ⟨i0,hi,hz0,hz1,hz2⟩:=info_parts ug;have hgm:g≠m:=by
  rintro rfl;obtain ⟨es',clock,hb,_⟩:=h8;rw [show w.heap[g]?=_ from h1] at hb;cases hb
 have HP:=hide hP;have H6:=hide h6;have HK:=hide hk.wf;have H1:=hide h1;have H8:=hide h8;clear hP h6 hk h1 h8;go_enter func259,ntmps259
 go_wp2_with (first
  | (at_builtin;refine wpList_append_lies _ rfl (.tmp 14) (.tmp 19) 123 rfl 0 273 i0 (.agg #[.int .i64 0,.int .i64 0,.int .i64 0]) 3 24 underlying123 hi hz0 hz1 hz2 rfl (by decide) v es.length _ rfl (ZI h4 (bA)) ⟨w.heap.size,0,none⟩ 1 1 [.int .i64 k,.int .i64 a,.int .i64 b] rfl rfl ?a1 ?a2 ?a3 ?a4 ?a5 ?a6 (w.heap.size+1) ?a7 ?_;rotate_right;intro g' cap w1 YZ ZL hat hlt';have B1:=(H1.out.alloc (.cells #[.int .i64 k,.int .i64 a,.int .i64 b] 273)).grown ZL (Ne.symm h5);have d1:w1.cell? ⟨g,0,none⟩=some v:=B1.q0 rfl;have e1:=B1.frozen 0;have d2:w1.cell? ⟨g,1,none⟩=some (.map (some m)):=B1.q1 rfl;have M1:=hide ((H8.out.alloc (.cells #[.int .i64 k,.int .i64 a,.int .i64 b] 273)).kept ZL (fun e=>(H6.out m e.symm).2 rfl));have B1:=hide B1)
  | (at_lookup;refine wpList_lookup_own_int _ rfl _ _ 375 rfl 3 3 .i64 VP underlying375 underlying3 (bT _) m n D rfl ?b1 _ (.int .i64 k) rfl ?b2 ?_;rotate_right;intro c yza hwc)
  | (at_mapUpdate;refine wpList_mapUpdate_own _ rfl _ _ _ 375 rfl 3 3 VP underlying375 _ m n D rfl ?c1 ?c2 _ _ (.int .i64 k) rfl rfl ?c3 _ [] (plainElem_int underlying3 (wrap64_wf _)) ?_;rotate_right;intro w3 Zt Zx))
 case c1=>exact M1.out.kept (grownBy_setCell' _ _ _) (fun e=>hgm (by cases e;rfl))
 case c2=>unfold maxLen;omega
 case c3=>exact keyOf_int_mk underlying3 HK.out
 case b1=>exact M1.out.kept (grownBy_setCell' _ _ _) (fun e=>hgm (by cases e;rfl))
 case b2=>exact keyOf_int_mk underlying3 HK.out
 case a1=>exact ZB (Z7.new _ _ _)
 case a2=>simp [Value.oneCell']
 case a3=>omega
 case a4=>unfold maxLen;omega
 case a5=>omega
 case a6=>omega
 case a7=>simp
 go_end0;exact ⟨rfl,bK HP.out H1.out h2 h3 h4 h5 H6.out h7 hml hgm YZ ZL hat Zt Zx⟩
theorem VR(P:Nat->Prop)(t:Option (Nat × Nat))(es:List Ev)(k a b:Int)(w:World)(hP:∀ j,P j->j<w.heap.size)(ht:Tp w P t es)(hl:es.length<=1000000)(hk:Zg k):
 Calls prog 259 #[.pointer (ZG t),.int .i64 k,.int .i64 a,.int .i64 b] w fun e w'=>e=.returned (.tuple #[])/\Z9 P w w'/\Xw t w w'/\Tp w' P t (es++[(k,a,b)]):=by
 cases t with
 | none =>
   refine (ku _ _ _ w).mono ?_;rintro e w' ⟨he,rfl⟩;exact ⟨he,Z9.refl _ _,Xw.refl _ _,trivial⟩
 | some t=>exact ak P t.1 t.2 es k a b w hP ht hl hk
end
section
open Go.RowKit
theorem jS(a b:Nat)(ha:a<18446744073709551616)(hb:b<18446744073709551616):
 (((18446744073709551615 - a) &&& b) ||| ((18446744073709551615 - (a ^^^ b)) &&& ((a+18446744073709551616 - b) % 18446744073709551616))) / 9223372036854775808=if a<b then 1 else 0:=by
 have e:(9223372036854775808:Nat)=2 ^ 63:=rfl;have hx:a ^^^ b<2 ^ 64:=Nat.xor_lt_two_pow (by omega) (by omega);have hxd:(a ^^^ b) / 9223372036854775808=a / 9223372036854775808 ^^^ b / 9223372036854775808:=by rw [e,Nat.xor_div_two_pow]
 obtain ⟨x,hxe⟩:=eE (a ^^^ b);rw [<- hxe] at hx hxd ⊢;rw [e,Nat.or_div_two_pow,Nat.and_div_two_pow,Nat.and_div_two_pow,<- e];have a1:a / 9223372036854775808=0\/a / 9223372036854775808=1:=by omega
 have b1:b / 9223372036854775808=0\/b / 9223372036854775808=1:=by omega
 have na:(18446744073709551615 - a) / 9223372036854775808=1 - a / 9223372036854775808:=by omega
 have nx:(18446744073709551615 - x) / 9223372036854775808=1 - x / 9223372036854775808:=by omega
 have d1:(a+18446744073709551616 - b) % 18446744073709551616 / 9223372036854775808=0\/(a+18446744073709551616 - b) % 18446744073709551616 / 9223372036854775808=1:=by omega
 rw [na,nx,hxd];rcases a1 with h|h <;> rcases b1 with h'|h' <;> rw [h,h']
 · by_cases hl:a<b
   · rw [if_pos hl,show (a+18446744073709551616 - b) % 18446744073709551616 / 9223372036854775808=1 by omega];decide
   · rw [if_neg hl,show (a+18446744073709551616 - b) % 18446744073709551616 / 9223372036854775808=0 by omega];decide
 · rw [if_pos (by omega)];rcases d1 with d|d <;> rw [d] <;> decide
 · rw [if_neg (by omega)];rcases d1 with d|d <;> rw [d] <;> decide
 · by_cases hl:a<b
   · rw [if_pos hl,show (a+18446744073709551616 - b) % 18446744073709551616 / 9223372036854775808=1 by omega];decide
   · rw [if_neg hl,show (a+18446744073709551616 - b) % 18446744073709551616 / 9223372036854775808=0 by omega];decide
theorem ql(a b:Int)(h0:0<=a)(h1:a<18446744073709551616)(h2:0<=b)(h3:b<18446744073709551616):
 bits BinOp.or IntKind.u64 (bits BinOp.and IntKind.u64 (bits BinOp.xor IntKind.u64 IntKind.u64.max a) b) (bits BinOp.and IntKind.u64 (bits BinOp.xor IntKind.u64 IntKind.u64.max (bits BinOp.xor IntKind.u64 a b)) (IntKind.u64.wrap (a - b))) / 9223372036854775808=if a<b then 1 else 0:=by
 obtain ⟨A,rfl⟩:=Int.eq_ofNat_of_zero_le h0;obtain ⟨B,rfl⟩:=Int.eq_ofNat_of_zero_le h2;have hx:A ^^^ B<2 ^ 64:=Nat.xor_lt_two_pow (by omega) (by omega);rw [u64_xor (A:Int) B h0 h1 h2 h3,Int.toNat_natCast,Int.toNat_natCast,zwz _ h0 h1,zwz _ (by omega) (by omega)];have e1:(18446744073709551615:Int) - (A:Int)=((18446744073709551615 - A:Nat):Int):=by omega
 have e2:(18446744073709551615:Int) - ((A ^^^ B:Nat):Int)=((18446744073709551615 - (A ^^^ B):Nat):Int):=by omega
 have e3:IntKind.u64.wrap ((A:Int) - (B:Int))=(((A+18446744073709551616 - B) % 18446744073709551616:Nat):Int):=by rw [IntKind.wrap_u64];omega
 rw [e1,e2,e3,u64_and_nat _ _ (by omega) (by omega),u64_and_nat _ _ (by omega) (by omega)];have l1:(18446744073709551615 - A) &&& B<2 ^ 64:=Nat.and_lt_two_pow _ (by omega);have l2:(18446744073709551615 - (A ^^^ B)) &&& ((A+18446744073709551616 - B) % 18446744073709551616)<2 ^ 64:=Nat.and_lt_two_pow _ (by omega);rw [u64_or_nat _ _ (by omega) (by omega)];have h:=jS A B (by omega) (by omega);have e4:∀ X:Nat,(X:Int) / 9223372036854775808=((X / 9223372036854775808:Nat):Int):=fun X=>by omega
 rw [e4,h]
 by_cases hl:A<B
 · rw [if_pos hl,if_pos (by omega)];rfl
 · rw [if_neg hl,if_neg (by omega)];rfl
theorem G9(a b:Int)(h0:0<=a)(h1:a<18446744073709551616)(h2:0<=b)(h3:b<18446744073709551616)(w:World):Calls prog 341 #[.int .u64 a,.int .u64 b] w fun e w'=>e=.returned (.int .u64 (ZH (decide (a<b))))/\w=w':=by
 have h:=ql a b h0 h1 h2 h3;have HO:=PV (if a<b then 1 else 0) (by split <;> omega) (by split <;> omega) w;have e:decide ((if a<b then (1:Int) else 0) % 2=1)=decide (a<b):=by by_cases hx:a<b <;> simp [hx]
 rw [e] at HO;obtain ⟨z,hz⟩:=eE ((if a<b then (1:Int) else 0));rw [<- hz] at h HO;have H:=hide h;clear hz e h;go_enter func341,ntmps341;go_wp2_with fail;rw [H.out];refine HO.mono ?_;rintro e w' ⟨rfl,rfl⟩;go_wp2;go_ret;exact ⟨rfl,rfl⟩
theorem nW(a b:Int)(h0:0<=a)(h1:a<18446744073709551616)(h2:0<=b)(h3:b<18446744073709551616):bits BinOp.xor IntKind.u64 a b=bits BinOp.xor IntKind.u64 b a:=by
 rw [u64_xor a b h0 h1 h2 h3,u64_xor b a h2 h3 h0 h1,Nat.xor_comm]
theorem DT(c:Bool)(a b:Int)(h0:0<=a)(h1:a<18446744073709551616)(h2:0<=b)(h3:b<18446744073709551616)(w:World):Calls prog 313 #[.int .u64 (ZH c),.int .u64 a,.int .u64 b] w fun e w'=>e=.returned (.tuple #[.int .u64 (bif c then b else a),.int .u64 (bif c then a else b)])/\w=w':=by
 have k1:=RG c a b h0 h1 h2 h3;have k2:=RG c b a h2 h3 h0 h1;rw [nW b a h2 h3 h0 h1] at k2;go_enter func313,ntmps313;go_wp2;go_ret2;exact ⟨by simp,rfl⟩
theorem Am(x:Int)(h0:0<=x)(h1:x<18446744073709551616)(w:World):Calls prog 196 #[.int .u64 x] w fun e w'=>e=.returned (.int .u64 (x % 2))/\w=w':=by
 have h:=fH x h0 h1;go_enter func196,ntmps196;go_wp2;go_ret;exact ⟨rfl,rfl⟩
theorem zwv(x:Int)(c:Bool)(h0:0<=x)(h1:x<18446744073709551616):bits BinOp.and IntKind.u64 x (ZH c)=bif c then x else 0:=by
 obtain ⟨X,rfl⟩:=Int.eq_ofNat_of_zero_le h0;rw [u64_and _ _ h0 h1 (V9 c).1 (V9 c).2,Int.toNat_natCast];cases c
 · show ((X &&& 0:Nat):Int)=0;rw [Nat.and_zero];rfl
 · have e:X &&& (ZH true).toNat=X:=by
    rw [show (ZH true).toNat=2 ^ 64 - 1 from rfl,Nat.and_two_pow_sub_one_eq_mod,Nat.mod_eq_of_lt (by omega)]
   rw [e];rfl
def rcl(l d:Int):Int × Int:=(l % 2,bif decide (l % 2=1) then d else 0)
theorem yU{r:Int × Int}(h:LK r):rcl r.1 r.2=r:=by
 obtain ⟨a,b⟩:=r;rcases h with ⟨h1,_⟩|h1
 · dsimp only at h1;subst h1;rfl
 · cases h1;rfl
theorem aO(c:Bool)(d:Int):rcl (ZH c) d=if c=true then (1,d) else (0,0):=by cases c <;> rfl
theorem QB(l d:Int)(h0:0<=l)(h1:l<18446744073709551616)(h2:0<=d)(h3:d<18446744073709551616)(w:World):Calls prog 276 #[.agg #[.int .u64 l,.int .u64 d]] w fun e w'=>e=.returned (.agg #[.int .u64 (rcl l d).1,.int .u64 (rcl l d).2])/\Below w.heap.size w w':=by
 have HB:=hide (fun w=>Am l h0 h1 w);have HO:=hide (fun w=>PV l h0 h1 w);have ha:=zwv d (decide (l % 2=1)) h2 h3;obtain ⟨x,hx⟩:=eE ((rcl l d).1);obtain ⟨y,hy⟩:=eE ((rcl l d).2);obtain ⟨m,hm⟩:=eE (ZH (decide (l % 2=1)))
 change bits BinOp.and IntKind.u64 d (ZH (decide (l % 2=1)))=(rcl l d).2 at ha
 have e1:l % 2=x:=hx.symm;rw [<- hy,<- hm] at ha;rw [<- hm] at HO;rw [<- hx,<- hy];rw [e1] at HB;clear hx hy hm e1;go_enter func276,ntmps276;go_wp2
 go_region_with (first
  | (go_at_call 196;refine (HB.out _).mono ?_;rintro e w1 ⟨rfl,rfl⟩)
  | (go_at_call 262;refine (HO.out _).mono ?_;rintro e w1 ⟨rfl,rfl⟩))
 all_goals
  go_wp2;refine bodyPost_ret (v:=.agg #[.int .u64 x,.int .u64 y]) (by simp [results,Tryz.results276,go_sem]) rfl ⟨rfl,?_⟩;exact below_drewN (Z5 (bA) _) _
end
section
open Go.RowKit Go.Maps
theorem Sl.ev{w:World}{B:Nat}{A:Option Addr}{es:List Ev}(h:Sl w B A (SV es)){k:Nat}{e:Ev}(hk:es[k]?=some e):
 ∃ b off,A=some ⟨b,off,none⟩/\b<B/\w.cell? ⟨b,off+k*3,none⟩=some (.int .i64 e.1)/\w.cell? ⟨b,off+k*3+1,none⟩=some (.int .i64 e.2.1)/\w.cell? ⟨b,off+k*3+2,none⟩=some (.int .i64 e.2.2):=by
 have hl:=Y5 (fun e:Ev=>[Value.int .i64 e.1,.int .i64 e.2.1,.int .i64 e.2.2]) 3 (fun _=>rfl) es;have hlt:k<es.length:=(List.getElem?_eq_some_iff.1 hk).1;obtain ⟨b,off,rfl,hB,hc⟩:=h.open_ (by unfold SV;rw [hl];omega);have h0:=flat_get (fun e:Ev=>[Value.int .i64 e.1,.int .i64 e.2.1,.int .i64 e.2.2]) 3 (fun _=>rfl) es k e hk;refine ⟨b,off,rfl,hB,?_,?_,?_⟩
 · have:=hc (k*3+0) (.int .i64 e.1) (by unfold SV;rw [h0 0 (by omega)];rfl);simpa using this
 · have:=hc (k*3+1) (.int .i64 e.2.1) (by unfold SV;rw [h0 1 (by omega)];rfl);rwa [show off+(k*3+1)=off+k*3+1 by omega] at this
 · have:=hc (k*3+2) (.int .i64 e.2.2) (by unfold SV;rw [h0 2 (by omega)];rfl);rwa [show off+(k*3+2)=off+k*3+2 by omega] at this
end
end Go.Proofs.YthnenedoblncjaaGreatDoor