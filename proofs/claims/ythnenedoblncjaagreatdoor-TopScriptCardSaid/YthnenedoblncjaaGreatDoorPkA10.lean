/- DecFacts RoundMath2 Decode -/
import Derived.Test.YthnenedoblncjaaGreatDoorPkA02
import Derived.Test.YthnenedoblncjaaGreatDoorPkA05
import Derived.Test.YthnenedoblncjaaGreatDoorPkA06
set_option maxRecDepth 1000000
set_option maxHeartbeats 8000000
namespace Go.Proofs.YthnenedoblncjaaGreatDoor
open Go.Proofs.Tryz
section
open Go.RowKit
abbrev Gd:=Bool × Int × List (Int × Int)
def Zk(v:Int):Nat:=(ZO v).toNat
def Y8(rs:List Rg):Nat:=(rs.map fun r=>Zk r.v).sum
theorem Qq(v:Int):Zk v<=64:=by have:=W9 v;unfold Zk;omega
theorem TU(v:Int):((Zk v:Nat):Int)=ZO v:=by have:=W9 v;unfold Zk;omega
theorem y9(rs:List Rg):((Y8 rs:Nat):Int)=Yy rs:=by
 induction rs with
 | nil=>rfl
 | cons r rs ih =>
   have:=TU r.v;simp only [Y8,Yy,List.map_cons,List.sum_cons] at *;omega
theorem J5(rs:List Rg)(k:Nat)(r:Rg)(h:rs[k]?=some r):Y8 (rs.take (k+1))=Y8 (rs.take k)+Zk r.v:=by
 rw [List.take_add_one,h];simp [Y8]
theorem TL(rs:List Rg)(k:Nat):Y8 (rs.take k)<=Y8 rs:=by
 have h:Y8 rs=Y8 (rs.take k)+Y8 (rs.drop k):=by
  conv=>lhs;rw [<- List.take_append_drop k rs]
  simp only [Y8,List.map_append,List.sum_append]
 omega
def Yd:List Rg->List Int->List Gd
 | [],_=>[]
 | r::rs,bs=>(r.d,r.v,XL bs (Zk r.v))::Yd rs (bs.drop (16*Zk r.v))
theorem SH:∀ (rs:List Rg) (bs:List Int) (k:Nat) (r:Rg),rs[k]?=some r ->
 Yd (rs.take (k+1)) bs=Yd (rs.take k) bs++[(r.d,r.v,XL (bs.drop (16*Y8 (rs.take k))) (Zk r.v))]
 | [],_,_,_,h=>by simp at h
 | q::rs,bs,0,r,h=>by
   have:q=r:=(by simpa using h);subst this;simp [Yd,Y8]
 | q::rs,bs,k+1,r,h=>by
   have ih:=SH rs (bs.drop (16*Zk q.v)) k r (by simpa using h);rw [List.take_succ_cons,List.take_succ_cons,Yd,Yd,ih,List.drop_drop];have:16*Zk q.v+16*Y8 (rs.take k)=16*Y8 (q::rs.take k):=(by simp [Y8];omega);rw [this];rfl
structure Rq where
 h:PH
 gs:List Gd
 ps:List (Int × Int)
 qs:List ((Int × Int) × Int)
def Yx:Rq:=⟨Y5,[],[],[]⟩
def UF(h:PH)(pl:List Int):Rq :=
 ⟨h,Yd h.rs pl,XL (pl.drop (16*Y8 h.rs)) (XT h.op h.vs).toNat,Xp (pl.drop (16*Y8 h.rs)) (WU h.op h.Z0).toNat⟩
def Zr(bs:List Int):Rq × Int :=
 if YX bs=0 then (UF (ZX bs).1 (bs.drop (ZX bs).2.1.toNat),0) else (Yx,YX bs)
def QM(g:Gr):Gd:=(g.1.d,g.1.v,g.2)
structure WG(w:World)(B:Nat)(q:Rq)(hrs:List Rg)(HA:Option Addr)(gs:List Gr)(GA PA QA:Option Addr):Prop where
 hh:Sl w B HA (rgCells hrs)
 hk:hrs.map Rg.key=q.h.rs.map Rg.key
 hg:Sl w B GA (rgCells (gs.map (·.1)))
 gk:Ey w B gs
 gd:gs.map QM=q.gs
 hp:Sl w B PA (Zg q.ps)
 hq:Sl w B QA (Wt q.qs)
def OC(q:Rq)(hrs:List Rg)(HA:Option Addr)(hc:Nat)(gs:List Gr)(GA:Option Addr)(gc:Nat)(PA:Option Addr)(pc:Nat)(QA:Option Addr)(qc:Nat):Value :=
 .agg #[.int .i64 q.h.op,.int .i64 q.h.vs,.slice HA hrs.length hc,.int .i64 q.h.Z0,.slice GA gs.length gc,.slice PA q.ps.length pc,.slice QA q.qs.length qc]
def Py(r:Rq × Int)(w:World)(e:Ending)(w':World):Prop :=
 ∃ hrs HA hc gs GA gc PA pc QA qc,e=.returned (.tuple #[OC r.1 hrs HA hc gs GA gc PA pc QA qc,.int .i64 r.2])/\Below w.heap.size w w'/\WG w' w'.heap.size r.1 hrs HA gs GA PA QA/\r.1.ps.length<=pc
theorem WG.zero(w:World)(B:Nat):WG w B Yx [] none [] none none none :=
 ⟨.nil _ _ _,rfl,.nil _ _ _,fun g hg=>by simp at hg,rfl,.nil _ _ _,.nil _ _ _⟩
theorem PS{w w':World}{c:Int}(hb:Below w.heap.size w w'):Py (Yx,c) w (.returned (.tuple #[.agg #[.int .i64 0,.int .i64 0,.slice none 0 0,.int .i64 0,.slice none 0 0,.slice none 0 0,.slice none 0 0],.int .i64 c])) w' :=
 ⟨[],none,0,[],none,0,none,0,none,0,rfl,hb,WG.zero _ _,Nat.le_refl _⟩
theorem WG.below{w w':World}{B:Nat}{q:Rq}{hrs:List Rg}{HA:Option Addr}{gs:List Gr}{GA PA QA:Option Addr}(h:WG w B q hrs HA gs GA PA QA)(hb:Below B w w'):WG w' B q hrs HA gs GA PA QA :=
 ⟨h.hh.below hb,h.hk,h.hg.below hb,fun g hg=>⟨(h.gk g hg).1,(h.gk g hg).2.below hb⟩,h.gd,h.hp.below hb,h.hq.below hb⟩
theorem WG.more{w:World}{B B':Nat}{q:Rq}{hrs:List Rg}{HA:Option Addr}{gs:List Gr}{GA PA QA:Option Addr}(h:WG w B q hrs HA gs GA PA QA)(hB:B<=B'):WG w B' q hrs HA gs GA PA QA :=
 ⟨h.hh.more hB,h.hk,h.hg.more hB,fun g hg=>⟨(h.gk g hg).1,(h.gk g hg).2.more hB⟩,h.gd,h.hp.more hB,h.hq.more hB⟩
end
section
open Go.RowKit
theorem Ud{bs:List Int}{h:PH}{n er:Int}(hp:ZX bs=(h,n,er))(hc:YX bs=0):
 er=0/\ZT h.op h.vs h.rs h.Z0=0/\0<=n/\n<=68/\0<=XT h.op h.vs/\0<=WU h.op h.Z0/\(XT h.op h.vs=0\/WU h.op h.Z0=0)/\(1<=XT h.op h.vs\/1<=WU h.op h.Z0)/\(bs.length:Int)=n+16*(Y8 h.rs:Int)+16*XT h.op h.vs+24*WU h.op h.Z0:=by
 have hn:=LV bs;have ho:=JV bs;unfold YX at hc;rw [hp] at hc hn ho;dsimp only at hc hn
 by_cases he:er=0
 · rw [if_pos he] at hc;have hk:ZT h.op h.vs h.rs h.Z0=0:=ho he;have hl:(bs.length:Int)=n+hpay h.op h.vs h.rs h.Z0:=by
    by_cases h1:(bs.length:Int)=n+hpay h.op h.vs h.rs h.Z0
    · exact h1
    · rw [if_neg h1] at hc;cases hc
   obtain ⟨h1,h2,h3,h4,h5,h6,h7,h8,_⟩:=Zu hk;unfold hpay at hl;rw [if_pos hk,<- y9] at hl;refine ⟨he,hk,hn.1,hn.2,?_,?_,?_,?_,?_⟩
   · unfold XT;split <;> (try split) <;> (try split) <;> (try split) <;> omega
   · unfold WU;split
     · omega
     · have:=h7 (by omega);omega
   · unfold XT WU
     by_cases e5:h.op=5
     · left;rw [if_neg (by omega),if_neg (by omega),if_neg (by omega),if_neg (by omega)]
     · right;rw [if_pos (by omega)]
   · unfold XT WU
     by_cases e5:h.op=5
     · right;rw [if_neg (by omega)];have:=h7 e5;omega
     · left;split <;> (try split) <;> (try split) <;> (try split) <;> omega
   · have e1:XT h.op h.vs=Xm h.op+h.vs:=by
      unfold XT Xm
      by_cases a1:h.op=1
      · have:=h4 (by omega);rw [if_pos a1,if_pos a1];omega
      · by_cases a2:h.op=2
        · have:=h4 (by omega);rw [if_neg a1,if_pos a2,if_neg a1,if_pos a2];omega
        · by_cases a3:h.op=3
          · rw [if_neg a1,if_neg a2,if_pos a3,if_neg a1,if_neg a2,if_neg (by omega)];omega
          · have:=h4 a3
            by_cases a4:h.op=4
            · rw [if_neg a1,if_neg a2,if_neg a3,if_pos a4,if_neg a1,if_neg a2,if_neg (by omega)];omega
            · rw [if_neg a1,if_neg a2,if_neg a3,if_neg a4,if_neg a1,if_neg a2,if_pos (by omega)];omega
     have e2:WU h.op h.Z0=h.Z0:=by
      unfold WU
      by_cases a:h.op=1\/h.op=2\/h.op=3\/h.op=4
      · rw [if_pos a];have:=h8 (by omega);omega
      · rw [if_neg a]
     rw [e1,e2];omega
 · rw [if_neg he] at hc;omega
section
variable {w w' wa:World}{B C g:Nat}{A:Option Addr}{xs:List Value}{P:Nat->Prop}{bs:List Int}
theorem RS.move(h:RS w P B g bs)(hb:∀ b,b<B\/b=g->w'.heap[b]?=w.heap[b]?):RS w' P B g bs:=by
 obtain ⟨A,c,h1,h2,h3,h4⟩:=h;exact ⟨A,c,(hb g (.inr rfl)).trans h1,h2,h3,h4.at_ fun b hlt _ _ _ _=>hb b (.inl hlt)⟩
theorem RS.chg{R:Nat->Prop}(h:RS w P B g bs)(hg:¬ R g):RS w R B g bs:=by
 obtain ⟨A,c,h1,h2,h3,h4⟩:=h;exact ⟨A,c,h1,hg,h3,h4⟩
def QI(w:World)(C:Nat)(gs:List Gr)(v:Value):Prop :=
 w.ownsRow C 38 3 v gs.length (rgCells (gs.map (·.1)))/\∀ g∈gs,g.1.n=g.2.length/\Sl w w.heap.size g.1.A (Zg g.2)/\(Zg g.2≠[]->∀ x,g.1.A=some x->C<=x.block/\v.ownBlock≠some x.block)
theorem QI.nil(w:World)(C:Nat):QI w C [] (.slice none 0 0):=⟨World.ownsRow_nil _ _ _ _,fun g hg=>by simp at hg⟩
theorem QI.move{gs:List Gr}{v:Value}(h:QI w C gs v)(hz:w.heap.size<=w'.heap.size)(hb:∀ b,C<=b->b<w.heap.size->w'.heap[b]?=w.heap[b]?):QI w' C gs v:=by
 refine ⟨AJ h.1 fun k hk=>hb k (ZG h.1 hk) (TN h.1 hk),fun g hg=>?_⟩;obtain ⟨h1,h2,h3⟩:=h.2 g hg;refine ⟨h1,(h2.at_ fun b hlt hx x hA hxb=>?_).more hz,h3⟩;subst hxb;exact hb _ (h3 hx x hA).1 hlt
theorem QI.l5{gs:List Gr}{v:Value}(h:QI w C gs v):Ey w w.heap.size gs:=fun g hg=>⟨(h.2 g hg).1,(h.2 g hg).2.1⟩
theorem AU {w7 wa w8:World} {C g' cap n:Nat} {gs:List Gr} {gr:Gr} {v:Value} {xs:List Value} (hq:QI w7 C gs v) (hb:Below w7.heap.size w7 wa)
 (YN:w8.ownsRow C 38 3 (.slice (some ⟨g',0,none⟩) n cap) n xs) (hn:n=(gs++[gr]).length) (hx:xs=rgCells ((gs++[gr]).map (·.1)))
 (ZQ:wa.grownBy w8 v.ownBlock) (hat:v.ownBlock=some g'\/g'=wa.heap.size)
 (hnew:gr.1.n=gr.2.length/\Sl w7 w7.heap.size gr.1.A (Zg gr.2)/\(Zg gr.2≠[]->∀ x,gr.1.A=some x->C<=x.block/\v.ownBlock≠some x.block)) :
 QI w8 C (gs++[gr]) (.slice (some ⟨g',0,none⟩) n cap):=by
 subst hn hx;refine ⟨YN,fun g hg=>?_⟩;have hg':g.1.n=g.2.length/\Sl w7 w7.heap.size g.1.A (Zg g.2)/\(Zg g.2≠[]->∀ x,g.1.A=some x->C<=x.block/\v.ownBlock≠some x.block):=by
  rcases List.mem_append.1 hg with h|h
  · exact hq.2 g h
  · rw [List.mem_singleton.1 h];exact hnew
 obtain ⟨h1,h2,h3⟩:=hg';refine ⟨h1,(h2.at_ fun b hlt hx x hA hxb=>?_).more (Nat.le_trans hb.size ZQ.size),fun hx x hA=>⟨(h3 hx x hA).1,?_⟩⟩
 · subst hxb;exact (ZQ.block _ (Nat.lt_of_lt_of_le hlt hb.size) (fun e=>(h3 hx x hA).2 e.symm)).trans (hb.block _ hlt)
 · have:=h2.bH hx hA;have:=hb.size;rcases hat with h|h
   · rw [show (Value.slice (some ⟨g',0,none⟩) (gs++[gr]).length cap).ownBlock=some g' from rfl,<- h];exact (h3 hx x hA).2
   · intro e;have:g'=x.block:=(by simpa [Value.ownBlock] using e);omega
def PD(C q g b:Nat):Prop:=b<C/\b≠q/\b≠g
end
def KT(w:World)(b:Nat)(u0 u1 u2 u3 u4 u5 u6:Value):World :=
 ((((((w.setCell ⟨b,0,none⟩ u0).setCell ⟨b,1,none⟩ u1).setCell ⟨b,2,none⟩ u2).setCell ⟨b,3,none⟩ u3).setCell ⟨b,4,none⟩ u4).setCell ⟨b,5,none⟩ u5).setCell ⟨b,6,none⟩ u6
theorem TT{w:World}{b:Nat}{t:TypeId}{v0 v1 v2 v3 v4 v5 v6:Value}(B:Z6 w b t #[v0,v1,v2,v3,v4,v5,v6])(u0 u1 u2 u3 u4 u5 u6:Value):
 (w.setCell ⟨b,0,none⟩ u0).cell? ⟨b,0,none⟩=some u0/\((w.setCell ⟨b,0,none⟩ u0).setCell ⟨b,1,none⟩ u1).cell? ⟨b,1,none⟩=some u1 /\
 (((w.setCell ⟨b,0,none⟩ u0).setCell ⟨b,1,none⟩ u1).setCell ⟨b,2,none⟩ u2).cell? ⟨b,2,none⟩=some u2 /\
 ((((w.setCell ⟨b,0,none⟩ u0).setCell ⟨b,1,none⟩ u1).setCell ⟨b,2,none⟩ u2).setCell ⟨b,3,none⟩ u3).cell? ⟨b,3,none⟩=some u3 /\
 (((((w.setCell ⟨b,0,none⟩ u0).setCell ⟨b,1,none⟩ u1).setCell ⟨b,2,none⟩ u2).setCell ⟨b,3,none⟩ u3).setCell ⟨b,4,none⟩ u4).cell? ⟨b,4,none⟩=some u4 /\
 ((((((w.setCell ⟨b,0,none⟩ u0).setCell ⟨b,1,none⟩ u1).setCell ⟨b,2,none⟩ u2).setCell ⟨b,3,none⟩ u3).setCell ⟨b,4,none⟩ u4).setCell ⟨b,5,none⟩ u5).cell? ⟨b,5,none⟩=some u5 /\
 (((((((w.setCell ⟨b,0,none⟩ u0).setCell ⟨b,1,none⟩ u1).setCell ⟨b,2,none⟩ u2).setCell ⟨b,3,none⟩ u3).setCell ⟨b,4,none⟩ u4).setCell ⟨b,5,none⟩ u5).setCell ⟨b,6,none⟩ u6).cell? ⟨b,6,none⟩=some u6:=by
 have s0:Z6 _ b t #[u0,v1,v2,v3,v4,v5,v6]:=B.set 0 u0;have s1:Z6 _ b t #[u0,u1,v2,v3,v4,v5,v6]:=s0.set 1 u1;have s2:Z6 _ b t #[u0,u1,u2,v3,v4,v5,v6]:=s1.set 2 u2;have s3:Z6 _ b t #[u0,u1,u2,u3,v4,v5,v6]:=s2.set 3 u3;have s4:Z6 _ b t #[u0,u1,u2,u3,u4,v5,v6]:=s3.set 4 u4;have s5:Z6 _ b t #[u0,u1,u2,u3,u4,u5,v6]:=s4.set 5 u5;have s6:Z6 _ b t #[u0,u1,u2,u3,u4,u5,u6]:=s5.set 6 u6;exact ⟨s0.q0 rfl,s1.q1 rfl,s2.q2 rfl,s3.q3 rfl,s4.q4 rfl,s5.q5 rfl,s6.q6 rfl⟩
theorem Kt(w:World)(b:Nat)(u0 u1 u2 u3 u4 u5 u6:Value):(KT w b u0 u1 u2 u3 u4 u5 u6).heap.size=w.heap.size:=by simp [KT,World.size_setCell]
theorem GD(w:World)(b:Nat)(u0 u1 u2 u3 u4 u5 u6:Value)(k:Nat)(hk:k≠b):(KT w b u0 u1 u2 u3 u4 u5 u6).heap[k]?=w.heap[k]?:=by
 unfold KT
 iterate 7 rw [Below.heap_setCell _ _ _ k hk]
theorem TS{w0 w:World}{b:Nat}(h:Below w0.heap.size w0 w)(hb:w0.heap.size<=b)(u0 u1 u2 u3 u4 u5 u6:Value):Below w0.heap.size w0 (KT w b u0 u1 u2 u3 u4 u5 u6):=by
 unfold KT;have st:∀ (w1:World) (o:Nat) (u:Value),Below w0.heap.size w0 w1->Below w0.heap.size w0 (w1.setCell ⟨b,o,none⟩ u):=fun w1 o u h1=>h1.setCell hb u;exact st _ _ _ (st _ _ _ (st _ _ _ (st _ _ _ (st _ _ _ (st _ _ _ (st _ _ _ h))))))
end
section
open Go.RowKit
theorem uV(x:Int)(n:Nat):le ((List.range n).map fun k=>x / 256 ^ k % 256)=x % 256 ^ n:=by
 induction n with
 | zero=>simp [le]
 | succ n ih =>
   rw [List.range_succ,List.map_append,List.map_singleton,Iq,ih,List.length_map,List.length_range];have h:=Int.emod_add_mul_ediv (x / 256 ^ n) 256;have h1:=Int.emod_add_mul_ediv x (256 ^ n);have h2:=Int.emod_add_mul_ediv x (256 ^ (n+1));rw [NS] at h;have e:(256:Int) ^ (n+1)=256 ^ n*256:=Int.pow_succ 256 n;rw [e] at h2;have e2:(256:Int) ^ n*(256*(x / 256 ^ (n+1)))=256 ^ n*256*(x / (256 ^ n*256)):=(by rw [<- Int.mul_assoc,e]);have h3:(256:Int) ^ n*(x / 256 ^ n % 256+256*(x / 256 ^ (n+1)))=256 ^ n*(x / 256 ^ n):=(by rw [h]);rw [Int.mul_add,e2] at h3;rw [e,Int.mul_comm (x / 256 ^ n % 256)];omega
theorem uU{x:Int}(h:Vo x):le (YH x)=x:=by
 unfold YH;rw [uV];exact Int.emod_eq_of_lt h.1 h.2
theorem wP(x:Int):By (YH x):=by
 intro y hy;obtain ⟨k,_,rfl⟩:=List.mem_map.1 hy;omega
theorem uS:∀ (a b:List Int),By a->By b->a.length=b.length->le a=le b->a=b
 | [],[],_,_,_,_=>rfl
 | [],_::_,_,_,h,_=>by simp at h
 | _::_,[],_,_,h,_=>by simp at h
 | x::a,y::b,ha,hb,hl,he=>by
   simp only [le] at he;have h1:=ha.head;have h2:=hb.head;have hxy:x=y:=(by omega);have:le a=le b:=(by omega);rw [hxy,uS a b ha.tail hb.tail (by simpa using hl) this]
theorem C8{l:List Int}(hl:l.length=8)(hb:By l):Vo (le l):=by
 have:=FT l hb;rw [hl] at this;exact ⟨this.1,by have:=this.2;simpa using this⟩
theorem ML{l:List Int}(hl:l.length=8)(hb:By l):YH (le l)=l :=
 uS _ _ (wP _) hb (by rw [Wo,hl]) (uU (C8 hl hb))
theorem Ba{x:Int}(h:Vo x):IntKind.u64.wrap (Vv x)=x:=by
 unfold Vv wrap64;rw [IntKind.wrap_u64];unfold Vo at h;omega
theorem Vr(bs:List Int)(a k:Nat):eight bs (a+k)=eight (bs.drop a) k:=by unfold eight;rw [List.drop_drop]
theorem Dr(bs:List Int)(n:Nat):XL bs (n+1)=UM bs 0::XL (bs.drop 16) n:=by
 unfold XL;rw [List.range_succ_eq_map,List.map_cons,List.map_map]
 congr 1
 refine List.map_congr_left fun i _=>?_;show UM bs (i+1)=UM (bs.drop 16) i;unfold UM;rw [<- Vr,<- Vr,show 16*(i+1)=16+16*i by omega,show 16+16*i+8=16+(16*i+8) by omega]
theorem Gg(bs:List Int)(n:Nat):Xp bs (n+1)=Ws bs 0::Xp (bs.drop 24) n:=by
 unfold Xp;rw [List.range_succ_eq_map,List.map_cons,List.map_map]
 congr 1
 refine List.map_congr_left fun i _=>?_;show Ws bs (i+1)=Ws (bs.drop 24) i;unfold Ws;rw [<- Vr,<- Vr,<- Vr,show 24*(i+1)=24+24*i by omega,show 24+24*i+8=24+(24*i+8) by omega,show 24+24*i+16=24+(24*i+16) by omega]
theorem AO{bs:List Int}(h:16<=bs.length)(hb:By bs):XW (UM bs 0)=bs.take 16:=by
 unfold XW UM jo;have l0:(eight bs (16*0)).length=8:=Wx (by omega);have l1:(eight bs (16*0+8)).length=8:=Wx (by omega);rw [Ba (C8 l0 (WJ hb _)),Ba (C8 l1 (WJ hb _)),ML l0 (WJ hb _),ML l1 (WJ hb _)];have:=Gc bs 0;rw [Nat.mul_zero,List.drop_zero] at this
 conv=>rhs;rw [this,<- List.append_assoc]
 rw [Nat.mul_zero] at l0 l1 ⊢;rw [List.take_left' (by rw [List.length_append,l0,l1])]
theorem iH{bs:List Int}(h:24<=bs.length)(hb:By bs):q24 (Ws bs 0)=bs.take 24:=by
 have h1:=AO (by omega) hb;have l2:(eight bs (24*0+16)).length=8:=Wx (by omega);have hp:(Ws bs 0).1=UM bs 0:=rfl;unfold q24;rw [hp,h1];unfold Ws;rw [ML l2 (WJ hb _)];unfold eight;rw [Nat.mul_zero,show 0+16=16 by omega,show 24=16+8 by omega,List.take_add]
theorem QK:∀ (n:Nat) (bs:List Int),16*n<=bs.length->By bs->(XL bs n).flatMap XW=bs.take (16*n)
 | 0,bs,_,_=>by simp [XL]
 | n+1,bs,h,hb=>by
   rw [Dr,List.flatMap_cons,AO (by omega) hb,QK n (bs.drop 16) (by rw [List.length_drop];omega) (hb.drop _),show 16*(n+1)=16+16*n by omega,List.take_add]
theorem LG:∀ (n:Nat) (bs:List Int),24*n<=bs.length->By bs->(Xp bs n).flatMap q24=bs.take (24*n)
 | 0,bs,_,_=>by simp [Xp]
 | n+1,bs,h,hb=>by
   rw [Gg,List.flatMap_cons,iH (by omega) hb,LG n (bs.drop 24) (by rw [List.length_drop];omega) (hb.drop _),show 24*(n+1)=24+24*n by omega,List.take_add]
theorem iJ(rs:List Rg)(h:rs.any Yq=false):(rs.map VK).map Rg.key=rs.map Rg.key:=by
 rw [List.map_map];refine List.map_congr_left fun r hr=>?_;have:=List.any_eq_false.1 h r hr;unfold Yq at this
 have hn:r.n=0:=by have:¬ 0<r.n:=by simpa using this
                   omega
 show (r.d,r.v,0)=(r.d,r.v,r.n);rw [hn]
theorem Ad{p:Rg->Bool}(f:Bool × Int × Nat->Bool)(hp:∀ r,p r=f r.key){rs rs':List Rg}(h:rs.map Rg.key=rs'.map Rg.key):rs.any p=rs'.any p:=by
 have e:∀ l:List Rg,l.any p=(l.map Rg.key).any f:=fun l=>by
  rw [List.any_map];congr 1;funext r;exact hp r
 rw [e,e,h]
theorem Av{rs rs':List Rg}(h:rs.map Rg.key=rs'.map Rg.key):rs.length=rs'.length:=by have:=congrArg List.length h;simpa using this
theorem Cx{op vs Z0:Int}{rs rs':List Rg}(h:rs.map Rg.key=rs'.map Rg.key):ZT op vs rs Z0=ZT op vs rs' Z0:=by
 unfold ZT;rw [Av h,Ad (p:=Zt) (fun k=>ZO k.2.1 == 0) (fun _=>rfl) h,Ad (p:=Yq) (fun k=>decide (0<k.2.2)) (fun _=>rfl) h]
theorem Ce{op vs Z0:Int}{rs rs':List Rg}(h:rs.map Rg.key=rs'.map Rg.key):Zx op vs rs Z0=Zx op vs rs' Z0:=by
 have e:∀ l:List Rg,l.map Zj=(l.map Rg.key).map (fun k=>k.2.1+(if k.1 then 128 else 0)):=fun l=>by rw [List.map_map];rfl
 unfold Zx;rw [Av h,e,e,h]
theorem vw{rs rs':List Rg}(h:rs.map Rg.key=rs'.map Rg.key):Y8 rs=Y8 rs':=by
 have e:∀ l:List Rg,Y8 l=((l.map Rg.key).map (fun k=>Zk k.2.1)).sum:=fun l=>by rw [List.map_map];rfl
 rw [e,e,h]
theorem Fq(g:Gr)(gs:List Gr):Y4 (g::gs)=g.2.flatMap XW++Y4 gs:=by simp [Y4]
theorem Lf:∀ (R:List Rg) (pay:List Int) (gs:List Gr) (hrs:List Rg),gs.map QM=Yd R pay->hrs.map Rg.key=R.map Rg.key->(∀ g∈gs,g.1.n=g.2.length)->16*Y8 R<=pay.length->By pay ->
 (gs.zip hrs).any Vz=false/\(gs.zip hrs).any Wy=false/\Y4 gs=pay.take (16*Y8 R)/\gs.length=hrs.length
 | [],pay,gs,hrs,hg,hk,_,_,_=>by
   have e1:gs=[]:=(by simpa [Yd] using hg);have e2:hrs=[]:=(by simpa using hk);subst e1 e2;exact ⟨rfl,rfl,by simp [Y4,Y8],rfl⟩
 | r::R,pay,gs,hrs,hg,hk,hn,hl,hb=>by
   cases gs with
   | nil=>simp [Yd] at hg
   | cons g gs =>
     cases hrs with
     | nil=>simp at hk
     | cons h hrs =>
       simp only [List.map_cons,List.cons.injEq,Yd] at hg hk;have hns:Y8 (r::R)=Zk r.v+Y8 R:=(by simp [Y8]);rw [hns] at hl;obtain ⟨i1,i2,i3,i4⟩:=Lf R (pay.drop (16*Zk r.v)) gs hrs hg.2 hk.2 (fun x hx=>hn x (by simp [hx])) (by rw [List.length_drop];omega) (hb.drop _);obtain ⟨g0,_⟩:=hg;obtain ⟨k0,_⟩:=hk;simp only [QM,Prod.mk.injEq] at g0;simp only [Rg.key,Prod.mk.injEq] at k0;have hg2:g.2.length=Zk r.v:=(by rw [g0.2.2,Y7]);have hgn:=hn g (by simp);have sz:Vz (g,h)=false:=by
        unfold Vz;dsimp only;rw [k0.2.1,<- TU];simp;omega
       have kd:Wy (g,h)=false:=by
        unfold Wy;dsimp only;rw [k0.1,k0.2.1,g0.1,g0.2.1];simp
       refine ⟨?_,?_,?_,by simp [i4]⟩
       · rw [List.zip_cons_cons,List.any_cons,sz,i1];rfl
       · rw [List.zip_cons_cons,List.any_cons,kd,i2];rfl
       · rw [Fq,i3,g0.2.2,QK _ _ (by omega) hb,hns,Nat.mul_add,List.take_add]
theorem KG {op vs Z0:Int} {rs hrs:List Rg} {gs:List Gr} {pl:List Int} (h:ZT op vs rs Z0=0) (hl:(pl.length:Int)=16*(Y8 rs:Int)+16*XT op vs+24*WU op Z0) (hby:By pl)
 (hk:hrs.map Rg.key=(rs.map VK).map Rg.key) (hg:gs.map QM=Yd (rs.map VK) pl) (hn:∀ g∈gs,g.1.n=g.2.length) :
 ZK op vs hrs Z0 gs (UF ⟨op,vs,rs.map VK,Z0⟩ pl).ps (UF ⟨op,vs,rs.map VK,Z0⟩ pl).qs=(Zx op vs rs Z0++pl,0):=by
 obtain ⟨z1,z2,z3,z4,z5,z6,z7,z8,hfull⟩:=Zu h;have hkr:=iJ rs hfull;have hkk:=hk.trans hkr;have hns:=vw hkr;have Pw:0<=XT op vs:=by unfold XT;split <;> (try split) <;> (try split) <;> (try split) <;> omega
 have jU:0<=WU op Z0:=by
  unfold WU;split
  · omega
  · have:=z7 (by omega);omega
 obtain ⟨c1,c2,c3,c4⟩:=Lf (rs.map VK) pl gs hrs hg hk hn (by rw [hns];omega) hby;unfold ZK UF;dsimp only;rw [Cx hkk,if_neg (by simpa using h),Y7,Wj,if_neg (by omega),c1,if_neg (by simp),c2,if_neg (by simp),c3,hns,Ce hkk];have hd:(pl.drop (16*Y8 rs)).length=16*(XT op vs).toNat+24*(WU op Z0).toNat:=by rw [List.length_drop];omega
 rw [QK _ _ (by omega) (hby.drop _),LG _ _ (by omega) (hby.drop _)];have hPQ:(XT op vs).toNat=0\/(WU op Z0).toNat=0:=by
  by_cases h5:op=5
  · left;unfold XT;rw [if_neg (by omega),if_neg (by omega),if_neg (by omega),if_neg (by omega)];rfl
  · right;unfold WU;rw [if_pos (by omega)];rfl
 have ht:(pl.drop (16*Y8 rs)).take (16*(XT op vs).toNat)++(pl.drop (16*Y8 rs)).take (24*(WU op Z0).toNat)=pl.drop (16*Y8 rs):=by
  rcases hPQ with e|e
  · rw [e] at hd ⊢;rw [Nat.mul_zero,List.take_zero,List.nil_append,List.take_of_length_le (by omega)]
  · rw [e] at hd ⊢;rw [Nat.mul_zero,List.take_zero,List.append_nil,List.take_of_length_le (by omega)]
 rw [List.append_assoc,ht,List.append_assoc,List.take_append_drop]
end
section
open Go.RowKit
theorem AA {w:World} {B:Nat} {A:Option Addr} {rs:List Rg} {x:Addr} {t:TypeId} {a b c:Int} {A1 A2 A3 A4:Option Addr} {n1 n2 n3 n4 c1 c2 c3 c4:Nat} (hx:rgCells rs≠[]) (h:Sl w B A (rgCells rs)) (hA:A=some x)
 (hb:Z6 w x.block t #[.int .i64 a,.int .i64 b,.slice A1 n1 c1,.int .i64 c,.slice A2 n2 c2,.slice A3 n3 c3,.slice A4 n4 c4]):False:=by
 cases rs with
 | nil=>exact hx rfl
 | cons r rs =>
   obtain ⟨b',off,hA',hlt,c0,_⟩:=h.rg (k:=0) (r:=r) rfl;rw [hA'] at hA;cases hA;have hcell:=cell_of_row w b' (off+0*3) _ t (0,0) hb;rw [c0] at hcell;generalize off+0*3=i at hcell
   match i,hcell with
   | 0,h=>simp at h
   | 1,h=>simp at h
   | 2,h=>simp at h
   | 3,h=>simp at h
   | 4,h=>simp at h
   | 5,h=>simp at h
   | 6,h=>simp at h
   | i+7,h=>simp at h
section
variable (bs:List Int)(A:Option Addr)(c:Nat)(w:World)
variable (hs:Sl w w.heap.size A (ZY bs))(hcap:bs.length<=c)(hby:By bs)(hmax:bs.length<=300000)
variable (hfix:Fixed w)(hg:9<w.heap.size)
include hs hcap hby hmax hfix hg
theorem BS:Calls prog 164 #[.slice A bs.length c] w (Py (Zr bs) w):=by
 obtain ⟨w0,hw0⟩:=eE (w.alloc (.cells #[.int .i64 0,.int .i64 0,.slice none 0 0,.int .i64 0,.slice none 0 0,.slice none 0 0,.slice none 0 0] 182));have hb0:=bE hw0;have hz0:w0.heap.size=w.heap.size+1:=by rw [hw0];simp
 have R0:Z6 w0 w.heap.size 182 #[.int .i64 0,.int .i64 0,.slice none 0 0,.int .i64 0,.slice none 0 0,.slice none 0 0,.slice none 0 0]:=by rw [hw0];exact Z6.new _ _ _
 have Ih:∀ (j:Nat) (x:Int),bs[j]?=some x->0<=x/\x<=255:=fun j x h=>hby x (List.mem_of_getElem? h);have CL:=Hl bs A c w0 ((hs.below hb0).more hb0.size) hcap Ih (by omega) (hfix.below hb0 hg) (Nat.lt_of_lt_of_le hg hb0.size);have PA:∀ w1,Below w0.heap.size w0 w1->Calls prog 226 #[.slice A bs.length c] w1 (Parsed (ZX bs) w1):=fun w1 h1=>J9 bs A c w1 (((hs.below hb0).below (h1.mono hb0.size)).more (Nat.le_trans hb0.size h1.size)) hcap Ih;obtain ⟨cl,hcl⟩:∃ cl,YX bs=cl:=⟨_,rfl⟩;rw [hcl] at CL;obtain ⟨h,n,er,hpe⟩:∃ h n er,ZX bs=(h,n,er):=⟨_,_,_,rfl⟩;rw [hpe] at PA;have HD:Hid (Zr bs=if cl=0 then (UF h (bs.drop n.toNat),0) else (Yx,cl)):=by apply hide;unfold Zr;rw [hcl,hpe]
 by_cases hc0:cl=0
 · subst hc0;have DF:=Ud hpe hcl;obtain ⟨rfl,hk,hn0,hn1,Pw,jU,hPQ,sP,hlen⟩:=DF;obtain ⟨op,vs,rs,Z0⟩:=h;dsimp only at hk Pw jU hPQ sP hlen;obtain ⟨N,rfl⟩:=Int.eq_ofNat_of_zero_le hn0;rw [if_pos rfl,Int.toNat_natCast] at HD;have hcN:N<c:=(by omega);have hlN:N<bs.length:=(by omega);have zlx:¬ c=N:=(by omega);obtain ⟨b,off,rfl,hbl,_⟩:=hs.Q5 (by omega);have OE:=hide CL;have G8:=hide PA;have HK:=hide hk;have MP:=hide hpe;have zoe:=hide hcl;have Pp:=hide hby;have HS:=hide hs;clear CL PA hpe hcl hfix hg hby Ih hk hs;go_enter func164,ntmps164;go_wp2_with fail;rw [<- hw0];have HW0:=hide hw0;clear hw0;refine OE.out.mono ?_;rintro e w1 ⟨rfl,hb1⟩;have PA1:=G8.out w1 hb1;clear G8 OE;have G8:=hide PA1;clear PA1;go_wp2_with fail;refine G8.out.mono ?_;rintro e w2 ⟨HA,hc,rfl,hsl,hb2⟩;clear G8;have R2:=(R0.step hb1).step hb2;have HB2:=Z9 (Z9 hb0 hb1) hb2;dsimp only at hsl ⊢;have zlv:b<w2.heap.size:=(by have:=HB2.size;omega);obtain ⟨w3,hw3⟩:=eE (((w2.alloc (.cells #[.int .i64 op,.int .i64 vs,.slice HA rs.length hc,.int .i64 Z0] 53)).alloc (.cells #[.int .i64 op,.int .i64 vs,.slice HA rs.length hc,.int .i64 Z0,.slice none 0 0,.slice none 0 0,.slice none 0 0] 182)).alloc (.cells #[.slice (some ⟨b,off+N,none⟩) (bs.length - N) (c - N)] 264));have hb3:Below w2.heap.size w2 w3:=(by rw [hw3];exact Z7 (Z7 (bA) _) _);have hz3:w3.heap.size=w2.heap.size+3:=(by rw [hw3];simp);have H3:Z6 w3 w2.heap.size 53 #[.int .i64 op,.int .i64 vs,.slice HA rs.length hc,.int .i64 Z0]:=(by rw [hw3];exact ((Z6.new _ _ _).alloc _).alloc _);have Q3:Z6 w3 (w2.heap.size+1) 182 #[.int .i64 op,.int .i64 vs,.slice HA rs.length hc,.int .i64 Z0,.slice none 0 0,.slice none 0 0,.slice none 0 0]:=(by rw [hw3];exact (Z6.new2 _ _ _ _).alloc _);have G3:Z6 w3 (w2.heap.size+1+1) 264 #[.slice (some ⟨b,off+N,none⟩) (bs.length - N) (c - N)]:=by
    rw [hw3];have h:=Z6.new ((w2.alloc (.cells #[.int .i64 op,.int .i64 vs,.slice HA rs.length hc,.int .i64 Z0] 53)).alloc (.cells #[.int .i64 op,.int .i64 vs,.slice HA rs.length hc,.int .i64 Z0,.slice none 0 0,.slice none 0 0,.slice none 0 0] 182)) 264 #[.slice (some ⟨b,off+N,none⟩) (bs.length - N) (c - N)];simpa using h
   have HB3:=Z9 HB2 hb3;go_wp2;rw [<- hw3];have HW3:=hide hw3;clear hw3;obtain ⟨q,hq⟩:=eE (w2.heap.size+1);rw [<- hq] at Q3 G3 ⊢;obtain ⟨g,hgq⟩:=eE (q+1);rw [<- hgq] at G3 ⊢;obtain ⟨C,hC⟩:=eE w3.heap.size;obtain ⟨pl,hpl⟩:=eE (bs.drop N);have CJ:pl.length=bs.length - N:=(by rw [hpl,List.length_drop]);have hBP:∀ k,k<w.heap.size->PD C q g k:=fun k hk=>by have:=HB2.size;unfold PD;omega
   have rs3:RS w3 (PD C q g) w.heap.size g pl:=by
    refine ⟨some ⟨b,off+N,none⟩,c - N,by rw [CJ];exact G3,by unfold PD;omega,by rw [CJ];omega,?_⟩;rcases HS.out with h0|⟨b1,off1,hA1,hlt1,hc1⟩
    · rw [List.eq_nil_of_length_eq_zero (show bs.length=0 by have:=congrArg List.length h0;simpa [ZY] using this)] at hlN;simp at hlN
    · injection hA1 with hA1;injection hA1 with e1 e2;subst e1 e2;refine Sl.mk hlt1 fun j u hu=>?_;have:=hc1 (N+j) u (by rw [hpl] at hu;simpa [ZY,Nat.add_comm] using hu);rw [<- Nat.add_assoc] at this;exact (HB3.cell (p:=⟨b,_,none⟩) hlt1).trans this
   have hqe:w2.heap.size+1<=q/\q<=w2.heap.size+1:=(by omega);have hge:q+1<=g/\g<=q+1:=(by omega);have hCe:w3.heap.size<=C/\C<=w3.heap.size:=(by omega);clear hq hgq hC;have HR3:=hide rs3;have zX:=hide hBP;have wY:=hide CJ;have OH:=hide hpl;have HSL:=hide hsl;have hcb:=Lj HK.out;obtain ⟨dA,dB,ztw,hcP,hcQ⟩:=hcb;clear rs3 hBP CJ hpl hsl
   go_loopw [36] (fun i wr=>∃ (k:Nat) (gs:List Gr) (v:Value),k<=rs.length/\i=.int .i64 k/\Z8 (PD C q g) w3 wr/\Z6 wr q 182 #[.int .i64 op,.int .i64 vs,.slice HA rs.length hc,.int .i64 Z0,v,.slice none 0 0,.slice none 0 0] /\
    RS wr (PD C q g) w.heap.size g (pl.drop (16*Y8 (rs.take k)))/\QI wr C gs v/\gs.map QM=Yd (rs.take k) pl/\gs.length=k)
    (fun i _=>rs.length - (intOf i).toNat)
   case atStart=>exact ⟨0,[],.slice none 0 0,by omega,rfl,Z8.refl _ _,Q3,by simpa [Y8] using HR3.out,QI.nil _ _,rfl,rfl⟩
   case round =>
    obtain ⟨k,gs,v,hk,rfl,hkp,CK,hrd,hqi,hgd,hgl⟩:=hrel;have aB:=hide hgd;clear hgd;have lq:=hide hqi;clear hqi;have HRD:=hide hrd;clear hrd
    by_cases hlt:k<rs.length
    · obtain ⟨r,hr⟩:∃ r,rs[k]?=some r:=⟨_,List.getElem?_eq_getElem hlt⟩;obtain ⟨GZ,hoff,rfl,qF,d0,d1,d2⟩:=HSL.out.rg hr;have hPh:PD C q g GZ:=(by unfold PD;omega);have c0:=((hkp.cell hPh _).trans (hb3.cell (p:=⟨GZ,_,none⟩) qF)).trans d0;have c1:=((hkp.cell hPh _).trans (hb3.cell (p:=⟨GZ,_,none⟩) qF)).trans d1;have c2:=((hkp.cell hPh _).trans (hb3.cell (p:=⟨GZ,_,none⟩) qF)).trans d2;clear d0 d1 d2;obtain ⟨wx,hwx⟩:=eE (wr.alloc (.cells #[.bool r.d,.int .i64 r.v,.slice r.A r.n r.c] 38));have hbx:=bE hwx;have X0:Z6 wx wr.heap.size 38 #[.bool r.d,.int .i64 r.v,.slice r.A r.n r.c]:=(by rw [hwx];exact Z6.new _ _ _);have hzx:wx.heap.size=wr.heap.size+1:=(by rw [hwx];simp);have hCr:C<=wr.heap.size:=Nat.le_trans hCe.2 hkp.size;have Bw:=hide (J5 rs k r hr);have qW:=hide (SH rs pl k r hr);have HNL:=hide (TL rs (k+1));clear hr;have x0:=X0.q0 rfl;have x1:=X0.q1 rfl;have x2:=X0.q2 rfl;go_wp2_with fail;rw [<- hwx];have HWX:=hide hwx;clear hwx;refine (Us r.d r.v r.A r.n r.c wx).mono ?_;rintro e w5 ⟨rfl,hb5⟩;rw [<- TU];have cB:=Qq r.v;have hsn:=Bw.out;have hnl:=HNL.out;have ztv:RS w5 (fun b=>b<w5.heap.size/\b≠g) w.heap.size g (pl.drop (16*Y8 (rs.take k))):=by
       refine ((HRD.out.move fun b' hb'=>?_).chg (fun h=>h.2 rfl));have hl:b'<wr.heap.size:=by
        rcases hb' with h|h
        · have:=HB3.size;have:=hkp.size;omega
        · have:=CK.lt;omega
       exact ((hb5.mono hbx.size).block b' hl).trans (hbx.block b' hl)
      have TK:=MI (fun b=>b<w5.heap.size/\b≠g) w.heap.size g w5 (fun k hk=>⟨by have:=HB3.size;have:=hkp.size;have:=hbx.size;have:=hb5.size;omega,by have:=HB2.size;omega⟩)
       (pl.drop (16*Y8 (rs.take k))) (Zk r.v) (by rw [List.length_drop,wY.out];omega) (by rw [List.length_drop,wY.out];omega) (by rw [OH.out];exact (Pp.out.drop _).drop _) (fun k hk=>hk.1) ztv
      have Ep:=hide TK;clear TK ztv x0 x1 x2;go_wp2_with fail;refine Ep.out.mono ?_;rintro e w6 ⟨Pq,rfl,k6,r6,s6,f6⟩;have h56:=hb5.size;have zsw:wr.heap.size<w5.heap.size:=(by omega);have tX:=CK.lt;have zmy:=HRD.out.lt;have zqb:=k6.size;have hch:∀ b',b'<wr.heap.size->b'≠g->w6.heap[b']?=wr.heap[b']?:=fun b' h1 h2=>(k6.block b' ⟨by omega,h2⟩).trans (((hb5.mono hbx.size).block b' h1).trans (hbx.block b' h1));have X6:Z6 w6 wr.heap.size 38 #[.bool r.d,.int .i64 r.v,.slice r.A r.n r.c]:=(X0.step hb5).kept k6 ⟨zsw,by omega⟩;have X7:Z6 (w6.setCell ⟨wr.heap.size,2,none⟩ (.slice Pq (Zk r.v) (Zk r.v))) wr.heap.size 38 #[.bool r.d,.int .i64 r.v,.slice Pq (Zk r.v) (Zk r.v)]:=X6.set 2 _;have Q6:Z6 w6 q 182 #[.int .i64 op,.int .i64 vs,.slice (some ⟨GZ,hoff,none⟩) rs.length hc,.int .i64 Z0,v,.slice none 0 0,.slice none 0 0]:=(hch q tX (by omega)).trans CK;have Q7:=Q6.far (p:=⟨wr.heap.size,2,none⟩) (by simp;omega) (.slice Pq (Zk r.v) (Zk r.v));have Cv:∀ b',b'<wr.heap.size->b'≠g->(w6.setCell ⟨wr.heap.size,2,none⟩ (.slice Pq (Zk r.v) (Zk r.v))).heap[b']?=wr.heap[b']?:=fun b' h1 h2=>(Below.heap_setCell w6 ⟨wr.heap.size,2,none⟩ _ b' (by simp;omega)).trans (hch b' h1 h2);have hz7:(w6.setCell ⟨wr.heap.size,2,none⟩ (.slice Pq (Zk r.v) (Zk r.v))).heap.size=w6.heap.size:=World.size_setCell _ _ _;have bB:QI (w6.setCell ⟨wr.heap.size,2,none⟩ (.slice Pq (Zk r.v) (Zk r.v))) C gs v:=lq.out.move (by omega) fun b' h1 h2=>Cv b' h2 (by omega);have s7:=s6.far (p:=⟨wr.heap.size,2,none⟩) (fun _ x hx=>by have:=(f6 x hx).1;simp;omega) (.slice Pq (Zk r.v) (Zk r.v))
      have r7:RS (w6.setCell ⟨wr.heap.size,2,none⟩ (.slice Pq (Zk r.v) (Zk r.v))) (PD C q g) w.heap.size g ((pl.drop (16*Y8 (rs.take k))).drop (16*Zk r.v)) :=
       (r6.chg (R:=PD C q g) (fun h=>h.2.2 rfl)).far (by omega) (by unfold PD;omega) zX.out 2 _
      have y2:=X6.q2 rfl;have fz2:=X6.frozen 2
      have hnew:∀ x,Pq=some x->C<=x.block/\v.ownBlock≠some x.block:=fun x hx=>by
       have h1:=(f6 x hx).1;refine ⟨by omega,fun e=>?_⟩;have:=TN lq.out.1 e;omega
      have aH:=hide hnew;have ak:=hide Cv;have aP:=hide s7;have HR7:=hide r7;have qV:=hide bB;have Yg:=bB.1;rw [hgl] at Yg;clear hnew hch Cv s7 s6 r7 r6 bB f6 Ep;have kxx:(16*Y8 (rs.take k))+16*Zk r.v=16*Y8 (rs.take (k+1)):=(by omega);have aD:=hide kxx;clear kxx;obtain ⟨w7,hw7⟩:=eE (w6.setCell ⟨wr.heap.size,2,none⟩ (.slice Pq (Zk r.v) (Zk r.v)));rw [<- hw7] at X7 Q7 hz7 ak aP HR7 qV Yg;have dF:=hw7.symm;have y0:=X7.q0 rfl;have y1:=X7.q1 rfl;have y2':=X7.q2 rfl;have q4:=Q7.q4 rfl;obtain ⟨i0,hi,hi0,hi1,hi2⟩:=info_parts RU;have iA:w6.heap.size<=w7.heap.size/\w7.heap.size<=w6.heap.size:=(by omega);have k17:Z8 (PD C q g) wr w7:=by
       have k1:Z8 (PD C q g) wr w6:=(Z8.of_below hbx (fun k hk=>by unfold PD at hk;omega)).trans ((Z8.of_below hb5 (fun k hk=>by unfold PD at hk;omega)).trans (k6.mono fun k hk=>by unfold PD at hk;omega));rw [hw7];exact k1.trans (Z8.set (by unfold PD;omega) 2 _ _)
      have K17:=hide k17;clear hw7 hz7 k17;have hC7:C<=w7.heap.size:=(by omega);go_wp2_with (at_builtin;refine wpList_append_lies _ rfl (.tmp 47) (.tmp 49) 32 rfl C 38 i0 (.agg #[.bool false,.int .i64 0,.slice none 0 0]) 3 40 underlying32 hi hi0 hi1 hi2 rfl (by decide) v k _ rfl (ZH Yg (bA)) ⟨w7.heap.size,0,none⟩ 1 1 [.bool r.d,.int .i64 r.v,.slice Pq (Zk r.v) (Zk r.v)] rfl rfl ?a1 ?a2 ?a3 ?a4 ?a5 ?a6 (w7.heap.size+1) ?a7 ?_)
      case a1=>exact ZF (Z6.new _ _ _)
      case a2=>simp [Value.oneCell']
      case a3=>omega
      case a4=>unfold maxLen;omega
      case a5=>omega
      case a6=>simp;omega
      case a7=>simp
      intro g' cap w8 XJ ZQ hat OZ;have N8:Below w7.heap.size w7 (w7.alloc (.cells #[.bool r.d,.int .i64 r.v,.slice Pq (Zk r.v) (Zk r.v)] 38)):=bA
      have sQ:QI w8 C (gs++[(⟨r.d,r.v,Pq,Zk r.v,Zk r.v⟩,XL (pl.drop (16*Y8 (rs.take k))) (Zk r.v))]) (.slice (some ⟨g',0,none⟩) (k+1) cap) :=
       AU qV.out N8 XJ (by simp [hgl]) (by simp [rgCells,Rg.cells]) ZQ (by simpa using hat) ⟨(Y7 _ _).symm,aP.out.more iA.1,fun _=>aH.out⟩
      have hgb:∀ b',b'<C->(w8.heap[b']?=w7.heap[b']?):=fun b' hb'=>by
       refine (ZQ.block b' (by simp;omega) (fun e=>?_)).trans (N8.block b' (by omega));have:=ZG Yg e.symm;omega
      have Q8:Z6 w8 q 182 #[.int .i64 op,.int .i64 vs,.slice (some ⟨GZ,hoff,none⟩) rs.length hc,.int .i64 Z0,v,.slice none 0 0,.slice none 0 0]:=(hgb q (by omega)).trans Q7;have R8:RS w8 (PD C q g) w.heap.size g (pl.drop (16*Y8 (rs.take (k+1)))):=by
       rw [<- aD.out,<- List.drop_drop];exact HR7.out.move fun b' hb'=>hgb b' (by have:=HB2.size;omega)
      have hz8:w7.heap.size<=w8.heap.size:=Nat.le_trans N8.size ZQ.size
      have K8:Z8 (PD C q g) wr w8 :=
       K17.out.trans ⟨ZQ.os.trans N8.os,ZQ.tape.trans N8.tape,ZQ.output.trans N8.output,hz8,fun b' hb'=>hgb b' hb'.1⟩
      have aK:=hide sQ;have HR8:=hide R8;have HK8:=hide K8;have p4:=Q8.q4 rfl;have fz4:=Q8.frozen 4;clear sQ R8 K8 hgb XJ ZQ q4 y0 y1 y2 y2' dF;go_wp2;go_roundw
      case rel =>
       refine ⟨k+1,_,_,by omega,by go_num,hkp.trans (HK8.out.trans (Z8.set (by unfold PD;omega) 4 _ _)),Q8.set 4 _,HR8.out.far (by omega) (by unfold PD;omega) zX.out 4 _,
        aK.out.move (by simp [World.size_setCell]) (fun b' h1 h2=>Below.heap_setCell w8 ⟨q,4,none⟩ _ b' (by simp;omega)),?_,by simp [hgl]⟩
       rw [List.map_append,aB.out,qW.out];rfl
      case measure=>simp [intOf];omega
    · obtain rfl:rs.length=k:=(by omega);rw [List.take_length] at HRD aB;obtain ⟨np,hnp⟩:=Int.eq_ofNat_of_zero_le Pw;obtain ⟨mq,mo⟩:=Int.eq_ofNat_of_zero_le jU;rw [hnp] at hlen hPQ hcP;rw [mo] at hlen hPQ hcQ;have CN:=Lm op vs Z0 wr dA dB HA rs.length hc;rw [hnp,mo] at CN;have HCN:=hide CN;have HPQ:=hide hPQ;have Hr:=H3.kept hkp (by unfold PD;omega);have Rr:=(R2.step hb3).kept hkp (by have:=HB2.size;unfold PD;omega);have h0:=Hr.q0 rfl;have h1:=Hr.q1 rfl;have h2:=Hr.q2 rfl;have h3:=Hr.q3 rfl;have Tq:=hide hnp;have jE:=hide mo;have tX:=CK.lt;have zma:=HRD.out.lt;have hkz:=hkp.size;have zpc:=HB2.size;clear CN hPQ hnp mo Pw jU sP;go_wp2_with fail;refine HCN.out.mono ?_;rintro e GX ⟨rfl,Vu⟩;have iy:=Vu.size
      have j4:RS GX (fun b=>b<GX.heap.size/\b≠g) w.heap.size g (pl.drop (16*Y8 rs)) :=
       (HRD.out.move fun b' hb'=>Vu.block b' (by omega)).chg (fun h=>h.2 rfl)
      have TK:=MI (fun b=>b<GX.heap.size/\b≠g) w.heap.size g GX (fun k hk=>⟨by omega,by omega⟩)
       (pl.drop (16*Y8 rs)) np (by rw [List.length_drop,wY.out];omega) (by rw [List.length_drop,wY.out];omega) (by rw [OH.out];exact (Pp.out.drop _).drop _) (fun k hk=>hk.1) j4
      have Ep:=hide TK;clear TK j4 h0 h1 h2 h3;go_wp2_with fail;refine Ep.out.mono ?_;rintro e KY ⟨A1,rfl,k11,r11,s11,f11⟩;have zuy:=k11.size;have jO:=(CK.step Vu).kept k11 ⟨by omega,by omega⟩;have R11:=(Rr.step Vu).kept k11 ⟨by omega,by omega⟩;have q5:=jO.q5 rfl;have fz5:=jO.frozen 5;obtain ⟨Kw,Rp⟩:=eE (KY.setCell ⟨q,5,none⟩ (.slice A1 np np));have Q12:Z6 Kw q 182 #[.int .i64 op,.int .i64 vs,.slice HA rs.length hc,.int .i64 Z0,v,.slice A1 np np,.slice none 0 0]:=(by rw [Rp];exact jO.set 5 _);have R12:=R11.far (p:=⟨q,5,none⟩) (by simp;omega) (.slice A1 np np);rw [<- Rp] at R12;have zqf:KY.heap.size<=Kw.heap.size/\Kw.heap.size<=KY.heap.size:=(by rw [Rp,World.size_setCell];omega);have r12:RS Kw (fun b=>b<Kw.heap.size/\b≠g) w.heap.size g ((pl.drop (16*Y8 rs)).drop (16*np)):=by
       have:=((r11.chg (R:=PD C q g) (fun h=>h.2.2 rfl)).far (b:=q) (by omega) (by unfold PD;omega) zX.out 5 (.slice A1 np np)).chg (R:=fun b=>b<Kw.heap.size/\b≠g) (fun h=>h.2 rfl);rw [Rp] at this ⊢;exact this
      have TQ:=Eb (fun b=>b<Kw.heap.size/\b≠g) w.heap.size g Kw (fun k hk=>⟨by omega,by omega⟩)
       ((pl.drop (16*Y8 rs)).drop (16*np)) mq (by rw [List.length_drop,List.length_drop,wY.out];omega) (by rw [List.length_drop,List.length_drop,wY.out];omega) (by rw [OH.out];exact ((Pp.out.drop _).drop _).drop _) (fun k hk=>hk.1) r12
      have HTQ:=hide TQ;have e12:∀ b',b'≠q->Kw.heap[b']?=KY.heap[b']?:=fun b' hb'=>by rw [Rp];exact Below.heap_setCell KY ⟨q,5,none⟩ _ b' hb'
      have E12:=hide e12;have K12:Z8 (PD C q g) KY Kw:=(by rw [Rp];exact Z8.set (by unfold PD;omega) 5 _ _);have zoh:=hide K12;have uh:=Rp.symm;clear TQ r12 Rp e12 K12;go_wp2_with fail;refine HTQ.out.mono ?_;rintro e MK ⟨A2,rfl,k13,r13,s13,f13⟩;have zqg:=k13.size;have Q13:=Q12.kept k13 ⟨by omega,by omega⟩;have R13:=R12.kept k13 ⟨by omega,by omega⟩;have q6:=Q13.q6 rfl;have fz6:=Q13.frozen 6;obtain ⟨wN,CS⟩:=eE (MK.setCell ⟨q,6,none⟩ (.slice A2 mq mq));have bn:Z6 wN q 182 #[.int .i64 op,.int .i64 vs,.slice HA rs.length hc,.int .i64 Z0,v,.slice A1 np np,.slice A2 mq mq]:=(by rw [CS];exact Q13.set 6 _);have QZ:=R13.far (p:=⟨q,6,none⟩) (by simp;omega) (.slice A2 mq mq);rw [<- CS] at QZ;have zni:MK.heap.size<=wN.heap.size/\wN.heap.size<=MK.heap.size:=(by rw [CS,World.size_setCell];omega);have E14:Hid (∀ b',b'≠q->wN.heap[b']?=MK.heap[b']?):=hide fun b' hb'=>by rw [CS];exact Below.heap_setCell MK ⟨q,6,none⟩ _ b' hb'
      have K14:Hid (Z8 (PD C q g) MK wN):=(by apply hide;rw [CS];exact Z8.set (by unfold PD;omega) 6 _ _);have znt:=CS.symm;clear CS uh;have q0:=bn.q0 rfl;have q1:=bn.q1 rfl;have q2:=bn.q2 rfl;have q3:=bn.q3 rfl;have q4:=bn.q4 rfl;have q5':=bn.q5 rfl;have q6':=bn.q6 rfl;have r0:=QZ.q0 rfl;have r1:=QZ.q1 rfl;have r2:=QZ.q2 rfl;have r3:=QZ.q3 rfl;have r4:=QZ.q4 rfl;have r5:=QZ.q5 rfl;have r6:=QZ.q6 rfl;have g0:=QZ.frozen 0;have g1:=QZ.frozen 1;have g2:=QZ.frozen 2;have g3:=QZ.frozen 3;have g4:=QZ.frozen 4;have g5:=QZ.frozen 5;have g6:=QZ.frozen 6;clear q5;obtain ⟨GA,gc,rfl,_⟩:=Zl lq.out.1;go_wp2;clear q0 q1 q2 q3 q4 q5' q6' q6 r0 r1 r2 r3 r4 r5 r6 g0 g1 g2 g3 g4 g5 g6;obtain ⟨e0,e1,e2,e3,e4,e5,e6⟩:=TT QZ (.int .i64 op) (.int .i64 vs) (.slice HA rs.length hc) (.int .i64 Z0) (.slice GA rs.length gc) (.slice A1 np np) (.slice A2 mq mq);rw [HD.out];refine bodyPost_ret (v:=.tuple #[.agg #[.int .i64 op,.int .i64 vs,.slice HA rs.length hc,.int .i64 Z0,.slice GA rs.length gc,.slice A1 np np,.slice A2 mq mq],.int .i64 0]) (by simp [results,Tryz.results164,go_sem,e0,e1,e2,e3,e4,e5,e6]) rfl ?_;clear e0 e1 e2 e3 e4 e5 e6;obtain ⟨W,hW⟩:=eE (KT wN w.heap.size (.int .i64 op) (.int .i64 vs) (.slice HA rs.length hc) (.int .i64 Z0) (.slice GA rs.length gc) (.slice A1 np np) (.slice A2 mq mq));have hWz:wN.heap.size<=W.heap.size:=(by rw [hW,Kt];exact Nat.le_refl _);have eW:∀ b',b'≠w.heap.size->W.heap[b']?=wN.heap[b']?:=fun b' hb'=>by rw [hW];exact GD wN _ _ _ _ _ _ _ _ b' hb'
      have zpa:Below w.heap.size w wN:=(((((HB3.trans (hkp.below zX.out)).trans (Vu.mono (by omega))).trans (k11.below (fun k hk=>⟨by omega,by omega⟩))).trans (zoh.out.below zX.out)).trans (k13.below (fun k hk=>⟨by omega,by omega⟩))).trans (K14.out.below zX.out);have hBW:Below w.heap.size w W:=(by rw [hW];exact TS zpa (Nat.le_refl _) _ _ _ _ _ _ _);have e13:∀ b',b'<MK.heap.size->b'≠q->b'≠w.heap.size->W.heap[b']?=MK.heap[b']?:=fun b' h1 h2 h3=>(eW b' h3).trans (E14.out b' h2);have e11:∀ b',b'<KY.heap.size->b'≠q->b'≠g->b'≠w.heap.size->W.heap[b']?=KY.heap[b']?:=fun b' h1 h2 h3 h4=>(e13 b' (by omega) h2 h4).trans ((k13.block b' ⟨by omega,h3⟩).trans (E12.out b' h2));have er:∀ b',b'<wr.heap.size->b'≠q->b'≠g->b'≠w.heap.size->W.heap[b']?=wr.heap[b']?:=fun b' h1 h2 h3 h4=>(e11 b' (by omega) h2 h3 h4).trans ((k11.block b' ⟨by omega,h3⟩).trans (Vu.block b' h1));have QIW:QI W C gs (.slice GA gs.length gc):=lq.out.move (by omega) fun b' h1 h2=>er b' h2 (by omega) (by omega) (by omega)
      have dn:Sl W w2.heap.size HA (rgCells rs):=HSL.out.at_ fun b' h1 hx x hA hxb=>by
       refine (er b' (by omega) (by omega) (by omega) ?_).trans ((hkp.block b' (by unfold PD;omega)).trans (hb3.block b' h1));subst hxb;intro e;exact AA hx HSL.out hA (by rw [e];exact R2)
      have jg:Sl W KY.heap.size A1 (Zg (XL (pl.drop (16*Y8 rs)) np)):=s11.at_ fun b' h1 hx x hA hxb=>by
       have:=f11 x hA;subst hxb;exact e11 _ h1 (by omega) (by omega) (by omega)
      have zyd:Sl W MK.heap.size A2 (Wt (Xp ((pl.drop (16*Y8 rs)).drop (16*np)) mq)):=s13.at_ fun b' h1 hx x hA hxb=>by
       have:=f13 x hA;subst hxb;exact e13 _ h1 (by omega) (by omega)
      have hqq:Xp ((pl.drop (16*Y8 rs)).drop (16*np)) mq=Xp (pl.drop (16*Y8 rs)) mq:=by
       rcases HPQ.out with h|h
       · rw [show np=0 by omega];simp
       · rw [show mq=0 by omega];rfl
      rw [hqq] at zyd;show Py (UF ⟨op,vs,rs,Z0⟩ (bs.drop N),0) w _ (KT wN w.heap.size _ _ _ _ _ _ _);rw [<- hW];clear hW;have hps:(UF ⟨op,vs,rs,Z0⟩ (bs.drop N)).ps=XL (pl.drop (16*Y8 rs)) np:=by
       show XL _ (XT op vs).toNat=_;rw [Tq.out,<- OH.out];rfl
      have RL:(UF ⟨op,vs,rs,Z0⟩ (bs.drop N)).qs=Xp (pl.drop (16*Y8 rs)) mq:=by
       show Xp _ (WU op Z0).toNat=_;rw [jE.out,<- OH.out];rfl
      refine ⟨rs,HA,hc,gs,GA,gc,A1,np,A2,mq,?_,hBW,?_,by rw [hps,Y7];exact Nat.le_refl _⟩
      · unfold OC;dsimp only;rw [hps,RL,Y7,Wj,hgl];rfl
      · refine ⟨dn.more (by omega),rfl,Sl.Xw QIW.1,QIW.l5,?_,?_,?_⟩
        · rw [aB.out,OH.out];rfl
        · dsimp only;rw [hps];exact jg.more (by omega)
        · dsimp only;rw [RL];exact zyd.more (by omega)
 · have hne:(cl != 0)=true:=(by simpa using hc0);rw [if_neg hc0] at HD;have OE:=hide CL;clear CL PA hpe hcl hc0 hfix hg hby Ih hs;go_enter func164,ntmps164;go_wp2_with fail;rw [<- hw0];have HW0:=hide hw0;clear hw0;refine OE.out.mono ?_;rintro e w1 ⟨rfl,hb1⟩;have R1:=R0.step hb1;have r0:=R1.q0 rfl;have r1:=R1.q1 rfl;have r2:=R1.q2 rfl;have r3:=R1.q3 rfl;have r4:=R1.q4 rfl;have r5:=R1.q5 rfl;have r6:=R1.q6 rfl;have f0:=R1.frozen 0;have f1:=R1.frozen 1;have f2:=R1.frozen 2;have f3:=R1.frozen 3;have f4:=R1.frozen 4;have f5:=R1.frozen 5;have f6:=R1.frozen 6;go_wp2;obtain ⟨e0,e1,e2,e3,e4,e5,e6⟩:=TT R1 (.int .i64 0) (.int .i64 0) (.slice none 0 0) (.int .i64 0) (.slice none 0 0) (.slice none 0 0) (.slice none 0 0);rw [HD.out];exact bodyPost_ret (v:=.tuple #[.agg #[.int .i64 0,.int .i64 0,.slice none 0 0,.int .i64 0,.slice none 0 0,.slice none 0 0,.slice none 0 0],.int .i64 cl]) (by simp [results,Tryz.results164,go_sem,e0,e1,e2,e3,e4,e5,e6]) rfl (PS (TS (Z9 hb0 hb1) (Nat.le_refl _) _ _ _ _ _ _ _))
end
end
end Go.Proofs.YthnenedoblncjaaGreatDoor