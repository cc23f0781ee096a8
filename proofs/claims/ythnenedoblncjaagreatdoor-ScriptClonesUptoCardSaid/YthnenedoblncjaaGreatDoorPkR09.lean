/- DecFacts RoundMath2 -/
import Derived.Test.YthnenedoblncjaaGreatDoorPkR04
import Derived.Test.YthnenedoblncjaaGreatDoorPkR05
set_option maxRecDepth 1000000
set_option maxHeartbeats 8000000
namespace Go.Proofs.YthnenedoblncjaaGreatDoor
section
open Go.RowKit
abbrev Gd:=Bool × Int × List (Int × Int)
def Zu(v:Int):Nat:=(ZJ v).toNat
def Zk(rs:List Rg):Nat:=(rs.map fun r=>Zu r.v).sum
theorem OX(v:Int):Zu v<=64:=by have:=Xv v;unfold Zu;omega
theorem Tv(v:Int):((Zu v:Nat):Int)=ZJ v:=by have:=Xv v;unfold Zu;omega
theorem qB(rs:List Rg):((Zk rs:Nat):Int)=YA rs:=by
 induction rs with
 | nil=>rfl
 | cons r rs ih =>
   have:=Tv r.v;simp only [Zk,YA,List.map_cons,List.sum_cons] at *;omega
theorem Hg(rs:List Rg)(k:Nat)(r:Rg)(h:rs[k]?=some r):Zk (rs.take (k+1))=Zk (rs.take k)+Zu r.v:=by
 rw [List.take_add_one,h];simp [Zk]
theorem Tf(rs:List Rg)(k:Nat):Zk (rs.take k)<=Zk rs:=by
 have h:Zk rs=Zk (rs.take k)+Zk (rs.drop k):=by
  conv=>lhs;rw [<- List.take_append_drop k rs]
  simp only [Zk,List.map_append,List.sum_append]
 omega
def Yg:List Rg->List Int->List Gd
 | [],_=>[]
 | r::rs,bs=>(r.d,r.v,XV bs (Zu r.v))::Yg rs (bs.drop (16*Zu r.v))
theorem Rv:∀ (rs:List Rg) (bs:List Int) (k:Nat) (r:Rg),rs[k]?=some r ->
 Yg (rs.take (k+1)) bs=Yg (rs.take k) bs++[(r.d,r.v,XV (bs.drop (16*Zk (rs.take k))) (Zu r.v))]
 | [],_,_,_,h=>by simp at h
 | q::rs,bs,0,r,h=>by
   have:q=r:=(by simpa using h);subst this;simp [Yg,Zk]
 | q::rs,bs,k+1,r,h=>by
   have ih:=Rv rs (bs.drop (16*Zu q.v)) k r (by simpa using h);rw [List.take_succ_cons,List.take_succ_cons,Yg,Yg,ih,List.drop_drop];have:16*Zu q.v+16*Zk (rs.take k)=16*Zk (q::rs.take k):=(by simp [Zk];omega);rw [this];rfl
structure Rq where
 h:PH
 gs:List Gd
 ps:List (Int × Int)
 qs:List ((Int × Int) × Int)
def XM:Rq:=⟨Zh,[],[],[]⟩
def Um(h:PH)(pl:List Int):Rq :=
 ⟨h,Yg h.rs pl,XV (pl.drop (16*Zk h.rs)) (XI h.op h.vs).toNat,XG (pl.drop (16*Zk h.rs)) (Xm h.op h.ZY).toNat⟩
def Zr(bs:List Int):Rq × Int :=
 if Y7 bs=0 then (Um (ZW bs).1 (bs.drop (ZW bs).2.1.toNat),0) else (XM,Y7 bs)
def Oq(g:Gr):Gd:=(g.1.d,g.1.v,g.2)
structure VX(w:World)(B:Nat)(q:Rq)(hrs:List Rg)(HA:Option Addr)(gs:List Gr)(GA PA QA:Option Addr):Prop where
 hh:Sl w B HA (rgCells hrs)
 hk:hrs.map Rg.key=q.h.rs.map Rg.key
 hg:Sl w B GA (rgCells (gs.map (·.1)))
 gk:dL w B gs
 gd:gs.map Oq=q.gs
 hp:Sl w B PA (Zl q.ps)
 hq:Sl w B QA (XC q.qs)
def Il(q:Rq)(hrs:List Rg)(HA:Option Addr)(hc:Nat)(gs:List Gr)(GA:Option Addr)(gc:Nat)(PA:Option Addr)(pc:Nat)(QA:Option Addr)(qc:Nat):Value :=
 .agg #[.int .i64 q.h.op,.int .i64 q.h.vs,.slice HA hrs.length hc,.int .i64 q.h.ZY,.slice GA gs.length gc,.slice PA q.ps.length pc,.slice QA q.qs.length qc]
def Oa(r:Rq × Int)(w:World)(e:Ending)(w':World):Prop :=
 ∃ hrs HA hc gs GA gc PA pc QA qc,e=.returned (.tuple #[Il r.1 hrs HA hc gs GA gc PA pc QA qc,.int .i64 r.2])/\Below w.heap.size w w'/\VX w' w'.heap.size r.1 hrs HA gs GA PA QA/\r.1.ps.length<=pc
theorem VX.zero(w:World)(B:Nat):VX w B XM [] none [] none none none :=
 ⟨.nil _ _ _,rfl,.nil _ _ _,fun g hg=>by simp at hg,rfl,.nil _ _ _,.nil _ _ _⟩
theorem Ol{w w':World}{c:Int}(hb:Below w.heap.size w w'):Oa (XM,c) w (.returned (.tuple #[.agg #[.int .i64 0,.int .i64 0,.slice none 0 0,.int .i64 0,.slice none 0 0,.slice none 0 0,.slice none 0 0],.int .i64 c])) w' :=
 ⟨[],none,0,[],none,0,none,0,none,0,rfl,hb,VX.zero _ _,Nat.le_refl _⟩
theorem VX.below{w w':World}{B:Nat}{q:Rq}{hrs:List Rg}{HA:Option Addr}{gs:List Gr}{GA PA QA:Option Addr}(h:VX w B q hrs HA gs GA PA QA)(hb:Below B w w'):VX w' B q hrs HA gs GA PA QA :=
 ⟨h.hh.below hb,h.hk,h.hg.below hb,fun g hg=>⟨(h.gk g hg).1,(h.gk g hg).2.below hb⟩,h.gd,h.hp.below hb,h.hq.below hb⟩
theorem VX.more{w:World}{B B':Nat}{q:Rq}{hrs:List Rg}{HA:Option Addr}{gs:List Gr}{GA PA QA:Option Addr}(h:VX w B q hrs HA gs GA PA QA)(hB:B<=B'):VX w B' q hrs HA gs GA PA QA :=
 ⟨h.hh.more hB,h.hk,h.hg.more hB,fun g hg=>⟨(h.gk g hg).1,(h.gk g hg).2.more hB⟩,h.gd,h.hp.more hB,h.hq.more hB⟩
end
section
open Go.RowKit
theorem TI{bs:List Int}{h:PH}{n er:Int}(hp:ZW bs=(h,n,er))(hc:Y7 bs=0):
 er=0/\ZM h.op h.vs h.rs h.ZY=0/\0<=n/\n<=68/\0<=XI h.op h.vs/\0<=Xm h.op h.ZY/\(XI h.op h.vs=0\/Xm h.op h.ZY=0)/\(1<=XI h.op h.vs\/1<=Xm h.op h.ZY)/\(bs.length:Int)=n+16*(Zk h.rs:Int)+16*XI h.op h.vs+24*Xm h.op h.ZY:=by
 have hn:=Kl bs;have ho:=GY bs;unfold Y7 at hc;rw [hp] at hc hn ho;dsimp only at hc hn
 by_cases he:er=0
 · rw [if_pos he] at hc;have hk:ZM h.op h.vs h.rs h.ZY=0:=ho he;have hl:(bs.length:Int)=n+hpay h.op h.vs h.rs h.ZY:=by
    by_cases h1:(bs.length:Int)=n+hpay h.op h.vs h.rs h.ZY
    · exact h1
    · rw [if_neg h1] at hc;cases hc
   obtain ⟨h1,h2,h3,h4,h5,h6,h7,h8,_⟩:=ZA hk;unfold hpay at hl;rw [if_pos hk,<- qB] at hl;refine ⟨he,hk,hn.1,hn.2,?_,?_,?_,?_,?_⟩
   · unfold XI;split <;> (try split) <;> (try split) <;> (try split) <;> omega
   · unfold Xm;split
     · omega
     · have:=h7 (by omega);omega
   · unfold XI Xm
     by_cases e5:h.op=5
     · left;rw [if_neg (by omega),if_neg (by omega),if_neg (by omega),if_neg (by omega)]
     · right;rw [if_pos (by omega)]
   · unfold XI Xm
     by_cases e5:h.op=5
     · right;rw [if_neg (by omega)];have:=h7 e5;omega
     · left;split <;> (try split) <;> (try split) <;> (try split) <;> omega
   · have e1:XI h.op h.vs=XF h.op+h.vs:=by
      unfold XI XF
      by_cases a1:h.op=1
      · have:=h4 (by omega);rw [if_pos a1,if_pos a1];omega
      · by_cases a2:h.op=2
        · have:=h4 (by omega);rw [if_neg a1,if_pos a2,if_neg a1,if_pos a2];omega
        · by_cases a3:h.op=3
          · rw [if_neg a1,if_neg a2,if_pos a3,if_neg a1,if_neg a2,if_neg (by omega)];omega
          · have:=h4 a3
            by_cases a4:h.op=4
            · rw [if_neg a1,if_neg a2,if_neg a3,if_pos a4,if_neg a1,if_neg a2,if_neg (by omega)];omega
            · rw [if_neg a1,if_neg a2,if_neg a3,if_neg a4,if_neg a1,if_neg a2,if_pos (by omega)];omega
     have e2:Xm h.op h.ZY=h.ZY:=by
      unfold Xm
      by_cases a:h.op=1\/h.op=2\/h.op=3\/h.op=4
      · rw [if_pos a];have:=h8 (by omega);omega
      · rw [if_neg a]
     rw [e1,e2];omega
 · rw [if_neg he] at hc;omega
section
variable {w w' wa:World}{B C g:Nat}{A:Option Addr}{xs:List Value}{P:Nat->Prop}{bs:List Int}
theorem RS.move(h:RS w P B g bs)(hb:∀ b,b<B\/b=g->w'.heap[b]?=w.heap[b]?):RS w' P B g bs:=by
 obtain ⟨A,c,h1,h2,h3,h4⟩:=h;exact ⟨A,c,(hb g (.inr rfl)).trans h1,h2,h3,h4.at_ fun b hlt _ _ _ _=>hb b (.inl hlt)⟩
theorem RS.chg{R:Nat->Prop}(h:RS w P B g bs)(hg:¬ R g):RS w R B g bs:=by
 obtain ⟨A,c,h1,h2,h3,h4⟩:=h;exact ⟨A,c,h1,hg,h3,h4⟩
def QI(w:World)(C:Nat)(gs:List Gr)(v:Value):Prop :=
 w.ownsRow C 38 3 v gs.length (rgCells (gs.map (·.1)))/\∀ g∈gs,g.1.n=g.2.length/\Sl w w.heap.size g.1.A (Zl g.2)/\(Zl g.2≠[]->∀ x,g.1.A=some x->C<=x.block/\v.ownBlock≠some x.block)
theorem QI.nil(w:World)(C:Nat):QI w C [] (.slice none 0 0):=⟨World.ownsRow_nil _ _ _ _,fun g hg=>by simp at hg⟩
theorem QI.move{gs:List Gr}{v:Value}(h:QI w C gs v)(hz:w.heap.size<=w'.heap.size)(hb:∀ b,C<=b->b<w.heap.size->w'.heap[b]?=w.heap[b]?):QI w' C gs v:=by
 refine ⟨LC h.1 fun k hk=>hb k (ZN h.1 hk) (KF h.1 hk),fun g hg=>?_⟩;obtain ⟨h1,h2,h3⟩:=h.2 g hg;refine ⟨h1,(h2.at_ fun b hlt hx x hA hxb=>?_).more hz,h3⟩;subst hxb;exact hb _ (h3 hx x hA).1 hlt
theorem QI.zxn{gs:List Gr}{v:Value}(h:QI w C gs v):dL w w.heap.size gs:=fun g hg=>⟨(h.2 g hg).1,(h.2 g hg).2.1⟩
theorem uT {w7 wa w8:World} {C g' cap n:Nat} {gs:List Gr} {gr:Gr} {v:Value} {xs:List Value} (hq:QI w7 C gs v) (hb:Below w7.heap.size w7 wa)
 (YZ:w8.ownsRow C 38 3 (.slice (some ⟨g',0,none⟩) n cap) n xs) (hn:n=(gs++[gr]).length) (hx:xs=rgCells ((gs++[gr]).map (·.1)))
 (ZL:wa.grownBy w8 v.ownBlock) (hat:v.ownBlock=some g'\/g'=wa.heap.size)
 (hnew:gr.1.n=gr.2.length/\Sl w7 w7.heap.size gr.1.A (Zl gr.2)/\(Zl gr.2≠[]->∀ x,gr.1.A=some x->C<=x.block/\v.ownBlock≠some x.block)) :
 QI w8 C (gs++[gr]) (.slice (some ⟨g',0,none⟩) n cap):=by
 subst hn hx;refine ⟨YZ,fun g hg=>?_⟩;have hg':g.1.n=g.2.length/\Sl w7 w7.heap.size g.1.A (Zl g.2)/\(Zl g.2≠[]->∀ x,g.1.A=some x->C<=x.block/\v.ownBlock≠some x.block):=by
  rcases List.mem_append.1 hg with h|h
  · exact hq.2 g h
  · rw [List.mem_singleton.1 h];exact hnew
 obtain ⟨h1,h2,h3⟩:=hg';refine ⟨h1,(h2.at_ fun b hlt hx x hA hxb=>?_).more (Nat.le_trans hb.size ZL.size),fun hx x hA=>⟨(h3 hx x hA).1,?_⟩⟩
 · subst hxb;exact (ZL.block _ (Nat.lt_of_lt_of_le hlt hb.size) (fun e=>(h3 hx x hA).2 e.symm)).trans (hb.block _ hlt)
 · have:=h2.zpl hx hA;have:=hb.size;rcases hat with h|h
   · rw [show (Value.slice (some ⟨g',0,none⟩) (gs++[gr]).length cap).ownBlock=some g' from rfl,<- h];exact (h3 hx x hA).2
   · intro e;have:g'=x.block:=(by simpa [Value.ownBlock] using e);omega
def PD(C q g b:Nat):Prop:=b<C/\b≠q/\b≠g
end
def Jd(w:World)(b:Nat)(u0 u1 u2 u3 u4 u5 u6:Value):World :=
 ((((((w.setCell ⟨b,0,none⟩ u0).setCell ⟨b,1,none⟩ u1).setCell ⟨b,2,none⟩ u2).setCell ⟨b,3,none⟩ u3).setCell ⟨b,4,none⟩ u4).setCell ⟨b,5,none⟩ u5).setCell ⟨b,6,none⟩ u6
theorem Tt{w:World}{b:Nat}{t:TypeId}{v0 v1 v2 v3 v4 v5 v6:Value}(B:Z7 w b t #[v0,v1,v2,v3,v4,v5,v6])(u0 u1 u2 u3 u4 u5 u6:Value):
 (w.setCell ⟨b,0,none⟩ u0).cell? ⟨b,0,none⟩=some u0/\((w.setCell ⟨b,0,none⟩ u0).setCell ⟨b,1,none⟩ u1).cell? ⟨b,1,none⟩=some u1 /\
 (((w.setCell ⟨b,0,none⟩ u0).setCell ⟨b,1,none⟩ u1).setCell ⟨b,2,none⟩ u2).cell? ⟨b,2,none⟩=some u2 /\
 ((((w.setCell ⟨b,0,none⟩ u0).setCell ⟨b,1,none⟩ u1).setCell ⟨b,2,none⟩ u2).setCell ⟨b,3,none⟩ u3).cell? ⟨b,3,none⟩=some u3 /\
 (((((w.setCell ⟨b,0,none⟩ u0).setCell ⟨b,1,none⟩ u1).setCell ⟨b,2,none⟩ u2).setCell ⟨b,3,none⟩ u3).setCell ⟨b,4,none⟩ u4).cell? ⟨b,4,none⟩=some u4 /\
 ((((((w.setCell ⟨b,0,none⟩ u0).setCell ⟨b,1,none⟩ u1).setCell ⟨b,2,none⟩ u2).setCell ⟨b,3,none⟩ u3).setCell ⟨b,4,none⟩ u4).setCell ⟨b,5,none⟩ u5).cell? ⟨b,5,none⟩=some u5 /\
 (((((((w.setCell ⟨b,0,none⟩ u0).setCell ⟨b,1,none⟩ u1).setCell ⟨b,2,none⟩ u2).setCell ⟨b,3,none⟩ u3).setCell ⟨b,4,none⟩ u4).setCell ⟨b,5,none⟩ u5).setCell ⟨b,6,none⟩ u6).cell? ⟨b,6,none⟩=some u6:=by
 have s0:Z7 _ b t #[u0,v1,v2,v3,v4,v5,v6]:=B.set 0 u0;have s1:Z7 _ b t #[u0,u1,v2,v3,v4,v5,v6]:=s0.set 1 u1;have s2:Z7 _ b t #[u0,u1,u2,v3,v4,v5,v6]:=s1.set 2 u2;have s3:Z7 _ b t #[u0,u1,u2,u3,v4,v5,v6]:=s2.set 3 u3;have s4:Z7 _ b t #[u0,u1,u2,u3,u4,v5,v6]:=s3.set 4 u4;have s5:Z7 _ b t #[u0,u1,u2,u3,u4,u5,v6]:=s4.set 5 u5;have s6:Z7 _ b t #[u0,u1,u2,u3,u4,u5,u6]:=s5.set 6 u6;exact ⟨s0.q0 rfl,s1.q1 rfl,s2.q2 rfl,s3.q3 rfl,s4.q4 rfl,s5.q5 rfl,s6.q6 rfl⟩
theorem Im(w:World)(b:Nat)(u0 u1 u2 u3 u4 u5 u6:Value):(Jd w b u0 u1 u2 u3 u4 u5 u6).heap.size=w.heap.size:=by simp [Jd,World.size_setCell]
theorem Dx(w:World)(b:Nat)(u0 u1 u2 u3 u4 u5 u6:Value)(k:Nat)(hk:k≠b):(Jd w b u0 u1 u2 u3 u4 u5 u6).heap[k]?=w.heap[k]?:=by
 unfold Jd
 iterate 7 rw [Below.heap_setCell _ _ _ k hk]
theorem Tq{w0 w:World}{b:Nat}(h:Below w0.heap.size w0 w)(hb:w0.heap.size<=b)(u0 u1 u2 u3 u4 u5 u6:Value):Below w0.heap.size w0 (Jd w b u0 u1 u2 u3 u4 u5 u6):=by
 unfold Jd;have st:∀ (w1:World) (o:Nat) (u:Value),Below w0.heap.size w0 w1->Below w0.heap.size w0 (w1.setCell ⟨b,o,none⟩ u):=fun w1 o u h1=>h1.setCell hb u;exact st _ _ _ (st _ _ _ (st _ _ _ (st _ _ _ (st _ _ _ (st _ _ _ (st _ _ _ h))))))
end
section
open Go.RowKit
theorem jR(x:Int)(n:Nat):le ((List.range n).map fun k=>x / 256 ^ k % 256)=x % 256 ^ n:=by
 induction n with
 | zero=>simp [le]
 | succ n ih =>
   rw [List.range_succ,List.map_append,List.map_singleton,Fv,ih,List.length_map,List.length_range];have h:=Int.emod_add_mul_ediv (x / 256 ^ n) 256;have h1:=Int.emod_add_mul_ediv x (256 ^ n);have h2:=Int.emod_add_mul_ediv x (256 ^ (n+1));rw [AP] at h;have e:(256:Int) ^ (n+1)=256 ^ n*256:=Int.pow_succ 256 n;rw [e] at h2;have e2:(256:Int) ^ n*(256*(x / 256 ^ (n+1)))=256 ^ n*256*(x / (256 ^ n*256)):=(by rw [<- Int.mul_assoc,e]);have h3:(256:Int) ^ n*(x / 256 ^ n % 256+256*(x / 256 ^ (n+1)))=256 ^ n*(x / 256 ^ n):=(by rw [h]);rw [Int.mul_add,e2] at h3;rw [e,Int.mul_comm (x / 256 ^ n % 256)];omega
theorem jQ{x:Int}(h:Ua x):le (XB x)=x:=by
 unfold XB;rw [jR];exact Int.emod_eq_of_lt h.1 h.2
theorem Pj(x:Int):By (XB x):=by
 intro y hy;obtain ⟨k,_,rfl⟩:=List.mem_map.1 hy;omega
theorem jO:∀ (a b:List Int),By a->By b->a.length=b.length->le a=le b->a=b
 | [],[],_,_,_,_=>rfl
 | [],_::_,_,_,h,_=>by simp at h
 | _::_,[],_,_,h,_=>by simp at h
 | x::a,y::b,ha,hb,hl,he=>by
   simp only [le] at he;have h1:=ha.head;have h2:=hb.head;have hxy:x=y:=(by omega);have:le a=le b:=(by omega);rw [hxy,jO a b ha.tail hb.tail (by simpa using hl) this]
theorem yu{l:List Int}(hl:l.length=8)(hb:By l):Ua (le l):=by
 have:=Cq l hb;rw [hl] at this;exact ⟨this.1,by have:=this.2;simpa using this⟩
theorem Ld{l:List Int}(hl:l.length=8)(hb:By l):XB (le l)=l :=
 jO _ _ (Pj _) hb (by rw [TD,hl]) (jQ (yu hl hb))
theorem vg{x:Int}(h:Ua x):IntKind.u64.wrap (VO x)=x:=by
 unfold VO wrap64;rw [IntKind.wrap_u64];unfold Ua at h;omega
theorem VD(bs:List Int)(a k:Nat):eight bs (a+k)=eight (bs.drop a) k:=by unfold eight;rw [List.drop_drop]
theorem yQ(bs:List Int)(n:Nat):XV bs (n+1)=UF bs 0::XV (bs.drop 16) n:=by
 unfold XV;rw [List.range_succ_eq_map,List.map_cons,List.map_map]
 congr 1
 refine List.map_congr_left fun i _=>?_;show UF bs (i+1)=UF (bs.drop 16) i;unfold UF;rw [<- VD,<- VD,show 16*(i+1)=16+16*i by omega,show 16+16*i+8=16+(16*i+8) by omega]
theorem Db(bs:List Int)(n:Nat):XG bs (n+1)=WK bs 0::XG (bs.drop 24) n:=by
 unfold XG;rw [List.range_succ_eq_map,List.map_cons,List.map_map]
 congr 1
 refine List.map_congr_left fun i _=>?_;show WK bs (i+1)=WK (bs.drop 24) i;unfold WK;rw [<- VD,<- VD,<- VD,show 24*(i+1)=24+24*i by omega,show 24+24*i+8=24+(24*i+8) by omega,show 24+24*i+16=24+(24*i+16) by omega]
theorem uQ{bs:List Int}(h:16<=bs.length)(hb:By bs):Vo (UF bs 0)=bs.take 16:=by
 unfold Vo UF zvq;have l0:(eight bs (16*0)).length=8:=WO (by omega);have l1:(eight bs (16*0+8)).length=8:=WO (by omega);rw [vg (yu l0 (Xc hb _)),vg (yu l1 (Xc hb _)),Ld l0 (Xc hb _),Ld l1 (Xc hb _)];have:=C8 bs 0;rw [Nat.mul_zero,List.drop_zero] at this
 conv=>rhs;rw [this,<- List.append_assoc]
 rw [Nat.mul_zero] at l0 l1 ⊢;rw [List.take_left' (by rw [List.length_append,l0,l1])]
theorem zuo{bs:List Int}(h:24<=bs.length)(hb:By bs):q24 (WK bs 0)=bs.take 24:=by
 have h1:=uQ (by omega) hb;have l2:(eight bs (24*0+16)).length=8:=WO (by omega);have hp:(WK bs 0).1=UF bs 0:=rfl;unfold q24;rw [hp,h1];unfold WK;rw [Ld l2 (Xc hb _)];unfold eight;rw [Nat.mul_zero,show 0+16=16 by omega,show 24=16+8 by omega,List.take_add]
theorem PK:∀ (n:Nat) (bs:List Int),16*n<=bs.length->By bs->(XV bs n).flatMap Vo=bs.take (16*n)
 | 0,bs,_,_=>by simp [XV]
 | n+1,bs,h,hb=>by
   rw [yQ,List.flatMap_cons,uQ (by omega) hb,PK n (bs.drop 16) (by rw [List.length_drop];omega) (hb.drop _),show 16*(n+1)=16+16*n by omega,List.take_add]
theorem J7:∀ (n:Nat) (bs:List Int),24*n<=bs.length->By bs->(XG bs n).flatMap q24=bs.take (24*n)
 | 0,bs,_,_=>by simp [XG]
 | n+1,bs,h,hb=>by
   rw [Db,List.flatMap_cons,zuo (by omega) hb,J7 n (bs.drop 24) (by rw [List.length_drop];omega) (hb.drop _),show 24*(n+1)=24+24*n by omega,List.take_add]
theorem zus(rs:List Rg)(h:rs.any V7=false):(rs.map Wm).map Rg.key=rs.map Rg.key:=by
 rw [List.map_map];refine List.map_congr_left fun r hr=>?_;have:=List.any_eq_false.1 h r hr;unfold V7 at this
 have hn:r.n=0:=by have:¬ 0<r.n:=by simpa using this
                   omega
 show (r.d,r.v,0)=(r.d,r.v,r.n);rw [hn]
theorem tH{p:Rg->Bool}(f:Bool × Int × Nat->Bool)(hp:∀ r,p r=f r.key){rs rs':List Rg}(h:rs.map Rg.key=rs'.map Rg.key):rs.any p=rs'.any p:=by
 have e:∀ l:List Rg,l.any p=(l.map Rg.key).any f:=fun l=>by
  rw [List.any_map];congr 1;funext r;exact hp r
 rw [e,e,h]
theorem uI{rs rs':List Rg}(h:rs.map Rg.key=rs'.map Rg.key):rs.length=rs'.length:=by have:=congrArg List.length h;simpa using this
theorem xH{op vs ZY:Int}{rs rs':List Rg}(h:rs.map Rg.key=rs'.map Rg.key):ZM op vs rs ZY=ZM op vs rs' ZY:=by
 unfold ZM;rw [uI h,tH (p:=Zq) (fun k=>ZJ k.2.1 == 0) (fun _=>rfl) h,tH (p:=V7) (fun k=>decide (0<k.2.2)) (fun _=>rfl) h]
theorem wT{op vs ZY:Int}{rs rs':List Rg}(h:rs.map Rg.key=rs'.map Rg.key):Zo op vs rs ZY=Zo op vs rs' ZY:=by
 have e:∀ l:List Rg,l.map YP=(l.map Rg.key).map (fun k=>k.2.1+(if k.1 then 128 else 0)):=fun l=>by rw [List.map_map];rfl
 unfold Zo;rw [uI h,e,e,h]
theorem j5{rs rs':List Rg}(h:rs.map Rg.key=rs'.map Rg.key):Zk rs=Zk rs':=by
 have e:∀ l:List Rg,Zk l=((l.map Rg.key).map (fun k=>Zu k.2.1)).sum:=fun l=>by rw [List.map_map];rfl
 rw [e,e,h]
theorem Bq(g:Gr)(gs:List Gr):Yu (g::gs)=g.2.flatMap Vo++Yu gs:=by simp [Yu]
theorem JJ:∀ (R:List Rg) (pay:List Int) (gs:List Gr) (hrs:List Rg),gs.map Oq=Yg R pay->hrs.map Rg.key=R.map Rg.key->(∀ g∈gs,g.1.n=g.2.length)->16*Zk R<=pay.length->By pay ->
 (gs.zip hrs).any Vs=false/\(gs.zip hrs).any TM=false/\Yu gs=pay.take (16*Zk R)/\gs.length=hrs.length
 | [],pay,gs,hrs,hg,hk,_,_,_=>by
   have e1:gs=[]:=(by simpa [Yg] using hg);have e2:hrs=[]:=(by simpa using hk);subst e1 e2;exact ⟨rfl,rfl,by simp [Yu,Zk],rfl⟩
 | r::R,pay,gs,hrs,hg,hk,hn,hl,hb=>by
   cases gs with
   | nil=>simp [Yg] at hg
   | cons g gs =>
     cases hrs with
     | nil=>simp at hk
     | cons h hrs =>
       simp only [List.map_cons,List.cons.injEq,Yg] at hg hk;have hns:Zk (r::R)=Zu r.v+Zk R:=(by simp [Zk]);rw [hns] at hl;obtain ⟨i1,i2,i3,i4⟩:=JJ R (pay.drop (16*Zu r.v)) gs hrs hg.2 hk.2 (fun x hx=>hn x (by simp [hx])) (by rw [List.length_drop];omega) (hb.drop _);obtain ⟨g0,_⟩:=hg;obtain ⟨k0,_⟩:=hk;simp only [Oq,Prod.mk.injEq] at g0;simp only [Rg.key,Prod.mk.injEq] at k0;have hg2:g.2.length=Zu r.v:=(by rw [g0.2.2,Zj]);have hgn:=hn g (by simp);have sz:Vs (g,h)=false:=by
        unfold Vs;dsimp only;rw [k0.2.1,<- Tv];simp;omega
       have kd:TM (g,h)=false:=by
        unfold TM;dsimp only;rw [k0.1,k0.2.1,g0.1,g0.2.1];simp
       refine ⟨?_,?_,?_,by simp [i4]⟩
       · rw [List.zip_cons_cons,List.any_cons,sz,i1];rfl
       · rw [List.zip_cons_cons,List.any_cons,kd,i2];rfl
       · rw [Bq,i3,g0.2.2,PK _ _ (by omega) hb,hns,Nat.mul_add,List.take_add]
theorem IY {op vs ZY:Int} {rs hrs:List Rg} {gs:List Gr} {pl:List Int} (h:ZM op vs rs ZY=0) (hl:(pl.length:Int)=16*(Zk rs:Int)+16*XI op vs+24*Xm op ZY) (hby:By pl)
 (hk:hrs.map Rg.key=(rs.map Wm).map Rg.key) (hg:gs.map Oq=Yg (rs.map Wm) pl) (hn:∀ g∈gs,g.1.n=g.2.length) :
 ZE op vs hrs ZY gs (Um ⟨op,vs,rs.map Wm,ZY⟩ pl).ps (Um ⟨op,vs,rs.map Wm,ZY⟩ pl).qs=(Zo op vs rs ZY++pl,0):=by
 obtain ⟨z1,z2,z3,z4,z5,z6,z7,z8,hfull⟩:=ZA h;have hkr:=zus rs hfull;have hkk:=hk.trans hkr;have hns:=j5 hkr;have Sm:0<=XI op vs:=by unfold XI;split <;> (try split) <;> (try split) <;> (try split) <;> omega
 have hQ0:0<=Xm op ZY:=by
  unfold Xm;split
  · omega
  · have:=z7 (by omega);omega
 obtain ⟨c1,c2,c3,c4⟩:=JJ (rs.map Wm) pl gs hrs hg hk hn (by rw [hns];omega) hby;unfold ZE Um;dsimp only;rw [xH hkk,if_neg (by simpa using h),Zj,WJ,if_neg (by omega),c1,if_neg (by simp),c2,if_neg (by simp),c3,hns,wT hkk];have hd:(pl.drop (16*Zk rs)).length=16*(XI op vs).toNat+24*(Xm op ZY).toNat:=by rw [List.length_drop];omega
 rw [PK _ _ (by omega) (hby.drop _),J7 _ _ (by omega) (hby.drop _)];have hPQ:(XI op vs).toNat=0\/(Xm op ZY).toNat=0:=by
  by_cases h5:op=5
  · left;unfold XI;rw [if_neg (by omega),if_neg (by omega),if_neg (by omega),if_neg (by omega)];rfl
  · right;unfold Xm;rw [if_pos (by omega)];rfl
 have ht:(pl.drop (16*Zk rs)).take (16*(XI op vs).toNat)++(pl.drop (16*Zk rs)).take (24*(Xm op ZY).toNat)=pl.drop (16*Zk rs):=by
  rcases hPQ with e|e
  · rw [e] at hd ⊢;rw [Nat.mul_zero,List.take_zero,List.nil_append,List.take_of_length_le (by omega)]
  · rw [e] at hd ⊢;rw [Nat.mul_zero,List.take_zero,List.append_nil,List.take_of_length_le (by omega)]
 rw [List.append_assoc,ht,List.append_assoc,List.take_append_drop]
end
end Go.Proofs.YthnenedoblncjaaGreatDoor