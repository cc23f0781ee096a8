/- DecFacts RoundMath2 Decode -/
import Derived.Test.YtfljlmleiggmjaaGreatDoorPkD02
import Derived.Test.YtfljlmleiggmjaaGreatDoorPkD05
import Derived.Test.YtfljlmleiggmjaaGreatDoorPkD06
set_option maxRecDepth 1000000
set_option maxHeartbeats 8000000
namespace Go.Proofs.YtfljlmleiggmjaaGreatDoor
open Go.Proofs.Tryz
section
open Go.RowKit
abbrev Gd:=Bool × Int × List (Int × Int)
def Zg(v:Int):Nat:=(ZN v).toNat
def YV(rs:List Rg):Nat:=(rs.map fun r=>Zg r.v).sum
theorem Ph(v:Int):Zg v<=64:=by have:=Wz v;unfold Zg;omega
theorem Tf(v:Int):((Zg v:Nat):Int)=ZN v:=by have:=Wz v;unfold Zg;omega
theorem wE(rs:List Rg):((YV rs:Nat):Int)=Yh rs:=by
 induction rs with
 | nil=>rfl
 | cons r rs ih =>
   have:=Tf r.v;simp only [YV,Yh,List.map_cons,List.sum_cons] at *;omega
theorem Iz(rs:List Rg)(k:Nat)(r:Rg)(h:rs[k]?=some r):YV (rs.take (k+1))=YV (rs.take k)+Zg r.v:=by
 rw [List.take_add_one,h];simp [YV]
theorem SS(rs:List Rg)(k:Nat):YV (rs.take k)<=YV rs:=by
 have h:YV rs=YV (rs.take k)+YV (rs.drop k):=by
  conv=>lhs;rw [<- List.take_append_drop k rs]
  simp only [YV,List.map_append,List.sum_append]
 omega
def XK:List Rg->List Int->List Gd
 | [],_=>[]
 | r::rs,bs=>(r.d,r.v,Xm bs (Zg r.v))::XK rs (bs.drop (16*Zg r.v))
theorem Rt:∀ (rs:List Rg) (bs:List Int) (k:Nat) (r:Rg),rs[k]?=some r ->
 XK (rs.take (k+1)) bs=XK (rs.take k) bs++[(r.d,r.v,Xm (bs.drop (16*YV (rs.take k))) (Zg r.v))]
 | [],_,_,_,h=>by simp at h
 | q::rs,bs,0,r,h=>by
   have:q=r:=(by simpa using h);subst this;simp [XK,YV]
 | q::rs,bs,k+1,r,h=>by
   have ih:=Rt rs (bs.drop (16*Zg q.v)) k r (by simpa using h);rw [List.take_succ_cons,List.take_succ_cons,XK,XK,ih,List.drop_drop];have:16*Zg q.v+16*YV (rs.take k)=16*YV (q::rs.take k):=(by simp [YV];omega);rw [this];rfl
structure Rq where
 h:PH
 gs:List Gd
 ps:List (Int × Int)
 qs:List ((Int × Int) × Int)
def Yk:Rq:=⟨YR,[],[],[]⟩
def Uc(h:PH)(pl:List Int):Rq :=
 ⟨h,XK h.rs pl,Xm (pl.drop (16*YV h.rs)) (Xu h.op h.vs).toNat,WU (pl.drop (16*YV h.rs)) (WX h.op h.Z0).toNat⟩
def Zz(bs:List Int):Rq × Int :=
 if Zb bs=0 then (Uc (ZW bs).1 (bs.drop (ZW bs).2.1.toNat),0) else (Yk,Zb bs)
def PU(g:Gr):Gd:=(g.1.d,g.1.v,g.2)
structure V7(w:World)(B:Nat)(q:Rq)(hrs:List Rg)(HA:Option Addr)(gs:List Gr)(GA PA QA:Option Addr):Prop where
 hh:Sl w B HA (rgCells hrs)
 hk:hrs.map Rg.key=q.h.rs.map Rg.key
 hg:Sl w B GA (rgCells (gs.map (·.1)))
 gk:uh w B gs
 gd:gs.map PU=q.gs
 hp:Sl w B PA (Zc q.ps)
 hq:Sl w B QA (Vs q.qs)
def Nj(q:Rq)(hrs:List Rg)(HA:Option Addr)(hc:Nat)(gs:List Gr)(GA:Option Addr)(gc:Nat)(PA:Option Addr)(pc:Nat)(QA:Option Addr)(qc:Nat):Value :=
 .agg #[.int .i64 q.h.op,.int .i64 q.h.vs,.slice HA hrs.length hc,.int .i64 q.h.Z0,.slice GA gs.length gc,.slice PA q.ps.length pc,.slice QA q.qs.length qc]
def Ob(r:Rq × Int)(w:World)(e:Ending)(w':World):Prop :=
 ∃ hrs HA hc gs GA gc PA pc QA qc,e=.returned (.tuple #[Nj r.1 hrs HA hc gs GA gc PA pc QA qc,.int .i64 r.2])/\Below w.heap.size w w'/\V7 w' w'.heap.size r.1 hrs HA gs GA PA QA/\r.1.ps.length<=pc
theorem V7.zero(w:World)(B:Nat):V7 w B Yk [] none [] none none none :=
 ⟨.nil _ _ _,rfl,.nil _ _ _,fun g hg=>by simp at hg,rfl,.nil _ _ _,.nil _ _ _⟩
theorem Oo{w w':World}{c:Int}(hb:Below w.heap.size w w'):Ob (Yk,c) w (.returned (.tuple #[.agg #[.int .i64 0,.int .i64 0,.slice none 0 0,.int .i64 0,.slice none 0 0,.slice none 0 0,.slice none 0 0],.int .i64 c])) w' :=
 ⟨[],none,0,[],none,0,none,0,none,0,rfl,hb,V7.zero _ _,Nat.le_refl _⟩
theorem V7.below{w w':World}{B:Nat}{q:Rq}{hrs:List Rg}{HA:Option Addr}{gs:List Gr}{GA PA QA:Option Addr}(h:V7 w B q hrs HA gs GA PA QA)(hb:Below B w w'):V7 w' B q hrs HA gs GA PA QA :=
 ⟨h.hh.below hb,h.hk,h.hg.below hb,fun g hg=>⟨(h.gk g hg).1,(h.gk g hg).2.below hb⟩,h.gd,h.hp.below hb,h.hq.below hb⟩
theorem V7.more{w:World}{B B':Nat}{q:Rq}{hrs:List Rg}{HA:Option Addr}{gs:List Gr}{GA PA QA:Option Addr}(h:V7 w B q hrs HA gs GA PA QA)(hB:B<=B'):V7 w B' q hrs HA gs GA PA QA :=
 ⟨h.hh.more hB,h.hk,h.hg.more hB,fun g hg=>⟨(h.gk g hg).1,(h.gk g hg).2.more hB⟩,h.gd,h.hp.more hB,h.hq.more hB⟩
end
section
open Go.RowKit
theorem Tx{bs:List Int}{h:PH}{n er:Int}(hp:ZW bs=(h,n,er))(hc:Zb bs=0):
 er=0/\ZT h.op h.vs h.rs h.Z0=0/\0<=n/\n<=68/\0<=Xu h.op h.vs/\0<=WX h.op h.Z0/\(Xu h.op h.vs=0\/WX h.op h.Z0=0)/\(1<=Xu h.op h.vs\/1<=WX h.op h.Z0)/\(bs.length:Int)=n+16*(YV h.rs:Int)+16*Xu h.op h.vs+24*WX h.op h.Z0:=by
 have hn:=Kw bs;have ho:=Il bs;unfold Zb at hc;rw [hp] at hc hn ho;dsimp only at hc hn
 by_cases he:er=0
 · rw [if_pos he] at hc;have hk:ZT h.op h.vs h.rs h.Z0=0:=ho he;have hl:(bs.length:Int)=n+hpay h.op h.vs h.rs h.Z0:=by
    by_cases h1:(bs.length:Int)=n+hpay h.op h.vs h.rs h.Z0
    · exact h1
    · rw [if_neg h1] at hc;cases hc
   obtain ⟨h1,h2,h3,h4,h5,h6,h7,h8,_⟩:=Zp hk;unfold hpay at hl;rw [if_pos hk,<- wE] at hl;refine ⟨he,hk,hn.1,hn.2,?_,?_,?_,?_,?_⟩
   · unfold Xu;split <;> (try split) <;> (try split) <;> (try split) <;> omega
   · unfold WX;split
     · omega
     · have:=h7 (by omega);omega
   · unfold Xu WX
     by_cases e5:h.op=5
     · left;rw [if_neg (by omega),if_neg (by omega),if_neg (by omega),if_neg (by omega)]
     · right;rw [if_pos (by omega)]
   · unfold Xu WX
     by_cases e5:h.op=5
     · right;rw [if_neg (by omega)];have:=h7 e5;omega
     · left;split <;> (try split) <;> (try split) <;> (try split) <;> omega
   · have e1:Xu h.op h.vs=WR h.op+h.vs:=by
      unfold Xu WR
      by_cases a1:h.op=1
      · have:=h4 (by omega);rw [if_pos a1,if_pos a1];omega
      · by_cases a2:h.op=2
        · have:=h4 (by omega);rw [if_neg a1,if_pos a2,if_neg a1,if_pos a2];omega
        · by_cases a3:h.op=3
          · rw [if_neg a1,if_neg a2,if_pos a3,if_neg a1,if_neg a2,if_neg (by omega)];omega
          · have:=h4 a3
            by_cases a4:h.op=4
            · rw [if_neg a1,if_neg a2,if_neg a3,if_pos a4,if_neg a1,if_neg a2,if_neg (by omega)];omega
            · rw [if_neg a1,if_neg a2,if_neg a3,if_neg a4,if_neg a1,if_neg a2,if_pos (by omega)];omega
     have e2:WX h.op h.Z0=h.Z0:=by
      unfold WX
      by_cases a:h.op=1\/h.op=2\/h.op=3\/h.op=4
      · rw [if_pos a];have:=h8 (by omega);omega
      · rw [if_neg a]
     rw [e1,e2];omega
 · rw [if_neg he] at hc;omega
section
variable {w w' wa:World}{B C g:Nat}{A:Option Addr}{xs:List Value}{P:Nat->Prop}{bs:List Int}
theorem RS.move(h:RS w P B g bs)(hb:∀ b,b<B\/b=g->w'.heap[b]?=w.heap[b]?):RS w' P B g bs:=by
 obtain ⟨A,c,h1,h2,h3,h4⟩:=h;exact ⟨A,c,(hb g (.inr rfl)).trans h1,h2,h3,h4.at_ fun b hlt _ _ _ _=>hb b (.inl hlt)⟩
theorem RS.chg{R:Nat->Prop}(h:RS w P B g bs)(hg:¬ R g):RS w R B g bs:=by
 obtain ⟨A,c,h1,h2,h3,h4⟩:=h;exact ⟨A,c,h1,hg,h3,h4⟩
def QI(w:World)(C:Nat)(gs:List Gr)(v:Value):Prop :=
 w.ownsRow C 61 3 v gs.length (rgCells (gs.map (·.1)))/\∀ g∈gs,g.1.n=g.2.length/\Sl w w.heap.size g.1.A (Zc g.2)/\(Zc g.2≠[]->∀ x,g.1.A=some x->C<=x.block/\v.ownBlock≠some x.block)
theorem QI.nil(w:World)(C:Nat):QI w C [] (.slice none 0 0):=⟨World.ownsRow_nil _ _ _ _,fun g hg=>by simp at hg⟩
theorem QI.move{gs:List Gr}{v:Value}(h:QI w C gs v)(hz:w.heap.size<=w'.heap.size)(hb:∀ b,C<=b->b<w.heap.size->w'.heap[b]?=w.heap[b]?):QI w' C gs v:=by
 refine ⟨yM h.1 fun k hk=>hb k (ZP h.1 hk) (SX h.1 hk),fun g hg=>?_⟩;obtain ⟨h1,h2,h3⟩:=h.2 g hg;refine ⟨h1,(h2.at_ fun b hlt hx x hA hxb=>?_).more hz,h3⟩;subst hxb;exact hb _ (h3 hx x hA).1 hlt
theorem QI.iF{gs:List Gr}{v:Value}(h:QI w C gs v):uh w w.heap.size gs:=fun g hg=>⟨(h.2 g hg).1,(h.2 g hg).2.1⟩
theorem yR {w7 wa w8:World} {C g' cap n:Nat} {gs:List Gr} {gr:Gr} {v:Value} {xs:List Value} (hq:QI w7 C gs v) (hb:Below w7.heap.size w7 wa)
 (Zn:w8.ownsRow C 61 3 (.slice (some ⟨g',0,none⟩) n cap) n xs) (hn:n=(gs++[gr]).length) (hx:xs=rgCells ((gs++[gr]).map (·.1)))
 (ZL:wa.grownBy w8 v.ownBlock) (hat:v.ownBlock=some g'\/g'=wa.heap.size)
 (hnew:gr.1.n=gr.2.length/\Sl w7 w7.heap.size gr.1.A (Zc gr.2)/\(Zc gr.2≠[]->∀ x,gr.1.A=some x->C<=x.block/\v.ownBlock≠some x.block)) :
 QI w8 C (gs++[gr]) (.slice (some ⟨g',0,none⟩) n cap):=by
 subst hn hx;refine ⟨Zn,fun g hg=>?_⟩;have hg':g.1.n=g.2.length/\Sl w7 w7.heap.size g.1.A (Zc g.2)/\(Zc g.2≠[]->∀ x,g.1.A=some x->C<=x.block/\v.ownBlock≠some x.block):=by
  rcases List.mem_append.1 hg with h|h
  · exact hq.2 g h
  · rw [List.mem_singleton.1 h];exact hnew
 obtain ⟨h1,h2,h3⟩:=hg';refine ⟨h1,(h2.at_ fun b hlt hx x hA hxb=>?_).more (Nat.le_trans hb.size ZL.size),fun hx x hA=>⟨(h3 hx x hA).1,?_⟩⟩
 · subst hxb;exact (ZL.block _ (Nat.lt_of_lt_of_le hlt hb.size) (fun e=>(h3 hx x hA).2 e.symm)).trans (hb.block _ hlt)
 · have:=h2.zwr hx hA;have:=hb.size;rcases hat with h|h
   · rw [show (Value.slice (some ⟨g',0,none⟩) (gs++[gr]).length cap).ownBlock=some g' from rfl,<- h];exact (h3 hx x hA).2
   · intro e;have:g'=x.block:=(by simpa [Value.ownBlock] using e);omega
def PD(C q g b:Nat):Prop:=b<C/\b≠q/\b≠g
end
def JG(w:World)(b:Nat)(u0 u1 u2 u3 u4 u5 u6:Value):World :=
 ((((((w.setCell ⟨b,0,none⟩ u0).setCell ⟨b,1,none⟩ u1).setCell ⟨b,2,none⟩ u2).setCell ⟨b,3,none⟩ u3).setCell ⟨b,4,none⟩ u4).setCell ⟨b,5,none⟩ u5).setCell ⟨b,6,none⟩ u6
theorem Te{w:World}{b:Nat}{t:TypeId}{v0 v1 v2 v3 v4 v5 v6:Value}(B:Z6 w b t #[v0,v1,v2,v3,v4,v5,v6])(u0 u1 u2 u3 u4 u5 u6:Value):
 (w.setCell ⟨b,0,none⟩ u0).cell? ⟨b,0,none⟩=some u0/\((w.setCell ⟨b,0,none⟩ u0).setCell ⟨b,1,none⟩ u1).cell? ⟨b,1,none⟩=some u1 /\
 (((w.setCell ⟨b,0,none⟩ u0).setCell ⟨b,1,none⟩ u1).setCell ⟨b,2,none⟩ u2).cell? ⟨b,2,none⟩=some u2 /\
 ((((w.setCell ⟨b,0,none⟩ u0).setCell ⟨b,1,none⟩ u1).setCell ⟨b,2,none⟩ u2).setCell ⟨b,3,none⟩ u3).cell? ⟨b,3,none⟩=some u3 /\
 (((((w.setCell ⟨b,0,none⟩ u0).setCell ⟨b,1,none⟩ u1).setCell ⟨b,2,none⟩ u2).setCell ⟨b,3,none⟩ u3).setCell ⟨b,4,none⟩ u4).cell? ⟨b,4,none⟩=some u4 /\
 ((((((w.setCell ⟨b,0,none⟩ u0).setCell ⟨b,1,none⟩ u1).setCell ⟨b,2,none⟩ u2).setCell ⟨b,3,none⟩ u3).setCell ⟨b,4,none⟩ u4).setCell ⟨b,5,none⟩ u5).cell? ⟨b,5,none⟩=some u5 /\
 (((((((w.setCell ⟨b,0,none⟩ u0).setCell ⟨b,1,none⟩ u1).setCell ⟨b,2,none⟩ u2).setCell ⟨b,3,none⟩ u3).setCell ⟨b,4,none⟩ u4).setCell ⟨b,5,none⟩ u5).setCell ⟨b,6,none⟩ u6).cell? ⟨b,6,none⟩=some u6:=by
 have s0:Z6 _ b t #[u0,v1,v2,v3,v4,v5,v6]:=B.set 0 u0;have s1:Z6 _ b t #[u0,u1,v2,v3,v4,v5,v6]:=s0.set 1 u1;have s2:Z6 _ b t #[u0,u1,u2,v3,v4,v5,v6]:=s1.set 2 u2;have s3:Z6 _ b t #[u0,u1,u2,u3,v4,v5,v6]:=s2.set 3 u3;have s4:Z6 _ b t #[u0,u1,u2,u3,u4,v5,v6]:=s3.set 4 u4;have s5:Z6 _ b t #[u0,u1,u2,u3,u4,u5,v6]:=s4.set 5 u5;have s6:Z6 _ b t #[u0,u1,u2,u3,u4,u5,u6]:=s5.set 6 u6;exact ⟨s0.q0 rfl,s1.q1 rfl,s2.q2 rfl,s3.q3 rfl,s4.q4 rfl,s5.q5 rfl,s6.q6 rfl⟩
theorem Je(w:World)(b:Nat)(u0 u1 u2 u3 u4 u5 u6:Value):(JG w b u0 u1 u2 u3 u4 u5 u6).heap.size=w.heap.size:=by simp [JG,World.size_setCell]
theorem EI(w:World)(b:Nat)(u0 u1 u2 u3 u4 u5 u6:Value)(k:Nat)(hk:k≠b):(JG w b u0 u1 u2 u3 u4 u5 u6).heap[k]?=w.heap[k]?:=by
 unfold JG
 iterate 7 rw [Below.heap_setCell _ _ _ k hk]
theorem Td{w0 w:World}{b:Nat}(h:Below w0.heap.size w0 w)(hb:w0.heap.size<=b)(u0 u1 u2 u3 u4 u5 u6:Value):Below w0.heap.size w0 (JG w b u0 u1 u2 u3 u4 u5 u6):=by
 unfold JG;have st:∀ (w1:World) (o:Nat) (u:Value),Below w0.heap.size w0 w1->Below w0.heap.size w0 (w1.setCell ⟨b,o,none⟩ u):=fun w1 o u h1=>h1.setCell hb u;exact st _ _ _ (st _ _ _ (st _ _ _ (st _ _ _ (st _ _ _ (st _ _ _ (st _ _ _ h))))))
end
section
open Go.RowKit
theorem qH(x:Int)(n:Nat):le ((List.range n).map fun k=>x / 256 ^ k % 256)=x % 256 ^ n:=by
 induction n with
 | zero=>simp [le]
 | succ n ih =>
   rw [List.range_succ,List.map_append,List.map_singleton,yE,ih,List.length_map,List.length_range];have h:=Int.emod_add_mul_ediv (x / 256 ^ n) 256;have h1:=Int.emod_add_mul_ediv x (256 ^ n);have h2:=Int.emod_add_mul_ediv x (256 ^ (n+1));rw [MH] at h;have e:(256:Int) ^ (n+1)=256 ^ n*256:=Int.pow_succ 256 n;rw [e] at h2;have e2:(256:Int) ^ n*(256*(x / 256 ^ (n+1)))=256 ^ n*256*(x / (256 ^ n*256)):=(by rw [<- Int.mul_assoc,e]);have h3:(256:Int) ^ n*(x / 256 ^ n % 256+256*(x / 256 ^ (n+1)))=256 ^ n*(x / 256 ^ n):=(by rw [h]);rw [Int.mul_add,e2] at h3;rw [e,Int.mul_comm (x / 256 ^ n % 256)];omega
theorem qG{x:Int}(h:Uf x):le (XU x)=x:=by
 unfold XU;rw [qH];exact Int.emod_eq_of_lt h.1 h.2
theorem sZ(x:Int):By (XU x):=by
 intro y hy;obtain ⟨k,_,rfl⟩:=List.mem_map.1 hy;omega
theorem qE:∀ (a b:List Int),By a->By b->a.length=b.length->le a=le b->a=b
 | [],[],_,_,_,_=>rfl
 | [],_::_,_,_,h,_=>by simp at h
 | _::_,[],_,_,h,_=>by simp at h
 | x::a,y::b,ha,hb,hl,he=>by
   simp only [le] at he;have h1:=ha.head;have h2:=hb.head;have hxy:x=y:=(by omega);have:le a=le b:=(by omega);rw [hxy,qE a b ha.tail hb.tail (by simpa using hl) this]
theorem AP{l:List Int}(hl:l.length=8)(hb:By l):Uf (le l):=by
 have:=DX l hb;rw [hl] at this;exact ⟨this.1,by have:=this.2;simpa using this⟩
theorem Ll{l:List Int}(hl:l.length=8)(hb:By l):XU (le l)=l :=
 qE _ _ (sZ _) hb (by rw [VO,hl]) (qG (AP hl hb))
theorem yY{x:Int}(h:Uf x):IntKind.u64.wrap (U9 x)=x:=by
 unfold U9 wrap64;rw [IntKind.wrap_u64];unfold Uf at h;omega
theorem U6(bs:List Int)(a k:Nat):eight bs (a+k)=eight (bs.drop a) k:=by unfold eight;rw [List.drop_drop]
theorem Bp(bs:List Int)(n:Nat):Xm bs (n+1)=Ul bs 0::Xm (bs.drop 16) n:=by
 unfold Xm;rw [List.range_succ_eq_map,List.map_cons,List.map_map]
 congr 1
 refine List.map_congr_left fun i _=>?_;show Ul bs (i+1)=Ul (bs.drop 16) i;unfold Ul;rw [<- U6,<- U6,show 16*(i+1)=16+16*i by omega,show 16+16*i+8=16+(16*i+8) by omega]
theorem En(bs:List Int)(n:Nat):WU bs (n+1)=VQ bs 0::WU (bs.drop 24) n:=by
 unfold WU;rw [List.range_succ_eq_map,List.map_cons,List.map_map]
 congr 1
 refine List.map_congr_left fun i _=>?_;show VQ bs (i+1)=VQ (bs.drop 24) i;unfold VQ;rw [<- U6,<- U6,<- U6,show 24*(i+1)=24+24*i by omega,show 24+24*i+8=24+(24*i+8) by omega,show 24+24*i+16=24+(24*i+16) by omega]
theorem yO{bs:List Int}(h:16<=bs.length)(hb:By bs):Xx (Ul bs 0)=bs.take 16:=by
 unfold Xx Ul dx;have l0:(eight bs (16*0)).length=8:=VW (by omega);have l1:(eight bs (16*0+8)).length=8:=VW (by omega);rw [yY (AP l0 (Wd hb _)),yY (AP l1 (Wd hb _)),Ll l0 (Wd hb _),Ll l1 (Wd hb _)];have:=El bs 0;rw [Nat.mul_zero,List.drop_zero] at this
 conv=>rhs;rw [this,<- List.append_assoc]
 rw [Nat.mul_zero] at l0 l1 ⊢;rw [List.take_left' (by rw [List.length_append,l0,l1])]
theorem aT{bs:List Int}(h:24<=bs.length)(hb:By bs):q24 (VQ bs 0)=bs.take 24:=by
 have h1:=yO (by omega) hb;have l2:(eight bs (24*0+16)).length=8:=VW (by omega);have hp:(VQ bs 0).1=Ul bs 0:=rfl;unfold q24;rw [hp,h1];unfold VQ;rw [Ll l2 (Wd hb _)];unfold eight;rw [Nat.mul_zero,show 0+16=16 by omega,show 24=16+8 by omega,List.take_add]
theorem PS:∀ (n:Nat) (bs:List Int),16*n<=bs.length->By bs->(Xm bs n).flatMap Xx=bs.take (16*n)
 | 0,bs,_,_=>by simp [Xm]
 | n+1,bs,h,hb=>by
   rw [Bp,List.flatMap_cons,yO (by omega) hb,PS n (bs.drop 16) (by rw [List.length_drop];omega) (hb.drop _),show 16*(n+1)=16+16*n by omega,List.take_add]
theorem Ko:∀ (n:Nat) (bs:List Int),24*n<=bs.length->By bs->(WU bs n).flatMap q24=bs.take (24*n)
 | 0,bs,_,_=>by simp [WU]
 | n+1,bs,h,hb=>by
   rw [En,List.flatMap_cons,aT (by omega) hb,Ko n (bs.drop 24) (by rw [List.length_drop];omega) (hb.drop _),show 24*(n+1)=24+24*n by omega,List.take_add]
theorem aV(rs:List Rg)(h:rs.any X8=false):(rs.map Vm).map Rg.key=rs.map Rg.key:=by
 rw [List.map_map];refine List.map_congr_left fun r hr=>?_;have:=List.any_eq_false.1 h r hr;unfold X8 at this
 have hn:r.n=0:=by have:¬ 0<r.n:=by simpa using this
                   omega
 show (r.d,r.v,0)=(r.d,r.v,r.n);rw [hn]
theorem xU{p:Rg->Bool}(f:Bool × Int × Nat->Bool)(hp:∀ r,p r=f r.key){rs rs':List Rg}(h:rs.map Rg.key=rs'.map Rg.key):rs.any p=rs'.any p:=by
 have e:∀ l:List Rg,l.any p=(l.map Rg.key).any f:=fun l=>by
  rw [List.any_map];congr 1;funext r;exact hp r
 rw [e,e,h]
theorem yF{rs rs':List Rg}(h:rs.map Rg.key=rs'.map Rg.key):rs.length=rs'.length:=by have:=congrArg List.length h;simpa using this
theorem Ah{op vs Z0:Int}{rs rs':List Rg}(h:rs.map Rg.key=rs'.map Rg.key):ZT op vs rs Z0=ZT op vs rs' Z0:=by
 unfold ZT;rw [yF h,xU (p:=Zq) (fun k=>ZN k.2.1 == 0) (fun _=>rfl) h,xU (p:=X8) (fun k=>decide (0<k.2.2)) (fun _=>rfl) h]
theorem zR{op vs Z0:Int}{rs rs':List Rg}(h:rs.map Rg.key=rs'.map Rg.key):Zo op vs rs Z0=Zo op vs rs' Z0:=by
 have e:∀ l:List Rg,l.map Zf=(l.map Rg.key).map (fun k=>k.2.1+(if k.1 then 128 else 0)):=fun l=>by rw [List.map_map];rfl
 unfold Zo;rw [yF h,e,e,h]
theorem qV{rs rs':List Rg}(h:rs.map Rg.key=rs'.map Rg.key):YV rs=YV rs':=by
 have e:∀ l:List Rg,YV l=((l.map Rg.key).map (fun k=>Zg k.2.1)).sum:=fun l=>by rw [List.map_map];rfl
 rw [e,e,h]
theorem Dv(g:Gr)(gs:List Gr):YQ (g::gs)=g.2.flatMap Xx++YQ gs:=by simp [YQ]
theorem J2:∀ (R:List Rg) (pay:List Int) (gs:List Gr) (hrs:List Rg),gs.map PU=XK R pay->hrs.map Rg.key=R.map Rg.key->(∀ g∈gs,g.1.n=g.2.length)->16*YV R<=pay.length->By pay ->
 (gs.zip hrs).any VL=false/\(gs.zip hrs).any Wp=false/\YQ gs=pay.take (16*YV R)/\gs.length=hrs.length
 | [],pay,gs,hrs,hg,hk,_,_,_=>by
   have e1:gs=[]:=(by simpa [XK] using hg);have e2:hrs=[]:=(by simpa using hk);subst e1 e2;exact ⟨rfl,rfl,by simp [YQ,YV],rfl⟩
 | r::R,pay,gs,hrs,hg,hk,hn,hl,hb=>by
   cases gs with
   | nil=>simp [XK] at hg
   | cons g gs =>
     cases hrs with
     | nil=>simp at hk
     | cons h hrs =>
       simp only [List.map_cons,List.cons.injEq,XK] at hg hk;have hns:YV (r::R)=Zg r.v+YV R:=(by simp [YV]);rw [hns] at hl;obtain ⟨i1,i2,i3,i4⟩:=J2 R (pay.drop (16*Zg r.v)) gs hrs hg.2 hk.2 (fun x hx=>hn x (by simp [hx])) (by rw [List.length_drop];omega) (hb.drop _);obtain ⟨g0,_⟩:=hg;obtain ⟨k0,_⟩:=hk;simp only [PU,Prod.mk.injEq] at g0;simp only [Rg.key,Prod.mk.injEq] at k0;have hg2:g.2.length=Zg r.v:=(by rw [g0.2.2,YT]);have hgn:=hn g (by simp);have sz:VL (g,h)=false:=by
        unfold VL;dsimp only;rw [k0.2.1,<- Tf];simp;omega
       have kd:Wp (g,h)=false:=by
        unfold Wp;dsimp only;rw [k0.1,k0.2.1,g0.1,g0.2.1];simp
       refine ⟨?_,?_,?_,by simp [i4]⟩
       · rw [List.zip_cons_cons,List.any_cons,sz,i1];rfl
       · rw [List.zip_cons_cons,List.any_cons,kd,i2];rfl
       · rw [Dv,i3,g0.2.2,PS _ _ (by omega) hb,hns,Nat.mul_add,List.take_add]
theorem Jv {op vs Z0:Int} {rs hrs:List Rg} {gs:List Gr} {pl:List Int} (h:ZT op vs rs Z0=0) (hl:(pl.length:Int)=16*(YV rs:Int)+16*Xu op vs+24*WX op Z0) (hby:By pl)
 (hk:hrs.map Rg.key=(rs.map Vm).map Rg.key) (hg:gs.map PU=XK (rs.map Vm) pl) (hn:∀ g∈gs,g.1.n=g.2.length) :
 ZG op vs hrs Z0 gs (Uc ⟨op,vs,rs.map Vm,Z0⟩ pl).ps (Uc ⟨op,vs,rs.map Vm,Z0⟩ pl).qs=(Zo op vs rs Z0++pl,0):=by
 obtain ⟨z1,z2,z3,z4,z5,z6,z7,z8,hfull⟩:=Zp h;have hkr:=aV rs hfull;have hkk:=hk.trans hkr;have hns:=qV hkr;have Sg:0<=Xu op vs:=by unfold Xu;split <;> (try split) <;> (try split) <;> (try split) <;> omega
 have dZ:0<=WX op Z0:=by
  unfold WX;split
  · omega
  · have:=z7 (by omega);omega
 obtain ⟨c1,c2,c3,c4⟩:=J2 (rs.map Vm) pl gs hrs hg hk hn (by rw [hns];omega) hby;unfold ZG Uc;dsimp only;rw [Ah hkk,if_neg (by simpa using h),YT,VI,if_neg (by omega),c1,if_neg (by simp),c2,if_neg (by simp),c3,hns,zR hkk];have hd:(pl.drop (16*YV rs)).length=16*(Xu op vs).toNat+24*(WX op Z0).toNat:=by rw [List.length_drop];omega
 rw [PS _ _ (by omega) (hby.drop _),Ko _ _ (by omega) (hby.drop _)];have hPQ:(Xu op vs).toNat=0\/(WX op Z0).toNat=0:=by
  by_cases h5:op=5
  · left;unfold Xu;rw [if_neg (by omega),if_neg (by omega),if_neg (by omega),if_neg (by omega)];rfl
  · right;unfold WX;rw [if_pos (by omega)];rfl
 have ht:(pl.drop (16*YV rs)).take (16*(Xu op vs).toNat)++(pl.drop (16*YV rs)).take (24*(WX op Z0).toNat)=pl.drop (16*YV rs):=by
  rcases hPQ with e|e
  · rw [e] at hd ⊢;rw [Nat.mul_zero,List.take_zero,List.nil_append,List.take_of_length_le (by omega)]
  · rw [e] at hd ⊢;rw [Nat.mul_zero,List.take_zero,List.append_nil,List.take_of_length_le (by omega)]
 rw [List.append_assoc,ht,List.append_assoc,List.take_append_drop]
end
section
open Go.RowKit
theorem yK {w:World} {B:Nat} {A:Option Addr} {rs:List Rg} {x:Addr} {t:TypeId} {a b c:Int} {A1 A2 A3 A4:Option Addr} {n1 n2 n3 n4 c1 c2 c3 c4:Nat} (hx:rgCells rs≠[]) (h:Sl w B A (rgCells rs)) (hA:A=some x)
 (hb:Z6 w x.block t #[.int .i64 a,.int .i64 b,.slice A1 n1 c1,.int .i64 c,.slice A2 n2 c2,.slice A3 n3 c3,.slice A4 n4 c4]):False:=by
 cases rs with
 | nil=>exact hx rfl
 | cons r rs =>
   obtain ⟨b',off,hA',hlt,c0,_⟩:=h.rg (k:=0) (r:=r) rfl;rw [hA'] at hA;cases hA;have hcell:=cell_of_row w b' (off+0*3) _ t (0,0) hb;rw [c0] at hcell;generalize off+0*3=i at hcell
   match i,hcell with
   | 0,h=>simp at h
   | 1,h=>simp at h
   | 2,h=>simp at h
   | 3,h=>simp at h
   | 4,h=>simp at h
   | 5,h=>simp at h
   | 6,h=>simp at h
   | i+7,h=>simp at h
section
variable (bs:List Int)(A:Option Addr)(c:Nat)(w:World)
variable (hs:Sl w w.heap.size A (ZY bs))(hcap:bs.length<=c)(hby:By bs)(hmax:bs.length<=300000)
variable (hfix:Fixed w)(hg:1<w.heap.size)
include hs hcap hby hmax hfix hg
theorem zH:Calls prog 58 #[.slice A bs.length c] w (Ob (Zz bs) w):=by
 obtain ⟨w0,hw0⟩:=eE (w.alloc (.cells #[.int .i64 0,.int .i64 0,.slice none 0 0,.int .i64 0,.slice none 0 0,.slice none 0 0,.slice none 0 0] 100));have hb0:=bE hw0;have hz0:w0.heap.size=w.heap.size+1:=by rw [hw0];simp
 have R0:Z6 w0 w.heap.size 100 #[.int .i64 0,.int .i64 0,.slice none 0 0,.int .i64 0,.slice none 0 0,.slice none 0 0,.slice none 0 0]:=by rw [hw0];exact Z6.new _ _ _
 have Oz:∀ (j:Nat) (x:Int),bs[j]?=some x->0<=x/\x<=255:=fun j x h=>hby x (List.mem_of_getElem? h);have CL:=Ol bs A c w0 ((hs.below hb0).more hb0.size) hcap Oz (by omega) (hfix.below hb0 hg) (Nat.lt_of_lt_of_le hg hb0.size);have PA:∀ w1,Below w0.heap.size w0 w1->Calls prog 42 #[.slice A bs.length c] w1 (Parsed (ZW bs) w1):=fun w1 h1=>IK bs A c w1 (((hs.below hb0).below (h1.mono hb0.size)).more (Nat.le_trans hb0.size h1.size)) hcap Oz;obtain ⟨cl,hcl⟩:∃ cl,Zb bs=cl:=⟨_,rfl⟩;rw [hcl] at CL;obtain ⟨h,n,er,hpe⟩:∃ h n er,ZW bs=(h,n,er):=⟨_,_,_,rfl⟩;rw [hpe] at PA;have HD:Hid (Zz bs=if cl=0 then (Uc h (bs.drop n.toNat),0) else (Yk,cl)):=by apply hide;unfold Zz;rw [hcl,hpe]
 by_cases hc0:cl=0
 · subst hc0;have DF:=Tx hpe hcl;obtain ⟨rfl,hk,hn0,hn1,Sg,dZ,hPQ,oJ,hlen⟩:=DF;obtain ⟨op,vs,rs,Z0⟩:=h;dsimp only at hk Sg dZ hPQ oJ hlen;obtain ⟨N,rfl⟩:=Int.eq_ofNat_of_zero_le hn0;rw [if_pos rfl,Int.toNat_natCast] at HD;have hcN:N<c:=(by omega);have hlN:N<bs.length:=(by omega);have zgk:¬ c=N:=(by omega);obtain ⟨b,off,rfl,hbl,_⟩:=hs.Pq (by omega);have RN:=hide CL;have Ls:=hide PA;have HK:=hide hk;have Lu:=hide hpe;have zim:=hide hcl;have Lr:=hide hby;have HS:=hide hs;clear CL PA hpe hcl hfix hg hby Oz hk hs;go_enter func58,ntmps58;go_wp2_with fail;rw [<- hw0];have HW0:=hide hw0;clear hw0;refine RN.out.mono ?_;rintro e w1 ⟨rfl,hb1⟩;have PA1:=Ls.out w1 hb1;clear Ls RN;have Ls:=hide PA1;clear PA1;go_wp2_with fail;refine Ls.out.mono ?_;rintro e w2 ⟨HA,hc,rfl,hsl,hb2⟩;clear Ls;have R2:=(R0.step hb1).step hb2;have HB2:=Z9 (Z9 hb0 hb1) hb2;dsimp only at hsl ⊢;have zwy:b<w2.heap.size:=(by have:=HB2.size;omega);obtain ⟨w3,hw3⟩:=eE (((w2.alloc (.cells #[.int .i64 op,.int .i64 vs,.slice HA rs.length hc,.int .i64 Z0] 24)).alloc (.cells #[.int .i64 op,.int .i64 vs,.slice HA rs.length hc,.int .i64 Z0,.slice none 0 0,.slice none 0 0,.slice none 0 0] 100)).alloc (.cells #[.slice (some ⟨b,off+N,none⟩) (bs.length - N) (c - N)] 153));have hb3:Below w2.heap.size w2 w3:=(by rw [hw3];exact Z7 (Z7 (bA) _) _);have hz3:w3.heap.size=w2.heap.size+3:=(by rw [hw3];simp);have H3:Z6 w3 w2.heap.size 24 #[.int .i64 op,.int .i64 vs,.slice HA rs.length hc,.int .i64 Z0]:=(by rw [hw3];exact ((Z6.new _ _ _).alloc _).alloc _);have Q3:Z6 w3 (w2.heap.size+1) 100 #[.int .i64 op,.int .i64 vs,.slice HA rs.length hc,.int .i64 Z0,.slice none 0 0,.slice none 0 0,.slice none 0 0]:=(by rw [hw3];exact (Z6.new2 _ _ _ _).alloc _);have G3:Z6 w3 (w2.heap.size+1+1) 153 #[.slice (some ⟨b,off+N,none⟩) (bs.length - N) (c - N)]:=by
    rw [hw3];have h:=Z6.new ((w2.alloc (.cells #[.int .i64 op,.int .i64 vs,.slice HA rs.length hc,.int .i64 Z0] 24)).alloc (.cells #[.int .i64 op,.int .i64 vs,.slice HA rs.length hc,.int .i64 Z0,.slice none 0 0,.slice none 0 0,.slice none 0 0] 100)) 153 #[.slice (some ⟨b,off+N,none⟩) (bs.length - N) (c - N)];simpa using h
   have HB3:=Z9 HB2 hb3;go_wp2;rw [<- hw3];have HW3:=hide hw3;clear hw3;obtain ⟨q,hq⟩:=eE (w2.heap.size+1);rw [<- hq] at Q3 G3 ⊢;obtain ⟨g,hgq⟩:=eE (q+1);rw [<- hgq] at G3 ⊢;obtain ⟨C,hC⟩:=eE w3.heap.size;obtain ⟨pl,hpl⟩:=eE (bs.drop N);have Ap:pl.length=bs.length - N:=(by rw [hpl,List.length_drop]);have hBP:∀ k,k<w.heap.size->PD C q g k:=fun k hk=>by have:=HB2.size;unfold PD;omega
   have rs3:RS w3 (PD C q g) w.heap.size g pl:=by
    refine ⟨some ⟨b,off+N,none⟩,c - N,by rw [Ap];exact G3,by unfold PD;omega,by rw [Ap];omega,?_⟩;rcases HS.out with h0|⟨b1,off1,hA1,hlt1,hc1⟩
    · rw [List.eq_nil_of_length_eq_zero (show bs.length=0 by have:=congrArg List.length h0;simpa [ZY] using this)] at hlN;simp at hlN
    · injection hA1 with hA1;injection hA1 with e1 e2;subst e1 e2;refine Sl.mk hlt1 fun j u hu=>?_;have:=hc1 (N+j) u (by rw [hpl] at hu;simpa [ZY,Nat.add_comm] using hu);rw [<- Nat.add_assoc] at this;exact (HB3.cell (p:=⟨b,_,none⟩) hlt1).trans this
   have hqe:w2.heap.size+1<=q/\q<=w2.heap.size+1:=(by omega);have hge:q+1<=g/\g<=q+1:=(by omega);have hCe:w3.heap.size<=C/\C<=w3.heap.size:=(by omega);clear hq hgq hC;have HR3:=hide rs3;have xM:=hide hBP;have tO:=hide Ap;have Nq:=hide hpl;have HSL:=hide hsl;have hcb:=J5 HK.out;obtain ⟨zxj,zxk,zph,hcP,hcQ⟩:=hcb;clear rs3 hBP Ap hpl hsl
   go_loopw [36] (fun i wr=>∃ (k:Nat) (gs:List Gr) (v:Value),k<=rs.length/\i=.int .i64 k/\Z8 (PD C q g) w3 wr/\Z6 wr q 100 #[.int .i64 op,.int .i64 vs,.slice HA rs.length hc,.int .i64 Z0,v,.slice none 0 0,.slice none 0 0] /\
    RS wr (PD C q g) w.heap.size g (pl.drop (16*YV (rs.take k)))/\QI wr C gs v/\gs.map PU=XK (rs.take k) pl/\gs.length=k)
    (fun i _=>rs.length - (intOf i).toNat)
   case atStart=>exact ⟨0,[],.slice none 0 0,by omega,rfl,Z8.refl _ _,Q3,by simpa [YV] using HR3.out,QI.nil _ _,rfl,rfl⟩
   case round =>
    obtain ⟨k,gs,v,hk,rfl,hkp,Aq,hrd,hqi,hgd,hgl⟩:=hrel;have HGD:=hide hgd;clear hgd;have gI:=hide hqi;clear hqi;have HRD:=hide hrd;clear hrd
    by_cases hlt:k<rs.length
    · obtain ⟨r,hr⟩:∃ r,rs[k]?=some r:=⟨_,List.getElem?_eq_getElem hlt⟩;obtain ⟨Fa,hoff,rfl,mJ,d0,d1,d2⟩:=HSL.out.rg hr;have hPh:PD C q g Fa:=(by unfold PD;omega);have c0:=((hkp.cell hPh _).trans (hb3.cell (p:=⟨Fa,_,none⟩) mJ)).trans d0;have c1:=((hkp.cell hPh _).trans (hb3.cell (p:=⟨Fa,_,none⟩) mJ)).trans d1;have c2:=((hkp.cell hPh _).trans (hb3.cell (p:=⟨Fa,_,none⟩) mJ)).trans d2;clear d0 d1 d2;obtain ⟨wx,hwx⟩:=eE (wr.alloc (.cells #[.bool r.d,.int .i64 r.v,.slice r.A r.n r.c] 61));have hbx:=bE hwx;have X0:Z6 wx wr.heap.size 61 #[.bool r.d,.int .i64 r.v,.slice r.A r.n r.c]:=(by rw [hwx];exact Z6.new _ _ _);have hzx:wx.heap.size=wr.heap.size+1:=(by rw [hwx];simp);have hCr:C<=wr.heap.size:=Nat.le_trans hCe.2 hkp.size;have E8:=hide (Iz rs k r hr);have mZ:=hide (Rt rs pl k r hr);have gF:=hide (SS rs (k+1));clear hr;have x0:=X0.q0 rfl;have x1:=X0.q1 rfl;have x2:=X0.q2 rfl;go_wp2_with fail;rw [<- hwx];have HWX:=hide hwx;clear hwx;refine (TN r.d r.v r.A r.n r.c wx).mono ?_;rintro e w5 ⟨rfl,hb5⟩;rw [<- Tf];have Aj:=Ph r.v;have hsn:=E8.out;have hnl:=gF.out;have zpg:RS w5 (fun b=>b<w5.heap.size/\b≠g) w.heap.size g (pl.drop (16*YV (rs.take k))):=by
       refine ((HRD.out.move fun b' hb'=>?_).chg (fun h=>h.2 rfl));have hl:b'<wr.heap.size:=by
        rcases hb' with h|h
        · have:=HB3.size;have:=hkp.size;omega
        · have:=Aq.lt;omega
       exact ((hb5.mono hbx.size).block b' hl).trans (hbx.block b' hl)
      have TK:=Lf (fun b=>b<w5.heap.size/\b≠g) w.heap.size g w5 (fun k hk=>⟨by have:=HB3.size;have:=hkp.size;have:=hbx.size;have:=hb5.size;omega,by have:=HB2.size;omega⟩)
       (pl.drop (16*YV (rs.take k))) (Zg r.v) (by rw [List.length_drop,tO.out];omega) (by rw [List.length_drop,tO.out];omega) (by rw [Nq.out];exact (Lr.out.drop _).drop _) (fun k hk=>hk.1) zpg
      have G8:=hide TK;clear TK zpg x0 x1 x2;go_wp2_with fail;refine G8.out.mono ?_;rintro e w6 ⟨N8,rfl,k6,r6,s6,f6⟩;have h56:=hb5.size;have zoe:wr.heap.size<w5.heap.size:=(by omega);have vR:=Aq.lt;have zhm:=HRD.out.lt;have zkq:=k6.size;have hch:∀ b',b'<wr.heap.size->b'≠g->w6.heap[b']?=wr.heap[b']?:=fun b' h1 h2=>(k6.block b' ⟨by omega,h2⟩).trans (((hb5.mono hbx.size).block b' h1).trans (hbx.block b' h1));have X6:Z6 w6 wr.heap.size 61 #[.bool r.d,.int .i64 r.v,.slice r.A r.n r.c]:=(X0.step hb5).kept k6 ⟨zoe,by omega⟩;have X7:Z6 (w6.setCell ⟨wr.heap.size,2,none⟩ (.slice N8 (Zg r.v) (Zg r.v))) wr.heap.size 61 #[.bool r.d,.int .i64 r.v,.slice N8 (Zg r.v) (Zg r.v)]:=X6.set 2 _;have Q6:Z6 w6 q 100 #[.int .i64 op,.int .i64 vs,.slice (some ⟨Fa,hoff,none⟩) rs.length hc,.int .i64 Z0,v,.slice none 0 0,.slice none 0 0]:=(hch q vR (by omega)).trans Aq;have Q7:=Q6.far (p:=⟨wr.heap.size,2,none⟩) (by simp;omega) (.slice N8 (Zg r.v) (Zg r.v));have Ag:∀ b',b'<wr.heap.size->b'≠g->(w6.setCell ⟨wr.heap.size,2,none⟩ (.slice N8 (Zg r.v) (Zg r.v))).heap[b']?=wr.heap[b']?:=fun b' h1 h2=>(Below.heap_setCell w6 ⟨wr.heap.size,2,none⟩ _ b' (by simp;omega)).trans (hch b' h1 h2);have hz7:(w6.setCell ⟨wr.heap.size,2,none⟩ (.slice N8 (Zg r.v) (Zg r.v))).heap.size=w6.heap.size:=World.size_setCell _ _ _;have QI7:QI (w6.setCell ⟨wr.heap.size,2,none⟩ (.slice N8 (Zg r.v) (Zg r.v))) C gs v:=gI.out.move (by omega) fun b' h1 h2=>Ag b' h2 (by omega);have s7:=s6.far (p:=⟨wr.heap.size,2,none⟩) (fun _ x hx=>by have:=(f6 x hx).1;simp;omega) (.slice N8 (Zg r.v) (Zg r.v))
      have r7:RS (w6.setCell ⟨wr.heap.size,2,none⟩ (.slice N8 (Zg r.v) (Zg r.v))) (PD C q g) w.heap.size g ((pl.drop (16*YV (rs.take k))).drop (16*Zg r.v)) :=
       (r6.chg (R:=PD C q g) (fun h=>h.2.2 rfl)).far (by omega) (by unfold PD;omega) xM.out 2 _
      have y2:=X6.q2 rfl;have fz2:=X6.frozen 2
      have hnew:∀ x,N8=some x->C<=x.block/\v.ownBlock≠some x.block:=fun x hx=>by
       have h1:=(f6 x hx).1;refine ⟨by omega,fun e=>?_⟩;have:=SX gI.out.1 e;omega
      have zvz:=hide hnew;have zvt:=hide Ag;have HS7:=hide s7;have HR7:=hide r7;have mY:=hide QI7;have Yy:=QI7.1;rw [hgl] at Yy;clear hnew hch Ag s7 s6 r7 r6 QI7 f6 G8;have kxx:(16*YV (rs.take k))+16*Zg r.v=16*YV (rs.take (k+1)):=(by omega);have zvx:=hide kxx;clear kxx;obtain ⟨w7,hw7⟩:=eE (w6.setCell ⟨wr.heap.size,2,none⟩ (.slice N8 (Zg r.v) (Zg r.v)));rw [<- hw7] at X7 Q7 hz7 zvt HS7 HR7 mY Yy;have zxl:=hw7.symm;have y0:=X7.q0 rfl;have y1:=X7.q1 rfl;have y2':=X7.q2 rfl;have q4:=Q7.q4 rfl;obtain ⟨i0,hi,hi0,hi1,hi2⟩:=info_parts QM;have aM:w6.heap.size<=w7.heap.size/\w7.heap.size<=w6.heap.size:=(by omega);have k17:Z8 (PD C q g) wr w7:=by
       have k1:Z8 (PD C q g) wr w6:=(Z8.of_below hbx (fun k hk=>by unfold PD at hk;omega)).trans ((Z8.of_below hb5 (fun k hk=>by unfold PD at hk;omega)).trans (k6.mono fun k hk=>by unfold PD at hk;omega));rw [hw7];exact k1.trans (Z8.set (by unfold PD;omega) 2 _ _)
      have K17:=hide k17;clear hw7 hz7 k17;have hC7:C<=w7.heap.size:=(by omega);go_wp2_with (at_builtin;refine wpList_append_lies _ rfl (.tmp 47) (.tmp 49) 22 rfl C 61 i0 (.agg #[.bool false,.int .i64 0,.slice none 0 0]) 3 40 underlying22 hi hi0 hi1 hi2 rfl (by decide) v k _ rfl (ZO Yy (bA)) ⟨w7.heap.size,0,none⟩ 1 1 [.bool r.d,.int .i64 r.v,.slice N8 (Zg r.v) (Zg r.v)] rfl rfl ?a1 ?a2 ?a3 ?a4 ?a5 ?a6 (w7.heap.size+1) ?a7 ?_)
      case a1=>exact ZI (Z6.new _ _ _)
      case a2=>simp [Value.oneCell']
      case a3=>omega
      case a4=>unfold maxLen;omega
      case a5=>omega
      case a6=>simp;omega
      case a7=>simp
      intro g' cap w8 Xk ZL hat NI;have MO:Below w7.heap.size w7 (w7.alloc (.cells #[.bool r.d,.int .i64 r.v,.slice N8 (Zg r.v) (Zg r.v)] 61)):=bA
      have oK:QI w8 C (gs++[(⟨r.d,r.v,N8,Zg r.v,Zg r.v⟩,Xm (pl.drop (16*YV (rs.take k))) (Zg r.v))]) (.slice (some ⟨g',0,none⟩) (k+1) cap) :=
       yR mY.out MO Xk (by simp [hgl]) (by simp [rgCells,Rg.cells]) ZL (by simpa using hat) ⟨(YT _ _).symm,HS7.out.more aM.1,fun _=>zvz.out⟩
      have hgb:∀ b',b'<C->(w8.heap[b']?=w7.heap[b']?):=fun b' hb'=>by
       refine (ZL.block b' (by simp;omega) (fun e=>?_)).trans (MO.block b' (by omega));have:=ZP Yy e.symm;omega
      have Q8:Z6 w8 q 100 #[.int .i64 op,.int .i64 vs,.slice (some ⟨Fa,hoff,none⟩) rs.length hc,.int .i64 Z0,v,.slice none 0 0,.slice none 0 0]:=(hgb q (by omega)).trans Q7;have R8:RS w8 (PD C q g) w.heap.size g (pl.drop (16*YV (rs.take (k+1)))):=by
       rw [<- zvx.out,<- List.drop_drop];exact HR7.out.move fun b' hb'=>hgb b' (by have:=HB2.size;omega)
      have hz8:w7.heap.size<=w8.heap.size:=Nat.le_trans MO.size ZL.size
      have K8:Z8 (PD C q g) wr w8 :=
       K17.out.trans ⟨ZL.os.trans MO.os,ZL.tape.trans MO.tape,ZL.output.trans MO.output,hz8,fun b' hb'=>hgb b' hb'.1⟩
      have zwd:=hide oK;have HR8:=hide R8;have HK8:=hide K8;have p4:=Q8.q4 rfl;have fz4:=Q8.frozen 4;clear oK R8 K8 hgb Xk ZL q4 y0 y1 y2 y2' zxl;go_wp2;go_roundw
      case rel =>
       refine ⟨k+1,_,_,by omega,by go_num,hkp.trans (HK8.out.trans (Z8.set (by unfold PD;omega) 4 _ _)),Q8.set 4 _,HR8.out.far (by omega) (by unfold PD;omega) xM.out 4 _,
        zwd.out.move (by simp [World.size_setCell]) (fun b' h1 h2=>Below.heap_setCell w8 ⟨q,4,none⟩ _ b' (by simp;omega)),?_,by simp [hgl]⟩
       rw [List.map_append,HGD.out,mZ.out];rfl
      case measure=>simp [intOf];omega
    · obtain rfl:rs.length=k:=(by omega);rw [List.take_length] at HRD HGD;obtain ⟨np,hnp⟩:=Int.eq_ofNat_of_zero_le Sg;obtain ⟨mq,iU⟩:=Int.eq_ofNat_of_zero_le dZ;rw [hnp] at hlen hPQ hcP;rw [iU] at hlen hPQ hcQ;have CN:=J8 op vs Z0 wr zxj zxk HA rs.length hc;rw [hnp,iU] at CN;have HCN:=hide CN;have HPQ:=hide hPQ;have Hr:=H3.kept hkp (by unfold PD;omega);have Rr:=(R2.step hb3).kept hkp (by have:=HB2.size;unfold PD;omega);have h0:=Hr.q0 rfl;have h1:=Hr.q1 rfl;have h2:=Hr.q2 rfl;have h3:=Hr.q3 rfl;have Sb:=hide hnp;have dJ:=hide iU;have vR:=Aq.lt;have zgn:=HRD.out.lt;have hkz:=hkp.size;have zjn:=HB2.size;clear CN hPQ hnp iU Sg dZ oJ;go_wp2_with fail;refine HCN.out.mono ?_;rintro e CG ⟨rfl,Uv⟩;have aL:=Uv.size
      have eO:RS CG (fun b=>b<CG.heap.size/\b≠g) w.heap.size g (pl.drop (16*YV rs)) :=
       (HRD.out.move fun b' hb'=>Uv.block b' (by omega)).chg (fun h=>h.2 rfl)
      have TK:=Lf (fun b=>b<CG.heap.size/\b≠g) w.heap.size g CG (fun k hk=>⟨by omega,by omega⟩)
       (pl.drop (16*YV rs)) np (by rw [List.length_drop,tO.out];omega) (by rw [List.length_drop,tO.out];omega) (by rw [Nq.out];exact (Lr.out.drop _).drop _) (fun k hk=>hk.1) eO
      have G8:=hide TK;clear TK eO h0 h1 h2 h3;go_wp2_with fail;refine G8.out.mono ?_;rintro e JK ⟨A1,rfl,k11,r11,s11,f11⟩;have zqk:=k11.size;have dS:=(Aq.step Uv).kept k11 ⟨by omega,by omega⟩;have R11:=(Rr.step Uv).kept k11 ⟨by omega,by omega⟩;have q5:=dS.q5 rfl;have fz5:=dS.frozen 5;obtain ⟨Fg,Qs⟩:=eE (JK.setCell ⟨q,5,none⟩ (.slice A1 np np));have Q12:Z6 Fg q 100 #[.int .i64 op,.int .i64 vs,.slice HA rs.length hc,.int .i64 Z0,v,.slice A1 np np,.slice none 0 0]:=(by rw [Qs];exact dS.set 5 _);have R12:=R11.far (p:=⟨q,5,none⟩) (by simp;omega) (.slice A1 np np);rw [<- Qs] at R12;have zku:JK.heap.size<=Fg.heap.size/\Fg.heap.size<=JK.heap.size:=(by rw [Qs,World.size_setCell];omega);have r12:RS Fg (fun b=>b<Fg.heap.size/\b≠g) w.heap.size g ((pl.drop (16*YV rs)).drop (16*np)):=by
       have:=((r11.chg (R:=PD C q g) (fun h=>h.2.2 rfl)).far (b:=q) (by omega) (by unfold PD;omega) xM.out 5 (.slice A1 np np)).chg (R:=fun b=>b<Fg.heap.size/\b≠g) (fun h=>h.2 rfl);rw [Qs] at this ⊢;exact this
      have TQ:=Ci (fun b=>b<Fg.heap.size/\b≠g) w.heap.size g Fg (fun k hk=>⟨by omega,by omega⟩)
       ((pl.drop (16*YV rs)).drop (16*np)) mq (by rw [List.length_drop,List.length_drop,tO.out];omega) (by rw [List.length_drop,List.length_drop,tO.out];omega) (by rw [Nq.out];exact ((Lr.out.drop _).drop _).drop _) (fun k hk=>hk.1) r12
      have HTQ:=hide TQ;have e12:∀ b',b'≠q->Fg.heap[b']?=JK.heap[b']?:=fun b' hb'=>by rw [Qs];exact Below.heap_setCell JK ⟨q,5,none⟩ _ b' hb'
      have E12:=hide e12;have K12:Z8 (PD C q g) JK Fg:=(by rw [Qs];exact Z8.set (by unfold PD;omega) 5 _ _);have zir:=hide K12;have pV:=Qs.symm;clear TQ r12 Qs e12 K12;go_wp2_with fail;refine HTQ.out.mono ?_;rintro e Lj ⟨A2,rfl,k13,r13,s13,f13⟩;have zkv:=k13.size;have Q13:=Q12.kept k13 ⟨by omega,by omega⟩;have R13:=R12.kept k13 ⟨by omega,by omega⟩;have q6:=Q13.q6 rfl;have fz6:=Q13.frozen 6;obtain ⟨sU,Ay⟩:=eE (Lj.setCell ⟨q,6,none⟩ (.slice A2 mq mq));have Q14:Z6 sU q 100 #[.int .i64 op,.int .i64 vs,.slice HA rs.length hc,.int .i64 Z0,v,.slice A1 np np,.slice A2 mq mq]:=(by rw [Ay];exact Q13.set 6 _);have Qd:=R13.far (p:=⟨q,6,none⟩) (by simp;omega) (.slice A2 mq mq);rw [<- Ay] at Qd;have zhu:Lj.heap.size<=sU.heap.size/\sU.heap.size<=Lj.heap.size:=(by rw [Ay,World.size_setCell];omega);have E14:Hid (∀ b',b'≠q->sU.heap[b']?=Lj.heap[b']?):=hide fun b' hb'=>by rw [Ay];exact Below.heap_setCell Lj ⟨q,6,none⟩ _ b' hb'
      have K14:Hid (Z8 (PD C q g) Lj sU):=(by apply hide;rw [Ay];exact Z8.set (by unfold PD;omega) 6 _ _);have zic:=Ay.symm;clear Ay pV;have q0:=Q14.q0 rfl;have q1:=Q14.q1 rfl;have q2:=Q14.q2 rfl;have q3:=Q14.q3 rfl;have q4:=Q14.q4 rfl;have q5':=Q14.q5 rfl;have q6':=Q14.q6 rfl;have r0:=Qd.q0 rfl;have r1:=Qd.q1 rfl;have r2:=Qd.q2 rfl;have r3:=Qd.q3 rfl;have r4:=Qd.q4 rfl;have r5:=Qd.q5 rfl;have r6:=Qd.q6 rfl;have g0:=Qd.frozen 0;have g1:=Qd.frozen 1;have g2:=Qd.frozen 2;have g3:=Qd.frozen 3;have g4:=Qd.frozen 4;have g5:=Qd.frozen 5;have g6:=Qd.frozen 6;clear q5;obtain ⟨GA,gc,rfl,_⟩:=ZJ gI.out.1;go_wp2;clear q0 q1 q2 q3 q4 q5' q6' q6 r0 r1 r2 r3 r4 r5 r6 g0 g1 g2 g3 g4 g5 g6;obtain ⟨e0,e1,e2,e3,e4,e5,e6⟩:=Te Qd (.int .i64 op) (.int .i64 vs) (.slice HA rs.length hc) (.int .i64 Z0) (.slice GA rs.length gc) (.slice A1 np np) (.slice A2 mq mq);rw [HD.out];refine bodyPost_ret (v:=.tuple #[.agg #[.int .i64 op,.int .i64 vs,.slice HA rs.length hc,.int .i64 Z0,.slice GA rs.length gc,.slice A1 np np,.slice A2 mq mq],.int .i64 0]) (by simp [results,Tryz.results58,go_sem,e0,e1,e2,e3,e4,e5,e6]) rfl ?_;clear e0 e1 e2 e3 e4 e5 e6;obtain ⟨W,hW⟩:=eE (JG sU w.heap.size (.int .i64 op) (.int .i64 vs) (.slice HA rs.length hc) (.int .i64 Z0) (.slice GA rs.length gc) (.slice A1 np np) (.slice A2 mq mq));have hWz:sU.heap.size<=W.heap.size:=(by rw [hW,Je];exact Nat.le_refl _);have eW:∀ b',b'≠w.heap.size->W.heap[b']?=sU.heap[b']?:=fun b' hb'=>by rw [hW];exact EI sU _ _ _ _ _ _ _ _ b' hb'
      have zjl:Below w.heap.size w sU:=(((((HB3.trans (hkp.below xM.out)).trans (Uv.mono (by omega))).trans (k11.below (fun k hk=>⟨by omega,by omega⟩))).trans (zir.out.below xM.out)).trans (k13.below (fun k hk=>⟨by omega,by omega⟩))).trans (K14.out.below xM.out);have hBW:Below w.heap.size w W:=(by rw [hW];exact Td zjl (Nat.le_refl _) _ _ _ _ _ _ _);have e13:∀ b',b'<Lj.heap.size->b'≠q->b'≠w.heap.size->W.heap[b']?=Lj.heap[b']?:=fun b' h1 h2 h3=>(eW b' h3).trans (E14.out b' h2);have e11:∀ b',b'<JK.heap.size->b'≠q->b'≠g->b'≠w.heap.size->W.heap[b']?=JK.heap[b']?:=fun b' h1 h2 h3 h4=>(e13 b' (by omega) h2 h4).trans ((k13.block b' ⟨by omega,h3⟩).trans (E12.out b' h2));have er:∀ b',b'<wr.heap.size->b'≠q->b'≠g->b'≠w.heap.size->W.heap[b']?=wr.heap[b']?:=fun b' h1 h2 h3 h4=>(e11 b' (by omega) h2 h3 h4).trans ((k11.block b' ⟨by omega,h3⟩).trans (Uv.block b' h1));have QIW:QI W C gs (.slice GA gs.length gc):=gI.out.move (by omega) fun b' h1 h2=>er b' h2 (by omega) (by omega) (by omega)
      have zxg:Sl W w2.heap.size HA (rgCells rs):=HSL.out.at_ fun b' h1 hx x hA hxb=>by
       refine (er b' (by omega) (by omega) (by omega) ?_).trans ((hkp.block b' (by unfold PD;omega)).trans (hb3.block b' h1));subst hxb;intro e;exact yK hx HSL.out hA (by rw [e];exact R2)
      have bS:Sl W JK.heap.size A1 (Zc (Xm (pl.drop (16*YV rs)) np)):=s11.at_ fun b' h1 hx x hA hxb=>by
       have:=f11 x hA;subst hxb;exact e11 _ h1 (by omega) (by omega) (by omega)
      have ztx:Sl W Lj.heap.size A2 (Vs (WU ((pl.drop (16*YV rs)).drop (16*np)) mq)):=s13.at_ fun b' h1 hx x hA hxb=>by
       have:=f13 x hA;subst hxb;exact e13 _ h1 (by omega) (by omega)
      have hqq:WU ((pl.drop (16*YV rs)).drop (16*np)) mq=WU (pl.drop (16*YV rs)) mq:=by
       rcases HPQ.out with h|h
       · rw [show np=0 by omega];simp
       · rw [show mq=0 by omega];rfl
      rw [hqq] at ztx;show Ob (Uc ⟨op,vs,rs,Z0⟩ (bs.drop N),0) w _ (JG sU w.heap.size _ _ _ _ _ _ _);rw [<- hW];clear hW;have hps:(Uc ⟨op,vs,rs,Z0⟩ (bs.drop N)).ps=Xm (pl.drop (16*YV rs)) np:=by
       show Xm _ (Xu op vs).toNat=_;rw [Sb.out,<- Nq.out];rfl
      have Qh:(Uc ⟨op,vs,rs,Z0⟩ (bs.drop N)).qs=WU (pl.drop (16*YV rs)) mq:=by
       show WU _ (WX op Z0).toNat=_;rw [dJ.out,<- Nq.out];rfl
      refine ⟨rs,HA,hc,gs,GA,gc,A1,np,A2,mq,?_,hBW,?_,by rw [hps,YT];exact Nat.le_refl _⟩
      · unfold Nj;dsimp only;rw [hps,Qh,YT,VI,hgl];rfl
      · refine ⟨zxg.more (by omega),rfl,Sl.YI QIW.1,QIW.iF,?_,?_,?_⟩
        · rw [HGD.out,Nq.out];rfl
        · dsimp only;rw [hps];exact bS.more (by omega)
        · dsimp only;rw [Qh];exact ztx.more (by omega)
 · have hne:(cl != 0)=true:=(by simpa using hc0);rw [if_neg hc0] at HD;have RN:=hide CL;clear CL PA hpe hcl hc0 hfix hg hby Oz hs;go_enter func58,ntmps58;go_wp2_with fail;rw [<- hw0];have HW0:=hide hw0;clear hw0;refine RN.out.mono ?_;rintro e w1 ⟨rfl,hb1⟩;have R1:=R0.step hb1;have r0:=R1.q0 rfl;have r1:=R1.q1 rfl;have r2:=R1.q2 rfl;have r3:=R1.q3 rfl;have r4:=R1.q4 rfl;have r5:=R1.q5 rfl;have r6:=R1.q6 rfl;have f0:=R1.frozen 0;have f1:=R1.frozen 1;have f2:=R1.frozen 2;have f3:=R1.frozen 3;have f4:=R1.frozen 4;have f5:=R1.frozen 5;have f6:=R1.frozen 6;go_wp2;obtain ⟨e0,e1,e2,e3,e4,e5,e6⟩:=Te R1 (.int .i64 0) (.int .i64 0) (.slice none 0 0) (.int .i64 0) (.slice none 0 0) (.slice none 0 0) (.slice none 0 0);rw [HD.out];exact bodyPost_ret (v:=.tuple #[.agg #[.int .i64 0,.int .i64 0,.slice none 0 0,.int .i64 0,.slice none 0 0,.slice none 0 0,.slice none 0 0],.int .i64 cl]) (by simp [results,Tryz.results58,go_sem,e0,e1,e2,e3,e4,e5,e6]) rfl (Oo (Td (Z9 hb0 hb1) (Nat.le_refl _) _ _ _ _ _ _ _))
end
end
end Go.Proofs.YtfljlmleiggmjaaGreatDoor