/- DecFacts RoundMath2 -/
import Derived.Test.YtfljlmleiggmjaaGreatDoorPkC07
import Derived.Test.YtfljlmleiggmjaaGreatDoorPkC11
set_option maxRecDepth 1000000
set_option maxHeartbeats 8000000
namespace Go.Proofs.YtfljlmleiggmjaaGreatDoor
section
open Go.RowKit
abbrev Gd:=Bool × Int × List (Int × Int)
def sizeN (v:Int):Nat:=(sizeOfReg v).toNat
def nSum (rs:List Rg):Nat:=(rs.map fun r=>sizeN r.v).sum
theorem sizeN_le (v:Int):sizeN v≤64:=by have:=sizeOfReg_bd v;unfold sizeN;omega
theorem sizeN_cast (v:Int):((sizeN v:Nat):Int)=sizeOfReg v:=by have:=sizeOfReg_bd v;unfold sizeN;omega
theorem nSum_cast (rs:List Rg):((nSum rs:Nat):Int)=sumSize rs:=by
 induction rs with
 | nil=>rfl
 | cons r rs ih =>
   have:=sizeN_cast r.v
   simp only [nSum,sumSize,List.map_cons,List.sum_cons] at *
   omega
theorem nSum_snoc (rs:List Rg) (k:Nat) (r:Rg) (h:rs[k]?=some r):nSum (rs.take (k+1))=nSum (rs.take k)+sizeN r.v:=by
 rw [List.take_add_one,h];simp [nSum]
theorem nSum_take_le (rs:List Rg) (k:Nat):nSum (rs.take k)≤nSum rs:=by
 have h:nSum rs=nSum (rs.take k)+nSum (rs.drop k):=by
  conv=>lhs;rw [← List.take_append_drop k rs]
  simp only [nSum,List.map_append,List.sum_append]
 omega
def regsOf:List Rg→List Int→List Gd
 | [],_=>[]
 | r::rs,bs=>(r.d,r.v,ptsOf bs (sizeN r.v))::regsOf rs (bs.drop (16*sizeN r.v))
theorem regsOf_snoc:∀ (rs:List Rg) (bs:List Int) (k:Nat) (r:Rg),rs[k]?=some r →
 regsOf (rs.take (k+1)) bs=regsOf (rs.take k) bs++[(r.d,r.v,ptsOf (bs.drop (16*nSum (rs.take k))) (sizeN r.v))]
 | [],_,_,_,h=>by simp at h
 | q::rs,bs,0,r,h=>by
   have:q=r:=by simpa using h
   subst this
   simp [regsOf,nSum]
 | q::rs,bs,k+1,r,h=>by
   have ih:=regsOf_snoc rs (bs.drop (16*sizeN q.v)) k r (by simpa using h)
   rw [List.take_succ_cons,List.take_succ_cons,regsOf,regsOf,ih,List.drop_drop]
   have:16*sizeN q.v+16*nSum (rs.take k)=16*nSum (q::rs.take k):=by simp [nSum];omega
   rw [this];rfl
structure Rq where
 h:PH
 gs:List Gd
 ps:List (Int × Int)
 qs:List ((Int × Int) × Int)
def rqZero:Rq:=⟨phZero,[],[],[]⟩
def rqOf (h:PH) (pl:List Int):Rq :=
 ⟨h,regsOf h.rs pl,ptsOf (pl.drop (16*nSum h.rs)) (cntP h.op h.vs).toNat,qusOf (pl.drop (16*nSum h.rs)) (cntQ h.op h.pts).toNat⟩
def hdecode (bs:List Int):Rq × Int :=
 if hclass bs=0 then (rqOf (hparse bs).1 (bs.drop (hparse bs).2.1.toNat),0) else (rqZero,hclass bs)
def gdOf (g:Gr):Gd:=(g.1.d,g.1.v,g.2)
structure ReadsRq (w:World) (B:Nat) (q:Rq) (hrs:List Rg) (HA:Option Addr) (gs:List Gr) (GA PA QA:Option Addr):Prop where
 hh:Sl w B HA (rgCells hrs)
 hk:hrs.map Rg.key=q.h.rs.map Rg.key
 hg:Sl w B GA (rgCells (gs.map (·.1)))
 gk:GsOk w B gs
 gd:gs.map gdOf=q.gs
 hp:Sl w B PA (ptCs q.ps)
 hq:Sl w B QA (quCs q.qs)
def rqVal (q:Rq) (hrs:List Rg) (HA:Option Addr) (hc:Nat) (gs:List Gr) (GA:Option Addr) (gc:Nat) (PA:Option Addr) (pc:Nat) (QA:Option Addr) (qc:Nat):Value :=
 .agg #[.int .i64 q.h.op,.int .i64 q.h.vs,.slice HA hrs.length hc,.int .i64 q.h.pts,.slice GA gs.length gc,.slice PA q.ps.length pc,.slice QA q.qs.length qc]
def Decoded (r:Rq × Int) (w:World) (e:Ending) (w':World):Prop :=
 ∃ hrs HA hc gs GA gc PA pc QA qc,e=.returned (.tuple #[rqVal r.1 hrs HA hc gs GA gc PA pc QA qc,.int .i64 r.2])∧Below w.heap.size w w'∧ReadsRq w' w'.heap.size r.1 hrs HA gs GA PA QA∧r.1.ps.length≤pc
theorem ReadsRq.zero (w:World) (B:Nat):ReadsRq w B rqZero [] none [] none none none :=
 ⟨.nil _ _ _,rfl,.nil _ _ _,fun g hg=>by simp at hg,rfl,.nil _ _ _,.nil _ _ _⟩
theorem decoded_zero {w w':World} {c:Int} (hb:Below w.heap.size w w'):Decoded (rqZero,c) w (.returned (.tuple #[.agg #[.int .i64 0,.int .i64 0,.slice none 0 0,.int .i64 0,.slice none 0 0,.slice none 0 0,.slice none 0 0],.int .i64 c])) w' :=
 ⟨[],none,0,[],none,0,none,0,none,0,rfl,hb,ReadsRq.zero _ _,Nat.le_refl _⟩
theorem ReadsRq.below {w w':World} {B:Nat} {q:Rq} {hrs:List Rg} {HA:Option Addr} {gs:List Gr} {GA PA QA:Option Addr} (h:ReadsRq w B q hrs HA gs GA PA QA) (hb:Below B w w'):ReadsRq w' B q hrs HA gs GA PA QA :=
 ⟨h.hh.below hb,h.hk,h.hg.below hb,fun g hg=>⟨(h.gk g hg).1,(h.gk g hg).2.below hb⟩,h.gd,h.hp.below hb,h.hq.below hb⟩
theorem ReadsRq.more {w:World} {B B':Nat} {q:Rq} {hrs:List Rg} {HA:Option Addr} {gs:List Gr} {GA PA QA:Option Addr} (h:ReadsRq w B q hrs HA gs GA PA QA) (hB:B≤B'):ReadsRq w B' q hrs HA gs GA PA QA :=
 ⟨h.hh.more hB,h.hk,h.hg.more hB,fun g hg=>⟨(h.gk g hg).1,(h.gk g hg).2.more hB⟩,h.gd,h.hp.more hB,h.hq.more hB⟩
end
section
open Go.RowKit
theorem dec_facts {bs:List Int} {h:PH} {n er:Int} (hp:hparse bs=(h,n,er)) (hc:hclass bs=0) :
 er=0∧hcheck h.op h.vs h.rs h.pts=0∧0≤n∧n≤68∧0≤cntP h.op h.vs∧0≤cntQ h.op h.pts∧(cntP h.op h.vs=0∨cntQ h.op h.pts=0)∧(1≤cntP h.op h.vs∨1≤cntQ h.op h.pts)∧(bs.length:Int)=n+16*(nSum h.rs:Int)+16*cntP h.op h.vs+24*cntQ h.op h.pts:=by
 have hn:=hparse_n bs
 have ho:=hparse_ok bs
 unfold hclass at hc
 rw [hp] at hc hn ho
 dsimp only at hc hn
 by_cases he:er=0
 · rw [if_pos he] at hc
   have hk:hcheck h.op h.vs h.rs h.pts=0:=ho he
   have hl:(bs.length:Int)=n+hpay h.op h.vs h.rs h.pts:=by
    by_cases h1:(bs.length:Int)=n+hpay h.op h.vs h.rs h.pts
    · exact h1
    · rw [if_neg h1] at hc;cases hc
   obtain ⟨h1,h2,h3,h4,h5,h6,h7,h8,_⟩:=hcheck_zero hk
   unfold hpay at hl
   rw [if_pos hk,← nSum_cast] at hl
   refine ⟨he,hk,hn.1,hn.2,?_,?_,?_,?_,?_⟩
   · unfold cntP;split <;> (try split) <;> (try split) <;> (try split) <;> omega
   · unfold cntQ;split
     · omega
     · have:=h7 (by omega);omega
   · unfold cntP cntQ
     by_cases e5:h.op=5
     · left;rw [if_neg (by omega),if_neg (by omega),if_neg (by omega),if_neg (by omega)]
     · right;rw [if_pos (by omega)]
   · unfold cntP cntQ
     by_cases e5:h.op=5
     · right;rw [if_neg (by omega)];have:=h7 e5;omega
     · left;split <;> (try split) <;> (try split) <;> (try split) <;> omega
   · have e1:cntP h.op h.vs=fixedOf h.op+h.vs:=by
      unfold cntP fixedOf
      by_cases a1:h.op=1
      · have:=h4 (by omega);rw [if_pos a1,if_pos a1];omega
      · by_cases a2:h.op=2
        · have:=h4 (by omega);rw [if_neg a1,if_pos a2,if_neg a1,if_pos a2];omega
        · by_cases a3:h.op=3
          · rw [if_neg a1,if_neg a2,if_pos a3,if_neg a1,if_neg a2,if_neg (by omega)];omega
          · have:=h4 a3
            by_cases a4:h.op=4
            · rw [if_neg a1,if_neg a2,if_neg a3,if_pos a4,if_neg a1,if_neg a2,if_neg (by omega)];omega
            · rw [if_neg a1,if_neg a2,if_neg a3,if_neg a4,if_neg a1,if_neg a2,if_pos (by omega)];omega
     have e2:cntQ h.op h.pts=h.pts:=by
      unfold cntQ
      by_cases a:h.op=1∨h.op=2∨h.op=3∨h.op=4
      · rw [if_pos a];have:=h8 (by omega);omega
      · rw [if_neg a]
     rw [e1,e2];omega
 · rw [if_neg he] at hc;omega
section
variable {w w' wa:World} {B C g:Nat} {A:Option Addr} {xs:List Value} {P:Nat→Prop} {bs:List Int}
theorem RS.move (h:RS w P B g bs) (hb:∀ b,b<B∨b=g→w'.heap[b]?=w.heap[b]?):RS w' P B g bs:=by
 obtain ⟨A,c,h1,h2,h3,h4⟩:=h
 exact ⟨A,c,(hb g (.inr rfl)).trans h1,h2,h3,h4.at_ fun b hlt _ _ _ _=>hb b (.inl hlt)⟩
theorem RS.chg {R:Nat→Prop} (h:RS w P B g bs) (hg:¬ R g):RS w R B g bs:=by
 obtain ⟨A,c,h1,h2,h3,h4⟩:=h
 exact ⟨A,c,h1,hg,h3,h4⟩
def QI (w:World) (C:Nat) (gs:List Gr) (v:Value):Prop :=
 w.ownsRow C 61 3 v gs.length (rgCells (gs.map (·.1)))∧∀ g∈gs,g.1.n=g.2.length∧Sl w w.heap.size g.1.A (ptCs g.2)∧(ptCs g.2≠[]→∀ x,g.1.A=some x→C≤x.block∧v.ownBlock≠some x.block)
theorem QI.nil (w:World) (C:Nat):QI w C [] (.slice none 0 0):=⟨World.ownsRow_nil _ _ _ _,fun g hg=>by simp at hg⟩
theorem QI.move {gs:List Gr} {v:Value} (h:QI w C gs v) (hz:w.heap.size≤w'.heap.size) (hb:∀ b,C≤b→b<w.heap.size→w'.heap[b]?=w.heap[b]?):QI w' C gs v:=by
 refine ⟨own_blk h.1 fun k hk=>hb k (own_base h.1 hk) (own_lt h.1 hk),fun g hg=>?_⟩
 obtain ⟨h1,h2,h3⟩:=h.2 g hg
 refine ⟨h1,(h2.at_ fun b hlt hx x hA hxb=>?_).more hz,h3⟩
 subst hxb
 exact hb _ (h3 hx x hA).1 hlt
theorem QI.gsOk {gs:List Gr} {v:Value} (h:QI w C gs v):GsOk w w.heap.size gs:=fun g hg=>⟨(h.2 g hg).1,(h.2 g hg).2.1⟩
theorem qi_push {w7 wa w8:World} {C g' cap n:Nat} {gs:List Gr} {gr:Gr} {v:Value} {xs:List Value} (hq:QI w7 C gs v) (hb:Below w7.heap.size w7 wa)
 (hown1:w8.ownsRow C 61 3 (.slice (some ⟨g',0,none⟩) n cap) n xs) (hn:n=(gs++[gr]).length) (hx:xs=rgCells ((gs++[gr]).map (·.1)))
 (hgrow:wa.grownBy w8 v.ownBlock) (hat:v.ownBlock=some g'∨g'=wa.heap.size)
 (hnew:gr.1.n=gr.2.length∧Sl w7 w7.heap.size gr.1.A (ptCs gr.2)∧(ptCs gr.2≠[]→∀ x,gr.1.A=some x→C≤x.block∧v.ownBlock≠some x.block)) :
 QI w8 C (gs++[gr]) (.slice (some ⟨g',0,none⟩) n cap):=by
 subst hn hx
 refine ⟨hown1,fun g hg=>?_⟩
 have hg':g.1.n=g.2.length∧Sl w7 w7.heap.size g.1.A (ptCs g.2)∧(ptCs g.2≠[]→∀ x,g.1.A=some x→C≤x.block∧v.ownBlock≠some x.block):=by
  rcases List.mem_append.1 hg with h | h
  · exact hq.2 g h
  · rw [List.mem_singleton.1 h];exact hnew
 obtain ⟨h1,h2,h3⟩:=hg'
 refine ⟨h1,(h2.at_ fun b hlt hx x hA hxb=>?_).more (Nat.le_trans hb.size hgrow.size),fun hx x hA=>⟨(h3 hx x hA).1,?_⟩⟩
 · subst hxb
   exact (hgrow.block _ (Nat.lt_of_lt_of_le hlt hb.size) (fun e=>(h3 hx x hA).2 e.symm)).trans (hb.block _ hlt)
 · have:=h2.blk_lt hx hA
   have:=hb.size
   rcases hat with h | h
   · rw [show (Value.slice (some ⟨g',0,none⟩) (gs++[gr]).length cap).ownBlock=some g' from rfl,← h];exact (h3 hx x hA).2
   · intro e
     have:g'=x.block:=by simpa [Value.ownBlock] using e
     omega
def PD (C q g b:Nat):Prop:=b<C∧b≠q∧b≠g
end
def set7 (w:World) (b:Nat) (u0 u1 u2 u3 u4 u5 u6:Value):World :=
 ((((((w.setCell ⟨b,0,none⟩ u0).setCell ⟨b,1,none⟩ u1).setCell ⟨b,2,none⟩ u2).setCell ⟨b,3,none⟩ u3).setCell ⟨b,4,none⟩ u4).setCell ⟨b,5,none⟩ u5).setCell ⟨b,6,none⟩ u6
theorem set7_cells {w:World} {b:Nat} {t:TypeId} {v0 v1 v2 v3 v4 v5 v6:Value} (B:Blk w b t #[v0,v1,v2,v3,v4,v5,v6]) (u0 u1 u2 u3 u4 u5 u6:Value) :
 (w.setCell ⟨b,0,none⟩ u0).cell? ⟨b,0,none⟩=some u0∧((w.setCell ⟨b,0,none⟩ u0).setCell ⟨b,1,none⟩ u1).cell? ⟨b,1,none⟩=some u1 ∧
 (((w.setCell ⟨b,0,none⟩ u0).setCell ⟨b,1,none⟩ u1).setCell ⟨b,2,none⟩ u2).cell? ⟨b,2,none⟩=some u2 ∧
 ((((w.setCell ⟨b,0,none⟩ u0).setCell ⟨b,1,none⟩ u1).setCell ⟨b,2,none⟩ u2).setCell ⟨b,3,none⟩ u3).cell? ⟨b,3,none⟩=some u3 ∧
 (((((w.setCell ⟨b,0,none⟩ u0).setCell ⟨b,1,none⟩ u1).setCell ⟨b,2,none⟩ u2).setCell ⟨b,3,none⟩ u3).setCell ⟨b,4,none⟩ u4).cell? ⟨b,4,none⟩=some u4 ∧
 ((((((w.setCell ⟨b,0,none⟩ u0).setCell ⟨b,1,none⟩ u1).setCell ⟨b,2,none⟩ u2).setCell ⟨b,3,none⟩ u3).setCell ⟨b,4,none⟩ u4).setCell ⟨b,5,none⟩ u5).cell? ⟨b,5,none⟩=some u5 ∧
 (((((((w.setCell ⟨b,0,none⟩ u0).setCell ⟨b,1,none⟩ u1).setCell ⟨b,2,none⟩ u2).setCell ⟨b,3,none⟩ u3).setCell ⟨b,4,none⟩ u4).setCell ⟨b,5,none⟩ u5).setCell ⟨b,6,none⟩ u6).cell? ⟨b,6,none⟩=some u6:=by
 have s0:Blk _ b t #[u0,v1,v2,v3,v4,v5,v6]:=B.set 0 u0
 have s1:Blk _ b t #[u0,u1,v2,v3,v4,v5,v6]:=s0.set 1 u1
 have s2:Blk _ b t #[u0,u1,u2,v3,v4,v5,v6]:=s1.set 2 u2
 have s3:Blk _ b t #[u0,u1,u2,u3,v4,v5,v6]:=s2.set 3 u3
 have s4:Blk _ b t #[u0,u1,u2,u3,u4,v5,v6]:=s3.set 4 u4
 have s5:Blk _ b t #[u0,u1,u2,u3,u4,u5,v6]:=s4.set 5 u5
 have s6:Blk _ b t #[u0,u1,u2,u3,u4,u5,u6]:=s5.set 6 u6
 exact ⟨s0.cell (i:=0) rfl,s1.cell (i:=1) rfl,s2.cell (i:=2) rfl,s3.cell (i:=3) rfl,s4.cell (i:=4) rfl,s5.cell (i:=5) rfl,s6.cell (i:=6) rfl⟩
theorem set7_size (w:World) (b:Nat) (u0 u1 u2 u3 u4 u5 u6:Value):(set7 w b u0 u1 u2 u3 u4 u5 u6).heap.size=w.heap.size:=by simp [set7,World.size_setCell]
theorem set7_far (w:World) (b:Nat) (u0 u1 u2 u3 u4 u5 u6:Value) (k:Nat) (hk:k≠b):(set7 w b u0 u1 u2 u3 u4 u5 u6).heap[k]?=w.heap[k]?:=by
 unfold set7
 iterate 7 rw [Below.heap_setCell _ _ _ k hk]
theorem set7_below {w0 w:World} {b:Nat} (h:Below w0.heap.size w0 w) (hb:w0.heap.size≤b) (u0 u1 u2 u3 u4 u5 u6:Value):Below w0.heap.size w0 (set7 w b u0 u1 u2 u3 u4 u5 u6):=by
 unfold set7
 have st:∀ (w1:World) (o:Nat) (u:Value),Below w0.heap.size w0 w1→Below w0.heap.size w0 (w1.setCell ⟨b,o,none⟩ u):=fun w1 o u h1=>h1.setCell hb u
 exact st _ _ _ (st _ _ _ (st _ _ _ (st _ _ _ (st _ _ _ (st _ _ _ (st _ _ _ h))))))
end
section
open Go.RowKit
theorem le_words (x:Int) (n:Nat):le ((List.range n).map fun k=>x / 256 ^ k % 256)=x % 256 ^ n:=by
 induction n with
 | zero=>simp [le]
 | succ n ih =>
   rw [List.range_succ,List.map_append,List.map_singleton,le_snoc,ih,List.length_map,List.length_range]
   have h:=Int.emod_add_mul_ediv (x / 256 ^ n) 256
   have h1:=Int.emod_add_mul_ediv x (256 ^ n)
   have h2:=Int.emod_add_mul_ediv x (256 ^ (n+1))
   rw [div256_succ] at h
   have e:(256:Int) ^ (n+1)=256 ^ n*256:=Int.pow_succ 256 n
   rw [e] at h2
   have e2:(256:Int) ^ n*(256*(x / 256 ^ (n+1)))=256 ^ n*256*(x / (256 ^ n*256)):=by rw [← Int.mul_assoc,e]
   have h3:(256:Int) ^ n*(x / 256 ^ n % 256+256*(x / 256 ^ (n+1)))=256 ^ n*(x / 256 ^ n):=by rw [h]
   rw [Int.mul_add,e2] at h3
   rw [e,Int.mul_comm (x / 256 ^ n % 256)]
   omega
theorem le_word8 {x:Int} (h:U64 x):le (word8 x)=x:=by
 unfold word8
 rw [le_words]
 exact Int.emod_eq_of_lt h.1 h.2
theorem word8_by (x:Int):By (word8 x):=by
 intro y hy
 obtain ⟨k,_,rfl⟩:=List.mem_map.1 hy
 omega
theorem le_inj:∀ (a b:List Int),By a→By b→a.length=b.length→le a=le b→a=b
 | [],[],_,_,_,_=>rfl
 | [],_::_,_,_,h,_=>by simp at h
 | _::_,[],_,_,h,_=>by simp at h
 | x::a,y::b,ha,hb,hl,he=>by
   simp only [le] at he
   have h1:=ha.head
   have h2:=hb.head
   have hxy:x=y:=by omega
   have:le a=le b:=by omega
   rw [hxy,le_inj a b ha.tail hb.tail (by simpa using hl) this]
theorem le_u64 {l:List Int} (hl:l.length=8) (hb:By l):U64 (le l):=by
 have:=le_bd l hb
 rw [hl] at this
 exact ⟨this.1,by have:=this.2;simpa using this⟩
theorem word8_le {l:List Int} (hl:l.length=8) (hb:By l):word8 (le l)=l :=
 le_inj _ _ (word8_by _) hb (by rw [word8_length,hl]) (le_word8 (le_u64 hl hb))
theorem u64_i64 {x:Int} (h:U64 x):IntKind.u64.wrap (i64w x)=x:=by
 unfold i64w wrap64
 rw [IntKind.wrap_u64]
 unfold U64 at h
 omega
theorem eight_dropR (bs:List Int) (a k:Nat):eight bs (a+k)=eight (bs.drop a) k:=by unfold eight;rw [List.drop_drop]
theorem ptsOf_succ (bs:List Int) (n:Nat):ptsOf bs (n+1)=ptRd bs 0::ptsOf (bs.drop 16) n:=by
 unfold ptsOf
 rw [List.range_succ_eq_map,List.map_cons,List.map_map]
 congr 1
 refine List.map_congr_left fun i _=>?_
 show ptRd bs (i+1)=ptRd (bs.drop 16) i
 unfold ptRd
 rw [← eight_dropR,← eight_dropR,show 16*(i+1)=16+16*i by omega,show 16+16*i+8=16+(16*i+8) by omega]
theorem qusOf_succ' (bs:List Int) (n:Nat):qusOf bs (n+1)=quAt bs 0::qusOf (bs.drop 24) n:=by
 unfold qusOf
 rw [List.range_succ_eq_map,List.map_cons,List.map_map]
 congr 1
 refine List.map_congr_left fun i _=>?_
 show quAt bs (i+1)=quAt (bs.drop 24) i
 unfold quAt
 rw [← eight_dropR,← eight_dropR,← eight_dropR,show 24*(i+1)=24+24*i by omega,show 24+24*i+8=24+(24*i+8) by omega,show 24+24*i+16=24+(24*i+16) by omega]
theorem pt16_at {bs:List Int} (h:16≤bs.length) (hb:By bs):pt16 (ptRd bs 0)=bs.take 16:=by
 unfold pt16 ptRd u64w
 have l0:(eight bs (16*0)).length=8:=eight_len (by omega)
 have l1:(eight bs (16*0+8)).length=8:=eight_len (by omega)
 rw [u64_i64 (le_u64 l0 (eight_by hb _)),u64_i64 (le_u64 l1 (eight_by hb _)),word8_le l0 (eight_by hb _),word8_le l1 (eight_by hb _)]
 have:=pt_split bs 0
 rw [Nat.mul_zero,List.drop_zero] at this
 conv=>rhs;rw [this,← List.append_assoc]
 rw [Nat.mul_zero] at l0 l1 ⊢
 rw [List.take_left' (by rw [List.length_append,l0,l1])]
theorem q24_at {bs:List Int} (h:24≤bs.length) (hb:By bs):q24 (quAt bs 0)=bs.take 24:=by
 have h1:=pt16_at (by omega) hb
 have l2:(eight bs (24*0+16)).length=8:=eight_len (by omega)
 have hp:(quAt bs 0).1=ptRd bs 0:=rfl
 unfold q24
 rw [hp,h1]
 unfold quAt
 rw [word8_le l2 (eight_by hb _)]
 unfold eight
 rw [Nat.mul_zero,show 0+16=16 by omega,show 24=16+8 by omega,List.take_add]
theorem flat_ptsOf:∀ (n:Nat) (bs:List Int),16*n≤bs.length→By bs→(ptsOf bs n).flatMap pt16=bs.take (16*n)
 | 0,bs,_,_=>by simp [ptsOf]
 | n+1,bs,h,hb=>by
   rw [ptsOf_succ,List.flatMap_cons,pt16_at (by omega) hb,flat_ptsOf n (bs.drop 16) (by rw [List.length_drop];omega) (hb.drop _),show 16*(n+1)=16+16*n by omega,List.take_add]
theorem flat_qusOf:∀ (n:Nat) (bs:List Int),24*n≤bs.length→By bs→(qusOf bs n).flatMap q24=bs.take (24*n)
 | 0,bs,_,_=>by simp [qusOf]
 | n+1,bs,h,hb=>by
   rw [qusOf_succ',List.flatMap_cons,q24_at (by omega) hb,flat_qusOf n (bs.drop 24) (by rw [List.length_drop];omega) (hb.drop _),show 24*(n+1)=24+24*n by omega,List.take_add]
end
section
open Go.RowKit
theorem rb_key (rs:List Rg) (h:rs.any fullRg=false):(rs.map rgBack).map Rg.key=rs.map Rg.key:=by
 rw [List.map_map]
 refine List.map_congr_left fun r hr=>?_
 have:=List.any_eq_false.1 h r hr
 unfold fullRg at this
 have hn:r.n=0:=by have:¬ 0<r.n:=by simpa using this
                   omega
 show (r.d,r.v,0)=(r.d,r.v,r.n)
 rw [hn]
theorem any_key {p:Rg→Bool} (f:Bool × Int × Nat→Bool) (hp:∀ r,p r=f r.key) {rs rs':List Rg} (h:rs.map Rg.key=rs'.map Rg.key):rs.any p=rs'.any p:=by
 have e:∀ l:List Rg,l.any p=(l.map Rg.key).any f:=fun l=>by
  rw [List.any_map];congr 1;funext r;exact hp r
 rw [e,e,h]
theorem len_key {rs rs':List Rg} (h:rs.map Rg.key=rs'.map Rg.key):rs.length=rs'.length:=by have:=congrArg List.length h;simpa using this
theorem hcheck_key {op vs pts:Int} {rs rs':List Rg} (h:rs.map Rg.key=rs'.map Rg.key):hcheck op vs rs pts=hcheck op vs rs' pts:=by
 unfold hcheck
 rw [len_key h,any_key (p:=wrongRg) (fun k=>sizeOfReg k.2.1 == 0) (fun _=>rfl) h,any_key (p:=fullRg) (fun k=>decide (0<k.2.2)) (fun _=>rfl) h]
theorem fbytes_key {op vs pts:Int} {rs rs':List Rg} (h:rs.map Rg.key=rs'.map Rg.key):fbytes op vs rs pts=fbytes op vs rs' pts:=by
 have e:∀ l:List Rg,l.map fbyte=(l.map Rg.key).map (fun k=>k.2.1+(if k.1 then 128 else 0)):=fun l=>by rw [List.map_map];rfl
 unfold fbytes
 rw [len_key h,e,e,h]
theorem nSum_key {rs rs':List Rg} (h:rs.map Rg.key=rs'.map Rg.key):nSum rs=nSum rs':=by
 have e:∀ l:List Rg,nSum l=((l.map Rg.key).map (fun k=>sizeN k.2.1)).sum:=fun l=>by rw [List.map_map];rfl
 rw [e,e,h]
theorem gBytes_cons (g:Gr) (gs:List Gr):gBytes (g::gs)=g.2.flatMap pt16++gBytes gs:=by simp [gBytes]
theorem canon_regs:∀ (R:List Rg) (pay:List Int) (gs:List Gr) (hrs:List Rg),gs.map gdOf=regsOf R pay→hrs.map Rg.key=R.map Rg.key→(∀ g∈gs,g.1.n=g.2.length)→16*nSum R≤pay.length→By pay →
 (gs.zip hrs).any szBad=false∧(gs.zip hrs).any kdBad=false∧gBytes gs=pay.take (16*nSum R)∧gs.length=hrs.length
 | [],pay,gs,hrs,hg,hk,_,_,_=>by
   have e1:gs=[]:=by simpa [regsOf] using hg
   have e2:hrs=[]:=by simpa using hk
   subst e1 e2
   exact ⟨rfl,rfl,by simp [gBytes,nSum],rfl⟩
 | r::R,pay,gs,hrs,hg,hk,hn,hl,hb=>by
   cases gs with
   | nil=>simp [regsOf] at hg
   | cons g gs =>
     cases hrs with
     | nil=>simp at hk
     | cons h hrs =>
       simp only [List.map_cons,List.cons.injEq,regsOf] at hg hk
       have hns:nSum (r::R)=sizeN r.v+nSum R:=by simp [nSum]
       rw [hns] at hl
       obtain ⟨i1,i2,i3,i4⟩:=canon_regs R (pay.drop (16*sizeN r.v)) gs hrs hg.2 hk.2 (fun x hx=>hn x (by simp [hx])) (by rw [List.length_drop];omega) (hb.drop _)
       obtain ⟨g0,_⟩:=hg
       obtain ⟨k0,_⟩:=hk
       simp only [gdOf,Prod.mk.injEq] at g0
       simp only [Rg.key,Prod.mk.injEq] at k0
       have hg2:g.2.length=sizeN r.v:=by rw [g0.2.2,ptsOf_length]
       have hgn:=hn g (by simp)
       have sz:szBad (g,h)=false:=by
        unfold szBad;dsimp only;rw [k0.2.1,← sizeN_cast];simp;omega
       have kd:kdBad (g,h)=false:=by
        unfold kdBad;dsimp only;rw [k0.1,k0.2.1,g0.1,g0.2.1];simp
       refine ⟨?_,?_,?_,by simp [i4]⟩
       · rw [List.zip_cons_cons,List.any_cons,sz,i1];rfl
       · rw [List.zip_cons_cons,List.any_cons,kd,i2];rfl
       · rw [gBytes_cons,i3,g0.2.2,flat_ptsOf _ _ (by omega) hb,hns,Nat.mul_add,List.take_add]
theorem hencode_canon {op vs pts:Int} {rs hrs:List Rg} {gs:List Gr} {pl:List Int} (h:hcheck op vs rs pts=0) (hl:(pl.length:Int)=16*(nSum rs:Int)+16*cntP op vs+24*cntQ op pts) (hby:By pl)
 (hk:hrs.map Rg.key=(rs.map rgBack).map Rg.key) (hg:gs.map gdOf=regsOf (rs.map rgBack) pl) (hn:∀ g∈gs,g.1.n=g.2.length) :
 hencode op vs hrs pts gs (rqOf ⟨op,vs,rs.map rgBack,pts⟩ pl).ps (rqOf ⟨op,vs,rs.map rgBack,pts⟩ pl).qs=(fbytes op vs rs pts++pl,0):=by
 obtain ⟨z1,z2,z3,z4,z5,z6,z7,z8,hfull⟩:=hcheck_zero h
 have hkr:=rb_key rs hfull
 have hkk:=hk.trans hkr
 have hns:=nSum_key hkr
 have hP0:0≤cntP op vs:=by unfold cntP;split <;> (try split) <;> (try split) <;> (try split) <;> omega
 have hQ0:0≤cntQ op pts:=by
  unfold cntQ;split
  · omega
  · have:=z7 (by omega);omega
 obtain ⟨c1,c2,c3,c4⟩:=canon_regs (rs.map rgBack) pl gs hrs hg hk hn (by rw [hns];omega) hby
 unfold hencode rqOf
 dsimp only
 rw [hcheck_key hkk,if_neg (by simpa using h),ptsOf_length,qusOf_length,if_neg (by omega),c1,if_neg (by simp),c2,if_neg (by simp),c3,hns,fbytes_key hkk]
 have hd:(pl.drop (16*nSum rs)).length=16*(cntP op vs).toNat+24*(cntQ op pts).toNat:=by rw [List.length_drop];omega
 rw [flat_ptsOf _ _ (by omega) (hby.drop _),flat_qusOf _ _ (by omega) (hby.drop _)]
 have hPQ:(cntP op vs).toNat=0∨(cntQ op pts).toNat=0:=by
  by_cases h5:op=5
  · left;unfold cntP;rw [if_neg (by omega),if_neg (by omega),if_neg (by omega),if_neg (by omega)];rfl
  · right;unfold cntQ;rw [if_pos (by omega)];rfl
 have ht:(pl.drop (16*nSum rs)).take (16*(cntP op vs).toNat)++(pl.drop (16*nSum rs)).take (24*(cntQ op pts).toNat)=pl.drop (16*nSum rs):=by
  rcases hPQ with e | e
  · rw [e] at hd ⊢
    rw [Nat.mul_zero,List.take_zero,List.nil_append,List.take_of_length_le (by omega)]
  · rw [e] at hd ⊢
    rw [Nat.mul_zero,List.take_zero,List.append_nil,List.take_of_length_le (by omega)]
 rw [List.append_assoc,ht,List.append_assoc,List.take_append_drop]
end
end Go.Proofs.YtfljlmleiggmjaaGreatDoor
