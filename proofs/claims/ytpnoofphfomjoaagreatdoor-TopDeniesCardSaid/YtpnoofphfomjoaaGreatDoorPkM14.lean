/- DecFacts RoundMath2 Decode -/
import Derived.Test.YtpnoofphfomjoaaGreatDoorPkM02
import Derived.Test.YtpnoofphfomjoaaGreatDoorPkM08
import Derived.Test.YtpnoofphfomjoaaGreatDoorPkM09
set_option maxRecDepth 1000000
set_option maxHeartbeats 8000000
namespace Go.Proofs.YtpnoofphfomjoaaGreatDoor
section
open Go.RowKit
abbrev Gd:=Bool × Int × List (Int × Int)
def sizeN (v:Int):Nat:=(sizeOfReg v).toNat
def nSum (rs:List Rg):Nat:=(rs.map fun r=>sizeN r.v).sum
theorem sizeN_le (v:Int):sizeN v≤64:=by have:=sizeOfReg_bd v;unfold sizeN;omega
theorem sizeN_cast (v:Int):((sizeN v:Nat):Int)=sizeOfReg v:=by have:=sizeOfReg_bd v;unfold sizeN;omega
theorem nSum_cast (rs:List Rg):((nSum rs:Nat):Int)=sumSize rs:=by
 induction rs with
 | nil=>rfl
 | cons r rs ih =>
   have:=sizeN_cast r.v
   simp only [nSum,sumSize,List.map_cons,List.sum_cons] at *
   omega
theorem nSum_snoc (rs:List Rg) (k:Nat) (r:Rg) (h:rs[k]?=some r):nSum (rs.take (k+1))=nSum (rs.take k)+sizeN r.v:=by
 rw [List.take_add_one,h];simp [nSum]
theorem nSum_take_le (rs:List Rg) (k:Nat):nSum (rs.take k)≤nSum rs:=by
 have h:nSum rs=nSum (rs.take k)+nSum (rs.drop k):=by
  conv=>lhs;rw [← List.take_append_drop k rs]
  simp only [nSum,List.map_append,List.sum_append]
 omega
def regsOf:List Rg→List Int→List Gd
 | [],_=>[]
 | r::rs,bs=>(r.d,r.v,ptsOf bs (sizeN r.v))::regsOf rs (bs.drop (16*sizeN r.v))
theorem regsOf_snoc:∀ (rs:List Rg) (bs:List Int) (k:Nat) (r:Rg),rs[k]?=some r →
 regsOf (rs.take (k+1)) bs=regsOf (rs.take k) bs++[(r.d,r.v,ptsOf (bs.drop (16*nSum (rs.take k))) (sizeN r.v))]
 | [],_,_,_,h=>by simp at h
 | q::rs,bs,0,r,h=>by
   have:q=r:=by simpa using h
   subst this
   simp [regsOf,nSum]
 | q::rs,bs,k+1,r,h=>by
   have ih:=regsOf_snoc rs (bs.drop (16*sizeN q.v)) k r (by simpa using h)
   rw [List.take_succ_cons,List.take_succ_cons,regsOf,regsOf,ih,List.drop_drop]
   have:16*sizeN q.v+16*nSum (rs.take k)=16*nSum (q::rs.take k):=by simp [nSum];omega
   rw [this];rfl
structure Rq where
 h:PH
 gs:List Gd
 ps:List (Int × Int)
 qs:List ((Int × Int) × Int)
def rqZero:Rq:=⟨phZero,[],[],[]⟩
def rqOf (h:PH) (pl:List Int):Rq :=
 ⟨h,regsOf h.rs pl,ptsOf (pl.drop (16*nSum h.rs)) (cntP h.op h.vs).toNat,qusOf (pl.drop (16*nSum h.rs)) (cntQ h.op h.pts).toNat⟩
def hdecode (bs:List Int):Rq × Int :=
 if hclass bs=0 then (rqOf (hparse bs).1 (bs.drop (hparse bs).2.1.toNat),0) else (rqZero,hclass bs)
def gdOf (g:Gr):Gd:=(g.1.d,g.1.v,g.2)
structure ReadsRq (w:World) (B:Nat) (q:Rq) (hrs:List Rg) (HA:Option Addr) (gs:List Gr) (GA PA QA:Option Addr):Prop where
 hh:Sl w B HA (rgCells hrs)
 hk:hrs.map Rg.key=q.h.rs.map Rg.key
 hg:Sl w B GA (rgCells (gs.map (·.1)))
 gk:GsOk w B gs
 gd:gs.map gdOf=q.gs
 hp:Sl w B PA (ptCs q.ps)
 hq:Sl w B QA (quCs q.qs)
def rqVal (q:Rq) (hrs:List Rg) (HA:Option Addr) (hc:Nat) (gs:List Gr) (GA:Option Addr) (gc:Nat) (PA:Option Addr) (pc:Nat) (QA:Option Addr) (qc:Nat):Value :=
 .agg #[.int .i64 q.h.op,.int .i64 q.h.vs,.slice HA hrs.length hc,.int .i64 q.h.pts,.slice GA gs.length gc,.slice PA q.ps.length pc,.slice QA q.qs.length qc]
def Decoded (r:Rq × Int) (w:World) (e:Ending) (w':World):Prop :=
 ∃ hrs HA hc gs GA gc PA pc QA qc,e=.returned (.tuple #[rqVal r.1 hrs HA hc gs GA gc PA pc QA qc,.int .i64 r.2])∧Below w.heap.size w w'∧ReadsRq w' w'.heap.size r.1 hrs HA gs GA PA QA∧r.1.ps.length≤pc
theorem ReadsRq.zero (w:World) (B:Nat):ReadsRq w B rqZero [] none [] none none none :=
 ⟨.nil _ _ _,rfl,.nil _ _ _,fun g hg=>by simp at hg,rfl,.nil _ _ _,.nil _ _ _⟩
theorem decoded_zero {w w':World} {c:Int} (hb:Below w.heap.size w w'):Decoded (rqZero,c) w (.returned (.tuple #[.agg #[.int .i64 0,.int .i64 0,.slice none 0 0,.int .i64 0,.slice none 0 0,.slice none 0 0,.slice none 0 0],.int .i64 c])) w' :=
 ⟨[],none,0,[],none,0,none,0,none,0,rfl,hb,ReadsRq.zero _ _,Nat.le_refl _⟩
theorem ReadsRq.below {w w':World} {B:Nat} {q:Rq} {hrs:List Rg} {HA:Option Addr} {gs:List Gr} {GA PA QA:Option Addr} (h:ReadsRq w B q hrs HA gs GA PA QA) (hb:Below B w w'):ReadsRq w' B q hrs HA gs GA PA QA :=
 ⟨h.hh.below hb,h.hk,h.hg.below hb,fun g hg=>⟨(h.gk g hg).1,(h.gk g hg).2.below hb⟩,h.gd,h.hp.below hb,h.hq.below hb⟩
theorem ReadsRq.more {w:World} {B B':Nat} {q:Rq} {hrs:List Rg} {HA:Option Addr} {gs:List Gr} {GA PA QA:Option Addr} (h:ReadsRq w B q hrs HA gs GA PA QA) (hB:B≤B'):ReadsRq w B' q hrs HA gs GA PA QA :=
 ⟨h.hh.more hB,h.hk,h.hg.more hB,fun g hg=>⟨(h.gk g hg).1,(h.gk g hg).2.more hB⟩,h.gd,h.hp.more hB,h.hq.more hB⟩
end
section
open Go.RowKit
theorem dec_facts {bs:List Int} {h:PH} {n er:Int} (hp:hparse bs=(h,n,er)) (hc:hclass bs=0) :
 er=0∧hcheck h.op h.vs h.rs h.pts=0∧0≤n∧n≤68∧0≤cntP h.op h.vs∧0≤cntQ h.op h.pts∧(cntP h.op h.vs=0∨cntQ h.op h.pts=0)∧(1≤cntP h.op h.vs∨1≤cntQ h.op h.pts)∧(bs.length:Int)=n+16*(nSum h.rs:Int)+16*cntP h.op h.vs+24*cntQ h.op h.pts:=by
 have hn:=hparse_n bs
 have ho:=hparse_ok bs
 unfold hclass at hc
 rw [hp] at hc hn ho
 dsimp only at hc hn
 by_cases he:er=0
 · rw [if_pos he] at hc
   have hk:hcheck h.op h.vs h.rs h.pts=0:=ho he
   have hl:(bs.length:Int)=n+hpay h.op h.vs h.rs h.pts:=by
    by_cases h1:(bs.length:Int)=n+hpay h.op h.vs h.rs h.pts
    · exact h1
    · rw [if_neg h1] at hc;cases hc
   obtain ⟨h1,h2,h3,h4,h5,h6,h7,h8,_⟩:=hcheck_zero hk
   unfold hpay at hl
   rw [if_pos hk,← nSum_cast] at hl
   refine ⟨he,hk,hn.1,hn.2,?_,?_,?_,?_,?_⟩
   · unfold cntP;split <;> (try split) <;> (try split) <;> (try split) <;> omega
   · unfold cntQ;split
     · omega
     · have:=h7 (by omega);omega
   · unfold cntP cntQ
     by_cases e5:h.op=5
     · left;rw [if_neg (by omega),if_neg (by omega),if_neg (by omega),if_neg (by omega)]
     · right;rw [if_pos (by omega)]
   · unfold cntP cntQ
     by_cases e5:h.op=5
     · right;rw [if_neg (by omega)];have:=h7 e5;omega
     · left;split <;> (try split) <;> (try split) <;> (try split) <;> omega
   · have e1:cntP h.op h.vs=fixedOf h.op+h.vs:=by
      unfold cntP fixedOf
      by_cases a1:h.op=1
      · have:=h4 (by omega);rw [if_pos a1,if_pos a1];omega
      · by_cases a2:h.op=2
        · have:=h4 (by omega);rw [if_neg a1,if_pos a2,if_neg a1,if_pos a2];omega
        · by_cases a3:h.op=3
          · rw [if_neg a1,if_neg a2,if_pos a3,if_neg a1,if_neg a2,if_neg (by omega)];omega
          · have:=h4 a3
            by_cases a4:h.op=4
            · rw [if_neg a1,if_neg a2,if_neg a3,if_pos a4,if_neg a1,if_neg a2,if_neg (by omega)];omega
            · rw [if_neg a1,if_neg a2,if_neg a3,if_neg a4,if_neg a1,if_neg a2,if_pos (by omega)];omega
     have e2:cntQ h.op h.pts=h.pts:=by
      unfold cntQ
      by_cases a:h.op=1∨h.op=2∨h.op=3∨h.op=4
      · rw [if_pos a];have:=h8 (by omega);omega
      · rw [if_neg a]
     rw [e1,e2];omega
 · rw [if_neg he] at hc;omega
section
variable {w w' wa:World} {B C g:Nat} {A:Option Addr} {xs:List Value} {P:Nat→Prop} {bs:List Int}
theorem RS.move (h:RS w P B g bs) (hb:∀ b,b<B∨b=g→w'.heap[b]?=w.heap[b]?):RS w' P B g bs:=by
 obtain ⟨A,c,h1,h2,h3,h4⟩:=h
 exact ⟨A,c,(hb g (.inr rfl)).trans h1,h2,h3,h4.at_ fun b hlt _ _ _ _=>hb b (.inl hlt)⟩
theorem RS.chg {R:Nat→Prop} (h:RS w P B g bs) (hg:¬ R g):RS w R B g bs:=by
 obtain ⟨A,c,h1,h2,h3,h4⟩:=h
 exact ⟨A,c,h1,hg,h3,h4⟩
def QI (w:World) (C:Nat) (gs:List Gr) (v:Value):Prop :=
 w.ownsRow C 87 3 v gs.length (rgCells (gs.map (·.1)))∧∀ g∈gs,g.1.n=g.2.length∧Sl w w.heap.size g.1.A (ptCs g.2)∧(ptCs g.2≠[]→∀ x,g.1.A=some x→C≤x.block∧v.ownBlock≠some x.block)
theorem QI.nil (w:World) (C:Nat):QI w C [] (.slice none 0 0):=⟨World.ownsRow_nil _ _ _ _,fun g hg=>by simp at hg⟩
theorem QI.move {gs:List Gr} {v:Value} (h:QI w C gs v) (hz:w.heap.size≤w'.heap.size) (hb:∀ b,C≤b→b<w.heap.size→w'.heap[b]?=w.heap[b]?):QI w' C gs v:=by
 refine ⟨own_blk h.1 fun k hk=>hb k (own_base h.1 hk) (own_lt h.1 hk),fun g hg=>?_⟩
 obtain ⟨h1,h2,h3⟩:=h.2 g hg
 refine ⟨h1,(h2.at_ fun b hlt hx x hA hxb=>?_).more hz,h3⟩
 subst hxb
 exact hb _ (h3 hx x hA).1 hlt
theorem QI.gsOk {gs:List Gr} {v:Value} (h:QI w C gs v):GsOk w w.heap.size gs:=fun g hg=>⟨(h.2 g hg).1,(h.2 g hg).2.1⟩
theorem qi_push {w7 wa w8:World} {C g' cap n:Nat} {gs:List Gr} {gr:Gr} {v:Value} {xs:List Value} (hq:QI w7 C gs v) (hb:Below w7.heap.size w7 wa)
 (hown1:w8.ownsRow C 87 3 (.slice (some ⟨g',0,none⟩) n cap) n xs) (hn:n=(gs++[gr]).length) (hx:xs=rgCells ((gs++[gr]).map (·.1)))
 (hgrow:wa.grownBy w8 v.ownBlock) (hat:v.ownBlock=some g'∨g'=wa.heap.size)
 (hnew:gr.1.n=gr.2.length∧Sl w7 w7.heap.size gr.1.A (ptCs gr.2)∧(ptCs gr.2≠[]→∀ x,gr.1.A=some x→C≤x.block∧v.ownBlock≠some x.block)) :
 QI w8 C (gs++[gr]) (.slice (some ⟨g',0,none⟩) n cap):=by
 subst hn hx
 refine ⟨hown1,fun g hg=>?_⟩
 have hg':g.1.n=g.2.length∧Sl w7 w7.heap.size g.1.A (ptCs g.2)∧(ptCs g.2≠[]→∀ x,g.1.A=some x→C≤x.block∧v.ownBlock≠some x.block):=by
  rcases List.mem_append.1 hg with h | h
  · exact hq.2 g h
  · rw [List.mem_singleton.1 h];exact hnew
 obtain ⟨h1,h2,h3⟩:=hg'
 refine ⟨h1,(h2.at_ fun b hlt hx x hA hxb=>?_).more (Nat.le_trans hb.size hgrow.size),fun hx x hA=>⟨(h3 hx x hA).1,?_⟩⟩
 · subst hxb
   exact (hgrow.block _ (Nat.lt_of_lt_of_le hlt hb.size) (fun e=>(h3 hx x hA).2 e.symm)).trans (hb.block _ hlt)
 · have:=h2.blk_lt hx hA
   have:=hb.size
   rcases hat with h | h
   · rw [show (Value.slice (some ⟨g',0,none⟩) (gs++[gr]).length cap).ownBlock=some g' from rfl,← h];exact (h3 hx x hA).2
   · intro e
     have:g'=x.block:=by simpa [Value.ownBlock] using e
     omega
def PD (C q g b:Nat):Prop:=b<C∧b≠q∧b≠g
end
def set7 (w:World) (b:Nat) (u0 u1 u2 u3 u4 u5 u6:Value):World :=
 ((((((w.setCell ⟨b,0,none⟩ u0).setCell ⟨b,1,none⟩ u1).setCell ⟨b,2,none⟩ u2).setCell ⟨b,3,none⟩ u3).setCell ⟨b,4,none⟩ u4).setCell ⟨b,5,none⟩ u5).setCell ⟨b,6,none⟩ u6
theorem set7_cells {w:World} {b:Nat} {t:TypeId} {v0 v1 v2 v3 v4 v5 v6:Value} (B:Blk w b t #[v0,v1,v2,v3,v4,v5,v6]) (u0 u1 u2 u3 u4 u5 u6:Value) :
 (w.setCell ⟨b,0,none⟩ u0).cell? ⟨b,0,none⟩=some u0∧((w.setCell ⟨b,0,none⟩ u0).setCell ⟨b,1,none⟩ u1).cell? ⟨b,1,none⟩=some u1 ∧
 (((w.setCell ⟨b,0,none⟩ u0).setCell ⟨b,1,none⟩ u1).setCell ⟨b,2,none⟩ u2).cell? ⟨b,2,none⟩=some u2 ∧
 ((((w.setCell ⟨b,0,none⟩ u0).setCell ⟨b,1,none⟩ u1).setCell ⟨b,2,none⟩ u2).setCell ⟨b,3,none⟩ u3).cell? ⟨b,3,none⟩=some u3 ∧
 (((((w.setCell ⟨b,0,none⟩ u0).setCell ⟨b,1,none⟩ u1).setCell ⟨b,2,none⟩ u2).setCell ⟨b,3,none⟩ u3).setCell ⟨b,4,none⟩ u4).cell? ⟨b,4,none⟩=some u4 ∧
 ((((((w.setCell ⟨b,0,none⟩ u0).setCell ⟨b,1,none⟩ u1).setCell ⟨b,2,none⟩ u2).setCell ⟨b,3,none⟩ u3).setCell ⟨b,4,none⟩ u4).setCell ⟨b,5,none⟩ u5).cell? ⟨b,5,none⟩=some u5 ∧
 (((((((w.setCell ⟨b,0,none⟩ u0).setCell ⟨b,1,none⟩ u1).setCell ⟨b,2,none⟩ u2).setCell ⟨b,3,none⟩ u3).setCell ⟨b,4,none⟩ u4).setCell ⟨b,5,none⟩ u5).setCell ⟨b,6,none⟩ u6).cell? ⟨b,6,none⟩=some u6:=by
 have s0:Blk _ b t #[u0,v1,v2,v3,v4,v5,v6]:=B.set 0 u0
 have s1:Blk _ b t #[u0,u1,v2,v3,v4,v5,v6]:=s0.set 1 u1
 have s2:Blk _ b t #[u0,u1,u2,v3,v4,v5,v6]:=s1.set 2 u2
 have s3:Blk _ b t #[u0,u1,u2,u3,v4,v5,v6]:=s2.set 3 u3
 have s4:Blk _ b t #[u0,u1,u2,u3,u4,v5,v6]:=s3.set 4 u4
 have s5:Blk _ b t #[u0,u1,u2,u3,u4,u5,v6]:=s4.set 5 u5
 have s6:Blk _ b t #[u0,u1,u2,u3,u4,u5,u6]:=s5.set 6 u6
 exact ⟨s0.cell (i:=0) rfl,s1.cell (i:=1) rfl,s2.cell (i:=2) rfl,s3.cell (i:=3) rfl,s4.cell (i:=4) rfl,s5.cell (i:=5) rfl,s6.cell (i:=6) rfl⟩
theorem set7_size (w:World) (b:Nat) (u0 u1 u2 u3 u4 u5 u6:Value):(set7 w b u0 u1 u2 u3 u4 u5 u6).heap.size=w.heap.size:=by simp [set7,World.size_setCell]
theorem set7_far (w:World) (b:Nat) (u0 u1 u2 u3 u4 u5 u6:Value) (k:Nat) (hk:k≠b):(set7 w b u0 u1 u2 u3 u4 u5 u6).heap[k]?=w.heap[k]?:=by
 unfold set7
 iterate 7 rw [Below.heap_setCell _ _ _ k hk]
theorem set7_below {w0 w:World} {b:Nat} (h:Below w0.heap.size w0 w) (hb:w0.heap.size≤b) (u0 u1 u2 u3 u4 u5 u6:Value):Below w0.heap.size w0 (set7 w b u0 u1 u2 u3 u4 u5 u6):=by
 unfold set7
 have st:∀ (w1:World) (o:Nat) (u:Value),Below w0.heap.size w0 w1→Below w0.heap.size w0 (w1.setCell ⟨b,o,none⟩ u):=fun w1 o u h1=>h1.setCell hb u
 exact st _ _ _ (st _ _ _ (st _ _ _ (st _ _ _ (st _ _ _ (st _ _ _ (st _ _ _ h))))))
end
section
open Go.RowKit
theorem le_words (x:Int) (n:Nat):le ((List.range n).map fun k=>x / 256 ^ k % 256)=x % 256 ^ n:=by
 induction n with
 | zero=>simp [le]
 | succ n ih =>
   rw [List.range_succ,List.map_append,List.map_singleton,le_snoc,ih,List.length_map,List.length_range]
   have h:=Int.emod_add_mul_ediv (x / 256 ^ n) 256
   have h1:=Int.emod_add_mul_ediv x (256 ^ n)
   have h2:=Int.emod_add_mul_ediv x (256 ^ (n+1))
   rw [div256_succ] at h
   have e:(256:Int) ^ (n+1)=256 ^ n*256:=Int.pow_succ 256 n
   rw [e] at h2
   have e2:(256:Int) ^ n*(256*(x / 256 ^ (n+1)))=256 ^ n*256*(x / (256 ^ n*256)):=by rw [← Int.mul_assoc,e]
   have h3:(256:Int) ^ n*(x / 256 ^ n % 256+256*(x / 256 ^ (n+1)))=256 ^ n*(x / 256 ^ n):=by rw [h]
   rw [Int.mul_add,e2] at h3
   rw [e,Int.mul_comm (x / 256 ^ n % 256)]
   omega
theorem le_word8 {x:Int} (h:U64 x):le (word8 x)=x:=by
 unfold word8
 rw [le_words]
 exact Int.emod_eq_of_lt h.1 h.2
theorem word8_by (x:Int):By (word8 x):=by
 intro y hy
 obtain ⟨k,_,rfl⟩:=List.mem_map.1 hy
 omega
theorem le_inj:∀ (a b:List Int),By a→By b→a.length=b.length→le a=le b→a=b
 | [],[],_,_,_,_=>rfl
 | [],_::_,_,_,h,_=>by simp at h
 | _::_,[],_,_,h,_=>by simp at h
 | x::a,y::b,ha,hb,hl,he=>by
   simp only [le] at he
   have h1:=ha.head
   have h2:=hb.head
   have hxy:x=y:=by omega
   have:le a=le b:=by omega
   rw [hxy,le_inj a b ha.tail hb.tail (by simpa using hl) this]
theorem le_u64 {l:List Int} (hl:l.length=8) (hb:By l):U64 (le l):=by
 have:=le_bd l hb
 rw [hl] at this
 exact ⟨this.1,by have:=this.2;simpa using this⟩
theorem word8_le {l:List Int} (hl:l.length=8) (hb:By l):word8 (le l)=l :=
 le_inj _ _ (word8_by _) hb (by rw [word8_length,hl]) (le_word8 (le_u64 hl hb))
theorem u64_i64 {x:Int} (h:U64 x):IntKind.u64.wrap (i64w x)=x:=by
 unfold i64w wrap64
 rw [IntKind.wrap_u64]
 unfold U64 at h
 omega
theorem eight_dropR (bs:List Int) (a k:Nat):eight bs (a+k)=eight (bs.drop a) k:=by unfold eight;rw [List.drop_drop]
theorem ptsOf_succ (bs:List Int) (n:Nat):ptsOf bs (n+1)=ptRd bs 0::ptsOf (bs.drop 16) n:=by
 unfold ptsOf
 rw [List.range_succ_eq_map,List.map_cons,List.map_map]
 congr 1
 refine List.map_congr_left fun i _=>?_
 show ptRd bs (i+1)=ptRd (bs.drop 16) i
 unfold ptRd
 rw [← eight_dropR,← eight_dropR,show 16*(i+1)=16+16*i by omega,show 16+16*i+8=16+(16*i+8) by omega]
theorem qusOf_succ' (bs:List Int) (n:Nat):qusOf bs (n+1)=quAt bs 0::qusOf (bs.drop 24) n:=by
 unfold qusOf
 rw [List.range_succ_eq_map,List.map_cons,List.map_map]
 congr 1
 refine List.map_congr_left fun i _=>?_
 show quAt bs (i+1)=quAt (bs.drop 24) i
 unfold quAt
 rw [← eight_dropR,← eight_dropR,← eight_dropR,show 24*(i+1)=24+24*i by omega,show 24+24*i+8=24+(24*i+8) by omega,show 24+24*i+16=24+(24*i+16) by omega]
theorem pt16_at {bs:List Int} (h:16≤bs.length) (hb:By bs):pt16 (ptRd bs 0)=bs.take 16:=by
 unfold pt16 ptRd u64w
 have l0:(eight bs (16*0)).length=8:=eight_len (by omega)
 have l1:(eight bs (16*0+8)).length=8:=eight_len (by omega)
 rw [u64_i64 (le_u64 l0 (eight_by hb _)),u64_i64 (le_u64 l1 (eight_by hb _)),word8_le l0 (eight_by hb _),word8_le l1 (eight_by hb _)]
 have:=pt_split bs 0
 rw [Nat.mul_zero,List.drop_zero] at this
 conv=>rhs;rw [this,← List.append_assoc]
 rw [Nat.mul_zero] at l0 l1 ⊢
 rw [List.take_left' (by rw [List.length_append,l0,l1])]
theorem q24_at {bs:List Int} (h:24≤bs.length) (hb:By bs):q24 (quAt bs 0)=bs.take 24:=by
 have h1:=pt16_at (by omega) hb
 have l2:(eight bs (24*0+16)).length=8:=eight_len (by omega)
 have hp:(quAt bs 0).1=ptRd bs 0:=rfl
 unfold q24
 rw [hp,h1]
 unfold quAt
 rw [word8_le l2 (eight_by hb _)]
 unfold eight
 rw [Nat.mul_zero,show 0+16=16 by omega,show 24=16+8 by omega,List.take_add]
theorem flat_ptsOf:∀ (n:Nat) (bs:List Int),16*n≤bs.length→By bs→(ptsOf bs n).flatMap pt16=bs.take (16*n)
 | 0,bs,_,_=>by simp [ptsOf]
 | n+1,bs,h,hb=>by
   rw [ptsOf_succ,List.flatMap_cons,pt16_at (by omega) hb,flat_ptsOf n (bs.drop 16) (by rw [List.length_drop];omega) (hb.drop _),show 16*(n+1)=16+16*n by omega,List.take_add]
theorem flat_qusOf:∀ (n:Nat) (bs:List Int),24*n≤bs.length→By bs→(qusOf bs n).flatMap q24=bs.take (24*n)
 | 0,bs,_,_=>by simp [qusOf]
 | n+1,bs,h,hb=>by
   rw [qusOf_succ',List.flatMap_cons,q24_at (by omega) hb,flat_qusOf n (bs.drop 24) (by rw [List.length_drop];omega) (hb.drop _),show 24*(n+1)=24+24*n by omega,List.take_add]
end
section
open Go.RowKit
theorem rb_key (rs:List Rg) (h:rs.any fullRg=false):(rs.map rgBack).map Rg.key=rs.map Rg.key:=by
 rw [List.map_map]
 refine List.map_congr_left fun r hr=>?_
 have:=List.any_eq_false.1 h r hr
 unfold fullRg at this
 have hn:r.n=0:=by have:¬ 0<r.n:=by simpa using this
                   omega
 show (r.d,r.v,0)=(r.d,r.v,r.n)
 rw [hn]
theorem any_key {p:Rg→Bool} (f:Bool × Int × Nat→Bool) (hp:∀ r,p r=f r.key) {rs rs':List Rg} (h:rs.map Rg.key=rs'.map Rg.key):rs.any p=rs'.any p:=by
 have e:∀ l:List Rg,l.any p=(l.map Rg.key).any f:=fun l=>by
  rw [List.any_map];congr 1;funext r;exact hp r
 rw [e,e,h]
theorem len_key {rs rs':List Rg} (h:rs.map Rg.key=rs'.map Rg.key):rs.length=rs'.length:=by have:=congrArg List.length h;simpa using this
theorem hcheck_key {op vs pts:Int} {rs rs':List Rg} (h:rs.map Rg.key=rs'.map Rg.key):hcheck op vs rs pts=hcheck op vs rs' pts:=by
 unfold hcheck
 rw [len_key h,any_key (p:=wrongRg) (fun k=>sizeOfReg k.2.1 == 0) (fun _=>rfl) h,any_key (p:=fullRg) (fun k=>decide (0<k.2.2)) (fun _=>rfl) h]
theorem fbytes_key {op vs pts:Int} {rs rs':List Rg} (h:rs.map Rg.key=rs'.map Rg.key):fbytes op vs rs pts=fbytes op vs rs' pts:=by
 have e:∀ l:List Rg,l.map fbyte=(l.map Rg.key).map (fun k=>k.2.1+(if k.1 then 128 else 0)):=fun l=>by rw [List.map_map];rfl
 unfold fbytes
 rw [len_key h,e,e,h]
theorem nSum_key {rs rs':List Rg} (h:rs.map Rg.key=rs'.map Rg.key):nSum rs=nSum rs':=by
 have e:∀ l:List Rg,nSum l=((l.map Rg.key).map (fun k=>sizeN k.2.1)).sum:=fun l=>by rw [List.map_map];rfl
 rw [e,e,h]
theorem gBytes_cons (g:Gr) (gs:List Gr):gBytes (g::gs)=g.2.flatMap pt16++gBytes gs:=by simp [gBytes]
theorem canon_regs:∀ (R:List Rg) (pay:List Int) (gs:List Gr) (hrs:List Rg),gs.map gdOf=regsOf R pay→hrs.map Rg.key=R.map Rg.key→(∀ g∈gs,g.1.n=g.2.length)→16*nSum R≤pay.length→By pay →
 (gs.zip hrs).any szBad=false∧(gs.zip hrs).any kdBad=false∧gBytes gs=pay.take (16*nSum R)∧gs.length=hrs.length
 | [],pay,gs,hrs,hg,hk,_,_,_=>by
   have e1:gs=[]:=by simpa [regsOf] using hg
   have e2:hrs=[]:=by simpa using hk
   subst e1 e2
   exact ⟨rfl,rfl,by simp [gBytes,nSum],rfl⟩
 | r::R,pay,gs,hrs,hg,hk,hn,hl,hb=>by
   cases gs with
   | nil=>simp [regsOf] at hg
   | cons g gs =>
     cases hrs with
     | nil=>simp at hk
     | cons h hrs =>
       simp only [List.map_cons,List.cons.injEq,regsOf] at hg hk
       have hns:nSum (r::R)=sizeN r.v+nSum R:=by simp [nSum]
       rw [hns] at hl
       obtain ⟨i1,i2,i3,i4⟩:=canon_regs R (pay.drop (16*sizeN r.v)) gs hrs hg.2 hk.2 (fun x hx=>hn x (by simp [hx])) (by rw [List.length_drop];omega) (hb.drop _)
       obtain ⟨g0,_⟩:=hg
       obtain ⟨k0,_⟩:=hk
       simp only [gdOf,Prod.mk.injEq] at g0
       simp only [Rg.key,Prod.mk.injEq] at k0
       have hg2:g.2.length=sizeN r.v:=by rw [g0.2.2,ptsOf_length]
       have hgn:=hn g (by simp)
       have sz:szBad (g,h)=false:=by
        unfold szBad;dsimp only;rw [k0.2.1,← sizeN_cast];simp;omega
       have kd:kdBad (g,h)=false:=by
        unfold kdBad;dsimp only;rw [k0.1,k0.2.1,g0.1,g0.2.1];simp
       refine ⟨?_,?_,?_,by simp [i4]⟩
       · rw [List.zip_cons_cons,List.any_cons,sz,i1];rfl
       · rw [List.zip_cons_cons,List.any_cons,kd,i2];rfl
       · rw [gBytes_cons,i3,g0.2.2,flat_ptsOf _ _ (by omega) hb,hns,Nat.mul_add,List.take_add]
theorem hencode_canon {op vs pts:Int} {rs hrs:List Rg} {gs:List Gr} {pl:List Int} (h:hcheck op vs rs pts=0) (hl:(pl.length:Int)=16*(nSum rs:Int)+16*cntP op vs+24*cntQ op pts) (hby:By pl)
 (hk:hrs.map Rg.key=(rs.map rgBack).map Rg.key) (hg:gs.map gdOf=regsOf (rs.map rgBack) pl) (hn:∀ g∈gs,g.1.n=g.2.length) :
 hencode op vs hrs pts gs (rqOf ⟨op,vs,rs.map rgBack,pts⟩ pl).ps (rqOf ⟨op,vs,rs.map rgBack,pts⟩ pl).qs=(fbytes op vs rs pts++pl,0):=by
 obtain ⟨z1,z2,z3,z4,z5,z6,z7,z8,hfull⟩:=hcheck_zero h
 have hkr:=rb_key rs hfull
 have hkk:=hk.trans hkr
 have hns:=nSum_key hkr
 have hP0:0≤cntP op vs:=by unfold cntP;split <;> (try split) <;> (try split) <;> (try split) <;> omega
 have hQ0:0≤cntQ op pts:=by
  unfold cntQ;split
  · omega
  · have:=z7 (by omega);omega
 obtain ⟨c1,c2,c3,c4⟩:=canon_regs (rs.map rgBack) pl gs hrs hg hk hn (by rw [hns];omega) hby
 unfold hencode rqOf
 dsimp only
 rw [hcheck_key hkk,if_neg (by simpa using h),ptsOf_length,qusOf_length,if_neg (by omega),c1,if_neg (by simp),c2,if_neg (by simp),c3,hns,fbytes_key hkk]
 have hd:(pl.drop (16*nSum rs)).length=16*(cntP op vs).toNat+24*(cntQ op pts).toNat:=by rw [List.length_drop];omega
 rw [flat_ptsOf _ _ (by omega) (hby.drop _),flat_qusOf _ _ (by omega) (hby.drop _)]
 have hPQ:(cntP op vs).toNat=0∨(cntQ op pts).toNat=0:=by
  by_cases h5:op=5
  · left;unfold cntP;rw [if_neg (by omega),if_neg (by omega),if_neg (by omega),if_neg (by omega)];rfl
  · right;unfold cntQ;rw [if_pos (by omega)];rfl
 have ht:(pl.drop (16*nSum rs)).take (16*(cntP op vs).toNat)++(pl.drop (16*nSum rs)).take (24*(cntQ op pts).toNat)=pl.drop (16*nSum rs):=by
  rcases hPQ with e | e
  · rw [e] at hd ⊢
    rw [Nat.mul_zero,List.take_zero,List.nil_append,List.take_of_length_le (by omega)]
  · rw [e] at hd ⊢
    rw [Nat.mul_zero,List.take_zero,List.append_nil,List.take_of_length_le (by omega)]
 rw [List.append_assoc,ht,List.append_assoc,List.take_append_drop]
end
section
open Go.RowKit
theorem no_bool {w:World} {B:Nat} {A:Option Addr} {rs:List Rg} {x:Addr} {t:TypeId} {a b c:Int} {A1 A2 A3 A4:Option Addr} {n1 n2 n3 n4 c1 c2 c3 c4:Nat} (hx:rgCells rs≠[]) (h:Sl w B A (rgCells rs)) (hA:A=some x)
 (hb:Blk w x.block t #[.int .i64 a,.int .i64 b,.slice A1 n1 c1,.int .i64 c,.slice A2 n2 c2,.slice A3 n3 c3,.slice A4 n4 c4]):False:=by
 cases rs with
 | nil=>exact hx rfl
 | cons r rs =>
   obtain ⟨b',off,hA',hlt,c0,_⟩:=h.rg (k:=0) (r:=r) rfl
   rw [hA'] at hA
   cases hA
   have hcell:=cell_of_row w b' (off+0*3) _ t (0,0) hb
   rw [c0] at hcell
   generalize off+0*3=i at hcell
   match i,hcell with
   | 0,h=>simp at h
   | 1,h=>simp at h
   | 2,h=>simp at h
   | 3,h=>simp at h
   | 4,h=>simp at h
   | 5,h=>simp at h
   | 6,h=>simp at h
   | i+7,h=>simp at h
section
variable (bs:List Int) (A:Option Addr) (c:Nat) (w:World)
variable (hs:Sl w w.heap.size A (byCells bs)) (hcap:bs.length≤c) (hby:By bs) (hmax:bs.length≤300000)
variable (hfix:Fixed w) (hg:0<w.heap.size)
include hs hcap hby hmax hfix hg
theorem decode_any:Calls Tryz.prog 68 #[.slice A bs.length c] w (Decoded (hdecode bs) w):=by
 obtain ⟨w0,hw0⟩:∃ w0,w0=w.alloc (.cells #[.int .i64 0,.int .i64 0,.slice none 0 0,.int .i64 0,.slice none 0 0,.slice none 0 0,.slice none 0 0] 37):=⟨_,rfl⟩
 have hb0:Below w.heap.size w w0:=by rw [hw0];exact bA
 have hz0:w0.heap.size=w.heap.size+1:=by rw [hw0];simp
 have R0:Blk w0 w.heap.size 37 #[.int .i64 0,.int .i64 0,.slice none 0 0,.int .i64 0,.slice none 0 0,.slice none 0 0,.slice none 0 0]:=by rw [hw0];exact Blk.new _ _ _
 have hby':∀ (j:Nat) (x:Int),bs[j]?=some x→0≤x∧x≤255:=fun j x h=>hby x (List.mem_of_getElem? h)
 have CL:=classify_any bs A c w0 ((hs.below hb0).more hb0.size) hcap hby' (by omega) (hfix.below hb0 hg) (Nat.lt_of_lt_of_le hg hb0.size)
 have PA:∀ w1,Below w0.heap.size w0 w1→Calls Tryz.prog 107 #[.slice A bs.length c] w1 (Parsed (hparse bs) w1):=fun w1 h1=>parse_any bs A c w1 (((hs.below hb0).below (h1.mono hb0.size)).more (Nat.le_trans hb0.size h1.size)) hcap hby'
 obtain ⟨cl,hcl⟩:∃ cl,hclass bs=cl:=⟨_,rfl⟩
 rw [hcl] at CL
 obtain ⟨h,n,er,hpe⟩:∃ h n er,hparse bs=(h,n,er):=⟨_,_,_,rfl⟩
 rw [hpe] at PA
 have HD:Hid (hdecode bs=if cl=0 then (rqOf h (bs.drop n.toNat),0) else (rqZero,cl)):=by apply hide;unfold hdecode;rw [hcl,hpe]
 by_cases hc0:cl=0
 · subst hc0
   have DF:=dec_facts hpe hcl
   obtain ⟨rfl,hk,hn0,hn1,hP0,hQ0,hPQ,hPQ1,hlen⟩:=DF
   obtain ⟨op,vs,rs,pts⟩:=h
   dsimp only at hk hP0 hQ0 hPQ hPQ1 hlen
   obtain ⟨N,rfl⟩:=Int.eq_ofNat_of_zero_le hn0
   rw [if_pos rfl,Int.toNat_natCast] at HD
   have hcN:N<c:=by omega
   have hlN:N<bs.length:=by omega
   have hcN':¬ c=N:=by omega
   obtain ⟨b,off,rfl,hbl,_⟩:=hs.by_ (by omega)
   have HCL:=hide CL;have HPA:=hide PA;have HK:=hide hk
   have HPE:=hide hpe;have HCLS:=hide hcl;have HBY:=hide hby;have HS:=hide hs
   clear CL PA hpe hcl hfix hg hby hby' hk hs
   go_enter Tryz.func68,Tryz.ntmps68
   go_wp2_with fail
   rw [← hw0]
   have HW0:=hide hw0;clear hw0
   refine HCL.out.mono ?_
   rintro e w1 ⟨rfl,hb1⟩
   have PA1:=HPA.out w1 hb1
   clear HPA HCL
   have HPA:=hide PA1
   clear PA1
   go_wp2_with fail
   refine HPA.out.mono ?_
   rintro e w2 ⟨HA,hc,rfl,hsl,hb2⟩
   clear HPA
   have R2:=(R0.step hb1).step hb2
   have HB2:=bl_step (bl_step hb0 hb1) hb2
   dsimp only at hsl ⊢
   have hbl2:b<w2.heap.size:=by have:=HB2.size;omega
   obtain ⟨w3,hw3⟩:∃ w3,w3=((w2.alloc (.cells #[.int .i64 op,.int .i64 vs,.slice HA rs.length hc,.int .i64 pts] 24)).alloc (.cells #[.int .i64 op,.int .i64 vs,.slice HA rs.length hc,.int .i64 pts,.slice none 0 0,.slice none 0 0,.slice none 0 0] 37)).alloc (.cells #[.slice (some ⟨b,off+N,none⟩) (bs.length - N) (c - N)] 127):=⟨_,rfl⟩
   have hb3:Below w2.heap.size w2 w3:=by rw [hw3];exact bl_alloc (bl_alloc (bA) _) _
   have hz3:w3.heap.size=w2.heap.size+3:=by rw [hw3];simp
   have H3:Blk w3 w2.heap.size 24 #[.int .i64 op,.int .i64 vs,.slice HA rs.length hc,.int .i64 pts]:=by rw [hw3];exact ((Blk.new _ _ _).alloc _).alloc _
   have Q3:Blk w3 (w2.heap.size+1) 37 #[.int .i64 op,.int .i64 vs,.slice HA rs.length hc,.int .i64 pts,.slice none 0 0,.slice none 0 0,.slice none 0 0]:=by rw [hw3];exact (Blk.new2 _ _ _ _).alloc _
   have G3:Blk w3 (w2.heap.size+1+1) 127 #[.slice (some ⟨b,off+N,none⟩) (bs.length - N) (c - N)]:=by
    rw [hw3]
    have h:=Blk.new ((w2.alloc (.cells #[.int .i64 op,.int .i64 vs,.slice HA rs.length hc,.int .i64 pts] 24)).alloc (.cells #[.int .i64 op,.int .i64 vs,.slice HA rs.length hc,.int .i64 pts,.slice none 0 0,.slice none 0 0,.slice none 0 0] 37)) 127 #[.slice (some ⟨b,off+N,none⟩) (bs.length - N) (c - N)]
    simpa using h
   have HB3:=bl_step HB2 hb3
   go_wp2
   rw [← hw3]
   have HW3:=hide hw3;clear hw3
   obtain ⟨q,hq⟩:∃ q,q=w2.heap.size+1:=⟨_,rfl⟩
   rw [← hq] at Q3 G3 ⊢
   obtain ⟨g,hgq⟩:∃ g,g=q+1:=⟨_,rfl⟩
   rw [← hgq] at G3 ⊢
   obtain ⟨C,hC⟩:∃ C,C=w3.heap.size:=⟨_,rfl⟩
   obtain ⟨pl,hpl⟩:∃ pl,pl=bs.drop N:=⟨_,rfl⟩
   have hpll:pl.length=bs.length - N:=by rw [hpl,List.length_drop]
   have hBP:∀ k,k<w.heap.size→PD C q g k:=fun k hk=>by have:=HB2.size;unfold PD;omega
   have rs3:RS w3 (PD C q g) w.heap.size g pl:=by
    refine ⟨some ⟨b,off+N,none⟩,c - N,by rw [hpll];exact G3,by unfold PD;omega,by rw [hpll];omega,?_⟩
    rcases HS.out with h0 | ⟨b1,off1,hA1,hlt1,hc1⟩
    · rw [List.eq_nil_of_length_eq_zero (show bs.length=0 by have:=congrArg List.length h0;simpa [byCells] using this)] at hlN;simp at hlN
    · injection hA1 with hA1
      injection hA1 with e1 e2
      subst e1 e2
      refine Sl.mk hlt1 fun j u hu=>?_
      have:=hc1 (N+j) u (by rw [hpl] at hu;simpa [byCells,Nat.add_comm] using hu)
      rw [← Nat.add_assoc] at this
      exact (HB3.cell (p:=⟨b,_,none⟩) hlt1).trans this
   have hqe:w2.heap.size+1≤q∧q≤w2.heap.size+1:=by omega
   have hge:q+1≤g∧g≤q+1:=by omega
   have hCe:w3.heap.size≤C∧C≤w3.heap.size:=by omega
   clear hq hgq hC
   have HR3:=hide rs3;have HBP:=hide hBP;have HPL:=hide hpll;have HPLD:=hide hpl
   have HSL:=hide hsl
   have hcb:=cnt_bd HK.out
   obtain ⟨hvs0,hvs1,hrl64,hcP,hcQ⟩:=hcb
   clear rs3 hBP hpll hpl hsl
   go_loopw [36] (fun i wr=>∃ (k:Nat) (gs:List Gr) (v:Value),k≤rs.length∧i=.int .i64 k∧KeepP (PD C q g) w3 wr∧Blk wr q 37 #[.int .i64 op,.int .i64 vs,.slice HA rs.length hc,.int .i64 pts,v,.slice none 0 0,.slice none 0 0] ∧
    RS wr (PD C q g) w.heap.size g (pl.drop (16*nSum (rs.take k)))∧QI wr C gs v∧gs.map gdOf=regsOf (rs.take k) pl∧gs.length=k)
    (fun i _=>rs.length - (intOf i).toNat)
   case atStart=>exact ⟨0,[],.slice none 0 0,by omega,rfl,KeepP.refl _ _,Q3,by simpa [nSum] using HR3.out,QI.nil _ _,rfl,rfl⟩
   case round =>
    obtain ⟨k,gs,v,hk,rfl,hkp,hqb,hrd,hqi,hgd,hgl⟩:=hrel
    have HGD:=hide hgd;clear hgd
    have HQI:=hide hqi;clear hqi
    have HRD:=hide hrd;clear hrd
    by_cases hlt:k<rs.length
    · obtain ⟨r,hr⟩:∃ r,rs[k]?=some r:=⟨_,List.getElem?_eq_getElem hlt⟩
      obtain ⟨hb_,hoff,rfl,hhb,d0,d1,d2⟩:=HSL.out.rg hr
      have hPh:PD C q g hb_:=by unfold PD;omega
      have c0:=((hkp.cell hPh _).trans (hb3.cell (p:=⟨hb_,_,none⟩) hhb)).trans d0
      have c1:=((hkp.cell hPh _).trans (hb3.cell (p:=⟨hb_,_,none⟩) hhb)).trans d1
      have c2:=((hkp.cell hPh _).trans (hb3.cell (p:=⟨hb_,_,none⟩) hhb)).trans d2
      clear d0 d1 d2
      obtain ⟨wx,hwx⟩:∃ wx,wx=wr.alloc (.cells #[.bool r.d,.int .i64 r.v,.slice r.A r.n r.c] 87):=⟨_,rfl⟩
      have hbx:Below wr.heap.size wr wx:=by rw [hwx];exact bA
      have X0:Blk wx wr.heap.size 87 #[.bool r.d,.int .i64 r.v,.slice r.A r.n r.c]:=by rw [hwx];exact Blk.new _ _ _
      have hzx:wx.heap.size=wr.heap.size+1:=by rw [hwx];simp
      have hCr:C≤wr.heap.size:=Nat.le_trans hCe.2 hkp.size
      have HSN:=hide (nSum_snoc rs k r hr)
      have HRG:=hide (regsOf_snoc rs pl k r hr)
      have HNL:=hide (nSum_take_le rs (k+1))
      clear hr
      have x0:=X0.cell (i:=0) rfl
      have x1:=X0.cell (i:=1) rfl
      have x2:=X0.cell (i:=2) rfl
      go_wp2_with fail
      rw [← hwx]
      have HWX:=hide hwx;clear hwx
      refine (size_any r.d r.v r.A r.n r.c wx).mono ?_
      rintro e w5 ⟨rfl,hb5⟩
      rw [← sizeN_cast]
      have hn64:=sizeN_le r.v
      have hsn:=HSN.out
      have hnl:=HNL.out
      have hrd5:RS w5 (fun b=>b<w5.heap.size∧b≠g) w.heap.size g (pl.drop (16*nSum (rs.take k))):=by
       refine ((HRD.out.move fun b' hb'=>?_).chg (fun h=>h.2 rfl))
       have hl:b'<wr.heap.size:=by
        rcases hb' with h | h
        · have:=HB3.size;have:=hkp.size;omega
        · have:=hqb.lt;omega
       exact ((hb5.mono hbx.size).block b' hl).trans (hbx.block b' hl)
      have TK:=takePt_any (fun b=>b<w5.heap.size∧b≠g) w.heap.size g w5 (fun k hk=>⟨by have:=HB3.size;have:=hkp.size;have:=hbx.size;have:=hb5.size;omega,by have:=HB2.size;omega⟩)
       (pl.drop (16*nSum (rs.take k))) (sizeN r.v) (by rw [List.length_drop,HPL.out];omega) (by rw [List.length_drop,HPL.out];omega) (by rw [HPLD.out];exact (HBY.out.drop _).drop _) (fun k hk=>hk.1) hrd5
      have HTK:=hide TK
      clear TK hrd5 x0 x1 x2
      go_wp2_with fail
      refine HTK.out.mono ?_
      rintro e w6 ⟨PAd,rfl,k6,r6,s6,f6⟩
      have h56:=hb5.size
      have hcb5:wr.heap.size<w5.heap.size:=by omega
      have hql:=hqb.lt
      have hrd6:=HRD.out.lt
      have hsz6:=k6.size
      have hch:∀ b',b'<wr.heap.size→b'≠g→w6.heap[b']?=wr.heap[b']?:=fun b' h1 h2=>(k6.block b' ⟨by omega,h2⟩).trans (((hb5.mono hbx.size).block b' h1).trans (hbx.block b' h1))
      have X6:Blk w6 wr.heap.size 87 #[.bool r.d,.int .i64 r.v,.slice r.A r.n r.c]:=(X0.step hb5).kept k6 ⟨hcb5,by omega⟩
      have X7:Blk (w6.setCell ⟨wr.heap.size,2,none⟩ (.slice PAd (sizeN r.v) (sizeN r.v))) wr.heap.size 87 #[.bool r.d,.int .i64 r.v,.slice PAd (sizeN r.v) (sizeN r.v)]:=X6.set 2 _
      have Q6:Blk w6 q 37 #[.int .i64 op,.int .i64 vs,.slice (some ⟨hb_,hoff,none⟩) rs.length hc,.int .i64 pts,v,.slice none 0 0,.slice none 0 0]:=(hch q hql (by omega)).trans hqb
      have Q7:=Q6.far (p:=⟨wr.heap.size,2,none⟩) (by simp;omega) (.slice PAd (sizeN r.v) (sizeN r.v))
      have hch7:∀ b',b'<wr.heap.size→b'≠g→(w6.setCell ⟨wr.heap.size,2,none⟩ (.slice PAd (sizeN r.v) (sizeN r.v))).heap[b']?=wr.heap[b']?:=fun b' h1 h2=>(Below.heap_setCell w6 ⟨wr.heap.size,2,none⟩ _ b' (by simp;omega)).trans (hch b' h1 h2)
      have hz7:(w6.setCell ⟨wr.heap.size,2,none⟩ (.slice PAd (sizeN r.v) (sizeN r.v))).heap.size=w6.heap.size:=World.size_setCell _ _ _
      have QI7:QI (w6.setCell ⟨wr.heap.size,2,none⟩ (.slice PAd (sizeN r.v) (sizeN r.v))) C gs v:=HQI.out.move (by omega) fun b' h1 h2=>hch7 b' h2 (by omega)
      have s7:=s6.far (p:=⟨wr.heap.size,2,none⟩) (fun _ x hx=>by have:=(f6 x hx).1;simp;omega) (.slice PAd (sizeN r.v) (sizeN r.v))
      have r7:RS (w6.setCell ⟨wr.heap.size,2,none⟩ (.slice PAd (sizeN r.v) (sizeN r.v))) (PD C q g) w.heap.size g ((pl.drop (16*nSum (rs.take k))).drop (16*sizeN r.v)) :=
       (r6.chg (R:=PD C q g) (fun h=>h.2.2 rfl)).far (by omega) (by unfold PD;omega) HBP.out 2 _
      have y2:=X6.cell (i:=2) rfl
      have fz2:=X6.frozen 2
      have hnew:∀ x,PAd=some x→C≤x.block∧v.ownBlock≠some x.block:=fun x hx=>by
       have h1:=(f6 x hx).1
       refine ⟨by omega,fun e=>?_⟩
       have:=own_lt HQI.out.1 e
       omega
      have HNEW:=hide hnew;have HCH7:=hide hch7;have HS7:=hide s7;have HR7:=hide r7;have HQI7:=hide QI7
      have hown7:=QI7.1
      rw [hgl] at hown7
      clear hnew hch hch7 s7 s6 r7 r6 QI7 f6 HTK
      have kxx:(16*nSum (rs.take k))+16*sizeN r.v=16*nSum (rs.take (k+1)):=by omega
      have HKXX:=hide kxx
      clear kxx
      obtain ⟨w7,hw7⟩:∃ w7,w7=w6.setCell ⟨wr.heap.size,2,none⟩ (.slice PAd (sizeN r.v) (sizeN r.v)):=⟨_,rfl⟩
      rw [← hw7] at X7 Q7 hz7 HCH7 HS7 HR7 HQI7 hown7
      have hw7s:=hw7.symm
      have y0:=X7.cell (i:=0) rfl
      have y1:=X7.cell (i:=1) rfl
      have y2':=X7.cell (i:=2) rfl
      have q4:=Q7.cell (i:=4) rfl
      obtain ⟨i0,hi,hi0,hi1,hi2⟩:=info_parts rg_info
      have hz7':w6.heap.size≤w7.heap.size∧w7.heap.size≤w6.heap.size:=by omega
      have k17:KeepP (PD C q g) wr w7:=by
       have k1:KeepP (PD C q g) wr w6:=(KeepP.of_below hbx (fun k hk=>by unfold PD at hk;omega)).trans ((KeepP.of_below hb5 (fun k hk=>by unfold PD at hk;omega)).trans (k6.mono fun k hk=>by unfold PD at hk;omega))
       rw [hw7]
       exact k1.trans (KeepP.set (by unfold PD;omega) 2 _ _)
      have K17:=hide k17
      clear hw7 hz7 k17
      have hC7:C≤w7.heap.size:=by omega
      go_wp2_with (at_builtin;refine wpList_append_lies _ rfl (.tmp 47) (.tmp 49) 22 rfl C 87 i0 (.agg #[.bool false,.int .i64 0,.slice none 0 0]) 3 40 Tryz.underlying22 hi hi0 hi1 hi2 rfl (by decide) v k _ rfl (own_step hown7 (bA)) ⟨w7.heap.size,0,none⟩ 1 1 [.bool r.d,.int .i64 r.v,.slice PAd (sizeN r.v) (sizeN r.v)] rfl rfl ?a1 ?a2 ?a3 ?a4 ?a5 ?a6 (w7.heap.size+1) ?a7 ?_)
      case a1=>exact blk_cells (Blk.new _ _ _)
      case a2=>simp [Value.oneCell']
      case a3=>omega
      case a4=>unfold maxLen;omega
      case a5=>omega
      case a6=>simp;omega
      case a7=>simp
      intro g' cap w8 hown8 hgrow hat hlt8
      have hbA:Below w7.heap.size w7 (w7.alloc (.cells #[.bool r.d,.int .i64 r.v,.slice PAd (sizeN r.v) (sizeN r.v)] 87)):=bA
      have hQI8:QI w8 C (gs++[(⟨r.d,r.v,PAd,sizeN r.v,sizeN r.v⟩,ptsOf (pl.drop (16*nSum (rs.take k))) (sizeN r.v))]) (.slice (some ⟨g',0,none⟩) (k+1) cap) :=
       qi_push HQI7.out hbA hown8 (by simp [hgl]) (by simp [rgCells,Rg.cells]) hgrow (by simpa using hat) ⟨(ptsOf_length _ _).symm,HS7.out.more hz7'.1,fun _=>HNEW.out⟩
      have hgb:∀ b',b'<C→(w8.heap[b']?=w7.heap[b']?):=fun b' hb'=>by
       refine (hgrow.block b' (by simp;omega) (fun e=>?_)).trans (hbA.block b' (by omega))
       have:=own_base hown7 e.symm
       omega
      have Q8:Blk w8 q 37 #[.int .i64 op,.int .i64 vs,.slice (some ⟨hb_,hoff,none⟩) rs.length hc,.int .i64 pts,v,.slice none 0 0,.slice none 0 0]:=(hgb q (by omega)).trans Q7
      have R8:RS w8 (PD C q g) w.heap.size g (pl.drop (16*nSum (rs.take (k+1)))):=by
       rw [← HKXX.out,← List.drop_drop]
       exact HR7.out.move fun b' hb'=>hgb b' (by have:=HB2.size;omega)
      have hz8:w7.heap.size≤w8.heap.size:=Nat.le_trans hbA.size hgrow.size
      have K8:KeepP (PD C q g) wr w8 :=
       K17.out.trans ⟨hgrow.os.trans hbA.os,hgrow.tape.trans hbA.tape,hgrow.output.trans hbA.output,hz8,fun b' hb'=>hgb b' hb'.1⟩
      have HQI8:=hide hQI8;have HR8:=hide R8;have HK8:=hide K8
      have p4:=Q8.cell (i:=4) rfl
      have fz4:=Q8.frozen 4
      clear hQI8 R8 K8 hgb hown8 hgrow q4 y0 y1 y2 y2' hw7s
      go_wp2
      go_roundw
      case rel =>
       refine ⟨k+1,_,_,by omega,by go_num,hkp.trans (HK8.out.trans (KeepP.set (by unfold PD;omega) 4 _ _)),Q8.set 4 _,HR8.out.far (by omega) (by unfold PD;omega) HBP.out 4 _,
        HQI8.out.move (by simp [World.size_setCell]) (fun b' h1 h2=>Below.heap_setCell w8 ⟨q,4,none⟩ _ b' (by simp;omega)),?_,by simp [hgl]⟩
       rw [List.map_append,HGD.out,HRG.out];rfl
      case measure=>simp [intOf];omega
    · obtain rfl:rs.length=k:=by omega
      rw [List.take_length] at HRD HGD
      obtain ⟨np,hnp⟩:=Int.eq_ofNat_of_zero_le hP0
      obtain ⟨mq,hmq⟩:=Int.eq_ofNat_of_zero_le hQ0
      rw [hnp] at hlen hPQ hcP
      rw [hmq] at hlen hPQ hcQ
      have CN:=counts_any op vs pts wr hvs0 hvs1 HA rs.length hc
      rw [hnp,hmq] at CN
      have HCN:=hide CN
      have HPQ:=hide hPQ
      have Hr:=H3.kept hkp (by unfold PD;omega)
      have Rr:=(R2.step hb3).kept hkp (by have:=HB2.size;unfold PD;omega)
      have h0:=Hr.cell (i:=0) rfl
      have h1:=Hr.cell (i:=1) rfl
      have h2:=Hr.cell (i:=2) rfl
      have h3:=Hr.cell (i:=3) rfl
      have HNP:=hide hnp;have HMQ:=hide hmq
      have hql:=hqb.lt
      have hgl':=HRD.out.lt
      have hkz:=hkp.size
      have hB2z:=HB2.size
      clear CN hPQ hnp hmq hP0 hQ0 hPQ1
      go_wp2_with fail
      refine HCN.out.mono ?_
      rintro e w10 ⟨rfl,hb10⟩
      have hz10:=hb10.size
      have hrd10:RS w10 (fun b=>b<w10.heap.size∧b≠g) w.heap.size g (pl.drop (16*nSum rs)) :=
       (HRD.out.move fun b' hb'=>hb10.block b' (by omega)).chg (fun h=>h.2 rfl)
      have TK:=takePt_any (fun b=>b<w10.heap.size∧b≠g) w.heap.size g w10 (fun k hk=>⟨by omega,by omega⟩)
       (pl.drop (16*nSum rs)) np (by rw [List.length_drop,HPL.out];omega) (by rw [List.length_drop,HPL.out];omega) (by rw [HPLD.out];exact (HBY.out.drop _).drop _) (fun k hk=>hk.1) hrd10
      have HTK:=hide TK
      clear TK hrd10 h0 h1 h2 h3
      go_wp2_with fail
      refine HTK.out.mono ?_
      rintro e w11 ⟨A1,rfl,k11,r11,s11,f11⟩
      have hz11:=k11.size
      have Q11:=(hqb.step hb10).kept k11 ⟨by omega,by omega⟩
      have R11:=(Rr.step hb10).kept k11 ⟨by omega,by omega⟩
      have q5:=Q11.cell (i:=5) rfl
      have fz5:=Q11.frozen 5
      obtain ⟨w12,hw12⟩:∃ w12,w12=w11.setCell ⟨q,5,none⟩ (.slice A1 np np):=⟨_,rfl⟩
      have Q12:Blk w12 q 37 #[.int .i64 op,.int .i64 vs,.slice HA rs.length hc,.int .i64 pts,v,.slice A1 np np,.slice none 0 0]:=by rw [hw12];exact Q11.set 5 _
      have R12:=R11.far (p:=⟨q,5,none⟩) (by simp;omega) (.slice A1 np np)
      rw [← hw12] at R12
      have hz12:w11.heap.size≤w12.heap.size∧w12.heap.size≤w11.heap.size:=by rw [hw12,World.size_setCell];omega
      have r12:RS w12 (fun b=>b<w12.heap.size∧b≠g) w.heap.size g ((pl.drop (16*nSum rs)).drop (16*np)):=by
       have:=((r11.chg (R:=PD C q g) (fun h=>h.2.2 rfl)).far (b:=q) (by omega) (by unfold PD;omega) HBP.out 5 (.slice A1 np np)).chg (R:=fun b=>b<w12.heap.size∧b≠g) (fun h=>h.2 rfl)
       rw [hw12] at this ⊢;exact this
      have TQ:=takeQu_any (fun b=>b<w12.heap.size∧b≠g) w.heap.size g w12 (fun k hk=>⟨by omega,by omega⟩)
       ((pl.drop (16*nSum rs)).drop (16*np)) mq (by rw [List.length_drop,List.length_drop,HPL.out];omega) (by rw [List.length_drop,List.length_drop,HPL.out];omega) (by rw [HPLD.out];exact ((HBY.out.drop _).drop _).drop _) (fun k hk=>hk.1) r12
      have HTQ:=hide TQ
      have e12:∀ b',b'≠q→w12.heap[b']?=w11.heap[b']?:=fun b' hb'=>by rw [hw12];exact Below.heap_setCell w11 ⟨q,5,none⟩ _ b' hb'
      have E12:=hide e12
      have K12:KeepP (PD C q g) w11 w12:=by rw [hw12];exact KeepP.set (by unfold PD;omega) 5 _ _
      have HK12:=hide K12
      have hw12s:=hw12.symm
      clear TQ r12 hw12 e12 K12
      go_wp2_with fail
      refine HTQ.out.mono ?_
      rintro e w13 ⟨A2,rfl,k13,r13,s13,f13⟩
      have hz13:=k13.size
      have Q13:=Q12.kept k13 ⟨by omega,by omega⟩
      have R13:=R12.kept k13 ⟨by omega,by omega⟩
      have q6:=Q13.cell (i:=6) rfl
      have fz6:=Q13.frozen 6
      obtain ⟨w14,hw14⟩:∃ w14,w14=w13.setCell ⟨q,6,none⟩ (.slice A2 mq mq):=⟨_,rfl⟩
      have Q14:Blk w14 q 37 #[.int .i64 op,.int .i64 vs,.slice HA rs.length hc,.int .i64 pts,v,.slice A1 np np,.slice A2 mq mq]:=by rw [hw14];exact Q13.set 6 _
      have R14:=R13.far (p:=⟨q,6,none⟩) (by simp;omega) (.slice A2 mq mq)
      rw [← hw14] at R14
      have hz14:w13.heap.size≤w14.heap.size∧w14.heap.size≤w13.heap.size:=by rw [hw14,World.size_setCell];omega
      have E14:Hid (∀ b',b'≠q→w14.heap[b']?=w13.heap[b']?):=hide fun b' hb'=>by rw [hw14];exact Below.heap_setCell w13 ⟨q,6,none⟩ _ b' hb'
      have K14:Hid (KeepP (PD C q g) w13 w14):=by apply hide;rw [hw14];exact KeepP.set (by unfold PD;omega) 6 _ _
      have hw14s:=hw14.symm
      clear hw14 hw12s
      have q0:=Q14.cell (i:=0) rfl
      have q1:=Q14.cell (i:=1) rfl
      have q2:=Q14.cell (i:=2) rfl
      have q3:=Q14.cell (i:=3) rfl
      have q4:=Q14.cell (i:=4) rfl
      have q5':=Q14.cell (i:=5) rfl
      have q6':=Q14.cell (i:=6) rfl
      have r0:=R14.cell (i:=0) rfl
      have r1:=R14.cell (i:=1) rfl
      have r2:=R14.cell (i:=2) rfl
      have r3:=R14.cell (i:=3) rfl
      have r4:=R14.cell (i:=4) rfl
      have r5:=R14.cell (i:=5) rfl
      have r6:=R14.cell (i:=6) rfl
      have g0:=R14.frozen 0
      have g1:=R14.frozen 1
      have g2:=R14.frozen 2
      have g3:=R14.frozen 3
      have g4:=R14.frozen 4
      have g5:=R14.frozen 5
      have g6:=R14.frozen 6
      clear q5
      obtain ⟨GA,gc,rfl,_⟩:=own_slice HQI.out.1
      go_wp2
      clear q0 q1 q2 q3 q4 q5' q6' q6 r0 r1 r2 r3 r4 r5 r6 g0 g1 g2 g3 g4 g5 g6
      obtain ⟨e0,e1,e2,e3,e4,e5,e6⟩:=set7_cells R14 (.int .i64 op) (.int .i64 vs) (.slice HA rs.length hc) (.int .i64 pts) (.slice GA rs.length gc) (.slice A1 np np) (.slice A2 mq mq)
      rw [HD.out]
      refine bodyPost_ret (v:=.tuple #[.agg #[.int .i64 op,.int .i64 vs,.slice HA rs.length hc,.int .i64 pts,.slice GA rs.length gc,.slice A1 np np,.slice A2 mq mq],.int .i64 0]) (by simp [results,Tryz.results68,go_sem,e0,e1,e2,e3,e4,e5,e6]) rfl ?_
      clear e0 e1 e2 e3 e4 e5 e6
      obtain ⟨W,hW⟩:∃ W,W=set7 w14 w.heap.size (.int .i64 op) (.int .i64 vs) (.slice HA rs.length hc) (.int .i64 pts) (.slice GA rs.length gc) (.slice A1 np np) (.slice A2 mq mq):=⟨_,rfl⟩
      have hWz:w14.heap.size≤W.heap.size:=by rw [hW,set7_size];exact Nat.le_refl _
      have eW:∀ b',b'≠w.heap.size→W.heap[b']?=w14.heap[b']?:=fun b' hb'=>by rw [hW];exact set7_far w14 _ _ _ _ _ _ _ _ b' hb'
      have hB14:Below w.heap.size w w14:=(((((HB3.trans (hkp.below HBP.out)).trans (hb10.mono (by omega))).trans (k11.below (fun k hk=>⟨by omega,by omega⟩))).trans (HK12.out.below HBP.out)).trans (k13.below (fun k hk=>⟨by omega,by omega⟩))).trans (K14.out.below HBP.out)
      have hBW:Below w.heap.size w W:=by rw [hW];exact set7_below hB14 (Nat.le_refl _) _ _ _ _ _ _ _
      have e13:∀ b',b'<w13.heap.size→b'≠q→b'≠w.heap.size→W.heap[b']?=w13.heap[b']?:=fun b' h1 h2 h3=>(eW b' h3).trans (E14.out b' h2)
      have e11:∀ b',b'<w11.heap.size→b'≠q→b'≠g→b'≠w.heap.size→W.heap[b']?=w11.heap[b']?:=fun b' h1 h2 h3 h4=>(e13 b' (by omega) h2 h4).trans ((k13.block b' ⟨by omega,h3⟩).trans (E12.out b' h2))
      have er:∀ b',b'<wr.heap.size→b'≠q→b'≠g→b'≠w.heap.size→W.heap[b']?=wr.heap[b']?:=fun b' h1 h2 h3 h4=>(e11 b' (by omega) h2 h3 h4).trans ((k11.block b' ⟨by omega,h3⟩).trans (hb10.block b' h1))
      have QIW:QI W C gs (.slice GA gs.length gc):=HQI.out.move (by omega) fun b' h1 h2=>er b' h2 (by omega) (by omega) (by omega)
      have hslW:Sl W w2.heap.size HA (rgCells rs):=HSL.out.at_ fun b' h1 hx x hA hxb=>by
       refine (er b' (by omega) (by omega) (by omega) ?_).trans ((hkp.block b' (by unfold PD;omega)).trans (hb3.block b' h1))
       subst hxb
       intro e
       exact no_bool hx HSL.out hA (by rw [e];exact R2)
      have s11':Sl W w11.heap.size A1 (ptCs (ptsOf (pl.drop (16*nSum rs)) np)):=s11.at_ fun b' h1 hx x hA hxb=>by
       have:=f11 x hA
       subst hxb
       exact e11 _ h1 (by omega) (by omega) (by omega)
      have s13':Sl W w13.heap.size A2 (quCs (qusOf ((pl.drop (16*nSum rs)).drop (16*np)) mq)):=s13.at_ fun b' h1 hx x hA hxb=>by
       have:=f13 x hA
       subst hxb
       exact e13 _ h1 (by omega) (by omega)
      have hqq:qusOf ((pl.drop (16*nSum rs)).drop (16*np)) mq=qusOf (pl.drop (16*nSum rs)) mq:=by
       rcases HPQ.out with h | h
       · rw [show np=0 by omega];simp
       · rw [show mq=0 by omega];rfl
      rw [hqq] at s13'
      show Decoded (rqOf ⟨op,vs,rs,pts⟩ (bs.drop N),0) w _ (set7 w14 w.heap.size _ _ _ _ _ _ _)
      rw [← hW]
      clear hW
      have hps:(rqOf ⟨op,vs,rs,pts⟩ (bs.drop N)).ps=ptsOf (pl.drop (16*nSum rs)) np:=by
       show ptsOf _ (cntP op vs).toNat=_
       rw [HNP.out,← HPLD.out];rfl
      have hqs:(rqOf ⟨op,vs,rs,pts⟩ (bs.drop N)).qs=qusOf (pl.drop (16*nSum rs)) mq:=by
       show qusOf _ (cntQ op pts).toNat=_
       rw [HMQ.out,← HPLD.out];rfl
      refine ⟨rs,HA,hc,gs,GA,gc,A1,np,A2,mq,?_,hBW,?_,by rw [hps,ptsOf_length];exact Nat.le_refl _⟩
      · unfold rqVal
        dsimp only
        rw [hps,hqs,ptsOf_length,qusOf_length,hgl]
        rfl
      · refine ⟨hslW.more (by omega),rfl,Sl.of_own QIW.1,QIW.gsOk,?_,?_,?_⟩
        · rw [HGD.out,HPLD.out];rfl
        · dsimp only;rw [hps];exact s11'.more (by omega)
        · dsimp only;rw [hqs];exact s13'.more (by omega)
 · have hne:(cl != 0)=true:=by simpa using hc0
   rw [if_neg hc0] at HD
   have HCL:=hide CL;clear CL PA hpe hcl hc0 hfix hg hby hby' hs
   go_enter Tryz.func68,Tryz.ntmps68
   go_wp2_with fail
   rw [← hw0]
   have HW0:=hide hw0;clear hw0
   refine HCL.out.mono ?_
   rintro e w1 ⟨rfl,hb1⟩
   have R1:=R0.step hb1
   have r0:=R1.cell (i:=0) rfl
   have r1:=R1.cell (i:=1) rfl
   have r2:=R1.cell (i:=2) rfl
   have r3:=R1.cell (i:=3) rfl
   have r4:=R1.cell (i:=4) rfl
   have r5:=R1.cell (i:=5) rfl
   have r6:=R1.cell (i:=6) rfl
   have f0:=R1.frozen 0
   have f1:=R1.frozen 1
   have f2:=R1.frozen 2
   have f3:=R1.frozen 3
   have f4:=R1.frozen 4
   have f5:=R1.frozen 5
   have f6:=R1.frozen 6
   go_wp2
   obtain ⟨e0,e1,e2,e3,e4,e5,e6⟩:=set7_cells R1 (.int .i64 0) (.int .i64 0) (.slice none 0 0) (.int .i64 0) (.slice none 0 0) (.slice none 0 0) (.slice none 0 0)
   rw [HD.out]
   exact bodyPost_ret (v:=.tuple #[.agg #[.int .i64 0,.int .i64 0,.slice none 0 0,.int .i64 0,.slice none 0 0,.slice none 0 0,.slice none 0 0],.int .i64 cl]) (by simp [results,Tryz.results68,go_sem,e0,e1,e2,e3,e4,e5,e6]) rfl (decoded_zero (set7_below (bl_step hb0 hb1) (Nat.le_refl _) _ _ _ _ _ _ _))
end
end
end Go.Proofs.YtpnoofphfomjoaaGreatDoor
