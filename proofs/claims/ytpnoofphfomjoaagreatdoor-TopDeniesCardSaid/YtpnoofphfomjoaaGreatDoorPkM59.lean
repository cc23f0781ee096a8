/- OpenReq21 -/
import Derived.Test.YtpnoofphfomjoaaGreatDoorPkM07
import Derived.Test.YtpnoofphfomjoaaGreatDoorPkM08
import Derived.Test.YtpnoofphfomjoaaGreatDoorPkM45
set_option maxRecDepth 1000000
set_option maxHeartbeats 8000000
namespace Go.Proofs.YtpnoofphfomjoaaGreatDoor
section
open Go.ChangeShapes Go.WideShapes Go.ChangeAt Go.RowKit
theorem bounds_u64' {n:Int} (h:(Lit.int .u64 n).wf=true):U64 n:=by
 simp [Lit.wf,IntKind.min,IntKind.max,IntKind.signed,IntKind.bits] at h
 unfold U64
 omega
def QOk (q:(Int × Int) × Int):Prop:=U64 q.2∧I64 q.1.1∧I64 q.1.2
section
variable {H:Type} {enc:TypeId × Value→H} {W:World}
theorem trod_struct4 {P:Program} {w:World} {base:Nat} {spare:Nat→Bool} {held:Bool} {t:TypeId} {f0 f1 f2 f3:Field} {fuel:Nat} {cs:List Value} {x:DataW H × List MemPlace} (ht:P.underlying t=some (.struct #[f0,f1,f2,f3])) (h:DataW.trod enc P w base spare held fuel t cs=some x) :
 ∃ y0 y1 y2 y3 n,cs.length=P.cellsOf t∧DataW.trod enc P w base spare held n f0.type ((cs.drop f0.offset).take (P.cellsOf f0.type))=some y0∧DataW.trod enc P w base spare held n f1.type ((cs.drop f1.offset).take (P.cellsOf f1.type))=some y1 ∧
   DataW.trod enc P w base spare held n f2.type ((cs.drop f2.offset).take (P.cellsOf f2.type))=some y2∧DataW.trod enc P w base spare held n f3.type ((cs.drop f3.offset).take (P.cellsOf f3.type))=some y3:=by
 obtain ⟨xs,n,_,rfl,hl,hlen,hf⟩:=DataW.trod_struct ht h
 match xs,hlen with
 | [y0,y1,y2,y3],_=>exact ⟨y0,y1,y2,y3,n,hl,by simpa using hf 0 f0 rfl,by simpa using hf 1 f1 rfl,by simpa using hf 2 f2 rfl,by simpa using hf 3 f3 rfl⟩
theorem trod_query {fuel:Nat} {cs:List Value} {x:DataW H × List MemPlace} (h:DataW.trod enc Tryz.prog W 0 (fun _=>true) true fuel 82 cs=some x) :
 ∃ q:(Int × Int) × Int,cs=[.int .i64 q.1.1,.int .i64 q.1.2,.int .u64 q.2]∧QOk q:=by
 have hC:Tryz.prog.cellsOf 82=3:=by kernel_rfl
 have hP:Tryz.prog.cellsOf 69=2:=by kernel_rfl
 have hI:Tryz.prog.cellsOf 80=1:=by kernel_rfl
 obtain ⟨y0,y1,n,_,hlen,h0,h1⟩:=trod_struct2 Tryz.underlying82 h
 rw [hC] at hlen
 match cs,hlen with
 | [c0,c1,c2],_ =>
   dsimp only at h0 h1
   rw [hP] at h0
   rw [hI] at h1
   obtain ⟨p,e0,hp1,hp2⟩:=trod_point h0
   obtain ⟨b,e1,_,wb⟩:=DataW.trod_int Tryz.underlying80 h1
   simp at e0 e1
   obtain ⟨rfl,rfl⟩:=e0
   subst e1
   exact ⟨(p,b),rfl,bounds_u64' wb,hp1,hp2⟩
theorem quCs_of {w:World} {b:Nat}:∀ (qs:List ((Int × Int) × Int)) (off:Nat),(∀ i q,qs[i]?=some q→w.cell? ⟨b,off+i*3,none⟩=some (.int .i64 q.1.1)∧w.cell? ⟨b,off+i*3+1,none⟩=some (.int .i64 q.1.2)∧w.cell? ⟨b,off+i*3+2,none⟩=some (.int .u64 q.2)) →
 ∀ j u,(quCs qs)[j]?=some u→w.cell? ⟨b,off+j,none⟩=some u
 | [],_,_,j,u,hu=>by simp [quCs] at hu
 | q::qs,off,h,j,u,hu=>by
   have e:quCs (q::qs)=.int .i64 q.1.1::.int .i64 q.1.2::.int .u64 q.2::quCs qs:=by simp [quCs]
   rw [e] at hu
   match j,hu with
   | 0,hu=>have:=(h 0 q rfl).1;simp at hu;subst hu;simpa using this
   | 1,hu=>have:=(h 0 q rfl).2.1;simp at hu;subst hu;simpa using this
   | 2,hu=>have:=(h 0 q rfl).2.2;simp at hu;subst hu;simpa using this
   | j+3,hu =>
     have:=quCs_of qs (off+3) (fun i r hr=>by
      have:=h (i+1) r (by simpa using hr)
      rw [show off+(i+1)*3=off+3+i*3 by omega] at this
      exact this) j u (by simpa using hu)
     rwa [show off+(j+3)=off+3+j by omega]
def qu_at (W:World) (a:Addr) (i:Nat) (q:(Int × Int) × Int):Prop :=
 W.cell? ((a.add (i*3)).add 0)=some (.int .i64 q.1.1)∧W.cell? ((a.add (i*3)).add 1)=some (.int .i64 q.1.2)∧W.cell? ((a.add (i*3)).add 2)=some (.int .u64 q.2)∧QOk q
theorem trod_queries {fuel:Nat} {cs:List Value} {x:DataW H × List MemPlace} (h:DataW.trod enc Tryz.prog W 0 (fun _=>true) true fuel 26 cs=some x) :
 ∃ (A:Option Addr) (qs:List ((Int × Int) × Int)) (c:Nat),cs=[.slice A qs.length c]∧qs.length≤c∧c≤maxLen∧Sl W W.heap.size A (quCs qs)∧(∀ q∈qs,QOk q):=by
 rcases Go.Deep.open_slice Tryz.underlying26 h with ⟨rfl,_⟩ | ⟨a,len,cap,m,n,D,Pl,rfl,_,hl,hm,hmm,_,hx⟩
 · exact ⟨none,[],0,rfl,Nat.le_refl _,by unfold maxLen;omega,Sl.nil _ _ _,fun p hp=>by cases hp⟩
 · have hC:Tryz.prog.cellsOf 82=3:=by kernel_rfl
   rw [hC] at hx
   have hcap:m=cap:=by simpa using hmm
   subst hcap
   obtain ⟨V,hV⟩:=pick_lt (α:=(Int × Int) × Int) ((0,0),0) (m:=len) (p:=fun i q=>qu_at W a i q) (fun i hi=>by
    obtain ⟨cs',hc,ht⟩:=hx i (by omega)
    obtain ⟨q,rfl,hq⟩:=trod_query ht
    obtain ⟨_,_,hat⟩:=World.cells?_some hc
    exact ⟨q,hat 0 (by omega),hat 1 (by omega),hat 2 (by omega),hq⟩)
   refine ⟨some a,(List.range len).map V,m,by simp,by simpa using hl,hm,?_,?_⟩
   · rcases Nat.eq_zero_or_pos len with h0 | h0
     · subst h0;exact .inl rfl
     · have hz:=(hV 0 h0).1
       have ha:a=⟨a.block,a.off,none⟩:=addr_shape (v:=.int .i64 (V 0).1.1) (by
        have e:(a.add (0*3)).add 0=a.add 0:=by simp [Addr.add]
        rw [← e];exact hz)
       rw [ha] at hV hz ⊢
       simp only [qu_at,add_at] at hV hz
       refine Sl.mk (block_lt hz) (quCs_of _ _ fun i p hp=>?_)
       rw [List.getElem?_map] at hp
       by_cases hi:i<len
       · rw [List.getElem?_range hi] at hp
         simp only [Option.map_some,Option.some.injEq] at hp
         subst hp
         have:=hV i hi
         exact ⟨by simpa using this.1,by simpa using this.2.1,by simpa using this.2.2.1⟩
       · rw [List.getElem?_eq_none (by simp;omega)] at hp;simp at hp
   · intro p hp
     obtain ⟨i,hi,rfl⟩:=List.mem_map.1 hp
     exact (hV i (List.mem_range.1 hi)).2.2.2
theorem trod_header {fuel:Nat} {cs:List Value} {x:DataW H × List MemPlace} (h:DataW.trod enc Tryz.prog W 0 (fun _=>true) true fuel 24 cs=some x) :
 ∃ (op vs pts:Int) (A:Option Addr) (qs:List (Rg × List (Int × Int))) (c:Nat),cs=[.int .i64 op,.int .i64 vs,.slice A (qs.map (·.1)).length c,.int .i64 pts]∧I64 op∧I64 vs∧I64 pts ∧
   qs.length≤c∧c≤maxLen∧Sl W W.heap.size A (rgCells (qs.map (·.1)))∧(∀ q∈qs,RgOk W q.1 q.2):=by
 have hC:Tryz.prog.cellsOf 24=4:=by kernel_rfl
 have hI:Tryz.prog.cellsOf 3=1:=by kernel_rfl
 have hS:Tryz.prog.cellsOf 22=1:=by kernel_rfl
 obtain ⟨y0,y1,y2,y3,n,hlen,h0,h1,h2,h3⟩:=trod_struct4 Tryz.underlying24 h
 rw [hC] at hlen
 match cs,hlen with
 | [c0,c1,c2,c3],_ =>
   dsimp only at h0 h1 h2 h3
   rw [hI] at h0 h1 h3
   rw [hS] at h2
   obtain ⟨op,e0,_,w0⟩:=DataW.trod_int Tryz.underlying3 h0
   obtain ⟨vs,e1,_,w1⟩:=DataW.trod_int Tryz.underlying3 h1
   obtain ⟨A,qs,c,e2,hl',hc,hs,hq⟩:=trod_regions h2
   obtain ⟨pts,e3,_,w3⟩:=DataW.trod_int Tryz.underlying3 h3
   simp at e0 e1 e2 e3
   subst e0 e1 e2 e3
   exact ⟨op,vs,pts,A,qs,c,by simp,bounds_i64 w0,bounds_i64 w1,bounds_i64 w3,hl',hc,hs,hq⟩
theorem gsOk_of {qs:List (Rg × List (Int × Int))} (h:∀ q∈qs,RgOk W q.1 q.2):GsOk W W.heap.size qs:=fun g hg=>⟨(h g hg).2.1,(h g hg).2.2.2.2.1⟩
theorem open_request2 {base:Nat} {v:Value} {d:DataW H} {ps:List MemPlace} (hv:Value.okWide Tryz.prog W .any base 28 v) (h:DataW.Trod enc Tryz.prog W 0 (fun _=>true) true 28 v d ps) :
 ∃ (op vs pts:Int) (HA GA PA QA:Option Addr) (hrs:List Rg) (hc gc pc qc:Nat) (gs:List Gr) (pl:List (Int × Int)) (ql:List ((Int × Int) × Int)),
   v=.agg #[.int .i64 op,.int .i64 vs,.slice HA hrs.length hc,.int .i64 pts,.slice GA gs.length gc,.slice PA pl.length pc,.slice QA ql.length qc] ∧
   hrs.length≤hc∧hc≤maxLen∧gs.length≤gc∧gc≤maxLen∧pl.length≤pc∧pc≤maxLen∧ql.length≤qc∧qc≤maxLen ∧
   Sl W W.heap.size HA (rgCells hrs)∧Sl W W.heap.size GA (rgCells (gs.map (·.1)))∧GsOk W W.heap.size gs∧Sl W W.heap.size PA (ptCs pl)∧Sl W W.heap.size QA (quCs ql)∧(∀ q∈ql,U64 q.2)∧(∀ g∈gs,∀ p∈g.2,I64 p.1∧I64 p.2)∧(∀ p∈pl,I64 p.1∧I64 p.2)∧(∀ q∈ql,I64 q.1.1∧I64 q.1.2):=by
 have hC:Tryz.prog.cellsOf 28=7:=by kernel_rfl
 have hH:Tryz.prog.cellsOf 24=4:=by kernel_rfl
 have hS:Tryz.prog.cellsOf 22=1:=by kernel_rfl
 have hP:Tryz.prog.cellsOf 25=1:=by kernel_rfl
 have hQ:Tryz.prog.cellsOf 26=1:=by kernel_rfl
 obtain ⟨cs,rfl,hsz⟩:=okWide_struct Tryz.underlying28 hv
 rw [hC] at hsz
 obtain ⟨fuel,ht⟩:=h
 obtain ⟨l⟩:=cs
 have ht':DataW.trod enc Tryz.prog W 0 (fun _=>true) true fuel 28 l=some (d,ps):=by simpa [Value.cells] using ht
 obtain ⟨y0,y1,y2,y3,n,hlen,h0,h1,h2,h3⟩:=trod_struct4 Tryz.underlying28 ht'
 match l,hsz with
 | [c0,c1,c2,c3,c4,c5,c6],_ =>
   dsimp only at h0 h1 h2 h3
   rw [hH] at h0
   rw [hS] at h1
   rw [hP] at h2
   rw [hQ] at h3
   obtain ⟨op,vs,pts,HA,hq,hc,e0,_,_,_,hh1,hh2,hh3,_⟩:=trod_header h0
   obtain ⟨GA,gs,gc,e1,hg1,hg2,hg3,hg4⟩:=trod_regions h1
   obtain ⟨PA,pl,pc,e2,hp1,hp2,hp3,hp4⟩:=trod_points h2
   obtain ⟨QA,ql,qc,e3,hq1,hq2,hq3,hq4⟩:=trod_queries h3
   simp at e0 e1 e2 e3
   obtain ⟨rfl,rfl,rfl,rfl⟩:=e0
   subst e1 e2 e3
   exact ⟨op,vs,pts,HA,GA,PA,QA,hq.map (·.1),hc,gc,pc,qc,gs,pl,ql,by simp,by simpa using hh1,hh2,hg1,hg2,hp1,hp2,hq1,hq2,hh3,hg3,gsOk_of hg4,hp3,hq3,fun q hq=>(hq4 q hq).1,fun g hg=>(hg4 g hg).2.2.2.2.2,hp4,fun q hq=>(hq4 q hq).2⟩
end
end
end Go.Proofs.YtpnoofphfomjoaaGreatDoor
