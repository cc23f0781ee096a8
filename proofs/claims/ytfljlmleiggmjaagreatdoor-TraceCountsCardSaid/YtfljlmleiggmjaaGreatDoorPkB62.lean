/- Open -/
import Derived.Deep.DeepHandedRow
import Derived.Deep.Slices
import Derived.Deep.Strs
import Derived.Lib.LaidTab
import Derived.Lib.SmallJoins
import Derived.OpenShut
import Derived.ProofKit
import Derived.Test.YtfljlmleiggmjaaGreatDoorPkB61
set_option maxRecDepth 1000000
set_option maxHeartbeats 8000000
namespace Go.Proofs.YtfljlmleiggmjaaGreatDoor
section
open Go.ChangeShapes Go.WideShapes Go.ChangeAt Go.RowKit
def ptCells (ps:List (Int × Int)):List Value:=ps.flatMap fun p=>[.int .i64 p.1,.int .i64 p.2]
theorem ptCells_of {w:World} {b:Nat}:∀ (ps:List (Int × Int)) (off:Nat),(∀ i p,ps[i]?=some p→w.cell? ⟨b,off+i*2,none⟩=some (.int .i64 p.1)∧w.cell? ⟨b,off+i*2+1,none⟩=some (.int .i64 p.2)) →
 ∀ j u,(ptCells ps)[j]?=some u→w.cell? ⟨b,off+j,none⟩=some u
 | [],_,_,j,u,hu=>by simp [ptCells] at hu
 | p::ps,off,h,j,u,hu=>by
   have e:ptCells (p::ps)=.int .i64 p.1::.int .i64 p.2::ptCells ps:=by simp [ptCells]
   rw [e] at hu
   match j,hu with
   | 0,hu=>have:=(h 0 p rfl).1;simp at hu;subst hu;simpa using this
   | 1,hu=>have:=(h 0 p rfl).2;simp at hu;subst hu;simpa using this
   | j+2,hu =>
     have:=ptCells_of ps (off+2) (fun i q hq=>by
      have:=h (i+1) q (by simpa using hq)
      rw [show off+(i+1)*2=off+2+i*2 by omega] at this
      exact this) j u (by simpa using hu)
     rwa [show off+(j+2)=off+2+j by omega]
theorem rgCells_of {w:World} {b:Nat}:∀ (rs:List Rg) (off:Nat),(∀ i r,rs[i]?=some r→w.cell? ⟨b,off+i*3,none⟩=some (.bool r.d)∧w.cell? ⟨b,off+i*3+1,none⟩=some (.int .i64 r.v)∧w.cell? ⟨b,off+i*3+2,none⟩=some (.slice r.A r.n r.c)) →
 ∀ j u,(rgCells rs)[j]?=some u→w.cell? ⟨b,off+j,none⟩=some u
 | [],_,_,j,u,hu=>by simp [rgCells] at hu
 | r::rs,off,h,j,u,hu=>by
   have e:rgCells (r::rs)=.bool r.d::.int .i64 r.v::.slice r.A r.n r.c::rgCells rs:=by simp [rgCells,Rg.cells]
   rw [e] at hu
   match j,hu with
   | 0,hu=>have:=(h 0 r rfl).1;simp at hu;subst hu;simpa using this
   | 1,hu=>have:=(h 0 r rfl).2.1;simp at hu;subst hu;simpa using this
   | 2,hu=>have:=(h 0 r rfl).2.2;simp at hu;subst hu;simpa using this
   | j+3,hu =>
     have:=rgCells_of rs (off+3) (fun i q hq=>by
      have:=h (i+1) q (by simpa using hq)
      rw [show off+(i+1)*3=off+3+i*3 by omega] at this
      exact this) j u (by simpa using hu)
     rwa [show off+(j+3)=off+3+j by omega]
section
variable {H:Type} {enc:TypeId × Value→H} {W:World}
def w_at (W:World) (a:Addr) (i:Nat) (q:Int × Int):Prop:=W.cell? ((a.add (i*2)).add 0)=some (.int .i64 q.1)∧W.cell? ((a.add (i*2)).add 1)=some (.int .i64 q.2)∧(-9223372036854775808≤q.1∧q.1≤9223372036854775807)∧(-9223372036854775808≤q.2∧q.2≤9223372036854775807)
def I64 (n:Int):Prop:=-9223372036854775808≤n∧n≤9223372036854775807
theorem trod_point {fuel:Nat} {cs:List Value} {x:DataW H × List MemPlace} (h:DataW.trod enc Tryz.prog W 0 (fun _=>true) true fuel 123 cs=some x) :
 ∃ p:Int × Int,cs=[.int .i64 p.1,.int .i64 p.2]∧I64 p.1∧I64 p.2:=by
 have hC:Tryz.prog.cellsOf 123=2:=by kernel_rfl
 have hI:Tryz.prog.cellsOf 2=1:=by kernel_rfl
 obtain ⟨y0,y1,n,_,hlen,h0,h1⟩:=trod_struct2 Tryz.underlying123 h
 rw [hC] at hlen
 match cs,hlen with
 | [c0,c1],_ =>
   dsimp only at h0 h1
   rw [hI] at h0 h1
   obtain ⟨a,e0,_,wa⟩:=DataW.trod_int Tryz.underlying2 h0
   obtain ⟨b,e1,_,wb⟩:=DataW.trod_int Tryz.underlying2 h1
   simp at e0 e1
   subst e0 e1
   exact ⟨(a,b),rfl,bounds_i64 wa,bounds_i64 wb⟩
theorem trod_points {fuel:Nat} {cs:List Value} {x:DataW H × List MemPlace} (h:DataW.trod enc Tryz.prog W 0 (fun _=>true) true fuel 59 cs=some x) :
 ∃ (A:Option Addr) (ps:List (Int × Int)) (c:Nat),cs=[.slice A ps.length c]∧ps.length≤c∧c≤maxLen∧Sl W W.heap.size A (ptCells ps)∧(∀ p∈ps,I64 p.1∧I64 p.2):=by
 rcases Go.Deep.open_slice Tryz.underlying59 h with ⟨rfl,_⟩ | ⟨a,len,cap,m,n,D,Pl,rfl,_,hl,hm,hmm,_,hx⟩
 · exact ⟨none,[],0,rfl,Nat.le_refl _,by unfold maxLen;omega,Sl.nil _ _ _,fun p hp=>by cases hp⟩
 · have hC:Tryz.prog.cellsOf 123=2:=by kernel_rfl
   rw [hC] at hx
   have hcap:m=cap:=by simpa using hmm
   subst hcap
   obtain ⟨V,hV⟩:=pick_lt (α:=Int × Int) (0,0) (m:=len) (p:=fun i q=>w_at W a i q) (fun i hi=>by
    obtain ⟨cs',hc,ht⟩:=hx i (by omega)
    obtain ⟨q,rfl,hq⟩:=trod_point ht
    obtain ⟨_,_,hat⟩:=World.cells?_some hc
    exact ⟨q,hat 0 (by omega),hat 1 (by omega),hq⟩)
   refine ⟨some a,(List.range len).map V,m,by simp,by simpa using hl,hm,?_,?_⟩
   · rcases Nat.eq_zero_or_pos len with h0 | h0
     · subst h0;exact .inl rfl
     · have hz:=(hV 0 h0).1
       have ha:a=⟨a.block,a.off,none⟩:=addr_shape (v:=.int .i64 (V 0).1) (by
        have e:(a.add (0*2)).add 0=a.add 0:=by simp [Addr.add]
        rw [← e];exact hz)
       rw [ha] at hV hz ⊢
       simp only [w_at,add_at] at hV hz
       refine Sl.mk (block_lt hz) (ptCells_of _ _ fun i p hp=>?_)
       rw [List.getElem?_map] at hp
       by_cases hi:i<len
       · rw [List.getElem?_range hi] at hp
         simp only [Option.map_some,Option.some.injEq] at hp
         subst hp
         have:=hV i hi
         exact ⟨by simpa using this.1,by simpa using this.2.1⟩
       · rw [List.getElem?_eq_none (by simp;omega)] at hp;simp at hp
   · intro p hp
     obtain ⟨i,hi,rfl⟩:=List.mem_map.1 hp
     exact (hV i (List.mem_range.1 hi)).2.2
def RgOk (W:World) (r:Rg) (ps:List (Int × Int)):Prop:=I64 r.v∧r.n=ps.length∧r.n≤r.c∧r.c≤maxLen∧Sl W W.heap.size r.A (ptCells ps)∧(∀ p∈ps,I64 p.1∧I64 p.2)
theorem trod_region {fuel:Nat} {cs:List Value} {x:DataW H × List MemPlace} (h:DataW.trod enc Tryz.prog W 0 (fun _=>true) true fuel 61 cs=some x) :
 ∃ q:Rg × List (Int × Int),cs=q.1.cells∧RgOk W q.1 q.2:=by
 have hC:Tryz.prog.cellsOf 61=3:=by kernel_rfl
 have hB:Tryz.prog.cellsOf 4=1:=by kernel_rfl
 have hI:Tryz.prog.cellsOf 3=1:=by kernel_rfl
 have hS:Tryz.prog.cellsOf 59=1:=by kernel_rfl
 obtain ⟨y0,y1,y2,n,_,hlen,h0,h1,h2⟩:=Go.Deep.trod_struct3 Tryz.underlying61 h
 rw [hC] at hlen
 match cs,hlen with
 | [c0,c1,c2],_ =>
   dsimp only at h0 h1 h2
   rw [hB] at h0
   rw [hI] at h1
   rw [hS] at h2
   obtain ⟨d,e0,_⟩:=DataW.trod_bool Tryz.underlying4 h0
   obtain ⟨v,e1,_,wv⟩:=DataW.trod_int Tryz.underlying3 h1
   obtain ⟨A,ps,c,e2,hl,hc,hs,hp⟩:=trod_points h2
   simp at e0 e1 e2
   subst e0 e1 e2
   exact ⟨(⟨d,v,A,ps.length,c⟩,ps),rfl,bounds_i64 wv,rfl,hl,hc,hs,hp⟩
def rg_at (W:World) (a:Addr) (i:Nat) (q:Rg × List (Int × Int)):Prop :=
 W.cell? ((a.add (i*3)).add 0)=some (.bool q.1.d)∧W.cell? ((a.add (i*3)).add 1)=some (.int .i64 q.1.v)∧W.cell? ((a.add (i*3)).add 2)=some (.slice q.1.A q.1.n q.1.c)∧RgOk W q.1 q.2
theorem trod_regions {fuel:Nat} {cs:List Value} {x:DataW H × List MemPlace} (h:DataW.trod enc Tryz.prog W 0 (fun _=>true) true fuel 22 cs=some x) :
 ∃ (A:Option Addr) (qs:List (Rg × List (Int × Int))) (c:Nat),cs=[.slice A qs.length c]∧qs.length≤c∧c≤maxLen∧Sl W W.heap.size A (rgCells (qs.map (·.1)))∧(∀ q∈qs,RgOk W q.1 q.2):=by
 rcases Go.Deep.open_slice Tryz.underlying22 h with ⟨rfl,_⟩ | ⟨a,len,cap,m,n,D,Pl,rfl,_,hl,hm,hmm,_,hx⟩
 · exact ⟨none,[],0,rfl,Nat.le_refl _,by unfold maxLen;omega,Sl.nil _ _ _,fun p hp=>by cases hp⟩
 · have hC:Tryz.prog.cellsOf 61=3:=by kernel_rfl
   rw [hC] at hx
   have hcap:m=cap:=by simpa using hmm
   subst hcap
   obtain ⟨V,hV⟩:=pick_lt (α:=Rg × List (Int × Int)) (⟨false,0,none,0,0⟩,[]) (m:=len) (p:=fun i q=>rg_at W a i q) (fun i hi=>by
    obtain ⟨cs',hc,ht⟩:=hx i (by omega)
    obtain ⟨q,rfl,hq⟩:=trod_region ht
    obtain ⟨_,_,hat⟩:=World.cells?_some hc
    exact ⟨q,hat 0 (by omega),hat 1 (by omega),hat 2 (by omega),hq⟩)
   refine ⟨some a,(List.range len).map V,m,by simp,by simpa using hl,hm,?_,?_⟩
   · rcases Nat.eq_zero_or_pos len with h0 | h0
     · subst h0;exact .inl rfl
     · have hz:=(hV 0 h0).1
       have ha:a=⟨a.block,a.off,none⟩:=addr_shape (v:=.bool (V 0).1.d) (by
        have e:(a.add (0*3)).add 0=a.add 0:=by simp [Addr.add]
        rw [← e];exact hz)
       rw [ha] at hV hz ⊢
       simp only [rg_at,add_at] at hV hz
       refine Sl.mk (block_lt hz) (rgCells_of _ _ fun i p hp=>?_)
       rw [List.map_map,List.getElem?_map] at hp
       by_cases hi:i<len
       · rw [List.getElem?_range hi] at hp
         simp only [Option.map_some,Option.some.injEq,Function.comp_apply] at hp
         subst hp
         have:=hV i hi
         exact ⟨by simpa using this.1,by simpa using this.2.1,by simpa using this.2.2.1⟩
       · rw [List.getElem?_eq_none (by simp;omega)] at hp;simp at hp
   · intro p hp
     obtain ⟨i,hi,rfl⟩:=List.mem_map.1 hp
     exact (hV i (List.mem_range.1 hi)).2.2.2
theorem open_header {base:Nat} {v:Value} {d:DataW H} {ps:List MemPlace} (hv:Value.okWide Tryz.prog W .any base 24 v) (h:DataW.Trod enc Tryz.prog W 0 (fun _=>true) true 24 v d ps) :
 ∃ (op vs pts:Int) (A:Option Addr) (qs:List (Rg × List (Int × Int))) (c:Nat),v=.agg #[.int .i64 op,.int .i64 vs,.slice A (qs.map (·.1)).length c,.int .i64 pts]∧I64 op∧I64 vs∧I64 pts ∧
   qs.length≤c∧c≤maxLen∧Sl W W.heap.size A (rgCells (qs.map (·.1)))∧(∀ q∈qs,RgOk W q.1 q.2):=by
 obtain ⟨v0,v1,v2,v3,y0,y1,y2,y3,n,rfl,_,_,h0,h1,h2,h3⟩:=Go.Joins.open_agg4 Tryz.underlying24 (by kernel_rfl) (by kernel_rfl) hv h
 obtain ⟨op,e0,_,w0⟩:=DataW.trod_int Tryz.underlying3 h0
 obtain ⟨vs,e1,_,w1⟩:=DataW.trod_int Tryz.underlying3 h1
 obtain ⟨A,qs,c,e2,hl,hc,hs,hq⟩:=trod_regions h2
 obtain ⟨pts,e3,_,w3⟩:=DataW.trod_int Tryz.underlying3 h3
 simp only [List.cons.injEq,and_true] at e0 e1 e2 e3
 subst e0 e1 e2 e3
 exact ⟨op,vs,pts,A,qs,c,by rw [List.length_map],bounds_i64 w0,bounds_i64 w1,bounds_i64 w3,hl,hc,hs,hq⟩
end
end
end Go.Proofs.YtfljlmleiggmjaaGreatDoor
