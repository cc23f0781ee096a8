/- OpenEvents -/
import Derived.Test.YtfljlmleiggmjaaGreatDoorPkB19
import Derived.Test.YtfljlmleiggmjaaGreatDoorPkB24
import Derived.Test.YtfljlmleiggmjaaGreatDoorPkB61
set_option maxRecDepth 1000000
set_option maxHeartbeats 8000000
namespace Go.Proofs.YtfljlmleiggmjaaGreatDoor
section
open Go.ChangeShapes Go.WideShapes Go.ChangeAt Go.RowKit
section
variable {H:Type} {enc:TypeId × Value→H} {W:World}
theorem trod_event {fuel:Nat} {cs:List Value} {x:DataW H × List MemPlace} (h:DataW.trod enc Tryz.prog W 0 (fun _=>true) true fuel 66 cs=some x) :
 ∃ p:Ev,cs=[.int .i64 p.1,.int .i64 p.2.1,.int .i64 p.2.2]∧EvJ p:=by
 have hC:Tryz.prog.cellsOf 66=3:=by kernel_rfl
 have hI:Tryz.prog.cellsOf 3=1:=by kernel_rfl
 obtain ⟨y0,y1,y2,n,_,hlen,h0,h1,h2⟩:=Go.Deep.trod_struct3 Tryz.underlying66 h
 rw [hC] at hlen
 match cs,hlen with
 | [c0,c1,c2],_ =>
   dsimp only at h0 h1 h2
   rw [hI] at h0 h1 h2
   obtain ⟨a,e0,_,wa⟩:=DataW.trod_int Tryz.underlying3 h0
   obtain ⟨b,e1,_,wb⟩:=DataW.trod_int Tryz.underlying3 h1
   obtain ⟨c,e2,_,wc⟩:=DataW.trod_int Tryz.underlying3 h2
   simp at e0 e1 e2
   subst e0 e1 e2
   exact ⟨(a,b,c),rfl,bounds_i64 wa,bounds_i64 wb,bounds_i64 wc⟩
theorem evCs_of {w:World} {b:Nat}:∀ (ps:List Ev) (off:Nat),(∀ i p,ps[i]?=some p→w.cell? ⟨b,off+i*3,none⟩=some (.int .i64 p.1)∧w.cell? ⟨b,off+i*3+1,none⟩=some (.int .i64 p.2.1)∧w.cell? ⟨b,off+i*3+2,none⟩=some (.int .i64 p.2.2)) →
 ∀ j u,(evCs ps)[j]?=some u→w.cell? ⟨b,off+j,none⟩=some u
 | [],_,_,j,u,hu=>by simp [evCs] at hu
 | p::ps,off,h,j,u,hu=>by
   have e:evCs (p::ps)=.int .i64 p.1::.int .i64 p.2.1::.int .i64 p.2.2::evCs ps:=by simp [evCs]
   rw [e] at hu
   match j,hu with
   | 0,hu=>have:=(h 0 p rfl).1;simp at hu;subst hu;simpa using this
   | 1,hu=>have:=(h 0 p rfl).2.1;simp at hu;subst hu;simpa using this
   | 2,hu=>have:=(h 0 p rfl).2.2;simp at hu;subst hu;simpa using this
   | j+3,hu =>
     have:=evCs_of ps (off+3) (fun i q hq=>by
      have:=h (i+1) q (by simpa using hq)
      rw [show off+(i+1)*3=off+3+i*3 by omega] at this
      exact this) j u (by simpa using hu)
     rwa [show off+(j+3)=off+3+j by omega]
def ev_at (W:World) (a:Addr) (i:Nat) (q:Ev):Prop:=W.cell? ((a.add (i*3)).add 0)=some (.int .i64 q.1)∧W.cell? ((a.add (i*3)).add 1)=some (.int .i64 q.2.1)∧W.cell? ((a.add (i*3)).add 2)=some (.int .i64 q.2.2)∧EvJ q
theorem trod_events {fuel:Nat} {cs:List Value} {x:DataW H × List MemPlace} (h:DataW.trod enc Tryz.prog W 0 (fun _=>true) true fuel 27 cs=some x) :
 ∃ (A:Option Addr) (qs:List Ev) (c:Nat),cs=[.slice A qs.length c]∧qs.length≤c∧c≤maxLen∧Sl W W.heap.size A (evCs qs)∧(∀ q∈qs,EvJ q):=by
 rcases Go.Deep.open_slice Tryz.underlying27 h with ⟨rfl,_⟩ | ⟨a,len,cap,m,n,D,Pl,rfl,_,hl,hm,hmm,_,hx⟩
 · exact ⟨none,[],0,rfl,Nat.le_refl _,by unfold maxLen;omega,Sl.nil _ _ _,fun p hp=>by cases hp⟩
 · have hC:Tryz.prog.cellsOf 66=3:=by kernel_rfl
   rw [hC] at hx
   have hcap:m=cap:=by simpa using hmm
   subst hcap
   obtain ⟨V,hV⟩:=pick_lt (α:=Ev) (0,0,0) (m:=len) (p:=fun i q=>ev_at W a i q) (fun i hi=>by
    obtain ⟨cs',hc,ht⟩:=hx i (by omega)
    obtain ⟨q,rfl,hq⟩:=trod_event ht
    obtain ⟨_,_,hat⟩:=World.cells?_some hc
    exact ⟨q,hat 0 (by omega),hat 1 (by omega),hat 2 (by omega),hq⟩)
   refine ⟨some a,(List.range len).map V,m,by simp,by simpa using hl,hm,?_,?_⟩
   · rcases Nat.eq_zero_or_pos len with h0 | h0
     · subst h0;exact .inl rfl
     · have hz:=(hV 0 h0).1
       have ha:a=⟨a.block,a.off,none⟩:=addr_shape (v:=.int .i64 (V 0).1) (by
        have e:(a.add (0*3)).add 0=a.add 0:=by simp [Addr.add]
        rw [← e];exact hz)
       rw [ha] at hV hz ⊢
       simp only [ev_at,add_at] at hV hz
       refine Sl.mk (block_lt hz) (evCs_of _ _ fun i p hp=>?_)
       rw [List.getElem?_map] at hp
       by_cases hi:i<len
       · rw [List.getElem?_range hi] at hp
         simp only [Option.map_some,Option.some.injEq] at hp
         subst hp
         have:=hV i hi
         exact ⟨by simpa using this.1,by simpa using this.2.1,by simpa using this.2.2.1⟩
       · rw [List.getElem?_eq_none (by simp;omega)] at hp;simp at hp
   · intro p hp
     obtain ⟨i,hi,rfl⟩:=List.mem_map.1 hp
     exact (hV i (List.mem_range.1 hi)).2.2.2
theorem open_events {base:Nat} {v:Value} {d:DataW H} {ps:List MemPlace} (hv:Value.okWide Tryz.prog W .any base 27 v) (h:DataW.Trod enc Tryz.prog W 0 (fun _=>true) true 27 v d ps) :
 ∃ (A:Option Addr) (el:List Ev) (c:Nat),v=.slice A el.length c∧el.length≤c∧c≤maxLen∧Sl W W.heap.size A (evCs el)∧(∀ e∈el,EvJ e):=by
 obtain ⟨a0,len,cap,rfl⟩:=okWide_slice Tryz.underlying27 hv
 obtain ⟨fuel,hf⟩:=h
 obtain ⟨A,el,c,e,h1,h2,h3,h4⟩:=trod_events hf
 have e':a0=A∧len=el.length∧cap=c:=by simpa [Value.cells] using e
 obtain ⟨rfl,rfl,rfl⟩:=e'
 exact ⟨a0,el,cap,rfl,h1,h2,h3,h4⟩
end
end
end Go.Proofs.YtfljlmleiggmjaaGreatDoor
