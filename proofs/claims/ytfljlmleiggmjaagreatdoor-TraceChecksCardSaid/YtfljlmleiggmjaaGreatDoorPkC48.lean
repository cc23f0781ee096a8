/- OpenBase -/
import Derived.Deep.DeepHandedRow
import Derived.Deep.Slices
import Derived.Deep.Strs
import Derived.Lib.LaidTab
import Derived.Lib.SmallJoins
import Derived.OpenShut
import Derived.ProofKit
import Derived.Test.YtfljlmleiggmjaaGreatDoorPkC00
set_option maxRecDepth 1000000
set_option maxHeartbeats 8000000
namespace Go.Proofs.YtfljlmleiggmjaaGreatDoor
section
open Go.ChangeShapes Go.WideShapes Go.ChangeAt Go.RowKit
theorem frOwn:ownKnob Tryz.prog.godebug=none:=by kernel_rfl
theorem frLaidOut:laidOutB Tryz.prog=true:=by kernel_rfl
theorem trodAll_below {H:Type} {enc:TypeId × Value→H} {W W':World} (hb:Below W.heap.size W W') :
 ∀ (ts:List TypeId) (vs:List Value) (ds:List (DataW H)) (ps:List MemPlace),(∀ t∈ts,Tryz.prog.readableRec t=true∧t<Tryz.prog.types.size)→(∀ x∈ps,x.block<W.heap.size) →
   DataW.TrodAll enc Tryz.prog W 0 (fun _=>true) true ts vs ds ps→DataW.TrodAll enc Tryz.prog W' 0 (fun b=>decide (b<W.heap.size)) true ts vs ds ps
 | [],vs,ds,ps,_,_,h=>by
   obtain ⟨rfl,rfl,rfl⟩:=trodAll_nil h
   exact trodAll_mk0
 | t::ts,vs,ds,ps,ht,hlt,h=>by
   obtain ⟨v,vs',d,ds',p,q,rfl,rfl,rfl,h0,hr⟩:=trodAll_cons h
   exact trodAll_cons_mk (Below.trod frLaidOut (ht t (by simp)).1 (ht t (by simp)).2 h0 hb (fun x hx=>hlt x (by simp [hx])))
    (trodAll_below hb ts vs' ds' q (fun u hu=>ht u (by simp [hu])) (fun x hx=>hlt x (by simp [hx])) hr)
theorem law_post {H:Type} {enc:TypeId × Value→H} {f:Func} {s:ChangeSpec} {W W':World} {args:Array Value} {ds gs:List (DataW H)} {before:List MemPlace}
 (hvars:s.vars=[]) (hres:f.resultTypes=#[4]) (hread:∀ t∈f.params.toList,Tryz.prog.readableRec t=true∧t<Tryz.prog.types.size)
 (hspec:s.fn H (ds++gs)={ results:=[.lit (.bool true)],args:=ds,vars:=[] })
 (hW:DataW.Whole enc Tryz.prog f.params.toList s.vars false W args.toList ds gs before) (hb:Below W.heap.size W W') :
 s.post enc Tryz.prog f false true false false W args (.bool true) W':=by
 have hlt:∀ p∈before,p.block<W.heap.size:=fun p hp=>hW.lt p hp
 have hW':=hW
 obtain ⟨p,q,hA,hV,rfl,hfz,hnd⟩:=hW
 refine ⟨ds,gs,p++q,[],p,[],hW',?_,?_,?_,hb.frame _,fun h=>by cases h⟩
 · rw [hspec,hres]
   exact trodAll_mk1 (shut_bool Tryz.underlying4 true)
 · rw [hspec]
   exact trodAll_below hb _ _ _ _ hread (fun x hx=>hlt x (by simp [hx])) hA
 · rw [hspec,hvars]
   rfl
theorem block_lt {w:World} {b o:Nat} {v:Value} (h:w.cell? ⟨b,o,none⟩=some v):b<w.heap.size:=by
 rcases Nat.lt_or_ge b w.heap.size with h1 | h1
 · exact h1
 · simp [World.cell?,Array.getElem?_eq_none h1] at h
section
variable {H:Type} {enc:TypeId × Value→H} {W:World} {base:Nat}
theorem open_bytes {v:Value} {d:DataW H} {ps:List MemPlace} (hv:Value.okWide Tryz.prog W .any base 36 v) (h:DataW.Trod enc Tryz.prog W 0 (fun _=>true) true 36 v d ps) :
 ∃ (A:Option Addr) (bs:List Int) (c:Nat),v=.slice A bs.length c∧bs.length≤c∧c≤maxLen∧Sl W W.heap.size A (bs.map (Value.int .u8))∧(∀ (j:Nat) (x:Int),bs[j]?=some x→0≤x∧x≤255):=by
 obtain ⟨a0,len,cap,rfl⟩:=okWide_slice Tryz.underlying36 hv
 obtain ⟨fuel,hf⟩:=h
 rcases open_ints Tryz.underlying36 Tryz.underlying5 (by kernel_rfl) hf with ⟨hcs,_⟩ | ⟨a,len',cap',zs,hcs,_,hl,hm,hz,_,hcell,hwz⟩
 · have e:a0=none∧len=0∧cap=0:=by simpa [Value.cells] using hcs
   obtain ⟨rfl,rfl,rfl⟩:=e
   exact ⟨none,[],0,rfl,Nat.le_refl _,by unfold maxLen;omega,Sl.nil _ _ _,fun j x hx=>by simp at hx⟩
 · have e:a0=some a∧len=len'∧cap=cap':=by simpa [Value.cells] using hcs
   obtain ⟨rfl,rfl,rfl⟩:=e
   simp only [if_true] at hz
   have hlen:(zs.take len).length=len:=by rw [List.length_take,hz];omega
   refine ⟨some a,zs.take len,cap,by rw [hlen],by rw [hlen];exact hl,hm,?_,?_⟩
   · rcases Nat.eq_zero_or_pos len with h0 | h0
     · subst h0;exact .inl (by simp)
     · obtain ⟨b,off,rfl,hc⟩:=ints_at hcell (by omega)
       refine Sl.mk (block_lt (hc 0 (by omega))) fun j u hu=>?_
       simp only [List.getElem?_map,List.getElem?_take] at hu
       split at hu
       · rename_i hj
         rw [hc j (by omega),List.getD_eq_getElem?_getD]
         have hjl:j<zs.length:=by omega
         rw [List.getElem?_eq_getElem hjl] at hu ⊢
         simpa using hu
       · simp at hu
   · intro j x hx
     have hmem:x∈zs:=List.mem_of_mem_take (List.mem_of_getElem? hx)
     have:=bounds_u8 (hwz x hmem)
     omega
end
end
end Go.Proofs.YtfljlmleiggmjaaGreatDoor
