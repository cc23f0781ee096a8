/- OpenBase -/
import Derived.Deep.DeepHandedRow
import Derived.Deep.Slices
import Derived.Deep.Strs
import Derived.Lib.LaidTab
import Derived.Lib.SmallJoins
import Derived.OpenShut
import Derived.ProofKit
import Derived.Test.YtpnoofphfomjoaaGreatDoorPkM00
set_option maxRecDepth 1000000
set_option maxHeartbeats 8000000
namespace Go.Proofs.YtpnoofphfomjoaaGreatDoor
section
open Go.ChangeShapes Go.WideShapes Go.ChangeAt Go.RowKit
section
variable {H:Type} {enc:TypeId × Value→H} {W:World} {base:Nat}
theorem open_bytes {v:Value} {d:DataW H} {ps:List MemPlace} (hv:Value.okWide Tryz.prog W .any base 44 v) (h:DataW.Trod enc Tryz.prog W 0 (fun _=>true) true 44 v d ps) :
 ∃ (A:Option Addr) (bs:List Int) (c:Nat),v=.slice A bs.length c∧bs.length≤c∧c≤maxLen∧Sl W W.heap.size A (bs.map (Value.int .u8))∧(∀ (j:Nat) (x:Int),bs[j]?=some x→0≤x∧x≤255):=by
 obtain ⟨a0,len,cap,rfl⟩:=okWide_slice Tryz.underlying44 hv
 obtain ⟨fuel,hf⟩:=h
 rcases open_ints Tryz.underlying44 Tryz.underlying5 (by kernel_rfl) hf with ⟨hcs,_⟩ | ⟨a,len',cap',zs,hcs,_,hl,hm,hz,_,hcell,hwz⟩
 · have e:a0=none∧len=0∧cap=0:=by simpa [Value.cells] using hcs
   obtain ⟨rfl,rfl,rfl⟩:=e
   exact ⟨none,[],0,rfl,Nat.le_refl _,by unfold maxLen;omega,Sl.nil _ _ _,fun j x hx=>by simp at hx⟩
 · have e:a0=some a∧len=len'∧cap=cap':=by simpa [Value.cells] using hcs
   obtain ⟨rfl,rfl,rfl⟩:=e
   simp only [if_true] at hz
   have hlen:(zs.take len).length=len:=by rw [List.length_take,hz];omega
   refine ⟨some a,zs.take len,cap,by rw [hlen],by rw [hlen];exact hl,hm,?_,?_⟩
   · rcases Nat.eq_zero_or_pos len with h0 | h0
     · subst h0;exact .inl (by simp)
     · obtain ⟨b,off,rfl,hc⟩:=ints_at hcell (by omega)
       refine Sl.mk (block_lt (hc 0 (by omega))) fun j u hu=>?_
       simp only [List.getElem?_map,List.getElem?_take] at hu
       split at hu
       · rename_i hj
         rw [hc j (by omega),List.getD_eq_getElem?_getD]
         have hjl:j<zs.length:=by omega
         rw [List.getElem?_eq_getElem hjl] at hu ⊢
         simpa using hu
       · simp at hu
   · intro j x hx
     have hmem:x∈zs:=List.mem_of_mem_take (List.mem_of_getElem? hx)
     have:=bounds_u8 (hwz x hmem)
     omega
end
end
end Go.Proofs.YtpnoofphfomjoaaGreatDoor
