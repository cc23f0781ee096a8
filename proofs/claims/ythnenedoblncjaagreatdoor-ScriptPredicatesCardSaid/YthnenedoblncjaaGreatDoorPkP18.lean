/- ScrDo -/
import Derived.BigQuiet
import Derived.ChangeAlike
import Derived.Deep.QuietTactic
import Derived.Deep.RegionLaw
import Derived.Test.YthnenedoblncjaaGreatDoorPkP15
import Derived.Test.YthnenedoblncjaaGreatDoorPkP17
set_option maxRecDepth 1000000
set_option maxHeartbeats 8000000
namespace Go.Proofs.YthnenedoblncjaaGreatDoor
section
open Go.RowKit Go.Shelf
theorem Step.before {σ':St} {sb:Nat} {Wr Rd:Nat→Prop} {X Y Z:World} (hb:Below X.heap.size X Y) (h:Step σ' sb Wr Rd Y Z):Step σ' sb Wr Rd X Z:=by
 obtain ⟨Wr',Rd',hs,a,b,k⟩:=h
 have hz:=hb.size
 refine ⟨Wr',Rd',hs,fun j hj=>(a j hj).imp id fun h=>by omega,fun j hj=>(b j hj).imp id fun h=>by omega,(KeepP.of_below hb fun j hj=>hj.1).trans (k.mono fun j hj=>⟨by omega,hj.2⟩)⟩
theorem do_ses {σ:St} {sb:Nat} {Wr Rd:Nat→Prop} (L x:List UInt8) (xs:List (List UInt8)) (hL:L.length≤1000000) (hsp:sp 32 L=x::xs) (n:Nat) (hn:cmdOf x=n) (hn0:n≠0) (en:∀ args w,(callFunc n args).run Tryz.prog w=.ok (.enter n args) w)
 (r:List UInt8 × St) (w:World) {B:Nat} (hs:SesAt σ sb Wr Rd w) (he:Env B w)
 (hcall:∀ w1 bb ob c gs vR vQ,Ses σ sb gs vR vQ Wr Rd w1→Env B w1→Sl w1 w1.heap.size (some ⟨bb,ob,none⟩) (strCs xs)→xs.length≤c→Calls Tryz.prog n #[.pointer (some ⟨sb,0,none⟩),.slice (some ⟨bb,ob,none⟩) xs.length c] w1 (Ans23 r sb Wr Rd w1)) :
 Calls Tryz.prog 21 #[.pointer (some ⟨sb,0,none⟩),.string (strOf L)] w (Ans23 r sb Wr Rd w):=by
 refine (do_known L x xs hL hsp n hn ⟨sb,0,none⟩ w hn0 en (fun t w'=>t=strOf r.1∧Step r.2 sb Wr Rd w w') fun w1 bb ob c hb hsl hc=>?_).mono ?_
 · obtain ⟨gs,vR,vQ,h⟩:=hs
   refine (hcall w1 bb ob c gs vR vQ (h.below hb) (he.new hb) hsl hc).mono ?_
   rintro e Y ⟨rfl,hst⟩
   exact ⟨_,rfl,rfl,Step.before hb hst⟩
 · rintro e Y ⟨t,rfl,rfl,hst⟩
   exact ⟨rfl,hst⟩
theorem words_len {L x:List UInt8} {xs:List (List UInt8)} (hL:L.length≤1000000) (h:sp 32 L=x::xs):∀ y∈xs,y.length≤1000000:=fun y hy=>by
 have:=sp_mem_len 32 L y (by rw [h];exact List.mem_cons_of_mem _ hy)
 omega
end
end Go.Proofs.YthnenedoblncjaaGreatDoor
