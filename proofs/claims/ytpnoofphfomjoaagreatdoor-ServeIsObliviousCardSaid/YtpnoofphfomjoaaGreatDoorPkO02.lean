/- Events -/
import Derived.BigQuiet
import Derived.Deep.QuietTactic
import Derived.Lib.SliceRun
import Derived.Test.YtpnoofphfomjoaaGreatDoorPkM27
import Derived.Test.YtpnoofphfomjoaaGreatDoorPkO01
set_option maxRecDepth 1000000
set_option maxHeartbeats 8000000
namespace Go.Proofs.YtpnoofphfomjoaaGreatDoor
section
open Go.RowKit Go.Maps
theorem Sl.ev {w:World} {B:Nat} {A:Option Addr} {es:List Ev} (h:Sl w B A (evCs es)) {k:Nat} {e:Ev} (hk:es[k]?=some e) :
 ∃ b off,A=some ⟨b,off,none⟩∧b<B∧w.cell? ⟨b,off+k*3,none⟩=some (.int .i64 e.1)∧w.cell? ⟨b,off+k*3+1,none⟩=some (.int .i64 e.2.1)∧w.cell? ⟨b,off+k*3+2,none⟩=some (.int .i64 e.2.2):=by
 have hl:=flat_length (fun e:Ev=>[Value.int .i64 e.1,.int .i64 e.2.1,.int .i64 e.2.2]) 3 (fun _=>rfl) es
 have hlt:k<es.length:=(List.getElem?_eq_some_iff.1 hk).1
 obtain ⟨b,off,rfl,hB,hc⟩:=h.open_ (by unfold evCs;rw [hl];omega)
 have h0:=flat_get (fun e:Ev=>[Value.int .i64 e.1,.int .i64 e.2.1,.int .i64 e.2.2]) 3 (fun _=>rfl) es k e hk
 refine ⟨b,off,rfl,hB,?_,?_,?_⟩
 · have:=hc (k*3+0) (.int .i64 e.1) (by unfold evCs;rw [h0 0 (by omega)];rfl)
   simpa using this
 · have:=hc (k*3+1) (.int .i64 e.2.1) (by unfold evCs;rw [h0 1 (by omega)];rfl)
   rwa [show off+(k*3+1)=off+k*3+1 by omega] at this
 · have:=hc (k*3+2) (.int .i64 e.2.2) (by unfold evCs;rw [h0 2 (by omega)];rfl)
   rwa [show off+(k*3+2)=off+k*3+2 by omega] at this
def newT (w:World):Option (Nat × Nat):=some (w.heap.size+1,w.heap.size)
def TpSl (w:World) (es:List Ev) (v:Value):Prop:=∃ A,v=.slice A es.length es.length∧Sl w w.heap.size A (evCs es)
theorem all_any (P:Nat→Prop) (g m:Nat) (es:List Ev) (w:World) (ht:TpIn w P g m es) :
 Calls Tryz.prog 71 #[.pointer (some ⟨g,0,none⟩)] w fun e w'=>(∃ v,e=.returned v∧TpSl w' es v)∧∃ k,w'=w.drewN k:=by
 obtain ⟨v,n,D,h1,h2,h3,h4,h5,h6,h7,h8⟩:=ht
 obtain ⟨A,cap,rfl,hcap⟩:=own_slice h4
 have c0:w.cell? ⟨g,0,none⟩=some (.slice A es.length cap):=h1.cell (i:=0) rfl
 have hsl:=Sl.of_own h4
 have HSL:=hide hsl
 clear h1 h2 h3 h4 h5 h6 h7 h8 hsl
 go_enter Tryz.func71,Tryz.ntmps71
 go_wp2
 go_quiet (fail)
 go_wp2
 refine bodyPost_ret (results_tmp rfl _ _ _) rfl ?_
 exact ⟨⟨_,rfl,A,rfl,HSL.out⟩,_,rfl⟩
end
end Go.Proofs.YtpnoofphfomjoaaGreatDoor
