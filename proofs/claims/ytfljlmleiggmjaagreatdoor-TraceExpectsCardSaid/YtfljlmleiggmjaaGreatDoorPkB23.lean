/- Events -/
import Derived.BigQuiet
import Derived.Deep.QuietTactic
import Derived.Lib.SliceRun
import Derived.Test.YtfljlmleiggmjaaGreatDoorPkB01
import Derived.Test.YtfljlmleiggmjaaGreatDoorPkB22
set_option maxRecDepth 1000000
set_option maxHeartbeats 8000000
namespace Go.Proofs.YtfljlmleiggmjaaGreatDoor
section
open Go.RowKit Go.Maps
theorem first_same (es:List Ev) (A A':Option Addr) (c c':Nat) (w:World) (hs:Sl w w.heap.size A (evCs es)) (hs':Sl w w.heap.size A' (evCs es)) (hn:es.length≤maxLen) :
 Calls Tryz.prog 38 #[.slice A es.length c,.slice A' es.length c'] w fun e w'=>e=.returned (.int .i64 (-1))∧Below w.heap.size w w':=by
 unfold maxLen at hn
 have HS:=hide hs;have HS':=hide hs'
 clear hs hs'
 go_enter Tryz.func38,Tryz.ntmps38
 go_wp2
 go_loopw [5] (fun i wr=>∃ k:Nat,k≤es.length∧i=.int .i64 k∧Below w.heap.size w wr)
  (fun i _=>es.length - (intOf i).toNat)
 case atStart=>exact ⟨0,by omega,rfl,Below.refl _ _⟩
 case round =>
  obtain ⟨k,hk,rfl,hbr⟩:=hrel
  by_cases hlt:k<es.length
  · obtain ⟨r,hr⟩:∃ r,es[k]?=some r:=⟨_,List.getElem?_eq_getElem hlt⟩
    obtain ⟨b,off,rfl,hb,q0,q1,q2⟩:=(HS.out.below hbr).ev hr
    obtain ⟨b',off',rfl,hb',p0,p1,p2⟩:=(HS'.out.below hbr).ev hr
    have e1:(r.1 != r.1)=false:=by simp
    have e2:(r.2.1 != r.2.1)=false:=by simp
    have e3:(r.2.2 != r.2.2)=false:=by simp
    have hk0:(0:Int)≤(k:Int):=by omega
    have hkl:(k:Int)<(es.length:Int):=by omega
    clear hr
    go_wp2
    go_quiet (fail)
    go_wp2
    go_roundw
    case rel=>exact ⟨k+1,by omega,by go_num,below_drewN hbr _⟩
    case measure=>simp [intOf];omega
  · have hk':k=es.length:=by omega
    subst hk'
    go_wp2
    go_ret
    exact ⟨rfl,hbr⟩
theorem same_events (es:List Ev) (A A':Option Addr) (c c':Nat) (w:World) (hs:Sl w w.heap.size A (evCs es)) (hs':Sl w w.heap.size A' (evCs es)) (hn:es.length≤maxLen) :
 Calls Tryz.prog 15 #[.slice A es.length c,.slice A' es.length c'] w fun e w'=>e=.returned (.bool true)∧Below w.heap.size w w':=by
 have H:=hide (first_same es A A' c c' w hs hs' hn)
 clear hs hs' hn
 go_enter Tryz.func15,Tryz.ntmps15
 go_wp2_with fail
 refine H.out.mono ?_
 rintro e w1 ⟨rfl,hb⟩
 go_wp2
 go_ret
 exact ⟨rfl,hb⟩
theorem evCs_length (es:List Ev):(evCs es).length=es.length*3:=flat_length (fun e:Ev=>[Value.int .i64 e.1,.int .i64 e.2.1,.int .i64 e.2.2]) 3 (fun _=>rfl) es
def Evs (es:List Ev) (w:World) (e:Ending) (w':World):Prop:=∃ A c,e=.returned (.slice A es.length c)∧Sl w' w'.heap.size A (evCs es)∧Below w.heap.size w w'
end
end Go.Proofs.YtfljlmleiggmjaaGreatDoor
