/- Same13 -/
import Derived.BigQuiet
import Derived.Deep.QuietTactic
import Derived.Test.YtpnoofphfomjoaaGreatDoorPkM07
set_option maxRecDepth 1000000
set_option maxHeartbeats 8000000
namespace Go.Proofs.YtpnoofphfomjoaaGreatDoor
section
open Go.RowKit
theorem same13_true (rs:List (Int × Int)) (A A':Option Addr) (c c':Nat) (w:World) (hs:Sl w w.heap.size A (recCs rs)) (hs':Sl w w.heap.size A' (recCs rs)) (hn:rs.length≤maxLen) :
 Calls Tryz.prog 16 #[.slice A rs.length c,.slice A' rs.length c'] w fun e w'=>e=.returned (.bool true)∧Below w.heap.size w w':=by
 unfold maxLen at hn
 have HS:=hide hs;have HS':=hide hs'
 clear hs hs'
 go_enter Tryz.func16,Tryz.ntmps16
 go_wp2
 go_loopw [5] (fun i wr=>∃ k:Nat,k≤rs.length∧i=.int .i64 k∧Below w.heap.size w wr)
  (fun i _=>rs.length - (intOf i).toNat)
 case atStart=>exact ⟨0,by omega,rfl,Below.refl _ _⟩
 case round =>
  obtain ⟨k,hk,rfl,hbr⟩:=hrel
  by_cases hlt:k<rs.length
  · obtain ⟨r,hr⟩:∃ r,rs[k]?=some r:=⟨_,List.getElem?_eq_getElem hlt⟩
    obtain ⟨b,off,rfl,hb,q0,q1⟩:=(HS.out.below hbr).rec_ hr
    obtain ⟨b',off',rfl,hb',p0,p1⟩:=(HS'.out.below hbr).rec_ hr
    have e1:(r.1 != r.1)=false:=by simp
    have e2:(r.2 != r.2)=false:=by simp
    have hk0:(0:Int)≤(k:Int):=by omega
    have hkl:(k:Int)<(rs.length:Int):=by omega
    clear hr
    go_wp2
    go_quiet (fail)
    go_wp2
    go_roundw
    case rel=>exact ⟨k+1,by omega,by go_num,below_drewN hbr _⟩
    case measure=>simp [intOf];omega
  · have hk':k=rs.length:=by omega
    subst hk'
    go_wp2
    go_ret
    exact ⟨rfl,hbr⟩
end
end Go.Proofs.YtpnoofphfomjoaaGreatDoor
