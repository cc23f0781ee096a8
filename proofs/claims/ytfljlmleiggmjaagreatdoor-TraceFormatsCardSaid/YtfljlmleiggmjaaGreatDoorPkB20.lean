/- Txt -/
import Derived.Test.YtfljlmleiggmjaaGreatDoorPkB14
import Derived.Test.YtfljlmleiggmjaaGreatDoorPkB17
import Derived.Test.YtfljlmleiggmjaaGreatDoorPkB19
set_option maxRecDepth 1000000
set_option maxHeartbeats 8000000
namespace Go.Proofs.YtfljlmleiggmjaaGreatDoor
section
open Go.RowKit
theorem dgB_ne (m:Nat):dgB m≠[]:=by
 unfold dgB
 simp [dr_ne]
def pd (m u:Nat):List Nat:=(List.range m).map fun i=>u / 65536 ^ i % 65536
theorem pd_len (m u:Nat):(pd m u).length=m:=by simp [pd]
theorem pd_succ (m u:Nat):pd (m+1) u=pd m u++[u / 65536 ^ m % 65536]:=by simp [pd,List.range_succ]
theorem pd_ok (m u:Nat):dOk (pd m u):=fun d hd=>by
 obtain ⟨i,_,rfl⟩:=List.mem_map.1 hd
 exact Nat.mod_lt _ (by decide)
theorem dval_pd (m u:Nat):dval (pd m u)=u % 65536 ^ m:=by
 induction m with
 | zero=>simp [pd,dval,Nat.mod_one]
 | succ m ih=>rw [pd_succ,dval_snoc,pd_len,ih,Nat.pow_succ,Nat.mod_mul]
end
end Go.Proofs.YtfljlmleiggmjaaGreatDoor
