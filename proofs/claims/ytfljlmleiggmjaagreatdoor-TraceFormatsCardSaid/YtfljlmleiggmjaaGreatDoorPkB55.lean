/- Conv -/
import Derived.Laws.BytesArg
import Derived.Test.YtfljlmleiggmjaaGreatDoorPkB00
set_option maxRecDepth 1000000
set_option maxHeartbeats 8000000
namespace Go.Proofs.YtfljlmleiggmjaaGreatDoor
section
open Go.RowKit
theorem conv_bytes (w:World) (B:Nat) (A:Option Addr) (bs:List Int) (c:Nat) (hs:Sl w B A (byCells bs)) :
 (convert 36 9 (.slice A bs.length c)).run Tryz.prog w=.ok (.string (strOfNums bs)) w:=by
 rcases hs with hs | ⟨b,off,rfl,_,hc⟩
 · have h0:bs=[]:=by simpa [byCells] using hs
   subst h0
   cases A with
   | none=>exact run_convert_bytes_nil w _ _ Tryz.underlying36 Tryz.underlying5 0 c _ Tryz.underlying9
   | some a =>
     rw [run_convert_bytes_string w _ _ _ _ _ c Tryz.underlying36 Tryz.underlying5 Tryz.underlying9,run_bytesToString w a _ c [] rfl]
     rfl
 · refine run_convert_bytes_arg w _ _ Tryz.underlying36 Tryz.underlying5 b off _ c bs rfl (fun i hi=>?_) _ Tryz.underlying9
   have h:bs[i]?=some bs[i]:=List.getElem?_eq_getElem hi
   refine hc i _ ?_
   simp [byCells,h]
end
end Go.Proofs.YtfljlmleiggmjaaGreatDoor
