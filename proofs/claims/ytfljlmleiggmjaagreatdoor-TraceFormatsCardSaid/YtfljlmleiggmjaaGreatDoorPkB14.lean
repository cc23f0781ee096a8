/- LimbMath DecMath -/
import Derived.RowKit
import Derived.Test.YtfljlmleiggmjaaGreatDoorPkB13
set_option maxRecDepth 1000000
set_option maxHeartbeats 8000000
namespace Go.Proofs.YtfljlmleiggmjaaGreatDoor
section
open Go.RowKit
theorem SubSt.start (x y:List Int):SubSt x y [] 0 0:=⟨rfl,fun _ h=>by simp at h,by omega,by omega,by simp [valL]⟩
theorem AddSt.start (x y:List Int):AddSt x y [] 0 0:=⟨rfl,fun _ h=>by simp at h,by omega,by omega,by simp [valL]⟩
theorem MulIn.start {l0:List Int} {n:Nat} (i:Nat) (xi:Int) (y:List Int) (h:l0.length=n) (hu:L64 l0):MulIn l0 l0 i 0 n xi y 0:=⟨h,hu,by omega,by omega,by simp [valL]⟩
theorem MulOut.start (x y:List Int) (n:Nat):MulOut x y (List.replicate n 0) 0 n:=by
 refine ⟨by simp,fun z hz=>by rw [List.eq_of_mem_replicate hz];decide,0,?_⟩
 have:∀ n,valL (List.replicate n 0)=0:=fun n=>by
  induction n with
  | zero=>rfl
  | succ n ih=>rw [List.replicate_succ,valL,ih];rfl
 simp [this,valL]
end
section
theorem dr_ne (n:Nat):dr n≠[]:=by
 rw [dr];split <;> simp
end
end Go.Proofs.YtfljlmleiggmjaaGreatDoor
