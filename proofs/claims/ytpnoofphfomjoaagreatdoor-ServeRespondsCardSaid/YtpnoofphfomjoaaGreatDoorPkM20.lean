/- Bitonic -/
import Derived.Test.YtpnoofphfomjoaaGreatDoorPkM19
set_option maxRecDepth 1000000
set_option maxHeartbeats 8000000
namespace Go.Proofs.YtpnoofphfomjoaaGreatDoor
section
section
variable {α:Type} (key:α→Nat)
end
section
variable {α:Type} (key:α→Nat)
theorem isort_snoc (l:List α) (x:α):isort key (l++[x])=ins key x (isort key l):=by unfold isort;rw [List.foldl_append];rfl
end
end
end Go.Proofs.YtpnoofphfomjoaaGreatDoor
