/- U64 -/
import Derived.Deep.AppendLies
import Derived.Deep.RegionLaw
import Derived.Test.YtpnoofphfomjoaaGreatDoorPkM06
set_option maxRecDepth 1000000
set_option maxHeartbeats 8000000
namespace Go.Proofs.YtpnoofphfomjoaaGreatDoor
section
open Go.RowKit
section
variable {P R:Nat→Prop} {w w' w'':World} {B:Nat}
end
section
variable (P:Nat→Prop) (g:Nat) (bs:List Int) (x:Int) (w:World)
variable (hP:∀ k,P k→k<w.heap.size) (hw:WS w P g bs) (hlen:bs.length≤1000000)
include hP hw hlen
end
end
section
open Go.RowKit
section
variable {w w':World} {P R:Nat→Prop} {g:Nat} {bs:List Int}
end
section
variable (P:Nat→Prop) (g:Nat) (bs:List Int) (w:World)
variable (hP:∀ k,P k→k<w.heap.size) (hw:WS w P g bs) (hlen:bs.length≤900000)
include hP hw hlen
end
end
section
open Go.RowKit
theorem U64.nonneg {x:Int} (h:U64 x):0≤x:=h.1
theorem u64w_u64 (x:Int):U64 (IntKind.u64.wrap x):=by unfold U64;rw [IntKind.wrap_u64];omega
theorem U64.div {x:Int} (h:U64 x) (k:Nat):U64 (x / 256 ^ k):=by
 refine ⟨Int.ediv_nonneg h.1 (Int.pow_nonneg (by omega)),Int.lt_of_le_of_lt (Int.ediv_le_self _ h.1) h.2⟩
theorem U64.quo {z:Int} (h:U64 z):IntKind.u64.wrap (z.tdiv 256)=z / 256:=by
 rw [Int.tdiv_eq_ediv_of_nonneg h.1,IntKind.wrap_u64,Int.emod_eq_of_lt (Int.ediv_nonneg h.1 (by omega)) (Int.lt_of_le_of_lt (Int.ediv_le_self _ h.1) h.2)]
theorem keepPt {R:Nat→Prop} {w0 wk w':World} {b:Nat} {u v:Value} (hR:R b) (hk:KeepP R wk w') (h:KeepP R w0 wk∧wk.cell? ⟨b,0,none⟩=some u∧wk.cell? ⟨b,1,none⟩=some v) :
 KeepP R w0 w'∧w'.cell? ⟨b,0,none⟩=some u∧w'.cell? ⟨b,1,none⟩=some v :=
 ⟨h.1.trans hk,(hk.cell hR _).trans h.2.1,(hk.cell hR _).trans h.2.2⟩
end
end Go.Proofs.YtpnoofphfomjoaaGreatDoor
