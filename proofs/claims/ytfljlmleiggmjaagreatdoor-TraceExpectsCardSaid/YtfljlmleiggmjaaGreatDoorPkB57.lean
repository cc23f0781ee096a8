/- RefOne -/
import Derived.Deep.RegionHeld3
import Derived.Laws.BytesArg
import Derived.Laws.Externs
import Derived.Shelf.Bits.Mul64
import Derived.Shelf.Spec.BitsCarry
import Derived.Test.YtfljlmleiggmjaaGreatDoorPkB16
import Derived.Test.YtfljlmleiggmjaaGreatDoorPkB24
import Derived.Test.YtfljlmleiggmjaaGreatDoorPkB29
set_option maxRecDepth 1000000
set_option maxHeartbeats 8000000
namespace Go.Proofs.YtfljlmleiggmjaaGreatDoor
section
open Go.RowKit Go.Shelf
def HeldE (w0:World) (b:Nat) (v0 v1 v2:Value) (w':World):Prop:=Below w0.heap.size w0 w'∧w'.cell? ⟨b,0,none⟩=some v0∧w'.cell? ⟨b,1,none⟩=some v1∧w'.cell? ⟨b,2,none⟩=some v2
theorem HeldE.keep {w0 wk w':World} {b:Nat} {v1 v2 v3:Value} (h:HeldE w0 b v1 v2 v3 wk) (hb:Below wk.heap.size wk w'):HeldE w0 b v1 v2 v3 w':=by
 have on:∀ {b o:Nat} {v:Value},wk.cell? ⟨b,o,none⟩=some v→w'.cell? ⟨b,o,none⟩=some v:=fun h=>(hb.cell (p:=⟨_,_,none⟩) (cell_lt h)).trans h
 exact ⟨bl_step h.1 hb,on h.2.1,on h.2.2.1,on h.2.2.2⟩
end
end Go.Proofs.YtfljlmleiggmjaaGreatDoor
