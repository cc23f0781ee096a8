/- ScrEnv -/
import Derived.BigQuiet
import Derived.ChangeAlike
import Derived.ChangeMaps
import Derived.Deep.DeepHandedRow
import Derived.Deep.QuietTactic
import Derived.Deep.RegionLaw
import Derived.Deep.Slices
import Derived.Deep.Strs
import Derived.Laws.BytesArg
import Derived.Lib.LaidTab
import Derived.Lib.SmallJoins
import Derived.OpenShut
import Derived.ProofKit
import Derived.Test.YthnenedoblncjaaGreatDoorPkN35
import Derived.Test.YthnenedoblncjaaGreatDoorPkN48
set_option maxRecDepth 1000000
set_option maxHeartbeats 8000000
namespace Go.Proofs.YthnenedoblncjaaGreatDoor
open Go.Proofs.Tryz
section
open Go.ChangeShapes Go.WideShapes Go.ChangeAt Go.RowKit
theorem IK{H:Type}{enc:TypeId × Value->H}{W:World}{base:Nat}{v:Value}{d:DataW H}{ps:List MemPlace}(hv:Value.okWide prog W .any base 9 v)(h:DataW.Trod enc prog W 0 (fun _=>true) true 9 v d ps):
 ∃ s:ByteArray,v=.string s/\s.size<=maxLen:=by
 obtain ⟨s,rfl,rfl,rfl,hs⟩:=Go.ChangeMaps.open_string underlying9 hv h;exact ⟨s,rfl,hs⟩
theorem RL{w w':World}{n:String}{k:IntKind}{t:List Int}(h:Lib.TabIs prog w n k t)(hb:Below w.heap.size w w'):Lib.TabIs prog w' n k t:=by
 unfold Lib.TabIs World.var? at h ⊢;cases hg:prog.globalNamed n with
 | none=>rw [hg] at h;exact h
 | some g =>
   rw [hg] at h;simp only [Option.bind_some] at h ⊢;have hl:g<w.heap.size:=by
    rcases Nat.lt_or_ge g w.heap.size with h1|h1
    · exact h1
    · rw [Array.getElem?_eq_none h1] at h;cases h
   rw [hb.block g hl];exact h
theorem zI{W : World}(h1 : (Fixed W /\ 9 < W.heap.size) /\ MW W)(h2 : Lib.TabIs prog W "internal/strconv.uint64pow10" .u64 Lib.pow10Tab /\ Lib.TabIs prog W "strings.asciiSpace" .u8 Lib.asciiSpaceTab): Env W.heap.size W :=
 ⟨Nat.le_refl _,fun _ hb=>⟨⟨h1.1.1.below hb h1.1.2,Nat.lt_of_lt_of_le h1.1.2 hb.size⟩,h1.2.step hb,RL h2.1 hb,RL h2.2 hb⟩⟩
end
end Go.Proofs.YthnenedoblncjaaGreatDoor