/- RefEvents RefEvents16 RefEvents19 EvAppend -/
import Derived.Test.YtpnoofphfomjoaaGreatDoorPkE00
import Derived.Test.YtpnoofphfomjoaaGreatDoorPkE24
import Derived.Test.YtpnoofphfomjoaaGreatDoorPkE28
import Derived.Test.YtpnoofphfomjoaaGreatDoorPkE43
namespace Go.Proofs.YtpnoofphfomjoaaGreatDoor
open Go.RowKit
end Go.Proofs.YtpnoofphfomjoaaGreatDoor
namespace Go.Proofs.YtpnoofphfomjoaaGreatDoor
open Go.RowKit
theorem add_zero_off (g j : Nat) : (⟨g, 0, none⟩ : Addr).add j = ⟨g, j, none⟩ := by unfold Addr.add; split <;> simp_all
end Go.Proofs.YtpnoofphfomjoaaGreatDoor
namespace Go.Proofs.YtpnoofphfomjoaaGreatDoor
open Go.RowKit Go.Shelf
end Go.Proofs.YtpnoofphfomjoaaGreatDoor
namespace Go.Proofs.YtpnoofphfomjoaaGreatDoor
open Go.RowKit Go.Shelf
theorem wpList_append_run {P : Program} {ops : Array Oper} {rest : List Oper} {o : Oper} {a : Act} {Q : Exit → Act → World → Prop} {w : World} (s x : Operand) (t : TypeId)
    (hop : o.op = Op.call { callee := Callee.builtin Builtin.append, args := #[s, x], argTypes := #[t, t] }) (hw : Region.wanted o (yielded ops a.tmps) = true) (v xv : Value) (hs : a.eval s = v) (hx : a.eval x = xv) {v' : Value} {w' : World}
    (hrun : (Builtin.append_ #[t, t] o.type #[v, xv]).run P w = .ok v' w') (h : wpList P ops Q rest (a.put o.dst v') w') : wpList P ops Q (o :: rest) a w := by
  unfold wpList
  rw [if_pos hw]
  left
  unfold Oper.wp
  simp [execOp, hop, resolve, invoke, builtin, hs, hx, hrun, Result.andThen]
  exact h
end Go.Proofs.YtpnoofphfomjoaaGreatDoor
