/- ScopeB -/
import Derived.WalkMore
import Derived.ScopeJumps
import Derived.RegionTactic
import Derived.Test.YtpnoofphfomjoaaGreatDoorPkE32
namespace Go.Proofs.YtpnoofphfomjoaaGreatDoor
open Go.RowKit
/- A scope with a label that is jumped to (forward): at the goto, walk on from the label. -/
def AtLabel (P : Program) (rest : Code) (Q : Exit → Act → World → Prop) (a : Act) (w : World) : Prop := rest.wp P (Exit.noGoto Q) a w
theorem wp_scope_fwd {P : Program} {c rest : Code} {Q : Exit → Act → World → Prop} {a : Act} {w : World} (l : Nat) (hf : findLabel c l = some rest)
    (first : c.wp P (Exit.jump l (AtLabel P rest Q) Q) a w) : (Code.scope c).wp P Q a w :=
  wp_scope_jumps l (AtLabel P rest Q) (fun _ _ => 0) hf first (fun _ _ hJ => wp_mono hJ (fun e _ _ q => by cases e <;> first | exact q | exact q.elim))
theorem jump_goto {l : Nat} {J : Act → World → Prop} {Q : Exit → Act → World → Prop} {a : Act} {w : World} (h : J a w) : Exit.jump l J Q (.goto l) a w := ⟨rfl, h⟩
theorem jump_ret {l : Nat} {J : Act → World → Prop} {Q : Exit → Act → World → Prop} {a : Act} {w : World} : Exit.jump l J Q .ret a w = Q .ret a w := rfl
theorem jump_normal {l : Nat} {J : Act → World → Prop} {Q : Exit → Act → World → Prop} {a : Act} {w : World} : Exit.jump l J Q .normal a w = Q .normal a w := rfl
theorem jump_exit {l i : Nat} {J : Act → World → Prop} {Q : Exit → Act → World → Prop} {a : Act} {w : World} : Exit.jump l J Q (.exit i) a w = Q (.exit i) a w := rfl
theorem jump_panic {l : Nat} {ch : List PanicEntry} {J : Act → World → Prop} {Q : Exit → Act → World → Prop} {a : Act} {w : World} : Exit.jump l J Q (.panic ch) a w = Q (.panic ch) a w := rfl
attribute [go_sem] jump_ret jump_normal jump_exit jump_panic
def byCells (bs : List Int) : List Value := bs.map (Value.int .u8)
theorem byCells_length (bs : List Int) : (byCells bs).length = bs.length := by simp [byCells]
theorem Sl.by_ {w : World} {B : Nat} {A : Option Addr} {bs : List Int} (h : Sl w B A (byCells bs)) (hn : 0 < bs.length) :
    ∃ b off, A = some ⟨b, off, none⟩ ∧ b < B ∧ ∀ j x, bs[j]? = some x → w.cell? ⟨b, off + j, none⟩ = some (.int .u8 x) := by
  obtain ⟨b, off, hA, hB, hc⟩ := h.open_ (by rw [byCells_length]; exact hn)
  exact ⟨b, off, hA, hB, fun j x hx => hc j _ (by simp [byCells, hx])⟩
end Go.Proofs.YtpnoofphfomjoaaGreatDoor
