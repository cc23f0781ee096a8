/- Plain words on headers and bytes: what the header's functions return, as functions of data; a scope that is left by a jump forward. -/
import Derived.Test.YtgbimniloabjkaaGreatDoorCheck
import Derived.WalkMore
import Derived.ScopeJumps
import Derived.RegionTactic
namespace Go.Proofs.YtgbimniloabjkaaGreatDoor
open Go.RowKit

/-- the length of the response to a header, or 0 -/
def hresp (op vs : Int) (rs : List Rg) (pts : Int) : Int := if hcheck op vs rs pts = 0 then (if op = 5 then 4 + pts * 9 else 2) else 0

def sumSize (rs : List Rg) : Int := (rs.map fun r => sizeOfReg r.v).sum
theorem sizeOfReg_bd (v : Int) : 0 ≤ sizeOfReg v ∧ sizeOfReg v ≤ 64 := by
  unfold sizeOfReg
  split
  · omega
  · split <;> omega
theorem sumSize_bd (rs : List Rg) : 0 ≤ sumSize rs ∧ sumSize rs ≤ 64 * rs.length := by
  induction rs with
  | nil => simp [sumSize]
  | cons r rs ih =>
    have := sizeOfReg_bd r.v
    simp only [sumSize, List.map_cons, List.sum_cons, List.length_cons] at *
    omega
theorem sumSize_snoc (rs : List Rg) (k : Nat) (r : Rg) (h : rs[k]? = some r) : sumSize (rs.take (k + 1)) = sumSize (rs.take k) + sizeOfReg r.v := by
  rw [List.take_add_one, h]; simp [sumSize]
def fixedOf (op : Int) : Int := if op = 1 then 3 else if op = 2 then 4 else if op = 5 then 0 else 1
/-- the length of the payload of a request with a header, or 0 -/
def hpay (op vs : Int) (rs : List Rg) (pts : Int) : Int := if hcheck op vs rs pts = 0 then (fixedOf op + vs + sumSize rs) * 16 + pts * 24 else 0

/- A scope with a label that is jumped to (forward): at the goto, walk on from the label. -/
def AtLabel (P : Program) (rest : Code) (Q : Exit → Act → World → Prop) (a : Act) (w : World) : Prop := rest.wp P (Exit.noGoto Q) a w
theorem wp_scope_fwd {P : Program} {c rest : Code} {Q : Exit → Act → World → Prop} {a : Act} {w : World} (l : Nat) (hf : findLabel c l = some rest)
    (first : c.wp P (Exit.jump l (AtLabel P rest Q) Q) a w) : (Code.scope c).wp P Q a w :=
  wp_scope_jumps l (AtLabel P rest Q) (fun _ _ => 0) hf first (fun _ _ hJ => wp_mono hJ (fun e _ _ q => by cases e <;> first | exact q | exact q.elim))
theorem jump_goto {l : Nat} {J : Act → World → Prop} {Q : Exit → Act → World → Prop} {a : Act} {w : World} (h : J a w) : Exit.jump l J Q (.goto l) a w := ⟨rfl, h⟩
theorem jump_ret {l : Nat} {J : Act → World → Prop} {Q : Exit → Act → World → Prop} {a : Act} {w : World} : Exit.jump l J Q .ret a w = Q .ret a w := rfl
theorem jump_normal {l : Nat} {J : Act → World → Prop} {Q : Exit → Act → World → Prop} {a : Act} {w : World} : Exit.jump l J Q .normal a w = Q .normal a w := rfl
theorem jump_exit {l i : Nat} {J : Act → World → Prop} {Q : Exit → Act → World → Prop} {a : Act} {w : World} : Exit.jump l J Q (.exit i) a w = Q (.exit i) a w := rfl
theorem jump_panic {l : Nat} {ch : List PanicEntry} {J : Act → World → Prop} {Q : Exit → Act → World → Prop} {a : Act} {w : World} : Exit.jump l J Q (.panic ch) a w = Q (.panic ch) a w := rfl

attribute [go_sem] jump_ret jump_normal jump_exit jump_panic

def byCells (bs : List Int) : List Value := bs.map (Value.int .u8)
theorem byCells_length (bs : List Int) : (byCells bs).length = bs.length := by simp [byCells]
theorem Sl.by_ {w : World} {B : Nat} {A : Option Addr} {bs : List Int} (h : Sl w B A (byCells bs)) (hn : 0 < bs.length) :
    ∃ b off, A = some ⟨b, off, none⟩ ∧ b < B ∧ ∀ j x, bs[j]? = some x → w.cell? ⟨b, off + j, none⟩ = some (.int .u8 x) := by
  obtain ⟨b, off, hA, hB, hc⟩ := h.open_ (by rw [byCells_length]; exact hn)
  exact ⟨b, off, hA, hB, fun j x hx => hc j _ (by simp [byCells, hx])⟩
/-- a header as data -/
structure PH where
  op : Int
  vs : Int
  rs : List Rg
  pts : Int
def phZero : PH := ⟨0, 0, [], 0⟩
def rgOf (x : Int) : Rg := ⟨decide (128 ≤ x), x % 128, none, 0, 0⟩
/-- what Parse returns: the header, its length, the error -/
def hparse (bs : List Int) : PH × Int × Int :=
  if bs.length < 1 then (phZero, 0, 4)
  else if bs.getD 0 0 = 1 ∨ bs.getD 0 0 = 2 then (⟨bs.getD 0 0, 0, [], 0⟩, 1, 0)
  else if bs.getD 0 0 < 3 ∨ 5 < bs.getD 0 0 then (phZero, 0, 5)
  else if bs.length < 2 then (phZero, 0, 4)
  else if bs.getD 0 0 = 3 then (if bs.getD 1 0 < 3 ∨ 64 < bs.getD 1 0 then (phZero, 0, 6) else (⟨3, bs.getD 1 0, [], 0⟩, 2, 0))
  else if bs.getD 1 0 < 1 ∨ 64 < bs.getD 1 0 then (phZero, 0, 6)
  else if (bs.length : Int) < 2 + bs.getD 1 0 then (phZero, 0, 4)
  else if (((bs.drop 2).take (bs.getD 1 0).toNat).map rgOf).any wrongRg = true then (phZero, 0, 7)
  else if bs.getD 0 0 = 4 then (⟨4, 0, ((bs.drop 2).take (bs.getD 1 0).toNat).map rgOf, 0⟩, 2 + bs.getD 1 0, 0)
  else if (bs.length : Int) < 4 + bs.getD 1 0 then (phZero, 0, 4)
  else if bs.getD (2 + (bs.getD 1 0).toNat) 0 + 256 * bs.getD (3 + (bs.getD 1 0).toNat) 0 < 1 ∨ 4096 < bs.getD (2 + (bs.getD 1 0).toNat) 0 + 256 * bs.getD (3 + (bs.getD 1 0).toNat) 0 then (phZero, 0, 6)
  else (⟨5, 0, ((bs.drop 2).take (bs.getD 1 0).toNat).map rgOf, bs.getD (2 + (bs.getD 1 0).toNat) 0 + 256 * bs.getD (3 + (bs.getD 1 0).toNat) 0⟩, 4 + bs.getD 1 0, 0)

/-- the error of a request -/
def hclass (bs : List Int) : Int :=
  if (hparse bs).2.2 = 0 then (if (bs.length : Int) = (hparse bs).2.1 + hpay (hparse bs).1.op (hparse bs).1.vs (hparse bs).1.rs (hparse bs).1.pts then 0 else 8) else (hparse bs).2.2

theorem ite_ok {α : Type} {P : α → Prop} {c : Prop} [Decidable c] {a b : α} (ha : c → P a) (hb : ¬ c → P b) : P (if c then a else b) := by
  by_cases h : c
  · rw [if_pos h]; exact ha h
  · rw [if_neg h]; exact hb h
def LenOk (bs : List Int) (r : PH × Int × Int) : Prop := r.1.rs.length ≤ bs.length ∧ 0 ≤ r.2.1 ∧ r.2.1 ≤ 68
theorem hparse_lenOk (bs : List Int) : LenOk bs (hparse bs) := by
  unfold hparse
  repeat' (refine ite_ok (fun _ => ?_) (fun _ => ?_))
  all_goals refine ⟨?_, ?_, ?_⟩
  all_goals simp only [phZero, List.length_map, List.length_take, List.length_drop, List.length_nil]
  all_goals omega
theorem hparse_len (bs : List Int) : (hparse bs).1.rs.length ≤ bs.length := (hparse_lenOk bs).1
theorem hparse_n (bs : List Int) : 0 ≤ (hparse bs).2.1 ∧ (hparse bs).2.1 ≤ 68 := (hparse_lenOk bs).2
theorem hpay_bd (op vs : Int) (rs : List Rg) (pts : Int) : 0 ≤ hpay op vs rs pts ∧ hpay op vs rs pts ≤ 200000 := by
  unfold hpay
  split
  · rename_i h
    obtain ⟨a, b, c, d, e, f, g, i, _⟩ := hcheck_zero h
    have hs := sumSize_bd rs
    have hf : 0 ≤ fixedOf op ∧ fixedOf op ≤ 4 := by unfold fixedOf; split <;> (try split) <;> (try split) <;> omega
    have hl : rs.length ≤ 64 := by
      by_cases h4 : 4 ≤ op
      · exact (e h4).2.1
      · rw [f (by omega)]; simp
    have hv : 0 ≤ vs ∧ vs ≤ 64 := by omega
    have hp : 0 ≤ pts ∧ pts ≤ 4096 := by omega
    omega
  · omega
end Go.Proofs.YtgbimniloabjkaaGreatDoor
