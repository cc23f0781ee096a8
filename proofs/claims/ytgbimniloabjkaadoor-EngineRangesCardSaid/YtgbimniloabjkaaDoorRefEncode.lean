/- The reference's Encode: the same bytes or error. -/
import Derived.Test.YtgbimniloabjkaaDoorEncode
import Derived.Test.YtgbimniloabjkaaDoorRefWord
import Derived.Test.YtgbimniloabjkaaDoorRefFormatAny
namespace Go.Proofs.YtgbimniloabjkaaDoor
open Go.RowKit

theorem rw_new {w : World} {base : Nat} {bs : List Int} {v : Value} (h : w.ownsRow base 5 1 v bs.length (byCells bs)) : RW w (LtP base) v bs :=
  ⟨own_mono h (Nat.zero_le _), fun k hk hp => by have := own_base h hk; unfold LtP at hp; omega⟩
theorem rw_own {w : World} {base base' : Nat} {bs : List Int} {v : Value} (h : RW w (LtP base) v bs) (hb : base' ≤ base) : w.ownsRow base' 5 1 v bs.length (byCells bs) :=
  own_raise h.1 fun k hk => by have := h.2 k hk; unfold LtP at this; omega
theorem KeepP.on {P : Nat → Prop} {w w' : World} {b o : Nat} {v : Value} (h : KeepP P w w') (hb : P b) (hc : w.cell? ⟨b, o, none⟩ = some v) : w'.cell? ⟨b, o, none⟩ = some v := (h.cell hb o).trans hc

/-- what the region of the queries holds -/
theorem keepQ {R : Nat → Prop} {w0 wk w' : World} {b c o1 o2 o3 : Nat} {u v1 v2 v3 : Value} (hb : R b) (hc : R c) (hk : KeepP R wk w')
    (h : KeepP R w0 wk ∧ wk.cell? ⟨b, 6, none⟩ = some u ∧ wk.cell? ⟨c, o1, none⟩ = some v1 ∧ wk.cell? ⟨c, o2, none⟩ = some v2 ∧ wk.cell? ⟨c, o3, none⟩ = some v3) :
    KeepP R w0 w' ∧ w'.cell? ⟨b, 6, none⟩ = some u ∧ w'.cell? ⟨c, o1, none⟩ = some v1 ∧ w'.cell? ⟨c, o2, none⟩ = some v2 ∧ w'.cell? ⟨c, o3, none⟩ = some v3 :=
  ⟨h.1.trans hk, hk.on hb h.2.1, hk.on hc h.2.2.1, hk.on hc h.2.2.2.1, hk.on hc h.2.2.2.2⟩

end Go.Proofs.YtgbimniloabjkaaDoor
