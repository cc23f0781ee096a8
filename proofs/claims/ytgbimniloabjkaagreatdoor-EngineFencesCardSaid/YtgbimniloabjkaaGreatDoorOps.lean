/- engine.operations: the map of the operations. -/
import Derived.Test.YtgbimniloabjkaaGreatDoorEngine
import Derived.Maps.OwnSet
namespace Go.Proofs.YtgbimniloabjkaaGreatDoor
open Go.RowKit Go.Shelf Go.Maps

/-- how an operation reads: the number of its function -/
def opR (v : Value) : Option (DataW Unit × List MemPlace) :=
  match v with
  | .agg cs => match cs.toList with
    | [.func (.func n) f c] => if f.size = 0 ∧ c.size = 0 then some (.lit (.int .i64 n), []) else some (.lit (.int .i64 0), [])
    | _ => some (.lit (.int .i64 0), [])
  | _ => some (.lit (.int .i64 0), [])
theorem lit_ne {n : Nat} {ps : List MemPlace} (hn : n ≠ 0) : ¬ (some ((DataW.lit (.int .i64 0) : DataW Unit), ([] : List MemPlace)) = some (.lit (.int .i64 (n : Int)), ps)) := fun h => by
  injection h with h
  injection h with h _
  injection h with h
  injection h with _ h
  omega
theorem opR_inv {v : Value} {n : Nat} {ps : List MemPlace} (hn : n ≠ 0) (h : opR v = some (.lit (.int .i64 n), ps)) : v = .agg #[.func (.func n) #[] #[]] := by
  unfold opR at h
  split at h
  · rename_i cs
    split at h
    · rename_i m f c he
      split at h
      · rename_i hz
        simp at h
        obtain ⟨h, _⟩ := h
        obtain rfl : m = n := by first | exact h | exact Int.ofNat.inj h
        have : cs = #[.func (.func m) f c] := by rw [← Array.toArray_toList (xs := cs), he]
        rw [this, Array.eq_empty_of_size_eq_zero hz.1, Array.eq_empty_of_size_eq_zero hz.2]
      · exact absurd h (lit_ne hn)
    · exact absurd h (lit_ne hn)
  · exact absurd h (lit_ne hn)
/-- the map of the operations -/
def opsD : DataW Unit := (((DataW.map []).put (.int .i64 1) (.lit (.int .i64 48))).put (.int .i64 2) (.lit (.int .i64 50))).put (.int .i64 3) (.lit (.int .i64 52)) |>.put (.int .i64 4) (.lit (.int .i64 53))
theorem key_wf (n : Int) (h0 : 0 ≤ n) (h1 : n ≤ 100) : keyOf Tryz.prog 3 (.int .i64 n) = some (.int .i64 n) := keyOf_int_mk Tryz.underlying3 (WalkArith.wf_i64 (by omega))
def Ops (w : World) (b : Nat) : Prop := w.ownsMap Tryz.prog 3 opR b 4 opsD
set_option maxRecDepth 100000 in
set_option maxHeartbeats 1000000 in
theorem operations_any (w : World) : Calls Tryz.prog 24 #[] w fun e w' => e = .returned (.map (some w.heap.size)) ∧ Below w.heap.size w w' ∧ Ops w' w.heap.size := by
  have hmm := @run_makeMap Tryz.prog
  have hown0 := World.ownsMap_made w Tryz.prog 3 opR
  obtain ⟨w1, hrun1, hown1, hg1⟩ := hown0.update keyedInt Tryz.underlying66 (by unfold maxLen; omega) (key_wf 1 (by omega) (by omega)) (show opR (.agg #[.func (.func 48) #[] #[]]) = some (.lit (.int .i64 48), []) from rfl)
  obtain ⟨w2, hrun2, hown2, hg2⟩ := hown1.update keyedInt Tryz.underlying66 (by unfold maxLen; omega) (key_wf 2 (by omega) (by omega)) (show opR (.agg #[.func (.func 50) #[] #[]]) = some (.lit (.int .i64 50), []) from rfl)
  obtain ⟨w3, hrun3, hown3, hg3⟩ := hown2.update keyedInt Tryz.underlying66 (by unfold maxLen; omega) (key_wf 3 (by omega) (by omega)) (show opR (.agg #[.func (.func 52) #[] #[]]) = some (.lit (.int .i64 52), []) from rfl)
  obtain ⟨w4, hrun4, hown4, hg4⟩ := hown3.update keyedInt Tryz.underlying66 (by unfold maxLen; omega) (key_wf 4 (by omega) (by omega)) (show opR (.agg #[.func (.func 53) #[] #[]]) = some (.lit (.int .i64 53), []) from rfl)
  have hb : Below w.heap.size w w4 := ((((bl_alloc (Below.refl w.heap.size w) (.map #[] 0)).grown hg1 (by simp) (fun k e => by cases e; exact Nat.le_refl _)).grown hg2 (Nat.le_trans (by simp) hg1.size) (fun k e => by cases e; exact Nat.le_refl _)).grown hg3 (Nat.le_trans (Nat.le_trans (by simp) hg1.size) hg2.size) (fun k e => by cases e; exact Nat.le_refl _)).grown hg4 (Nat.le_trans (Nat.le_trans (Nat.le_trans (by simp) hg1.size) hg2.size) hg3.size) (fun k e => by cases e; exact Nat.le_refl _)
  have HB := hide hb; have HO := hide (show Ops w4 w.heap.size from hown4)
  clear hown0 hown1 hown2 hown3 hown4 hg1 hg2 hg3 hg4 hb
  go_enter Tryz.func24, Tryz.ntmps24
  go_wp2
  go_ret
  exact ⟨rfl, HB.out, HO.out⟩
theorem Ops.step {w w' : World} {b : Nat} (h : Ops w b) (hb : Below w.heap.size w w') : Ops w' b := World.ownsMap.kept h (below_grown hb) (by simp)
/-- an operation that is there -/
theorem ops_look {w : World} {b : Nat} (h : Ops w b) (op : Int) (n : Nat) (hn : op = 1 ∧ n = 48 ∨ op = 2 ∧ n = 50 ∨ op = 3 ∧ n = 52 ∨ op = 4 ∧ n = 53) :
    (Instr.lookup 66 (.map (some b)) (.int .i64 op) true).run Tryz.prog w = .ok (.tuple #[.agg #[.func (.func n) #[] #[]], .bool true]) w := by
  have hz : (zeroValue 64).run Tryz.prog w = .ok (.agg #[.nilFunc]) w := by kernel_rfl
  have hk : keyOf Tryz.prog 3 (.int .i64 op) = some (.int .i64 op) := key_wf op (by omega) (by omega)
  obtain ⟨v, ps, hrun, hv⟩ := World.ownsMap.look_ok h keyedInt Tryz.underlying66 hz (show opR (.agg #[.nilFunc]) = some (.lit (.int .i64 0), []) from rfl) hk
  rcases hn with ⟨rfl, rfl⟩ | ⟨rfl, rfl⟩ | ⟨rfl, rfl⟩ | ⟨rfl, rfl⟩
  · have hv' : opR v = some (.lit (.int .i64 ((48 : Nat) : Int)), ps) := hv
    obtain rfl := opR_inv (by decide) hv'
    rw [hrun]
    rfl
  · have hv' : opR v = some (.lit (.int .i64 ((50 : Nat) : Int)), ps) := hv
    obtain rfl := opR_inv (by decide) hv'
    rw [hrun]
    rfl
  · have hv' : opR v = some (.lit (.int .i64 ((52 : Nat) : Int)), ps) := hv
    obtain rfl := opR_inv (by decide) hv'
    rw [hrun]
    rfl
  · have hv' : opR v = some (.lit (.int .i64 ((53 : Nat) : Int)), ps) := hv
    obtain rfl := opR_inv (by decide) hv'
    rw [hrun]
    rfl
/-- one that is not -/
theorem ops_miss {w : World} {b : Nat} (h : Ops w b) :
    (Instr.lookup 66 (.map (some b)) (.int .i64 5) true).run Tryz.prog w = .ok (.tuple #[.agg #[.nilFunc], .bool false]) w := by
  have hz : (zeroValue 64).run Tryz.prog w = .ok (.agg #[.nilFunc]) w := by kernel_rfl
  have hk : keyOf Tryz.prog 3 (.int .i64 5) = some (.int .i64 5) := key_wf 5 (by omega) (by omega)
  obtain ⟨es, clock, hb, F, _, hD⟩ := h
  rcases Maps.fit_look true keyedInt Tryz.underlying66 hz hb F hk with ⟨hrun, _, hat⟩ | ⟨e0, y, h1, h2, hrun, hRv, hat, h3⟩
  · exact hrun
  · exfalso
    rw [← hD] at hat
    have a : (DataW.lit (.int .i64 0) : DataW Unit) = .lit (.int .i64 1) := (show _ = _ from (hat (.lit (.int .i64 0)))).trans (show _ = _ from (hat (.lit (.int .i64 1)))).symm
    injection a with a
    injection a with _ a
    omega
end Go.Proofs.YtgbimniloabjkaaGreatDoor
