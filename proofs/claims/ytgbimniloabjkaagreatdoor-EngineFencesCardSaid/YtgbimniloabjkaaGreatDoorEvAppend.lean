/- Two lists of events, appended; a step of append under a guard. -/
import Derived.Test.YtgbimniloabjkaaGreatDoorRefEvents16
namespace Go.Proofs.YtgbimniloabjkaaGreatDoor
open Go.RowKit Go.Shelf

theorem wpList_append_run {P : Program} {ops : Array Oper} {rest : List Oper} {o : Oper} {a : Act} {Q : Exit → Act → World → Prop} {w : World} (s x : Operand) (t : TypeId)
    (hop : o.op = Op.call { callee := Callee.builtin Builtin.append, args := #[s, x], argTypes := #[t, t] }) (hw : Region.wanted o (yielded ops a.tmps) = true) (v xv : Value) (hs : a.eval s = v) (hx : a.eval x = xv) {v' : Value} {w' : World}
    (hrun : (Builtin.append_ #[t, t] o.type #[v, xv]).run P w = .ok v' w') (h : wpList P ops Q rest (a.put o.dst v') w') : wpList P ops Q (o :: rest) a w := by
  unfold wpList
  rw [if_pos hw]
  left
  unfold Oper.wp
  simp [execOp, hop, resolve, invoke, builtin, hs, hx, hrun, Result.andThen]
  exact h
theorem ev_append (es1 es2 : List Ev) (v1 v2 : Value) (B B2 : Nat) (w2 : World) (h1 : w2.ownsRow B 82 3 v1 es1.length (evCs es1)) (h2 : w2.ownsRow B2 82 3 v2 es2.length (evCs es2)) (l1 : es1.length ≤ 500000) (l2 : es2.length ≤ 500000) (hB : B ≤ w2.heap.size) :
    ∃ A c w3, (Builtin.append_ #[50, 50] 50 #[v1, v2]).run Tryz.prog w2 = .ok (.slice A (es1 ++ es2).length c) w3 ∧ Sl w3 w3.heap.size A (evCs (es1 ++ es2)) ∧ ∀ w : World, Below w.heap.size w w2 → w.heap.size ≤ B → Below w.heap.size w w3 := by
  obtain ⟨i0, hi, hz0', hz1', hz2'⟩ := info_parts ev_info
  rcases h2.2 with ⟨rfl, h0⟩ | ⟨g2, cap2, cur, rfl, hb2, hh2, hc2, hm2, _⟩
  · have he : es2 = [] := List.eq_nil_of_length_eq_zero h0
    subst he
    rw [List.append_nil]
    obtain ⟨A, c, rfl, _⟩ := own_slice h1
    exact ⟨A, c, w2, run_append_owned_none (P := Tryz.prog) w2 B 50 50 82 i0 3 Tryz.underlying50 hi _ _ _ h1, Sl.of_own h1, fun w h _ => h⟩
  · have hcells : ∀ j u, (evCs es2)[j]? = some u → w2.cell? ((⟨g2, 0, none⟩ : Addr).add j) = some u := fun j u hu => by
      have h := Sl.of_own h2
      rcases h with h | ⟨b', off', hA, _, hc⟩
      · rw [h] at hu; simp at hu
      · cases hA
        have h2 := hc j u hu
        rw [Nat.zero_add] at h2
        rw [add_zero_off]
        exact h2
    obtain ⟨v3, w3, hrun, hown3, hgrow3, _⟩ := run_append_own (P := Tryz.prog) w2 B 50 50 82 i0 (.agg #[.int .i64 0, .int .i64 0, .int .i64 0]) 3 24 Tryz.underlying50 hi hz0' hz1' hz2' rfl (by decide) v1 es1.length (evCs es1) h1 ⟨g2, 0, none⟩ es2.length cap2 (evCs es2) (evCs_length es2) hcells (evCs_one es2) (by unfold maxLen; omega) (by omega) hB
    rw [← evCs_app, ← List.length_append] at hown3
    obtain ⟨A3, c3, rfl, _⟩ := own_slice hown3
    exact ⟨A3, c3, w3, hrun, Sl.of_own hown3, fun w h hwB => h.grown hgrow3 h.size (fun j hj => Nat.le_trans hwB (own_base h1 hj))⟩
/-- a new tape -/
theorem new_tape (w : World) : Calls Tryz.prog 10 #[] w fun e w' => ∃ g m, e = .returned (.pointer (some ⟨g, 0, none⟩)) ∧ Below w.heap.size w w' ∧ Tp w' (fun k => k < w.heap.size) (some (g, m)) [] := by
  refine (new_any (fun k => k < w.heap.size) w fun k h => h).mono ?_
  rintro e w' ⟨rfl, hb, ht⟩
  exact ⟨w.heap.size + 1, w.heap.size, rfl, hb, ht⟩
end Go.Proofs.YtgbimniloabjkaaGreatDoor
