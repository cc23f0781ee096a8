/- Words FenceSize Same FenceCheck -/
import Derived.Test.YtpnoofphfomjoaaGreatDoorRows
import Derived.WalkKit
import Derived.WalkSpells
import Derived.WalkLawsBesides
import Derived.Deep.RegionWith
import Derived.Deep.Draws
import Derived.BigQuiet
import Derived.Deep.QuietTactic
namespace Go.Proofs.YtpnoofphfomjoaaGreatDoor
open Go.RowKit
/-- The slice whose address is A reads, in w, as the cells xs; they lie below block B. -/
def Sl (w : World) (B : Nat) (A : Option Addr) (xs : List Value) : Prop :=
  xs = [] ∨ ∃ b off, A = some ⟨b, off, none⟩ ∧ b < B ∧ ∀ j u, xs[j]? = some u → w.cell? ⟨b, off + j, none⟩ = some u
theorem Sl.nil (w : World) (B : Nat) (A : Option Addr) : Sl w B A [] := .inl rfl
theorem Sl.below {w w' : World} {B : Nat} {A : Option Addr} {xs : List Value} (h : Sl w B A xs) (hb : Below B w w') : Sl w' B A xs := by
  rcases h with h | ⟨b, off, hA, hlt, hc⟩
  · exact .inl h
  · exact .inr ⟨b, off, hA, hlt, fun j u hu => (hb.cell (p := ⟨b, off + j, none⟩) hlt).trans (hc j u hu)⟩
theorem Sl.more {w : World} {B B' : Nat} {A : Option Addr} {xs : List Value} (h : Sl w B A xs) (hB : B ≤ B') : Sl w B' A xs := by
  rcases h with h | ⟨b, off, hA, hlt, hc⟩
  · exact .inl h
  · exact .inr ⟨b, off, hA, Nat.lt_of_lt_of_le hlt hB, hc⟩
theorem Sl.drewN {w : World} {B : Nat} {A : Option Addr} {xs : List Value} (h : Sl w B A xs) (k : Nat) : Sl (w.drewN k) B A xs := h
theorem Sl.drew {w : World} {B : Nat} {A : Option Addr} {xs : List Value} (h : Sl w B A xs) : Sl w.drew B A xs := h
theorem Sl.open_ {w : World} {B : Nat} {A : Option Addr} {xs : List Value} (h : Sl w B A xs) (hn : 0 < xs.length) :
    ∃ b off, A = some ⟨b, off, none⟩ ∧ b < B ∧ ∀ j u, xs[j]? = some u → w.cell? ⟨b, off + j, none⟩ = some u := by
  rcases h with h | h
  · subst h; simp at hn
  · exact h
theorem Sl.mk {w : World} {B b off : Nat} {xs : List Value} (hb : b < B) (hc : ∀ j u, xs[j]? = some u → w.cell? ⟨b, off + j, none⟩ = some u) : Sl w B (some ⟨b, off, none⟩) xs :=
  .inr ⟨b, off, rfl, hb, hc⟩
/-- what the call's own row reads as -/
theorem Sl.of_own {w : World} {base : Nat} {e : TypeId} {size n m c : Nat} {A : Option Addr} {xs : List Value} (h : w.ownsRow base e size (.slice A n c) m xs) : Sl w w.heap.size A xs := by
  obtain ⟨hl, h⟩ := h
  rcases h with ⟨_, h0⟩ | ⟨g, cap, cur, hv, _, hh, hn, _, hcs, ht⟩
  · left; subst h0; exact List.eq_nil_of_length_eq_zero (by simpa using hl)
  · right
    injection hv with hA
    have hlt : g < w.heap.size := by
      rcases Nat.lt_or_ge g w.heap.size with h | h
      · exact h
      · rw [Array.getElem?_eq_none h] at hh; cases hh
    refine ⟨g, 0, hA, hlt, fun j u hu => ?_⟩
    rw [← ht] at hu
    rw [List.getElem?_take] at hu
    have hcell := cell_of_row w g (0 + j) cur e (0, 0) hh
    rw [hcell]
    split at hu
    · simpa using hu
    · cases hu
theorem below_drewN {B : Nat} {a w : World} (h : Below B a w) (k : Nat) : Below B a (w.drewN k) := ⟨h.os, h.tape, h.output, h.size, h.block⟩
theorem below_of_drew {B : Nat} {a w : World} (h : Below B a.drew w) : Below B a w := ⟨h.os, h.tape, h.output, h.size, h.block⟩
/- 'Below' from the world in which the call began, step by step. -/
theorem bl_alloc {a w : World} (h : Below a.heap.size a w) (o : Obj) : Below a.heap.size a (w.alloc o) := h.alloc h.size o
theorem bl_drewN {B : Nat} {a w : World} (h : Below B a w) (k : Nat) : Below B a (w.drewN k) := ⟨h.os, h.tape, h.output, h.size, h.block⟩
theorem bl_drew {B : Nat} {a w : World} (h : Below B a w) : Below B a w.drew := ⟨h.os, h.tape, h.output, h.size, h.block⟩
theorem bl_step {a w w' : World} (h : Below a.heap.size a w) (hb : Below w.heap.size w w') : Below a.heap.size a w' := h.trans (hb.mono h.size)
/-- all that was there reads as before: two rules for the walk -/
theorem bcell {a w : World} (h : Below a.heap.size a w) : (∀ b o, b < a.heap.size → w.cell? ⟨b, o, none⟩ = a.cell? ⟨b, o, none⟩) ∧ (∀ b o, b < a.heap.size → w.frozen? ⟨b, o, none⟩ = a.frozen? ⟨b, o, none⟩) :=
  ⟨fun b o hb => h.cell (p := ⟨b, o, none⟩) hb, fun b o hb => h.frozen (p := ⟨b, o, none⟩) hb⟩
theorem hide {p : Prop} (h : p) : Hid p := h
theorem ret_int {k : IntKind} {a b : Int} (h : a = b) : Ending.returned (.int k a) = .returned (.int k b) := by rw [h]
theorem ret_bool {a b : Bool} (h : a = b) : Ending.returned (.bool a) = .returned (.bool b) := by rw [h]
/-- Block g holds just the cells cs, of element type t, none of them frozen. -/
def Blk (w : World) (g : Nat) (t : TypeId) (cs : Array Value) : Prop := w.heap[g]? = some (.cells cs t (0, 0))
section
variable {w w' : World} {g : Nat} {t : TypeId} {cs : Array Value}
theorem Blk.lt (h : Blk w g t cs) : g < w.heap.size := by
  rcases Nat.lt_or_ge g w.heap.size with h1 | h1
  · exact h1
  · unfold Blk at h; rw [Array.getElem?_eq_none h1] at h; cases h
theorem Blk.cell (h : Blk w g t cs) {i : Nat} {v : Value} (hi : cs[i]? = some v) : w.cell? ⟨g, i, none⟩ = some v := (cell_of_row w g i cs t (0, 0) h).trans hi
theorem Blk.frozen (h : Blk w g t cs) (i : Nat) : w.frozen? ⟨g, i, none⟩ = false := by unfold Blk at h; simp [World.frozen?, h]
theorem Blk.new (w : World) (t : TypeId) (cs : Array Value) : Blk (w.alloc (.cells cs t)) w.heap.size t cs := by
  show (w.heap.push _)[w.heap.size]? = _
  simp
theorem Blk.alloc (h : Blk w g t cs) (o : Obj) : Blk (w.alloc o) g t cs := (Below.heap_alloc w o g h.lt).trans h
theorem Blk.drewN (h : Blk w g t cs) (k : Nat) : Blk (w.drewN k) g t cs := h
theorem Blk.drew (h : Blk w g t cs) : Blk w.drew g t cs := h
theorem Blk.set (h : Blk w g t cs) (i : Nat) (u : Value) : Blk (w.setCell ⟨g, i, none⟩ u) g t (cs.setIfInBounds i u) := by
  unfold Blk at h ⊢
  simp [World.setCell, Array.getElem?_modify, h]
theorem Blk.far (h : Blk w g t cs) {p : Addr} (hp : g ≠ p.block) (u : Value) : Blk (w.setCell p u) g t cs := (Below.heap_setCell w p u g hp).trans h
theorem Blk.below {B : Nat} (h : Blk w g t cs) (hb : Below B w w') (hg : g < B) : Blk w' g t cs := (hb.block g hg).trans h
theorem Blk.step (h : Blk w g t cs) (hb : Below w.heap.size w w') : Blk w' g t cs := h.below hb h.lt
theorem Blk.grown {row : Option Nat} (h : Blk w g t cs) (hb : w.grownBy w' row) (hg : some g ≠ row) : Blk w' g t cs := (hb.block g h.lt hg).trans h
theorem own_base {base : Nat} {e : TypeId} {size n : Nat} {v : Value} {xs : List Value} (h : w.ownsRow base e size v n xs) {k : Nat} (hk : v.ownBlock = some k) : base ≤ k := by
  rcases h.2 with ⟨rfl, _⟩ | ⟨g', cap, cur, rfl, hb, _⟩
  · simp [Value.ownBlock] at hk
  · have : g' = k := by simpa [Value.ownBlock] using hk
    omega
theorem own_form {base : Nat} {e : TypeId} {size n : Nat} {v : Value} {xs : List Value} (h : w.ownsRow base e size v n xs) (hn : 0 < n) :
    ∃ k cap, v = .slice (some ⟨k, 0, none⟩) n cap ∧ base ≤ k ∧ k < w.heap.size ∧ n ≤ cap := by
  rcases h.2 with ⟨_, h0⟩ | ⟨g', cap, cur, rfl, hb, hh, hc, _⟩
  · omega
  · exact ⟨g', cap, rfl, hb, Blk.lt hh, hc⟩
theorem own_slice {base : Nat} {e : TypeId} {size n : Nat} {v : Value} {xs : List Value} (h : w.ownsRow base e size v n xs) : ∃ A cap, v = .slice A n cap ∧ n ≤ cap := by
  rcases h.2 with ⟨rfl, rfl⟩ | ⟨g', cap, cur, rfl, hb, hh, hc, _⟩
  · exact ⟨none, 0, rfl, Nat.le_refl _⟩
  · exact ⟨_, cap, rfl, hc⟩
theorem own_step {base : Nat} {e : TypeId} {size n : Nat} {v : Value} {xs : List Value} (h : w.ownsRow base e size v n xs) (hb : Below w.heap.size w w') : w'.ownsRow base e size v n xs := by
  refine ⟨h.1, ?_⟩
  rcases h.2 with h0 | ⟨g', cap, cur, hv, hb1, hh, r⟩
  · exact .inl h0
  · exact .inr ⟨g', cap, cur, hv, hb1, (hb.block g' (Blk.lt hh)).trans hh, r⟩
theorem own_ne {base : Nat} {e : TypeId} {size n : Nat} {v : Value} {xs : List Value} (h : w.ownsRow base e size v n xs) (hg : g < base) : some g ≠ v.ownBlock := by
  intro e1
  have := own_base h e1.symm
  omega
end
/-- a region: deny, vertices, the points' slice -/
structure Rg where
  d : Bool
  v : Int
  A : Option Addr
  n : Nat
  c : Nat
def Rg.cells (r : Rg) : List Value := [.bool r.d, .int .i64 r.v, .slice r.A r.n r.c]
def rgCells (rs : List Rg) : List Value := rs.flatMap Rg.cells
theorem rgCells_length (rs : List Rg) : (rgCells rs).length = 3 * rs.length := by
  induction rs with
  | nil => rfl
  | cons r rs ih => simp only [rgCells, List.flatMap_cons, List.length_append, List.length_cons] at *; rw [ih]; simp [Rg.cells]; omega
theorem rgCells_get (rs : List Rg) (i : Nat) (r : Rg) (h : rs[i]? = some r) :
    (rgCells rs)[i * 3]? = some (.bool r.d) ∧ (rgCells rs)[i * 3 + 1]? = some (.int .i64 r.v) ∧ (rgCells rs)[i * 3 + 2]? = some (.slice r.A r.n r.c) := by
  induction rs generalizing i with
  | nil => simp at h
  | cons q rs ih =>
    have hq : ∀ j, (rgCells (q :: rs))[j + 3]? = (rgCells rs)[j]? := by
      intro j
      show (Rg.cells q ++ rgCells rs)[j + 3]? = _
      rw [List.getElem?_append_right (by simp [Rg.cells])]
      simp [Rg.cells]
    cases i with
    | zero =>
      simp only [List.getElem?_cons_zero, Option.some.injEq] at h
      subst h
      exact ⟨rfl, rfl, rfl⟩
    | succ i =>
      have h' : rs[i]? = some r := by simpa using h
      have := ih i h'
      have e : (i + 1) * 3 = i * 3 + 3 := by omega
      rw [e]
      refine ⟨by rw [hq]; exact this.1, ?_, ?_⟩
      · rw [show i * 3 + 3 + 1 = i * 3 + 1 + 3 by omega, hq]; exact this.2.1
      · rw [show i * 3 + 3 + 2 = i * 3 + 2 + 3 by omega, hq]; exact this.2.2
theorem Sl.rg {w : World} {B : Nat} {A : Option Addr} {rs : List Rg} (h : Sl w B A (rgCells rs)) {k : Nat} {r : Rg} (hk : rs[k]? = some r) :
    ∃ b off, A = some ⟨b, off, none⟩ ∧ b < B ∧ w.cell? ⟨b, off + k * 3, none⟩ = some (.bool r.d) ∧ w.cell? ⟨b, off + k * 3 + 1, none⟩ = some (.int .i64 r.v) ∧ w.cell? ⟨b, off + k * 3 + 2, none⟩ = some (.slice r.A r.n r.c) := by
  have hlt : k < rs.length := (List.getElem?_eq_some_iff.1 hk).1
  obtain ⟨b, off, rfl, hB, hc⟩ := h.open_ (by rw [rgCells_length]; omega)
  obtain ⟨h0, h1, h2⟩ := rgCells_get rs k r hk
  exact ⟨b, off, rfl, hB, hc _ _ h0, hc _ _ h1, hc _ _ h2⟩
theorem any_take_succ {α : Type} (l : List α) (p : α → Bool) (k : Nat) (r : α) (h : l[k]? = some r) : (l.take (k + 1)).any p = ((l.take k).any p || p r) := by
  rw [List.take_add_one, h]; simp
theorem any_of_get {α : Type} (l : List α) (p : α → Bool) (k : Nat) (r : α) (h : l[k]? = some r) (hp : p r = true) : l.any p = true :=
  List.any_eq_true.2 ⟨r, List.mem_of_getElem? h, hp⟩
/- rows of a call's own; what is far from a store -/
theorem Blk.new2 (w : World) (o : Obj) (t : TypeId) (cs : Array Value) : Blk ((w.alloc o).alloc (.cells cs t)) (w.heap.size + 1) t cs := by
  have h := Blk.new (w.alloc o) t cs
  simpa using h
theorem own_mono {w : World} {base base' : Nat} {e : TypeId} {size n : Nat} {v : Value} {xs : List Value} (h : w.ownsRow base e size v n xs) (hb : base' ≤ base) : w.ownsRow base' e size v n xs := by
  refine ⟨h.1, ?_⟩
  rcases h.2 with h0 | ⟨g', cap, cur, hv, hb1, r⟩
  · exact .inl h0
  · exact .inr ⟨g', cap, cur, hv, by omega, r⟩
theorem own_of_blk {w : World} {base g : Nat} {e : TypeId} {size n : Nat} {xs : List Value} (h : Blk w g e xs.toArray) (hg : base ≤ g) (hl : xs.length = n * size) (hn : n ≤ maxLen) :
    w.ownsRow base e size (.slice (some ⟨g, 0, none⟩) n n) n xs :=
  ⟨hl, .inr ⟨g, n, xs.toArray, rfl, hg, h, Nat.le_refl _, hn, by simpa using hl, by rw [← hl]; simp⟩⟩
theorem blk_cells {w : World} {g : Nat} {t : TypeId} {xs : List Value} (h : Blk w g t xs.toArray) : ∀ j u, xs[j]? = some u → w.cell? ((⟨g, 0, none⟩ : Addr).add j) = some u := by
  intro j u hu
  have e : (⟨g, 0, none⟩ : Addr).add j = ⟨g, j, none⟩ := by unfold Addr.add; split <;> simp_all
  rw [e]
  exact h.cell (by simpa using hu)
theorem own_set {w : World} {base : Nat} {e : TypeId} {size n : Nat} {v : Value} {xs : List Value} (h : w.ownsRow base e size v n xs) {p : Addr} (hp : v.ownBlock ≠ some p.block) (u : Value) : (w.setCell p u).ownsRow base e size v n xs := by
  refine ⟨h.1, ?_⟩
  rcases h.2 with h0 | ⟨g', cap, cur, rfl, hb1, hh, r⟩
  · exact .inl h0
  · refine .inr ⟨g', cap, cur, rfl, hb1, (Below.heap_setCell w p u g' ?_).trans hh, r⟩
    intro e1; apply hp; rw [← e1]; rfl
theorem cell_lt {w : World} {b o : Nat} {v : Value} (h : w.cell? ⟨b, o, none⟩ = some v) : b < w.heap.size := by
  rcases Nat.lt_or_ge b w.heap.size with h1 | h1
  · exact h1
  · simp [World.cell?, Array.getElem?_eq_none h1] at h
theorem own_lt {w : World} {base : Nat} {e : TypeId} {size n : Nat} {v : Value} {xs : List Value} (h : w.ownsRow base e size v n xs) {k : Nat} (hk : v.ownBlock = some k) : k < w.heap.size := by
  rcases h.2 with ⟨rfl, _⟩ | ⟨g', cap, cur, rfl, hb, hh, _⟩
  · simp [Value.ownBlock] at hk
  · have : g' = k := by simpa [Value.ownBlock] using hk
    subst this
    exact Blk.lt hh
theorem Sl.at_ {w w' : World} {B : Nat} {A : Option Addr} {xs : List Value} (h : Sl w B A xs) (hb : ∀ b, b < B → (xs ≠ [] → ∀ x, A = some x → x.block = b → w'.heap[b]? = w.heap[b]?)) : Sl w' B A xs := by
  rcases h with h | ⟨b, off, hA, hlt, hc⟩
  · exact .inl h
  · refine .inr ⟨b, off, hA, hlt, fun j u hu => ?_⟩
    have hx : xs ≠ [] := fun e => by rw [e] at hu; simp at hu
    rw [World.cell?_of_block (hb b hlt hx _ hA rfl)]
    exact hc j u hu
theorem Sl.blk_lt {w : World} {B : Nat} {A : Option Addr} {xs : List Value} (h : Sl w B A xs) (hx : xs ≠ []) {x : Addr} (hA : A = some x) : x.block < B := by
  rcases h with h | ⟨b, off, hA', hlt, hc⟩
  · exact absurd h hx
  · rw [hA] at hA'; cases hA'; exact hlt
theorem Sl.far {w : World} {B : Nat} {A : Option Addr} {xs : List Value} (h : Sl w B A xs) {p : Addr} (hp : xs ≠ [] → ∀ x, A = some x → x.block ≠ p.block) (u : Value) : Sl (w.setCell p u) B A xs :=
  h.at_ fun b _ hx x hA hxb => Below.heap_setCell w p u b (by rw [← hxb]; exact hp hx x hA)
theorem own_blk {w w' : World} {xs : List Value} {base : Nat} {e : TypeId} {size n : Nat} {v : Value} (h : w.ownsRow base e size v n xs) (hk : ∀ k, v.ownBlock = some k → w'.heap[k]? = w.heap[k]?) : w'.ownsRow base e size v n xs := by
  refine ⟨h.1, ?_⟩
  rcases h.2 with h0 | ⟨g', cap, cur, rfl, hb1, hh, r⟩
  · exact .inl h0
  · exact .inr ⟨g', cap, cur, rfl, hb1, (hk g' rfl).trans hh, r⟩
end Go.Proofs.YtpnoofphfomjoaaGreatDoor
namespace Go.Proofs.YtpnoofphfomjoaaGreatDoor
open Go.RowKit
def sizeOfReg (v : Int) : Int := if v = 0 then 3 else if 3 ≤ v ∧ v ≤ 64 then v else 0
set_option maxHeartbeats 400000 in
theorem shapeOf_zero (d : Bool) (A : Option Addr) (n c : Nat) (w : World) :
    Calls Tryz.prog 101 #[.agg #[.bool d, .int .i64 0, .slice A n c]] w fun e w' => e = .returned (.iface 203 (.agg #[.bool d, .int .i64 0, .slice A n c])) ∧ Below w.heap.size w w' := by
  go_enter Tryz.func101, Tryz.ntmps101
  go_wp2
  go_ret
  exact ⟨rfl, (Below.refl _ _).alloc (Nat.le_refl _) _⟩
set_option maxHeartbeats 400000 in
theorem shapeOf_other (d : Bool) (v : Int) (hv : (v == 0) = false) (A : Option Addr) (n c : Nat) (w : World) :
    Calls Tryz.prog 101 #[.agg #[.bool d, .int .i64 v, .slice A n c]] w fun e w' => e = .returned (.iface 204 (.agg #[.bool d, .int .i64 v, .slice A n c])) ∧ Below w.heap.size w w' := by
  go_enter Tryz.func101, Tryz.ntmps101
  go_wp2
  go_ret
  exact ⟨rfl, (Below.refl _ _).alloc (Nat.le_refl _) _⟩
set_option maxHeartbeats 400000 in
theorem roundSize (d : Bool) (v : Int) (A : Option Addr) (n c : Nat) (w : World) :
    Calls Tryz.prog 243 #[.agg #[.bool d, .int .i64 v, .slice A n c]] w fun e w' => e = .returned (.int .i64 3) ∧ Below w.heap.size w w' := by
  go_enter Tryz.func243, Tryz.ntmps243
  go_wp2
  go_ret
  exact ⟨rfl, (Below.refl _ _).alloc (Nat.le_refl _) _⟩
set_option maxHeartbeats 400000 in
theorem convexSize (d : Bool) (v : Int) (A : Option Addr) (n c : Nat) (w : World) (hv : v ≠ 0) :
    Calls Tryz.prog 250 #[.agg #[.bool d, .int .i64 v, .slice A n c]] w fun e w' => e = .returned (.int .i64 (sizeOfReg v)) ∧ Below w.heap.size w w' := by
  go_enter Tryz.func250, Tryz.ntmps250
  go_wp2
  all_goals go_ret
  all_goals exact ⟨ret_int (by unfold sizeOfReg; rw [if_neg hv]; first | rw [if_pos ⟨by omega, by omega⟩] | rw [if_neg (by omega)]), (Below.refl _ _).alloc (Nat.le_refl _) _⟩
theorem meth_round (d : Bool) (v : Int) (A : Option Addr) (n c : Nat) (w : World) : (method 399 203 (.agg #[.bool d, .int .i64 v, .slice A n c]) "geofence/fence.size").run Tryz.prog w = .ok (243, .agg #[.bool d, .int .i64 v, .slice A n c]) w := by kernel_rfl
theorem meth_convex (d : Bool) (v : Int) (A : Option Addr) (n c : Nat) (w : World) : (method 399 204 (.agg #[.bool d, .int .i64 v, .slice A n c]) "geofence/fence.size").run Tryz.prog w = .ok (250, .agg #[.bool d, .int .i64 v, .slice A n c]) w := by kernel_rfl
set_option maxHeartbeats 400000 in
theorem size_any (d : Bool) (v : Int) (A : Option Addr) (n c : Nat) (w : World) :
    Calls Tryz.prog 57 #[.agg #[.bool d, .int .i64 v, .slice A n c]] w fun e w' => e = .returned (.int .i64 (sizeOfReg v)) ∧ Below w.heap.size w w' := by
  have hmr := meth_round
  have hmc := meth_convex
  go_enter Tryz.func57, Tryz.ntmps57
  by_cases h0 : v = 0
  · subst h0
    go_wp2_with fail
    refine (shapeOf_zero _ _ _ _ _).mono ?_
    rintro e w1 ⟨rfl, hb⟩
    go_wp2_with fail
    refine (roundSize _ _ _ _ _ _).mono ?_
    rintro e w2 ⟨rfl, hb2⟩
    go_wp2
    go_ret
    exact ⟨rfl, ((Below.refl _ _).alloc (Nat.le_refl _) _).trans ((hb.mono (by simp)).trans (hb2.mono (by have := hb.size; simp at this; omega)))⟩
  · have hv : (v == 0) = false := by simpa using h0
    go_wp2_with fail
    refine (shapeOf_other _ _ hv _ _ _ _).mono ?_
    rintro e w1 ⟨rfl, hb⟩
    go_wp2_with fail
    refine (convexSize _ _ _ _ _ _ h0).mono ?_
    rintro e w2 ⟨rfl, hb2⟩
    go_wp2
    go_ret
    exact ⟨rfl, ((Below.refl _ _).alloc (Nat.le_refl _) _).trans ((hb.mono (by simp)).trans (hb2.mono (by have := hb.size; simp at this; omega)))⟩
end Go.Proofs.YtpnoofphfomjoaaGreatDoor
namespace Go.Proofs.YtpnoofphfomjoaaGreatDoor
open Go.RowKit
def Rg.key (r : Rg) : Bool × Int × Nat := (r.d, r.v, r.n)
end Go.Proofs.YtpnoofphfomjoaaGreatDoor
namespace Go.Proofs.YtpnoofphfomjoaaGreatDoor
open Go.RowKit
/-- the error of the regions, the count left out -/
def fcheckL : List Rg → Int
  | [] => 0
  | r :: rs => if sizeOfReg r.v = 0 then 7 else if sizeOfReg r.v = (r.n : Int) then fcheckL rs else 8
def fcheck (rs : List Rg) : Int := if rs.length < 1 ∨ 64 < rs.length then 6 else fcheckL rs
theorem fcheckL_drop (rs : List Rg) (k : Nat) (r : Rg) (h : rs[k]? = some r) : fcheckL (rs.drop k) = if sizeOfReg r.v = 0 then 7 else if sizeOfReg r.v = (r.n : Int) then fcheckL (rs.drop (k + 1)) else 8 := by
  obtain ⟨hlt, he⟩ := List.getElem?_eq_some_iff.1 h
  rw [List.drop_eq_getElem_cons hlt, he]
  rfl
set_option maxRecDepth 100000 in
set_option maxHeartbeats 2000000 in
theorem fcheck_any (rs : List Rg) (A : Option Addr) (c : Nat) (w : World) (hs : Sl w w.heap.size A (rgCells rs)) :
    Calls Tryz.prog 117 #[.slice A rs.length c] w fun e w' => e = .returned (.int .i64 (fcheck rs)) ∧ Below w.heap.size w w' := by
  have HS := hide hs; clear hs
  by_cases hc : rs.length < 1 ∨ 64 < rs.length
  · have hf : fcheck rs = 6 := by unfold fcheck; rw [if_pos hc]
    rw [hf]
    have hci : ((rs.length : Nat) : Int) < 1 ∨ (¬ ((rs.length : Nat) : Int) < 1 ∧ (64 : Int) < ((rs.length : Nat) : Int)) := by omega
    clear hf hc
    rcases hci with h | ⟨h, h2⟩
    · go_enter Tryz.func117, Tryz.ntmps117
      go_wp2
      go_ret
      exact ⟨rfl, Below.refl _ _⟩
    · go_enter Tryz.func117, Tryz.ntmps117
      go_wp2
      go_ret
      exact ⟨rfl, Below.refl _ _⟩
  · have hf : fcheck rs = fcheckL rs := by unfold fcheck; rw [if_neg hc]
    rw [hf]
    have h1 : ¬ ((rs.length : Nat) : Int) < 1 := by omega
    have h2 : ¬ (64 : Int) < ((rs.length : Nat) : Int) := by omega
    clear hf hc
    go_enter Tryz.func117, Tryz.ntmps117
    go_wp2
    go_loopw [15] (fun i wr => ∃ k : Nat, k ≤ rs.length ∧ i = .int .i64 k ∧ Hid (fcheckL rs = fcheckL (rs.drop k)) ∧ Below w.heap.size w wr)
      (fun i _ => rs.length - (intOf i).toNat)
    case atStart => exact ⟨0, Nat.zero_le _, rfl, hide (by simp), Below.refl _ _⟩
    case round =>
      obtain ⟨k, hk, rfl, hF, hb⟩ := hrel
      by_cases hlt : k < rs.length
      · obtain ⟨r, hr⟩ : ∃ r, rs[k]? = some r := ⟨_, List.getElem?_eq_getElem hlt⟩
        obtain ⟨b, off, rfl, hB, c0, c1, c2⟩ := (HS.out.below hb).rg hr
        have hD := hide (hF.out.trans (fcheckL_drop rs k r hr))
        have hlti : ((k : Nat) : Int) < ((rs.length : Nat) : Int) := by omega
        obtain ⟨d, v, A, n, c⟩ := r
        dsimp only at *
        clear hr hF
        obtain ⟨w1, hw1⟩ : ∃ w1, w1 = wr.alloc (.cells #[.bool d, .int .i64 v, .slice A n c] 87) := ⟨_, rfl⟩
        have hb1 : Below wr.heap.size wr w1 := by rw [hw1]; exact bl_alloc (Below.refl _ _) _
        have B1 : Blk w1 wr.heap.size 87 #[.bool d, .int .i64 v, .slice A n c] := by rw [hw1]; exact Blk.new _ _ _
        go_wp2_with fail
        rw [← hw1]
        clear hw1
        refine (size_any d v A n c w1).mono ?_
        rintro e w2 ⟨rfl, hb2⟩
        have B2 := B1.step hb2
        have z2 : w2.cell? ⟨wr.heap.size, 2, none⟩ = some (.slice A n c) := B2.cell (i := 2) rfl
        have hbb : Below w.heap.size w w2 := bl_step (bl_step hb hb1) hb2
        clear B1 B2 hb1 hb2 c0 c1 c2
        obtain ⟨z, hz⟩ : ∃ z, z = sizeOfReg v := ⟨_, rfl⟩
        rw [← hz] at hD
        rw [← hz]
        clear hz
        by_cases h0 : z = 0
        · have hD' : Hid (fcheckL rs = 7) := hide (hD.out.trans (if_pos h0))
          clear hD
          subst h0
          go_wp2
          go_ret
          exact ⟨ret_int hD'.out.symm, hbb⟩
        · by_cases h3 : z = (n : Int)
          · have hD' : Hid (fcheckL rs = fcheckL (rs.drop (k + 1))) := hide (hD.out.trans ((if_neg h0).trans (if_pos h3)))
            clear hD
            go_wp2
            go_roundw
            case rel => exact ⟨k + 1, by omega, by go_num, hD', hbb⟩
            case measure => simp [intOf]; omega
          · have hD' : Hid (fcheckL rs = 8) := hide (hD.out.trans ((if_neg h0).trans (if_neg h3)))
            clear hD
            go_wp2
            go_ret
            exact ⟨ret_int hD'.out.symm, hbb⟩
      · obtain rfl : k = rs.length := by omega
        have hD' : Hid (fcheckL rs = 0) := hide (hF.out.trans (by rw [List.drop_length]; rfl))
        go_wp2
        go_ret
        exact ⟨ret_int hD'.out.symm, hb⟩
end Go.Proofs.YtpnoofphfomjoaaGreatDoor
