/- codec.writer: point, query, record; each over points, queries and records. -/
import Derived.Test.YtcfbkabiapaobaaDoorWriter
namespace Go.Proofs.YtcfbkabiapaobaaDoor
open Go.RowKit

section
variable {w w' : World} {P R : Nat → Prop} {g : Nat} {bs : List Int}
theorem WS.lt (h : WS w P g bs) : g < w.heap.size := by
  obtain ⟨v, hb, _⟩ := h; exact hb.lt
theorem WS.step (h : WS w P g bs) (hb : Below w.heap.size w w') : WS w' P g bs := by
  obtain ⟨v, h1, h2, h3, h4, h5⟩ := h
  exact ⟨v, h1.step hb, h2, own_step h3 hb, h4, h5⟩
theorem WS.mono (h : WS w P g bs) (hR : ∀ k, R k → P k) : WS w R g bs := by
  obtain ⟨v, h1, h2, h3, h4, h5⟩ := h
  exact ⟨v, h1, fun hr => h2 (hR _ hr), h3, h4, fun k hk hr => h5 k hk (hR _ hr)⟩
theorem own_lt {base : Nat} {e : TypeId} {size n : Nat} {v : Value} {xs : List Value} (h : w.ownsRow base e size v n xs) {k : Nat} (hk : v.ownBlock = some k) : k < w.heap.size := by
  rcases h.2 with ⟨rfl, _⟩ | ⟨g', cap, cur, rfl, hb, hh, _⟩
  · simp [Value.ownBlock] at hk
  · have : g' = k := by simpa [Value.ownBlock] using hk
    subst this
    exact Blk.lt hh
/-- blocks made since are kept besides -/
def More (P : Nat → Prop) (w w' : World) (k : Nat) : Prop := P k ∨ w.heap.size ≤ k ∧ k < w'.heap.size
theorem WS.more (h : WS w P g bs) (hb : Below w.heap.size w w') : WS w' (More P w w') g bs := by
  obtain ⟨v, h1, h2, h3, h4, h5⟩ := h
  have := h1.lt
  refine ⟨v, h1.step hb, fun h => ?_, own_step h3 hb, h4, fun k hk h => ?_⟩
  · rcases h with h | h
    · exact h2 h
    · omega
  · have := own_lt h3 hk
    rcases h with h | h
    · exact h5 k hk h
    · omega
theorem KeepP.more {w1 : World} {P : Nat → Prop} (hb : Below w.heap.size w w') (hP : ∀ k, P k → k < w.heap.size) (h : KeepP (More P w w') w' w1) : KeepP P w w1 :=
  (KeepP.of_below hb hP).trans (h.mono fun _ hk => .inl hk)
theorem more_lt {P : Nat → Prop} (hP : ∀ k, P k → k < w.heap.size) (hb : Below w.heap.size w w') : ∀ k, More P w w' k → k < w'.heap.size := by
  intro k hk
  rcases hk with hk | hk
  · exact Nat.lt_of_lt_of_le (hP k hk) hb.size
  · exact hk.2
end

def u64w (x : Int) : Int := IntKind.u64.wrap x
def pt16 (p : Int × Int) : List Int := word8 (u64w p.1) ++ word8 (u64w p.2)
theorem pt16_length (p : Int × Int) : (pt16 p).length = 16 := rfl
def q24 (q : (Int × Int) × Int) : List Int := pt16 q.1 ++ word8 q.2
theorem q24_length (q : (Int × Int) × Int) : (q24 q).length = 24 := rfl
def rec9 (r : Int × Int) : List Int := [r.1 % 256] ++ word8 r.2
theorem rec9_length (r : Int × Int) : (rec9 r).length = 9 := rfl

section
variable (P : Nat → Prop) (g : Nat) (bs : List Int) (w : World)
variable (hP : ∀ k, P k → k < w.heap.size) (hw : WS w P g bs) (hlen : bs.length ≤ 900000)
include hP hw hlen
set_option maxRecDepth 100000 in
set_option maxHeartbeats 2000000 in
theorem point_any (x y : Int) : Calls Tryd.prog 35 #[.pointer (some ⟨g, 0, none⟩), .agg #[.int .i64 x, .int .i64 y]] w fun e w' => e = .returned (.tuple #[]) ∧ KeepP P w w' ∧ WS w' P g (bs ++ pt16 (x, y)) := by
  obtain ⟨w0, hw0⟩ : ∃ w0, w0 = w.alloc (.cells #[.int .i64 x, .int .i64 y] 49) := ⟨_, rfl⟩
  have hb : Below w.heap.size w w0 := by rw [hw0]; exact bl_alloc (Below.refl _ _) _
  have hz : w0.heap.size = w.heap.size + 1 := by rw [hw0]; simp
  have B0 : Blk w0 w.heap.size 49 #[.int .i64 x, .int .i64 y] := by rw [hw0]; exact Blk.new _ _ _
  have hP1 := more_lt hP hb
  have h0 := hw.more hb
  have hm : ∀ w1, KeepP (More P w w0) w0 w1 → KeepP P w w1 := fun w1 => KeepP.more hb hP
  have hRk : More P w w0 w.heap.size := .inr ⟨Nat.le_refl _, by omega⟩
  have HM := hide hm
  have HZ := hide hz
  clear hm hz hP
  have HP1 := hide hP1
  clear hP1
  go_enter Tryd.func35, Tryd.ntmps35
  go_wp2_with fail
  rw [← hw0]
  have HW0 := hide hw0
  clear hw0
  refine (word_any (More P w w0) g bs _ _ HP1.out h0 (by omega)).mono ?_
  rintro e w1 ⟨rfl, k1, s1⟩
  have B1 := B0.kept k1 hRk
  have c1 := B1.cell (i := 1) rfl
  go_wp2_with fail
  refine (word_any (More P w w0) g _ _ _ (fun k hk => Nat.lt_of_lt_of_le (HP1.out k hk) k1.size) s1 (by rw [List.length_append, word8_length]; omega)).mono ?_
  rintro e w2 ⟨rfl, k2, s2⟩
  go_wp2
  go_end0
  refine ⟨rfl, HM.out _ (k1.trans k2), ?_⟩
  have s3 := s2.mono (R := P) (fun k hk => .inl hk)
  rw [List.append_assoc] at s3
  exact s3

set_option maxRecDepth 100000 in
set_option maxHeartbeats 2000000 in
theorem query_any (x y d : Int) : Calls Tryd.prog 37 #[.pointer (some ⟨g, 0, none⟩), .agg #[.int .i64 x, .int .i64 y, .int .u64 d]] w fun e w' => e = .returned (.tuple #[]) ∧ KeepP P w w' ∧ WS w' P g (bs ++ q24 ((x, y), d)) := by
  obtain ⟨w0, hw0⟩ : ∃ w0, w0 = w.alloc (.cells #[.int .i64 x, .int .i64 y, .int .u64 d] 71) := ⟨_, rfl⟩
  have hb : Below w.heap.size w w0 := by rw [hw0]; exact bl_alloc (Below.refl _ _) _
  have hz : w0.heap.size = w.heap.size + 1 := by rw [hw0]; simp
  have B0 : Blk w0 w.heap.size 71 #[.int .i64 x, .int .i64 y, .int .u64 d] := by rw [hw0]; exact Blk.new _ _ _
  have hP1 := more_lt hP hb
  have h0 := hw.more hb
  have hm : ∀ w1, KeepP (More P w w0) w0 w1 → KeepP P w w1 := fun w1 => KeepP.more hb hP
  have hRk : More P w w0 w.heap.size := .inr ⟨Nat.le_refl _, by omega⟩
  have HM := hide hm
  have HZ := hide hz
  clear hm hz hP
  have HP1 := hide hP1
  clear hP1
  go_enter Tryd.func37, Tryd.ntmps37
  go_wp2_with fail
  rw [← hw0]
  have HW0 := hide hw0
  clear hw0
  refine (point_any (More P w w0) g bs _ HP1.out h0 (by omega) x y).mono ?_
  rintro e w1 ⟨rfl, k1, s1⟩
  have B1 := B0.kept k1 hRk
  have c2 := B1.cell (i := 2) rfl
  go_wp2_with fail
  refine (word_any (More P w w0) g _ _ _ (fun k hk => Nat.lt_of_lt_of_le (HP1.out k hk) k1.size) s1 (by rw [List.length_append, pt16_length]; omega)).mono ?_
  rintro e w2 ⟨rfl, k2, s2⟩
  go_wp2
  go_end0
  refine ⟨rfl, HM.out _ (k1.trans k2), ?_⟩
  have s3 := s2.mono (R := P) (fun k hk => .inl hk)
  rw [List.append_assoc] at s3
  exact s3


end
end Go.Proofs.YtcfbkabiapaobaaDoor
