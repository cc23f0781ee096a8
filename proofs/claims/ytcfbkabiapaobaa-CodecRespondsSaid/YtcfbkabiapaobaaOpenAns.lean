/- An answer that came in. -/
import Derived.Test.YtcfbkabiapaobaaOpenReq
namespace Go.Proofs.Ytcfbkabiapaobaa
open Go.ChangeShapes Go.WideShapes Go.ChangeAt Go.RowKit

section
variable {H : Type} {enc : TypeId × Value → H} {W : World}

set_option maxRecDepth 100000 in
theorem trod_record {fuel : Nat} {cs : List Value} {x : DataW H × List MemPlace} (h : DataW.trod enc Try.prog W 0 (fun _ => true) true fuel 83 cs = some x) :
    ∃ p : Int × Int, cs = [.int .u64 p.1, .int .u64 p.2] ∧ U64 p.1 ∧ U64 p.2 := by
  have hC : Try.prog.cellsOf 83 = 2 := by kernel_rfl
  have hI : Try.prog.cellsOf 68 = 1 := by kernel_rfl
  obtain ⟨y0, y1, n, _, hlen, h0, h1⟩ := trod_struct2 Try.underlying83 h
  rw [hC] at hlen
  match cs, hlen with
  | [c0, c1], _ =>
    dsimp only at h0 h1
    rw [hI] at h0 h1
    obtain ⟨a, e0, _, wa⟩ := DataW.trod_int Try.underlying68 h0
    obtain ⟨b, e1, _, wb⟩ := DataW.trod_int Try.underlying68 h1
    simp at e0 e1
    subst e0 e1
    exact ⟨(a, b), rfl, bounds_u64' wa, bounds_u64' wb⟩

theorem recCs_of {w : World} {b : Nat} : ∀ (ps : List (Int × Int)) (off : Nat), (∀ i p, ps[i]? = some p → w.cell? ⟨b, off + i * 2, none⟩ = some (.int .u64 p.1) ∧ w.cell? ⟨b, off + i * 2 + 1, none⟩ = some (.int .u64 p.2)) →
    ∀ j u, (recCs ps)[j]? = some u → w.cell? ⟨b, off + j, none⟩ = some u
  | [], _, _, j, u, hu => by simp [recCs] at hu
  | p :: ps, off, h, j, u, hu => by
    have e : recCs (p :: ps) = .int .u64 p.1 :: .int .u64 p.2 :: recCs ps := by simp [recCs]
    rw [e] at hu
    match j, hu with
    | 0, hu => have := (h 0 p rfl).1; simp at hu; subst hu; simpa using this
    | 1, hu => have := (h 0 p rfl).2; simp at hu; subst hu; simpa using this
    | j + 2, hu =>
      have := recCs_of ps (off + 2) (fun i q hq => by
        have := h (i + 1) q (by simpa using hq)
        rw [show off + (i + 1) * 2 = off + 2 + i * 2 by omega] at this
        exact this) j u (by simpa using hu)
      rwa [show off + (j + 2) = off + 2 + j by omega]

def rec_at (W : World) (a : Addr) (i : Nat) (q : Int × Int) : Prop := W.cell? ((a.add (i * 2)).add 0) = some (.int .u64 q.1) ∧ W.cell? ((a.add (i * 2)).add 1) = some (.int .u64 q.2) ∧ U64 q.1 ∧ U64 q.2

set_option maxRecDepth 100000 in
theorem trod_records {fuel : Nat} {cs : List Value} {x : DataW H × List MemPlace} (h : DataW.trod enc Try.prog W 0 (fun _ => true) true fuel 40 cs = some x) :
    ∃ (A : Option Addr) (qs : List (Int × Int)) (c : Nat), cs = [.slice A qs.length c] ∧ qs.length ≤ c ∧ c ≤ maxLen ∧ Sl W W.heap.size A (recCs qs) ∧ (∀ q ∈ qs, U64 q.1 ∧ U64 q.2) := by
  rcases Go.Deep.open_slice Try.underlying40 h with ⟨rfl, _⟩ | ⟨a, len, cap, m, n, D, Pl, rfl, _, hl, hm, hmm, _, hx⟩
  · exact ⟨none, [], 0, rfl, Nat.le_refl _, by unfold maxLen; omega, Sl.nil _ _ _, fun p hp => by cases hp⟩
  · have hC : Try.prog.cellsOf 83 = 2 := by kernel_rfl
    rw [hC] at hx
    have hcap : m = cap := by simpa using hmm
    subst hcap
    obtain ⟨V, hV⟩ := pick_lt (α := Int × Int) (0, 0) (m := len) (p := fun i q => rec_at W a i q) (fun i hi => by
      obtain ⟨cs', hc, ht⟩ := hx i (by omega)
      obtain ⟨q, rfl, hq⟩ := trod_record ht
      obtain ⟨_, _, hat⟩ := World.cells?_some hc
      exact ⟨q, hat 0 (by omega), hat 1 (by omega), hq⟩)
    refine ⟨some a, (List.range len).map V, m, by simp, by simpa using hl, hm, ?_, ?_⟩
    · rcases Nat.eq_zero_or_pos len with h0 | h0
      · subst h0; exact .inl rfl
      · have hz := (hV 0 h0).1
        have ha : a = ⟨a.block, a.off, none⟩ := addr_shape (v := .int .u64 (V 0).1) (by
          have e : (a.add (0 * 2)).add 0 = a.add 0 := by simp [Addr.add]
          rw [← e]; exact hz)
        rw [ha] at hV hz ⊢
        simp only [rec_at, add_at] at hV hz
        refine Sl.mk (block_lt hz) (recCs_of _ _ fun i p hp => ?_)
        rw [List.getElem?_map] at hp
        by_cases hi : i < len
        · rw [List.getElem?_range hi] at hp
          simp only [Option.map_some, Option.some.injEq] at hp
          subst hp
          have := hV i hi
          exact ⟨by simpa using this.1, by simpa using this.2.1⟩
        · rw [List.getElem?_eq_none (by simp; omega)] at hp; simp at hp
    · intro p hp
      obtain ⟨i, hi, rfl⟩ := List.mem_map.1 hp
      exact (hV i (List.mem_range.1 hi)).2.2

set_option maxRecDepth 100000 in
theorem open_answer {base : Nat} {v : Value} {d : DataW H} {ps : List MemPlace} (hv : Value.okWide Try.prog W .any base 50 v) (h : DataW.Trod enc Try.prog W 0 (fun _ => true) true 50 v d ps) :
    ∃ (val cnt : Int) (A : Option Addr) (rs : List (Int × Int)) (c : Nat), v = .agg #[.int .i64 val, .int .i64 cnt, .slice A rs.length c] ∧ rs.length ≤ c ∧ c ≤ maxLen ∧ Sl W W.heap.size A (recCs rs) ∧ (∀ q ∈ rs, U64 q.1 ∧ U64 q.2) := by
  have hC : Try.prog.cellsOf 50 = 3 := by kernel_rfl
  have hI : Try.prog.cellsOf 3 = 1 := by kernel_rfl
  have hS : Try.prog.cellsOf 40 = 1 := by kernel_rfl
  obtain ⟨cs, rfl, hsz⟩ := okWide_struct Try.underlying50 hv
  rw [hC] at hsz
  obtain ⟨fuel, ht⟩ := h
  obtain ⟨l⟩ := cs
  have ht' : DataW.trod enc Try.prog W 0 (fun _ => true) true fuel 50 l = some (d, ps) := by simpa [Value.cells] using ht
  obtain ⟨y0, y1, y2, n, _, hlen, h0, h1, h2⟩ := Go.Deep.trod_struct3 Try.underlying50 ht'
  match l, hsz with
  | [c0, c1, c2], _ =>
    dsimp only at h0 h1 h2
    rw [hI] at h0 h1
    rw [hS] at h2
    obtain ⟨val, e0, _⟩ := DataW.trod_int Try.underlying3 h0
    obtain ⟨cnt, e1, _⟩ := DataW.trod_int Try.underlying3 h1
    obtain ⟨A, rs, c, e2, hl, hc, hs, hq⟩ := trod_records h2
    simp at e0 e1 e2
    subst e0 e1 e2
    exact ⟨val, cnt, A, rs, c, rfl, hl, hc, hs, hq⟩
end
end Go.Proofs.Ytcfbkabiapaobaa
