/- codec.each with a writer's method, over points, queries and records. -/
import Derived.Test.YtgbimniloabjkaaGreatDoorU64
namespace Go.Proofs.YtgbimniloabjkaaGreatDoor
open Go.RowKit

def ptCs (ps : List (Int × Int)) : List Value := ps.flatMap fun p => [.int .i64 p.1, .int .i64 p.2]
def recCs (ps : List (Int × Int)) : List Value := ps.flatMap fun p => [.int .u64 p.1, .int .u64 p.2]
def quCs (qs : List ((Int × Int) × Int)) : List Value := qs.flatMap fun q => [.int .i64 q.1.1, .int .i64 q.1.2, .int .u64 q.2]

/-- cells in groups of n -/
theorem flat_get {α : Type} (f : α → List Value) (n : Nat) (hf : ∀ a, (f a).length = n) : ∀ (l : List α) (i : Nat) (a : α), l[i]? = some a → ∀ j, j < n → (l.flatMap f)[i * n + j]? = (f a)[j]?
  | [], i, a, h, j, hj => by simp at h
  | b :: l, 0, a, h, j, hj => by
    simp only [List.getElem?_cons_zero, Option.some.injEq] at h
    subst h
    rw [List.flatMap_cons, List.getElem?_append_left (by rw [hf]; omega)]
    congr 1; omega
  | b :: l, i + 1, a, h, j, hj => by
    have h' : l[i]? = some a := by simpa using h
    rw [List.flatMap_cons, List.getElem?_append_right (by rw [hf, Nat.succ_mul]; omega), hf]
    have e : (i + 1) * n + j - n = i * n + j := by rw [Nat.succ_mul]; omega
    rw [e]
    exact flat_get f n hf l i a h' j hj
theorem flat_length {α : Type} (f : α → List Value) (n : Nat) (hf : ∀ a, (f a).length = n) (l : List α) : (l.flatMap f).length = l.length * n := by
  induction l with
  | nil => simp
  | cons a l ih => rw [List.flatMap_cons, List.length_append, ih, hf, List.length_cons, Nat.succ_mul]; omega

section
variable {w : World} {B : Nat} {A : Option Addr}
theorem Sl.pt {ps : List (Int × Int)} (h : Sl w B A (ptCs ps)) {k : Nat} {p : Int × Int} (hk : ps[k]? = some p) :
    ∃ b off, A = some ⟨b, off, none⟩ ∧ b < B ∧ w.cell? ⟨b, off + k * 2, none⟩ = some (.int .i64 p.1) ∧ w.cell? ⟨b, off + k * 2 + 1, none⟩ = some (.int .i64 p.2) := by
  have hl := flat_length (fun p : Int × Int => [Value.int .i64 p.1, .int .i64 p.2]) 2 (fun _ => rfl) ps
  have hlt : k < ps.length := (List.getElem?_eq_some_iff.1 hk).1
  obtain ⟨b, off, rfl, hB, hc⟩ := h.open_ (by unfold ptCs; rw [hl]; omega)
  have g := flat_get (fun p : Int × Int => [Value.int .i64 p.1, .int .i64 p.2]) 2 (fun _ => rfl) ps k p hk
  exact ⟨b, off, rfl, hB, hc _ _ (g 0 (by omega)), hc _ _ (g 1 (by omega))⟩
theorem Sl.rec_ {ps : List (Int × Int)} (h : Sl w B A (recCs ps)) {k : Nat} {p : Int × Int} (hk : ps[k]? = some p) :
    ∃ b off, A = some ⟨b, off, none⟩ ∧ b < B ∧ w.cell? ⟨b, off + k * 2, none⟩ = some (.int .u64 p.1) ∧ w.cell? ⟨b, off + k * 2 + 1, none⟩ = some (.int .u64 p.2) := by
  have hl := flat_length (fun p : Int × Int => [Value.int .u64 p.1, .int .u64 p.2]) 2 (fun _ => rfl) ps
  have hlt : k < ps.length := (List.getElem?_eq_some_iff.1 hk).1
  obtain ⟨b, off, rfl, hB, hc⟩ := h.open_ (by unfold recCs; rw [hl]; omega)
  have g := flat_get (fun p : Int × Int => [Value.int .u64 p.1, .int .u64 p.2]) 2 (fun _ => rfl) ps k p hk
  exact ⟨b, off, rfl, hB, hc _ _ (g 0 (by omega)), hc _ _ (g 1 (by omega))⟩
theorem Sl.qu {qs : List ((Int × Int) × Int)} (h : Sl w B A (quCs qs)) {k : Nat} {q : (Int × Int) × Int} (hk : qs[k]? = some q) :
    ∃ b off, A = some ⟨b, off, none⟩ ∧ b < B ∧ w.cell? ⟨b, off + k * 3, none⟩ = some (.int .i64 q.1.1) ∧ w.cell? ⟨b, off + k * 3 + 1, none⟩ = some (.int .i64 q.1.2) ∧ w.cell? ⟨b, off + k * 3 + 2, none⟩ = some (.int .u64 q.2) := by
  have hl := flat_length (fun q : (Int × Int) × Int => [Value.int .i64 q.1.1, .int .i64 q.1.2, .int .u64 q.2]) 3 (fun _ => rfl) qs
  have hlt : k < qs.length := (List.getElem?_eq_some_iff.1 hk).1
  obtain ⟨b, off, rfl, hB, hc⟩ := h.open_ (by unfold quCs; rw [hl]; omega)
  have g := flat_get (fun q : (Int × Int) × Int => [Value.int .i64 q.1.1, .int .i64 q.1.2, .int .u64 q.2]) 3 (fun _ => rfl) qs k q hk
  exact ⟨b, off, rfl, hB, hc _ _ (g 0 (by omega)), hc _ _ (g 1 (by omega)), hc _ _ (g 2 (by omega))⟩
end

theorem flat_take_succ {α β : Type} (f : α → List β) (l : List α) (k : Nat) (a : α) (h : l[k]? = some a) : (l.take (k + 1)).flatMap f = (l.take k).flatMap f ++ f a := by
  rw [List.take_add_one, h]; simp
theorem flat_len {α β : Type} (f : α → List β) (n : Nat) (hf : ∀ a, (f a).length = n) (l : List α) : (l.flatMap f).length = l.length * n := by
  induction l with
  | nil => simp
  | cons a l ih => rw [List.flatMap_cons, List.length_append, ih, hf, List.length_cons, Nat.succ_mul]; omega

section
variable (P : Nat → Prop) (g : Nat) (bs : List Int) (w : World) (B : Nat) (A : Option Addr) (c : Nat)
variable (hP : ∀ k, P k → k < w.heap.size) (hw : WS w P g bs) (hlen : bs.length ≤ 400000) (hB : ∀ k, k < B → P k)
include hP hw hlen hB
set_option maxRecDepth 100000 in
set_option maxHeartbeats 2000000 in
theorem eachPt_any (ps : List (Int × Int)) (hs : Sl w B A (ptCs ps)) (hn : ps.length ≤ 10000) :
    Calls Tryz.prog 44 #[.slice A ps.length c, .func (.func 45) #[.pointer (some ⟨g, 0, none⟩)] #[]] w fun e w' => e = .returned (.tuple #[]) ∧ KeepP P w w' ∧ WS w' P g (bs ++ ps.flatMap pt16) := by
  have HP := hide hP; clear hP
  have HB := hide hB; clear hB
  go_enter Tryz.func44, Tryz.ntmps44
  go_wp2
  go_loopw [8] (fun i wr => ∃ k : Nat, k ≤ ps.length ∧ i = .int .i64 k ∧ KeepP P w wr ∧ WS wr P g (bs ++ (ps.take k).flatMap pt16))
    (fun i _ => ps.length - (intOf i).toNat)
  case atStart => exact ⟨0, by omega, rfl, KeepP.refl _ _, by simpa using hw⟩
  case round =>
    obtain ⟨k, hk, rfl, hbr, hwr⟩ := hrel
    by_cases hlt : k < ps.length
    · obtain ⟨p, hp⟩ : ∃ p, ps[k]? = some p := ⟨_, List.getElem?_eq_getElem hlt⟩
      obtain ⟨b, off, rfl, hbB, c0, c1⟩ := (hs.kept hbr HB.out).pt hp
      have hfl := flat_len pt16 16 pt16_length (ps.take k)
      have hln : (bs ++ (ps.take k).flatMap pt16).length ≤ 900000 := by rw [List.length_append, hfl, List.length_take]; omega
      have hts := flat_take_succ pt16 ps k p hp
      have HT := hide hts
      clear hts hp hfl
      have hbl := cell_lt c0
      go_wp2_with fail
      refine (point_any P g _ _ (fun j hj => Nat.lt_of_lt_of_le (Nat.lt_of_lt_of_le (HP.out j hj) hbr.size) (by simp)) (hwr.step (bl_alloc (Below.refl _ _) _)) hln p.1 p.2).mono ?_
      rintro e w1 ⟨rfl, k1, s1⟩
      have hk2 := KeepP.trans (KeepP.of_below (P := P) (bl_alloc (Below.refl _ _) _) (fun j hj => Nat.lt_of_lt_of_le (HP.out j hj) hbr.size)) k1
      go_wp2
      go_roundw
      case rel => exact ⟨k + 1, by omega, by go_num, hbr.trans hk2, by rw [HT.out, ← List.append_assoc]; exact s1⟩
      case measure => simp [intOf]; omega
    · have hk' : k = ps.length := by omega
      subst hk'
      rw [List.take_length] at hwr
      go_wp2
      go_end0
      exact ⟨rfl, hbr, hwr⟩


set_option maxRecDepth 100000 in
set_option maxHeartbeats 2000000 in
theorem eachQu_any (ps : List ((Int × Int) × Int)) (hs : Sl w B A (quCs ps)) (hn : ps.length ≤ 10000) :
    Calls Tryz.prog 46 #[.slice A ps.length c, .func (.func 47) #[.pointer (some ⟨g, 0, none⟩)] #[]] w fun e w' => e = .returned (.tuple #[]) ∧ KeepP P w w' ∧ WS w' P g (bs ++ ps.flatMap q24) := by
  have HP := hide hP; clear hP
  have HB := hide hB; clear hB
  go_enter Tryz.func46, Tryz.ntmps46
  go_wp2
  go_loopw [8] (fun i wr => ∃ k : Nat, k ≤ ps.length ∧ i = .int .i64 k ∧ KeepP P w wr ∧ WS wr P g (bs ++ (ps.take k).flatMap q24))
    (fun i _ => ps.length - (intOf i).toNat)
  case atStart => exact ⟨0, by omega, rfl, KeepP.refl _ _, by simpa using hw⟩
  case round =>
    obtain ⟨k, hk, rfl, hbr, hwr⟩ := hrel
    by_cases hlt : k < ps.length
    · obtain ⟨p, hp⟩ : ∃ p, ps[k]? = some p := ⟨_, List.getElem?_eq_getElem hlt⟩
      obtain ⟨b, off, rfl, hbB, c0, c1, c2⟩ := (hs.kept hbr HB.out).qu hp
      have hfl := flat_len q24 24 q24_length (ps.take k)
      have hln : (bs ++ (ps.take k).flatMap q24).length ≤ 900000 := by rw [List.length_append, hfl, List.length_take]; omega
      have hts := flat_take_succ q24 ps k p hp
      have HT := hide hts
      clear hts hp hfl
      have hbl := cell_lt c0
      go_wp2_with fail
      refine (query_any P g _ _ (fun j hj => Nat.lt_of_lt_of_le (Nat.lt_of_lt_of_le (HP.out j hj) hbr.size) (by simp)) (hwr.step (bl_alloc (Below.refl _ _) _)) hln p.1.1 p.1.2 p.2).mono ?_
      rintro e w1 ⟨rfl, k1, s1⟩
      have hk2 := KeepP.trans (KeepP.of_below (P := P) (bl_alloc (Below.refl _ _) _) (fun j hj => Nat.lt_of_lt_of_le (HP.out j hj) hbr.size)) k1
      go_wp2
      go_roundw
      case rel => exact ⟨k + 1, by omega, by go_num, hbr.trans hk2, by rw [HT.out, ← List.append_assoc]; exact s1⟩
      case measure => simp [intOf]; omega
    · have hk' : k = ps.length := by omega
      subst hk'
      rw [List.take_length] at hwr
      go_wp2
      go_end0
      exact ⟨rfl, hbr, hwr⟩

end
end Go.Proofs.YtgbimniloabjkaaGreatDoor
