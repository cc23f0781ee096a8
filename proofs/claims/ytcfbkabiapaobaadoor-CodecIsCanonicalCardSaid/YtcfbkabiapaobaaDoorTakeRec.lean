/- codec.take over the reader's record. -/
import Derived.Test.YtcfbkabiapaobaaDoorReader
import Derived.Laws.MakeOwn
namespace Go.Proofs.YtcfbkabiapaobaaDoor
open Go.RowKit

/-- a block kept besides -/
def Plus (P : Nat → Prop) (b k : Nat) : Prop := P k ∨ k = b
theorem RS.plus {w : World} {P : Nat → Prop} {B g b : Nat} {bs : List Int} (h : RS w P B g bs) (hg : g ≠ b) : RS w (Plus P b) B g bs := by
  obtain ⟨A, c, h1, h2, h3, h4⟩ := h
  exact ⟨A, c, h1, fun hp => by rcases hp with hp | hp; exact h2 hp; exact hg hp, h3, h4⟩
def recAt (bs : List Int) (i : Nat) : Int × Int := (bs.getD (9 * i) 0, le ((bs.drop (9 * i + 1)).take 8))
def recsOf (bs : List Int) (n : Nat) : List (Int × Int) := (List.range n).map (recAt bs)
theorem recsOf_length (bs : List Int) (n : Nat) : (recsOf bs n).length = n := by simp [recsOf]
theorem recsOf_get (bs : List Int) {n i : Nat} (h : i < n) : (recsOf bs n)[i]? = some (recAt bs i) := by simp [recsOf, h]
theorem rec_split (bs : List Int) (k : Nat) (h : 9 * k + 9 ≤ bs.length) : bs.drop (9 * k) = (recAt bs k).1 :: ((bs.drop (9 * k + 1)).take 8 ++ bs.drop (9 * (k + 1))) := by
  have h0 : 9 * k < bs.length := by omega
  rw [List.drop_eq_getElem_cons h0]
  congr 1
  · simp [recAt, h0]
  · have : bs.drop (9 * (k + 1)) = (bs.drop (9 * k + 1)).drop 8 := by rw [List.drop_drop]; congr 1
    rw [this, List.take_append_drop]

theorem rec_info : (Tryd.prog.info? 92).map (fun i => (i.zero, i.size, i.bytes)) = some (some (.agg #[.int .u64 0, .int .u64 0]), 2, 16) := by kernel_rfl
theorem make_recs (n : Nat) (hn : n ≤ 1000000) (w : World) : (Instr.makeSlice 50 (.int .i64 (n : Int)) (.int .i64 (n : Int))).run Tryd.prog w = .ok (.slice (some ⟨w.heap.size, 0, none⟩) n n) (w.alloc (.cells (madeCells #[.int .u64 0, .int .u64 0] (n * 2)) 92)) := by
  obtain ⟨i, hi, hz0, hz1, hz2⟩ := info_parts rec_info
  have h := run_make (P := Tryd.prog) w 50 92 i _ Tryd.underlying50 hi hz0 .i64 .i64 n n (by omega) (Int.le_refl _) (by rw [hz2]; omega) (by omega)
  rw [hz1] at h
  simpa [Value.cells] using h

def TookRec (P : Nat → Prop) (B g : Nat) (bs : List Int) (n : Nat) (w : World) (e : Ending) (w' : World) : Prop :=
  ∃ A, e = .returned (.slice A n n) ∧ KeepP P w w' ∧ RS w' P B g (bs.drop (9 * n)) ∧ Sl w' w'.heap.size A (recCs (recsOf bs n)) ∧ ∀ x, A = some x → ¬ P x.block

theorem sl_of_cells {w : World} {g : Nat} {t : TypeId} {cs : Array Value} (h : Blk w g t cs) {xs : List Value} (hx : ∀ (j : Nat) u, xs[j]? = some u → cs[j]? = some u) : Sl w w.heap.size (some ⟨g, 0, none⟩) xs :=
  Sl.mk h.lt fun j u hu => by rw [Nat.zero_add]; exact h.cell (hx j u hu)
theorem pairs_get {α : Type} (f : α → List Value) (m : Nat) (hm : 0 < m) (hf : ∀ a, (f a).length = m) (l : List α) (cs : Array Value) (h : ∀ (i : Nat) (a : α), l[i]? = some a → ∀ j, j < m → cs[i * m + j]? = (f a)[j]?) :
    ∀ (j : Nat) u, (l.flatMap f)[j]? = some u → cs[j]? = some u := by
  intro j u hu
  have hl := flat_length f m hf l
  have hj : j < (l.flatMap f).length := (List.getElem?_eq_some_iff.1 hu).1
  have hi : j / m < l.length := by rw [hl] at hj; exact (Nat.div_lt_iff_lt_mul hm).2 hj
  have hd : j = j / m * m + j % m := by rw [Nat.mul_comm]; exact (Nat.div_add_mod j m).symm
  have h1 := flat_get f m hf l (j / m) l[j / m] (List.getElem?_eq_getElem hi) (j % m) (Nat.mod_lt _ hm)
  have h2 := h (j / m) l[j / m] (List.getElem?_eq_getElem hi) (j % m) (Nat.mod_lt _ hm)
  rw [← hd] at h1 h2
  rw [h2, ← h1]; exact hu

section
variable (P : Nat → Prop) (B g : Nat) (w : World) (hB : ∀ k, k < B → P k)
include hB
set_option maxRecDepth 100000 in
set_option maxHeartbeats 2000000 in
theorem takeRec_any (bs : List Int) (n : Nat) (hn : 9 * n ≤ bs.length) (hbl : bs.length ≤ 900000) (hby : By bs) (hP : ∀ k, P k → k < w.heap.size) (hr : RS w P B g bs) :
    Calls Tryd.prog 41 #[.int .i64 (n : Int), .func (.func 42) #[.pointer (some ⟨g, 0, none⟩)] #[]] w (TookRec P B g bs n w) := by
  have hmk := make_recs n (by omega)
  obtain ⟨w0, hw0⟩ : ∃ w0, w0 = w.alloc (.cells (madeCells #[.int .u64 0, .int .u64 0] (n * 2)) 92) := ⟨_, rfl⟩
  have hb : Below w.heap.size w w0 := by rw [hw0]; exact bl_alloc (Below.refl _ _) _
  have hz : w0.heap.size = w.heap.size + 1 := by rw [hw0]; simp
  have B0 : Blk w0 w.heap.size 92 (madeCells #[.int .u64 0, .int .u64 0] (n * 2)) := by rw [hw0]; exact Blk.new _ _ _
  have hgs : g ≠ w.heap.size := by have := hr.lt; omega
  have hnP : ¬ P w.heap.size := fun h => by have := hP _ h; omega
  have hr0 : RS w0 P B g bs := hr.step hb hB hP
  have hP0 : ∀ k, Plus P w.heap.size k → k < w0.heap.size := fun k hk => by
    rcases hk with hk | hk
    · have := hP k hk; omega
    · omega
  have hBp : ∀ k, k < B → Plus P w.heap.size k := fun k hk => .inl (hB k hk)
  have k0 : KeepP P w w0 := KeepP.of_below hb hP
  have HP := hide hP; have HP0 := hide hP0; have HB := hide hB; have HBP := hide hBp; have HZ := hide hz; have HBY := hide hby; have HGS := hide hgs; have HNP := hide hnP
  clear hP hP0 hB hBp hz hby hgs hnP
  go_enter Tryd.func41, Tryd.ntmps41
  go_wp2
  rw [← hw0]
  have HW0 := hide hw0; clear hw0
  go_loopw [11] (fun i wr => ∃ (k : Nat) (cs : Array Value), k ≤ n ∧ i = .int .i64 k ∧ KeepP P w wr ∧ RS wr P B g (bs.drop (9 * k)) ∧ Blk wr w.heap.size 92 cs ∧ cs.size = n * 2 ∧ ∀ j, j < k → cs[j * 2]? = some (.int .u64 (recAt bs j).1) ∧ cs[j * 2 + 1]? = some (.int .u64 (recAt bs j).2))
    (fun i _ => n - (intOf i).toNat)
  case atStart => exact ⟨0, _, by omega, rfl, k0, by simpa using hr0, B0, size_madeCells _ _, fun j hj => by omega⟩
  case round =>
    obtain ⟨k, cs, hk, rfl, hkp, hrs, hblk, hsz, hcs⟩ := hrel
    have HCS := hide hcs; clear hcs
    by_cases hlt : k < n
    · have hsp := rec_split bs k (by omega)
      rw [hsp] at hrs
      have hx : 0 ≤ (recAt bs k).1 ∧ (recAt bs k).1 ≤ 255 := HBY.out.drop (9 * k) _ (by rw [hsp]; simp)
      have hl8 : ((bs.drop (9 * k + 1)).take 8).length = 8 := by rw [List.length_take, List.length_drop]; omega
      have hbl8 : By ((bs.drop (9 * k + 1)).take 8) := (HBY.out.drop _).take _
      have hPr : ∀ j, Plus P w.heap.size j → j < wr.heap.size := fun j hj => Nat.lt_of_lt_of_le (HP0.out j hj) (by have := hkp.size; have := hblk.lt; have := HZ.out; omega)
      have C := rdrecord_any (Plus P w.heap.size) B g wr HBP.out (recAt bs k).1 ((bs.drop (9 * k + 1)).take 8) (bs.drop (9 * (k + 1))) hl8 hx hbl8 hPr (hrs.plus HGS.out) (by rw [List.length_drop]; omega)
      have e2 : le ((bs.drop (9 * k + 1)).take 8) = (recAt bs k).2 := rfl
      rw [e2] at C
      have HC := hide C
      have HSP := hide hsp
      clear C hx hl8 hbl8 hPr e2 hsp
      go_wp2_with fail
      refine HC.out.mono ?_
      rintro e w1 ⟨rfl, k1, r1⟩
      have B1 := hblk.kept k1 (.inr rfl)
      have q0 : k * 2 < cs.size := by omega
      have q1 : k * 2 + 1 < cs.size := by omega
      have c0 := B1.cell (i := k * 2) (Array.getElem?_eq_getElem q0)
      have c1 := B1.cell (i := k * 2 + 1) (Array.getElem?_eq_getElem q1)
      have f0 := B1.frozen (k * 2)
      have f1 := B1.frozen (k * 2 + 1)
      have hkn : (k : Int) < (n : Int) := by omega
      have r1' := r1.mono (R := P) (fun j hj => .inl hj)
      have r2 := (r1'.far HGS.out HNP.out HB.out (k * 2) (.int .u64 (recAt bs k).1)).far HGS.out HNP.out HB.out (k * 2 + 1) (.int .u64 (recAt bs k).2)
      have B2 := (B1.set (k * 2) (.int .u64 (recAt bs k).1)).set (k * 2 + 1) (.int .u64 (recAt bs k).2)
      have k2 := ((k1.mono (R := P) (fun j hj => .inl hj)).trans (KeepP.set HNP.out (k * 2) (.int .u64 (recAt bs k).1) w1)).trans (KeepP.set HNP.out (k * 2 + 1) (.int .u64 (recAt bs k).2) _)
      have H2 := hide r2; have HK2 := hide k2; have HB2 := hide B2
      clear r1 r1' r2 k2 B2
      go_wp2
      go_roundw
      case rel =>
        refine ⟨k + 1, _, by omega, by go_num, hkp.trans HK2.out, H2.out, HB2.out, by simpa using hsz, fun j hj => ?_⟩
        simp only [Array.getElem?_setIfInBounds, Array.size_setIfInBounds]
        by_cases hjk : j = k
        · subst hjk
          refine ⟨?_, ?_⟩
          · rw [if_neg (by omega), if_pos rfl, if_pos q0]
          · rw [if_pos rfl, if_pos q1]
        · have := HCS.out j (by omega)
          refine ⟨?_, ?_⟩
          · rw [if_neg (by omega), if_neg (by omega)]; exact this.1
          · rw [if_neg (by omega), if_neg (by omega)]; exact this.2
      case measure => simp [intOf]; omega
    · have hk' : k = n := by omega
      subst hk'
      go_wp2
      go_ret
      refine ⟨_, rfl, hkp, hrs, ?_, fun x hx => by cases hx; exact HNP.out⟩
      refine sl_of_cells hblk (pairs_get (fun p : Int × Int => [Value.int .u64 p.1, .int .u64 p.2]) 2 (by omega) (fun _ => rfl) _ _ fun i a ha j hj => ?_)
      have hi : i < k := by have := (List.getElem?_eq_some_iff.1 ha).1; rw [recsOf_length] at this; exact this
      rw [recsOf_get bs hi] at ha
      have ha' : recAt bs i = a := by simpa using ha
      have := HCS.out i hi
      rw [ha'] at this
      match j, hj with
      | 0, _ => exact this.1
      | 1, _ => exact this.2
end
end Go.Proofs.YtcfbkabiapaobaaDoor
