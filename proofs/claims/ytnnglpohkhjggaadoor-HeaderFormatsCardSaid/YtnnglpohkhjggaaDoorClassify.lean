/- header.Classify, and the examples of the chapter ('alive'). -/
import Derived.Test.YtnnglpohkhjggaaDoorParseAny
namespace Go.Proofs.YtnnglpohkhjggaaDoor
open Go.RowKit

/-- the error of a request -/
def hclass (bs : List Int) : Int :=
  if (hparse bs).2.2 = 0 then (if (bs.length : Int) = (hparse bs).2.1 + hpay (hparse bs).1.op (hparse bs).1.vs (hparse bs).1.rs (hparse bs).1.pts then 0 else 8) else (hparse bs).2.2

theorem ite_ok {α : Type} {P : α → Prop} {c : Prop} [Decidable c] {a b : α} (ha : c → P a) (hb : ¬ c → P b) : P (if c then a else b) := by
  by_cases h : c
  · rw [if_pos h]; exact ha h
  · rw [if_neg h]; exact hb h
def LenOk (bs : List Int) (r : PH × Int × Int) : Prop := r.1.rs.length ≤ bs.length ∧ 0 ≤ r.2.1 ∧ r.2.1 ≤ 68
theorem hparse_lenOk (bs : List Int) : LenOk bs (hparse bs) := by
  unfold hparse
  repeat' (refine ite_ok (fun _ => ?_) (fun _ => ?_))
  all_goals refine ⟨?_, ?_, ?_⟩
  all_goals simp only [phZero, List.length_map, List.length_take, List.length_drop, List.length_nil]
  all_goals omega
theorem hparse_len (bs : List Int) : (hparse bs).1.rs.length ≤ bs.length := (hparse_lenOk bs).1
theorem hparse_n (bs : List Int) : 0 ≤ (hparse bs).2.1 ∧ (hparse bs).2.1 ≤ 68 := (hparse_lenOk bs).2
theorem hpay_bd (op vs : Int) (rs : List Rg) (pts : Int) : 0 ≤ hpay op vs rs pts ∧ hpay op vs rs pts ≤ 200000 := by
  unfold hpay
  split
  · rename_i h
    obtain ⟨a, b, c, d, e, f, g, i, _⟩ := hcheck_zero h
    have hs := sumSize_bd rs
    have hf : 0 ≤ fixedOf op ∧ fixedOf op ≤ 4 := by unfold fixedOf; split <;> (try split) <;> (try split) <;> omega
    have hl : rs.length ≤ 64 := by
      by_cases h4 : 4 ≤ op
      · exact (e h4).2.1
      · rw [f (by omega)]; simp
    have hv : 0 ≤ vs ∧ vs ≤ 64 := by omega
    have hp : 0 ≤ pts ∧ pts ≤ 4096 := by omega
    omega
  · omega
section
variable (bs : List Int) (A : Option Addr) (c : Nat) (w : World)
variable (hs : Sl w w.heap.size A (byCells bs)) (hcap : bs.length ≤ c) (hby : ∀ (j : Nat) (x : Int), bs[j]? = some x → 0 ≤ x ∧ x ≤ 255) (hmax : bs.length ≤ 9223372036854775807)
variable (hfix : Fixed w) (hg : 0 < w.heap.size)
include hs hcap hby hmax hfix hg

set_option maxRecDepth 100000 in
set_option maxHeartbeats 1000000 in
theorem classify_any :
    Calls Tryd.prog 14 #[.slice A bs.length c] w fun e w' => e = .returned (.int .i64 (hclass bs)) ∧ Below w.heap.size w w' := by
  have hlen := hparse_len bs
  have hpb := hpay_bd (hparse bs).1.op (hparse bs).1.vs (hparse bs).1.rs (hparse bs).1.pts
  have hnb := hparse_n bs
  obtain ⟨v, hv⟩ : ∃ v, v = hclass bs := ⟨_, rfl⟩
  unfold hclass at hv
  rw [show hclass bs = v from by rw [hv]; rfl]
  have P := parse_any bs A c w hs hcap hby
  revert P hv hlen hpb hnb
  generalize hparse bs = r
  obtain ⟨⟨op, vs, rs, pts⟩, n, er⟩ := r
  intro hlen hpb hnb hv P
  simp only at hlen hpb hnb hv
  have HV := hide hv; clear hv
  have HP := hide P; clear P
  have HPB := hide hpb; clear hpb
  have HNB := hide hnb; clear hnb
  go_enter Tryd.func14, Tryd.ntmps14
  go_wp2_with fail
  refine HP.out.mono ?_
  rintro e w1 ⟨A1, c1, rfl, hsl, hb1⟩
  simp only at hsl
  by_cases he : er = 0
  · subst he
    go_wp2_with fail
    refine (payload_any vs rs A1 c1 pts _ ((hsl.below (bl_alloc (Below.refl _ _) _)).more (by simp)) (by unfold maxLen; omega) (fun j hj => (World.cell?_alloc_lt _ _ _ (by have := hb1.size; simp; omega)).trans ((hfix.below hb1 hg) j hj)) (by have := hb1.size; simp) op).mono ?_
    rintro e w2 ⟨rfl, hb2⟩
    obtain ⟨hpb1, hpb2⟩ := HPB.out
    obtain ⟨hnb1, hnb2⟩ := HNB.out
    by_cases hq : (bs.length : Int) = n + hpay op vs rs pts
    · have hq' : ((bs.length : Int) != n + hpay op vs rs pts) = false := by rw [bne_eq_false_iff_eq]; exact hq
      have HQ := hide hq; clear hq
      go_wp2
      go_ret
      exact ⟨ret_int (by rw [HV.out, if_pos trivial, if_pos HQ.out]), bl_step (bl_alloc hb1 _) hb2⟩
    · have hq' : ((bs.length : Int) != n + hpay op vs rs pts) = true := by rw [bne_iff_ne]; exact hq
      have HQ := hide hq; clear hq
      go_wp2
      go_ret
      exact ⟨ret_int (by rw [HV.out, if_pos trivial, if_neg HQ.out]), bl_step (bl_alloc hb1 _) hb2⟩
  · have he' : (er == 0) = false := by simpa using he
    have HE := hide he; clear he
    go_wp2
    go_ret
    exact ⟨ret_int (by rw [HV.out, if_neg HE.out]), bl_alloc hb1 _⟩
end
end Go.Proofs.YtnnglpohkhjggaaDoor
