/- HeaderIsCanonical walked. -/
import Derived.Test.YtnnglpohkhjggaaDoorLawPrefixes
namespace Go.Proofs.YtnnglpohkhjggaaDoor
open Go.RowKit

def ErrOk (r : PH × Int × Int) : Prop := r.2.2 ≠ 0 → r.2.1 = 0
theorem errOk_err (e : Int) : ErrOk (phZero, 0, e) := fun _ => rfl
theorem hparse_err (bs : List Int) : ErrOk (hparse bs) := by
  unfold hparse
  repeat' (refine ite_ok (fun _ => ?_) (fun _ => ?_))
  all_goals first | exact errOk_err _ | exact fun h => absurd rfl h

section
variable (bs : List Int) (A : Option Addr) (c : Nat) (w : World)
variable (hs : Sl w w.heap.size A (byCells bs)) (hcap : bs.length ≤ c) (hby : ∀ (j : Nat) (x : Int), bs[j]? = some x → 0 ≤ x ∧ x ≤ 255) (hmax : bs.length ≤ maxLen)
variable (hfix : Fixed w) (hg : 0 < w.heap.size)
include hs hcap hby hmax hfix hg

set_option maxRecDepth 100000 in
set_option maxHeartbeats 2000000 in
theorem lawCanon : Calls Tryd.prog 9 #[.slice A bs.length c] w fun e w' => e = .returned (.bool true) ∧ Below w.heap.size w w' := by
  have hlen := hparse_len bs
  have hok := hparse_ok bs
  have hcan := hparse_canonical bs hby
  have herr := hparse_err bs
  have P := parse_any bs A c w hs hcap hby
  revert P hlen hok hcan herr
  generalize hparse bs = r
  obtain ⟨⟨op, vs, rs, pts⟩, n, er⟩ := r
  intro hlen hok hcan herr P
  have hok' : er = 0 → hcheck op vs rs pts = 0 := hok
  have hcan' : er = 0 → fbytes op vs rs pts = bs.take n.toNat ∧ 1 ≤ n ∧ n ≤ bs.length := hcan
  have herr' : er ≠ 0 → n = 0 := herr
  clear hok hcan herr
  have hrl : rs.length ≤ maxLen := Nat.le_trans hlen hmax
  have HP := hide P; clear P
  have HF := hide hfix; clear hfix
  have HS := hide hs; clear hs
  clear hlen hby
  unfold maxLen at hmax
  by_cases he : er = 0
  · obtain ⟨hf, hn1, hn2⟩ := hcan' he
    have hz := hok' he
    obtain ⟨hl1, _⟩ := fbytes_len hz
    clear hok' hcan' herr'
    subst he
    have hlf : (fbytes op vs rs pts).length = n.toNat := by rw [hf, List.length_take]; omega
    have hff : hformat op vs rs pts = (fbytes op vs rs pts, 0) := by unfold hformat; rw [if_pos hz]
    obtain ⟨m, hm⟩ := Int.eq_ofNat_of_zero_le (show 0 ≤ n by omega)
    subst hm
    rw [Int.toNat_natCast] at hlf hf
    have HFM := hide hff; clear hff
    have HLF := hide hlf; clear hlf
    have HFB := hide hf; clear hf
    have HZ := hide hz; clear hz hl1
    have HRL := hide hrl; clear hrl
    go_enter Tryd.func9, Tryd.ntmps9
    go_wp2_with fail
    refine HP.out.mono ?_
    rintro e w1 ⟨A1, c1, rfl, hsl1, hb1⟩
    dsimp only at hsl1
    go_wp2_with fail
    have F := format_any vs rs A1 c1 pts (w1.alloc (.cells #[.int .i64 op, .int .i64 vs, .slice A1 rs.length c1, .int .i64 pts] 25)) ((hsl1.below (bl_alloc (Below.refl _ _) _)).more (by simp)) HRL.out op
    rw [HFM.out] at F
    refine F.mono ?_
    clear F
    rintro e w2 ⟨v, rfl, hown, hb2⟩
    dsimp only at hown ⊢
    rw [HLF.out] at hown
    have hB2 := bl_step (bl_alloc hb1 _) hb2
    obtain ⟨A2, c2, rfl, hc2⟩ := own_slice hown
    have hsl := Sl.of_own hown
    rw [HFB.out] at hsl
    clear hown
    go_wp2_with fail
    obtain ⟨q1, q2⟩ := fixed_at w HF.out hg hB2
    refine (alive_true _ q1 q2).mono ?_
    clear q1 q2
    rintro e w3 ⟨rfl, hb3⟩
    go_wp2_with fail
    have hB3 := bl_step hB2 hb3
    refine (hasPrefix_true bs m A A2 c c2 w3 ((HS.out.below hB3).more hB3.size) ((hsl.below hb3).more hb3.size) (by omega) hcap).mono ?_
    rintro e w4 ⟨rfl, rfl⟩
    go_wp2
    go_ret
    exact ⟨rfl, hB3⟩
  · have hn := herr' he
    subst hn
    have he' : (er != 0) = true := by rw [bne_iff_ne]; exact he
    clear hok' hcan' herr'
    have HE := hide he; clear he
    go_enter Tryd.func9, Tryd.ntmps9
    go_wp2_with fail
    refine HP.out.mono ?_
    rintro e w1 ⟨A1, c1, rfl, hsl1, hb1⟩
    go_wp2_with fail
    have hB1 := bl_alloc hb1 (.cells #[.int .i64 op, .int .i64 vs, .slice A1 rs.length c1, .int .i64 pts] 25)
    obtain ⟨q1, q2⟩ := fixed_at w HF.out hg hB1
    refine (alive_true _ q1 q2).mono ?_
    clear q1 q2
    rintro e w3 ⟨rfl, hb3⟩
    go_wp2
    go_ret
    exact ⟨rfl, bl_step hB1 hb3⟩
end
end Go.Proofs.YtnnglpohkhjggaaDoor
