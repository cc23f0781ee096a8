/- The reference's wordAt. -/
import Derived.Test.YtcfbkabiapaobaaDoorReader
namespace Go.Proofs.YtcfbkabiapaobaaDoor
open Go.RowKit

theorem le_step2 {x b : Int} {k : Nat} (hk : k < 8) (h0 : 0 ≤ x) (h1 : x < 256 ^ k) (b0 : 0 ≤ b) (b1 : b ≤ 255) : IntKind.u64.wrap (x * 256) = x * 256 ∧ IntKind.u64.wrap (x * 256 + b) = x * 256 + b := by
  have hp : (256 : Int) ^ (k + 1) ≤ 18446744073709551616 := (by decide : ∀ k, k < 8 → (256 : Int) ^ (k + 1) ≤ 18446744073709551616) k hk
  rw [Int.pow_succ] at hp
  rw [IntKind.wrap_u64, IntKind.wrap_u64]
  exact ⟨Int.emod_eq_of_lt (by omega) (by omega), Int.emod_eq_of_lt (by omega) (by omega)⟩

set_option maxRecDepth 100000 in
set_option maxHeartbeats 2000000 in
theorem wordAt_any (bs : List Int) (A : Option Addr) (c B : Nat) (w : World) (hs : Sl w B A (byCells bs)) (hby : By bs) (hbl : bs.length ≤ 1000000) (at_ : Nat) (h8 : at_ + 8 ≤ bs.length) :
    Calls Tryd.prog 30 #[.slice A bs.length c, .int .i64 (at_ : Int)] w fun e w' => e = .returned (.int .u64 (le ((bs.drop at_).take 8))) ∧ w = w' := by
  obtain ⟨b, off, rfl, hb, hcell⟩ := hs.by_ (by omega)
  have HC := hide hcell; clear hcell hs
  have HBY := hide hby; clear hby
  go_enter Tryd.func30, Tryd.ntmps30
  go_wp2
  go_loop [5, 6] (fun x i => ∃ (k : Nat) (y : Int), k ≤ 8 ∧ i = .int .i64 (7 - (k : Int)) ∧ x = .int .u64 y ∧ y = le ((bs.drop (at_ + (8 - k))).take k))
    (fun _ i => (intOf i + 1).toNat)
  case atStart => exact ⟨0, 0, by omega, rfl, rfl, by simp [le]⟩
  case round =>
    obtain ⟨k, y, hk, rfl, rfl, hy⟩ := hrel
    have HY := hide hy; clear hy
    by_cases hlt : k < 8
    · have hi : at_ + (7 - k) < bs.length := by omega
      obtain ⟨x, hx⟩ : ∃ x, x = bs[at_ + (7 - k)] := ⟨_, rfl⟩
      have hx01 := HBY.out _ (List.getElem_mem hi)
      rw [← hx] at hx01
      obtain ⟨hx0, hx1⟩ := hx01
      have c0 := HC.out (at_ + (7 - k)) x (by rw [hx]; exact List.getElem?_eq_getElem hi)
      have hyb := le_bd ((bs.drop (at_ + (8 - k))).take k) ((HBY.out.drop _).take _)
      rw [← HY.out, List.length_take, List.length_drop, Nat.min_eq_left (by omega)] at hyb
      obtain ⟨hy0, hy1⟩ := hyb
      obtain ⟨m1, m2⟩ := le_step2 hlt hy0 hy1 hx0 hx1
      have HSN : Hid (le ((bs.drop (at_ + (8 - (k + 1)))).take (k + 1)) = y * 256 + x) := by
        apply hide
        have e : at_ + (8 - (k + 1)) = at_ + (7 - k) := by omega
        have e2 : at_ + (7 - k) + 1 = at_ + (8 - k) := by omega
        rw [e, List.drop_eq_getElem_cons hi, List.take_succ_cons, e2, le, ← hx, ← HY.out]
        omega
      have hadd : IntKind.i64.wrap ((at_ : Int) + (7 - (k : Int))) = (at_ : Int) + (7 - (k : Int)) := by rw [IntKind.wrap_i64]; omega
      have hidx : ((at_ : Int) + (7 - (k : Int))).toNat = at_ + (7 - k) := by omega
      have hk0 : (0 : Int) ≤ 7 - (k : Int) := by omega
      have hi0 : (0 : Int) ≤ (at_ : Int) + (7 - (k : Int)) := by omega
      have hi1 : (at_ : Int) + (7 - (k : Int)) < (bs.length : Int) := by omega
      have HX := hide hx; clear hx hy1
      go_wp2
      go_round
      case rel => exact ⟨k + 1, y * 256 + x, by omega, by congr 1; omega, rfl, HSN.out.symm⟩
      case measure => simp [intOf]; omega
    · have hk' : k = 8 := by omega
      subst hk'
      go_wp2
      go_ret
      exact ⟨ret_int (by rw [HY.out]; simp), rfl⟩
end Go.Proofs.YtcfbkabiapaobaaDoor
