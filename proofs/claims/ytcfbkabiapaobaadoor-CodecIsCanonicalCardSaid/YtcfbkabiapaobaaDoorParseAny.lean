/- header.Parse and the reference's Parse: for every string of bytes, the same function. -/
import Derived.Test.YtcfbkabiapaobaaDoorParse3
import Derived.Test.YtcfbkabiapaobaaDoorRefParse2
import Derived.Test.YtcfbkabiapaobaaDoorRefParse3
namespace Go.Proofs.YtcfbkabiapaobaaDoor
open Go.RowKit

section
variable (bs : List Int) (A : Option Addr) (c : Nat) (w : World)
variable (hs : Sl w w.heap.size A (byCells bs)) (hcap : bs.length ≤ c) (hby : ∀ (j : Nat) (x : Int), bs[j]? = some x → 0 ≤ x ∧ x ≤ 255)
include hs hby

theorem rparse_any :
    Calls Tryd.prog 26 #[.slice A bs.length c] w (Parsed (hparse bs) w) := by
  by_cases h0 : bs.length < 1
  · exact rparse_short bs A c w h0
  have h0' : 0 < bs.length := by omega
  by_cases h1 : bs.getD 0 0 = 1 ∨ bs.getD 0 0 = 2
  · exact rparse_12 bs A c w hs hby h0' h1
  by_cases h2 : bs.getD 0 0 < 1 ∨ 5 < bs.getD 0 0
  · exact rparse_bad bs A c w hs hby h0' h2
  by_cases hl : bs.length = 1
  · exact rparse_one bs A c w hs hby hl (by omega)
  have hl2 : 2 ≤ bs.length := by omega
  by_cases h3 : bs.getD 0 0 = 3
  · by_cases hk : bs.getD 1 0 < 3 ∨ 64 < bs.getD 1 0
    · exact rparse_3bad bs A c w hs hby hl2 h3 hk
    · exact rparse_3ok bs A c w hs hby hl2 h3 (by omega)
  by_cases hk : bs.getD 1 0 < 1 ∨ 64 < bs.getD 1 0
  · exact rparse_kbad bs A c w hs hby hl2 (by omega) hk
  by_cases hsh : (bs.length : Int) < 2 + bs.getD 1 0
  · exact rparse_kshort bs A c w hs hby hl2 (by omega) (by omega) hsh
  obtain ⟨kn, hkn⟩ := Int.eq_ofNat_of_zero_le (show 0 ≤ bs.getD 1 0 by omega)
  by_cases h4 : bs.getD 0 0 = 4
  · exact rparse_regions4 bs A c w hs hby kn h4 hkn (by omega) (by omega) (by omega)
  · exact rparse_regions5 bs A c w hs hby kn (by omega) hkn (by omega) (by omega) (by omega)

include hcap

theorem parse_any :
    Calls Tryd.prog 18 #[.slice A bs.length c] w (Parsed (hparse bs) w) := by
  by_cases h0 : bs.length < 1
  · exact parse_short bs A c w h0
  have h0' : 0 < bs.length := by omega
  by_cases h1 : bs.getD 0 0 = 1 ∨ bs.getD 0 0 = 2
  · exact parse_12 bs A c w hs h0' h1
  by_cases h2 : bs.getD 0 0 < 1 ∨ 5 < bs.getD 0 0
  · exact parse_bad bs A c w hs hby h0' h2
  by_cases hl : bs.length = 1
  · exact parse_one bs A c w hs hl (by omega)
  have hl2 : 2 ≤ bs.length := by omega
  by_cases h3 : bs.getD 0 0 = 3
  · by_cases hk : bs.getD 1 0 < 3 ∨ 64 < bs.getD 1 0
    · exact parse_3bad bs A c w hs hby hl2 h3 hk
    · exact parse_3ok bs A c w hs hl2 h3 (by omega)
  by_cases hk : bs.getD 1 0 < 1 ∨ 64 < bs.getD 1 0
  · exact parse_kbad bs A c w hs hby hl2 (by omega) hk
  by_cases hsh : (bs.length : Int) < 2 + bs.getD 1 0
  · exact parse_kshort bs A c w hs hl2 (by omega) (by omega) hsh
  obtain ⟨kn, hkn⟩ := Int.eq_ofNat_of_zero_le (show 0 ≤ bs.getD 1 0 by omega)
  by_cases h4 : bs.getD 0 0 = 4
  · exact parse_regions4 bs A c w hs hcap hby kn h4 hkn (by omega) (by omega) (by omega)
  · exact parse_regions5 bs A c w hs hcap hby kn (by omega) hkn (by omega) (by omega) (by omega)
end
end Go.Proofs.YtcfbkabiapaobaaDoor
