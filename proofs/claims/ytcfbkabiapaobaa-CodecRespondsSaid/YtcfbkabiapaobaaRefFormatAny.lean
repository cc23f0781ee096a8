/- The reference's Format, all headers. -/
import Derived.Test.YtcfbkabiapaobaaRefFormat2
import Derived.Test.YtcfbkabiapaobaaRefFormat3
import Derived.Test.YtcfbkabiapaobaaRefFormat4
namespace Go.Proofs.Ytcfbkabiapaobaa
open Go.RowKit

theorem rformat_any (op vs pts : Int) (rs : List Rg) (A : Option Addr) (c : Nat) (w : World) (hs : Sl w w.heap.size A (rgCells rs)) :
    Calls Try.prog 24 #[.agg #[.int .i64 op, .int .i64 vs, .slice A rs.length c, .int .i64 pts]] w (Formatted (hformat op vs rs pts) w) := by
  by_cases h0 : op < 1 ∨ 5 < op
  · exact rformat_bad vs rs A c pts w op h0
  by_cases h1 : op = 1
  · subst h1
    by_cases hv : vs = 0
    · rcases Nat.eq_zero_or_pos rs.length with hl | hl
      · have hl' := List.eq_nil_of_length_eq_zero hl
        by_cases hp : pts = 0
        · exact rformat_1_ok vs rs A c pts w hv hl' hp
        · exact rformat_1_pt vs rs A c pts w hv hl' hp
      · exact rformat_1_rs vs rs A c pts w hv hl
    · exact rformat_1_vs vs rs A c pts w hv
  by_cases h2 : op = 2
  · subst h2
    by_cases hv : vs = 0
    · rcases Nat.eq_zero_or_pos rs.length with hl | hl
      · have hl' := List.eq_nil_of_length_eq_zero hl
        by_cases hp : pts = 0
        · exact rformat_2_ok vs rs A c pts w hv hl' hp
        · exact rformat_2_pt vs rs A c pts w hv hl' hp
      · exact rformat_2_rs vs rs A c pts w hv hl
    · exact rformat_2_vs vs rs A c pts w hv
  by_cases h3 : op = 3
  · subst h3
    by_cases hv : vs < 3
    · exact rformat_3_lo vs rs A c pts w hv
    by_cases hv2 : 64 < vs
    · exact rformat_3_hi vs rs A c pts w hv2
    rcases Nat.eq_zero_or_pos rs.length with hl | hl
    · have hl' := List.eq_nil_of_length_eq_zero hl
      by_cases hp : pts = 0
      · exact rformat_3_ok vs rs A c pts w (by omega) (by omega) hl' hp
      · exact rformat_3_pt vs rs A c pts w (by omega) (by omega) hl' hp
    · exact rformat_3_rs vs rs A c pts w (by omega) (by omega) hl
  by_cases h4 : op = 4
  · subst h4
    by_cases hl : rs.length < 1
    · exact rformat_4_lo vs rs A c pts w hl
    by_cases hl2 : 64 < rs.length
    · exact rformat_4_hi vs rs A c pts w hl2
    · exact rformat_4_len vs rs A c pts w hs (by omega) (by omega)
  · have h5 : op = 5 := by omega
    subst h5
    by_cases hl : rs.length < 1
    · exact rformat_5_lo vs rs A c pts w hl
    by_cases hl2 : 64 < rs.length
    · exact rformat_5_hi vs rs A c pts w hl2
    · exact rformat_5_len vs rs A c pts w hs (by omega) (by omega)
end Go.Proofs.Ytcfbkabiapaobaa
