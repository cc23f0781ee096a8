/- Num22 -/
import Derived.ChangeAlike
import Derived.Test.YthnenedoblncjaaGreatDoorPkP16
import Derived.Test.YthnenedoblncjaaGreatDoorPkP33
set_option maxRecDepth 1000000
set_option maxHeartbeats 8000000
namespace Go.Proofs.YthnenedoblncjaaGreatDoor
section
open Go.RowKit Go.Shelf
theorem nat64 {n:Int} (hn:I64w n):n.natAbs<65536 ^ 4:=by
 unfold I64w at hn
 have h:n.natAbs≤9223372036854775808:=by omega
 exact Nat.lt_of_le_of_lt h (by decide)
theorem number22_any (n:Int) (hn:I64w n) (w:World):Calls Tryz.prog 39 #[.int .i64 n] w fun e w'=>e=.returned (.string (strOf (txt n)))∧Below w.heap.size w w':=by
 have HI:=hide (int_any (fun _=>True) n ⟨hn.1,hn.2⟩ w (fun _ _=>trivial))
 have HD:Hid ((digs n.natAbs).length≤100):=hide (Nat.le_trans (digs_len (k:=4) (nat64 hn)) (by decide))
 clear hn
 go_enter Tryz.func39,Tryz.ntmps39
 go_wp2_with fail
 refine HI.out.mono ?_
 rintro e w1 ⟨A,c,rfl,hna,hb1⟩
 have HN:=hide (number_any (fun _=>True) n A c w1 hna HD.out)
 have HB:=hide hb1
 clear hna hb1 HI
 unfold numV at HN ⊢
 go_wp2_with fail
 refine HN.out.mono ?_
 rintro e w2 ⟨rfl,hb2⟩
 have HB2:=hide (bl_step HB.out hb2)
 clear hb2
 go_wp2
 go_ret
 exact ⟨rfl,HB2.out⟩
end
end Go.Proofs.YthnenedoblncjaaGreatDoor
