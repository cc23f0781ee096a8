/- Response RefResponse -/
import Derived.Test.YtpnoofphfomjoaaGreatDoorPkM01
set_option maxRecDepth 1000000
set_option maxHeartbeats 8000000
namespace Go.Proofs.YtpnoofphfomjoaaGreatDoor
section
open Go.RowKit
section
variable (vs:Int) (rs:List Rg) (A:Option Addr) (c:Nat) (pts:Int) (w:World)
variable (hs:Sl w w.heap.size A (rgCells rs)) (hn:rs.length≤maxLen)
include hs hn
theorem response_any (op:Int) :
 Calls Tryz.prog 74 #[.agg #[.int .i64 op,.int .i64 vs,.slice A rs.length c,.int .i64 pts]] w fun e w'=>e=.returned (.int .i64 (hresp op vs rs pts))∧Below w.heap.size w w':=by
 have hs':=hide hs;clear hs
 go_enter Tryz.func74,Tryz.ntmps74
 go_wp2_with fail
 refine (check_any vs rs A c pts _ ((hs'.out.below (bA)).more (by simp)) hn op).mono ?_
 rintro e w1 ⟨rfl,hb⟩
 obtain ⟨hcl,hfr⟩:=bcell hb
 by_cases h0:hcheck op vs rs pts=0
 · rw [h0]
   by_cases h5:op=5
   · subst h5
     have hp:=(hcheck_zero h0).2.2.2.2.2.2.1 rfl
     have H0:=hide h0;clear h0
     obtain ⟨hp1,hp2⟩:=hp
     go_wp2
     go_ret
     exact ⟨ret_int (by unfold hresp;rw [if_pos H0.out,if_pos rfl]),bl_step (bA) hb⟩
   · have h5':(op == 5)=false:=by simpa using h5
     have H0:=hide h0;clear h0
     have H5:=hide h5;clear h5
     go_wp2
     go_ret
     exact ⟨ret_int (by unfold hresp;rw [if_pos H0.out,if_neg H5.out]),bl_step (bA) hb⟩
 · have hr:hresp op vs rs pts=0:=by unfold hresp;rw [if_neg h0]
   have h0':(hcheck op vs rs pts != 0)=true:=by simpa using h0
   generalize hcheck op vs rs pts=x at *
   have H0:=hide h0;clear h0
   have HR:=hide hr;clear hr
   go_wp2
   go_ret
   exact ⟨ret_int HR.out.symm,bl_step (bA) hb⟩
end
end
section
open Go.RowKit
section
variable (op vs pts:Int) (rs:List Rg) (A:Option Addr) (c:Nat) (w:World) (hz:hcheck op vs rs pts=0)
include hz
theorem rresponse_any :
 Calls Tryz.prog 31 #[.agg #[.int .i64 op,.int .i64 vs,.slice A rs.length c,.int .i64 pts]] w fun e w'=>e=.returned (.int .i64 (hresp op vs rs pts))∧Below w.heap.size w w':=by
 have hp:=(hcheck_zero hz).2.2.2.2.2.2.1
 have hr:hresp op vs rs pts=if op=5 then 4+pts*9 else 2:=by unfold hresp;rw [if_pos hz]
 have HZ:=hide hz;clear hz
 have HR:=hide hr;clear hr
 by_cases h5:op=5
 · obtain ⟨hp1,hp2⟩:=hp h5
   clear hp
   subst h5
   go_enter Tryz.func31,Tryz.ntmps31
   go_wp2
   go_ret
   exact ⟨ret_int (by rw [HR.out,if_pos trivial];omega),bA⟩
 · have h5':(op == 5)=false:=by simpa using h5
   clear hp
   have H5:=hide h5;clear h5
   go_enter Tryz.func31,Tryz.ntmps31
   go_wp2
   go_ret
   exact ⟨ret_int (by rw [HR.out,if_neg H5.out]),bA⟩
end
end
end Go.Proofs.YtpnoofphfomjoaaGreatDoor
