/- RefEv21 -/
import Derived.Test.YtpnoofphfomjoaaGreatDoorPkM18
import Derived.Test.YtpnoofphfomjoaaGreatDoorPkM42
import Derived.Test.YtpnoofphfomjoaaGreatDoorPkN11
set_option maxRecDepth 1000000
set_option maxHeartbeats 8000000
namespace Go.Proofs.YtpnoofphfomjoaaGreatDoor
section
open Go.RowKit Go.Shelf
theorem rev21 (op vs pts:Int) (rs:List Rg) (HA:Option Addr) (hc:Nat) (w:World) (hh:Sl w w.heap.size HA (rgCells rs)) (hz:hcheck op vs rs pts=0) (h100:op=5→pts≤100) :
 Calls Tryz.prog 72 #[.agg #[.int .i64 op,.int .i64 vs,.slice HA rs.length hc,.int .i64 pts]] w (Evs (evH21 op vs rs pts) w):=by
 obtain ⟨-,-,c3,-,c5,-,c7,-⟩:=hcheck_zero hz
 have N0:=Blk.new w 24 #[.int .i64 op,.int .i64 vs,.slice HA rs.length hc,.int .i64 pts]
 have hb0:=bl_alloc (Below.refl w.heap.size w) (.cells #[.int .i64 op,.int .i64 vs,.slice HA rs.length hc,.int .i64 pts] 24)
 have b0:=N0.cell (i:=0) rfl
 have b1:=N0.cell (i:=1) rfl
 have b2:=N0.cell (i:=2) rfl
 have b3:=N0.cell (i:=3) rfl
 by_cases h5:op=5
 · subst h5
   obtain ⟨l1,l64,hwr⟩:=c5 (by omega)
   obtain ⟨p1,-⟩:=c7 rfl
   have p100:=h100 rfl
   obtain ⟨n,rfl⟩:∃ n:Nat,pts=(n:Int):=⟨pts.toNat,by omega⟩
   have H:=hide (rev20 rs HA hc n _ ((hh.below hb0).more hb0.size) l64 (rg_sizes hwr) (by omega) (by omega))
   have he:evH21 5 vs rs (n:Int)=evB rs n:=rfl
   rw [he]
   clear c3 c5 c7 hwr hz h100 hh he N0 p1 p100 l1 l64
   go_enter Tryz.func72,Tryz.ntmps72
   go_wp2_with fail
   refine H.out.mono ?_
   rintro e w1 ⟨v,rfl,hown,hb1⟩
   obtain ⟨A,c,rfl,_⟩:=own_slice hown
   go_wp2
   go_ret
   exact ⟨A,c,rfl,Sl.of_own hown,bl_step hb0 hb1⟩
 · have H:=hide (revents_any op vs pts rs HA hc _ ((hh.below hb0).more hb0.size) c3 (fun h=>⟨(c5 (by omega)).1,(c5 (by omega)).2.1,rg_sizes (c5 (by omega)).2.2⟩))
   have he:evH21 op vs rs pts=evH op vs rs:=if_neg h5
   rw [he]
   clear c3 c5 c7 hz h100 hh he N0
   go_enter Tryz.func72,Tryz.ntmps72
   go_wp2_with fail
   refine H.out.mono ?_
   rintro e w1 ⟨A,c,rfl,hs,hb1⟩
   go_wp2
   go_ret
   exact ⟨A,c,rfl,hs,bl_step hb0 hb1⟩
section
variable (bs:List Int) (A:Option Addr) (c:Nat) (w:World)
variable (hs:Sl w w.heap.size A (byCells bs)) (hby:By bs) (h100:(hdecode bs).1.qs.length≤100)
include hby h100
theorem ev_pts (hc:hclass bs=0):(hparse bs).1.op=5→(hparse bs).1.pts≤100:=fun h5=>by
 have h:=(serveEv_head hby hc).2.2
 unfold cntQ at h
 rw [if_neg (by omega)] at h
 omega
theorem serveEv_len:(serveEv bs).length≤1000000:=by
 by_cases hc:hclass bs=0
 · obtain ⟨he,hz,_⟩:=serveEv_head hby hc
   have hp:=ev_pts bs hby h100 hc
   obtain ⟨_,_,c3,_,c5,_,c7,_⟩:=hcheck_zero hz
   rw [he]
   obtain ⟨⟨op,vs,rs,pts⟩,hP⟩:∃ r,r=(hparse bs).1:=⟨_,rfl⟩
   rw [← hP] at hp c3 c5 c7 ⊢
   dsimp only at hp c3 c5 c7 ⊢
   unfold evH21
   by_cases h5:op=5
   · rw [if_pos h5]
     have h1:=hp h5
     have h2:=c7 h5
     obtain ⟨_,l64,_⟩:=c5 (by omega)
     have a1:=hvEv_length 0 rs
     have a2:=hitemEv_len l64 pts.toNat
     have a3:=cntEv_len pts.toNat
     have a4:=pairEv_len (netw (lg pts.toNat))
     have a5:=netw_100 (n:=pts.toNat) (by omega)
     unfold evB
     rw [List.length_append,List.length_append,List.length_append]
     omega
   · rw [if_neg h5]
     unfold evH
     split
     · have a1:=rgVEv_len vs.toNat
       have a2:=locEv_length (List.range (edgeN vs.toNat))
       have a3:=(edgeN_le vs.toNat).2
       rw [List.length_range] at a2
       rw [List.length_append]
       omega
     · split
       · obtain ⟨_,l64,_⟩:=c5 (by omega)
         have a1:=hvEv_length 0 rs
         have a2:=hmEv_65 0 rs
         rw [List.length_append]
         omega
       · simp
 · rw [serveEv_bad hc];simp
include hs
theorem revOf:Calls Tryz.prog 27 #[.slice A bs.length c] w (Evs (serveEv bs) w):=by
 have hby':∀ (j:Nat) (x:Int),bs[j]?=some x→0≤x∧x≤255:=fun j x h=>hby x (List.mem_of_getElem? h)
 have HCL:=hide (rclassify_any bs A c w hs hby')
 have HPA:=hide (fun (w':World) (hb:Below w.heap.size w w')=>rparse_any bs A c w' ((hs.below hb).more hb.size) hby')
 by_cases hc:hclass bs=0
 · obtain ⟨he,hz,-⟩:=serveEv_head hby hc
   have hp:=ev_pts bs hby h100 hc
   rw [he]
   rw [hc] at HCL
   obtain ⟨⟨⟨op,vs,rs,pts⟩,n,er⟩,hP⟩:∃ r,r=hparse bs:=⟨_,rfl⟩
   rw [← hP] at HPA hz hp ⊢
   dsimp only at hz hp ⊢
   have HEV:=hide (fun (w':World) (B:Option Addr) (k:Nat) (h:Sl w' w'.heap.size B (rgCells rs))=>rev21 op vs pts rs B k w' h hz hp)
   clear hP he hz hp hc hs hby hby' h100
   go_enter Tryz.func27,Tryz.ntmps27
   go_wp2_with fail
   refine HCL.out.mono ?_
   rintro e w1 ⟨rfl,hb1⟩
   clear HCL
   go_wp2_with fail
   refine (HPA.out w1 hb1).mono ?_
   rintro e w2 ⟨PA,pc,rfl,hs2,hb2⟩
   dsimp only at hs2 ⊢
   have HB2:=bl_step hb1 hb2
   have N3:=Blk.new w2 24 #[.int .i64 op,.int .i64 vs,.slice PA rs.length pc,.int .i64 pts]
   have hb3:=bl_alloc (Below.refl w2.heap.size w2) (.cells #[.int .i64 op,.int .i64 vs,.slice PA rs.length pc,.int .i64 pts] 24)
   have E3:=hide (HEV.out _ PA pc ((hs2.below hb3).more hb3.size))
   have b0:=N3.cell (i:=0) rfl
   have b1:=N3.cell (i:=1) rfl
   have b2:=N3.cell (i:=2) rfl
   have b3:=N3.cell (i:=3) rfl
   clear hs2 HPA HEV N3
   go_wp2_with fail
   refine E3.out.mono ?_
   rintro e w4 ⟨EA,ec,rfl,hs4,hb4⟩
   go_wp2
   go_ret
   exact ⟨EA,ec,rfl,hs4,bl_step (bl_step HB2 hb3) hb4⟩
 · rw [serveEv_bad hc]
   have hne:(hclass bs != 0)=true:=by simpa using hc
   clear HPA hs hby hby' h100
   go_enter Tryz.func27,Tryz.ntmps27
   go_wp2_with fail
   refine HCL.out.mono ?_
   rintro e w1 ⟨rfl,hb1⟩
   clear HCL
   go_wp2
   go_ret
   exact ⟨none,0,rfl,Sl.nil _ _ _,hb1⟩
end
end
end Go.Proofs.YtpnoofphfomjoaaGreatDoor
