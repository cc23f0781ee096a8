/- Large22 -/
import Derived.Deep.AppendLies
import Derived.Deep.RegionHeld
import Derived.Deep.RegionHeld3
import Derived.Deep.RegionLaw
import Derived.Laws.Externs
import Derived.OrdersHeld
import Derived.OrdersIn
import Derived.OwnWalkIn
import Derived.Shelf.Bits.Mul64
import Derived.Shelf.Spec.BitsCarry
import Derived.Test.YtfljlmleiggmjaaGreatDoorPkB48
import Derived.Test.YtfljlmleiggmjaaGreatDoorPkB50
import Derived.Test.YtfljlmleiggmjaaGreatDoorPkB52
set_option maxRecDepth 1000000
set_option maxHeartbeats 8000000
namespace Go.Proofs.YtfljlmleiggmjaaGreatDoor
section
open Go.RowKit Go.Shelf
theorem evH21_len {op vs:Int} {rs:List Rg} {pts:Int} (hz:hcheck op vs rs pts=0) (hp:op=5→pts≤100):(evH21 op vs rs pts).length≤1000000:=by
 obtain ⟨_,_,c3,_,c5,_,c7,_⟩:=hcheck_zero hz
 unfold evH21
 by_cases h5:op=5
 · rw [if_pos h5]
   have h1:=hp h5
   have h2:=c7 h5
   obtain ⟨_,l64,_⟩:=c5 (by omega)
   have a1:=hvEv_length 0 rs
   have a2:=hitemEv_len l64 pts.toNat
   have a3:=cntEv_len pts.toNat
   have a4:=pairEv_len (netw (lg pts.toNat))
   have a5:=netw_100 (n:=pts.toNat) (by omega)
   unfold evB
   rw [List.length_append,List.length_append,List.length_append]
   omega
 · rw [if_neg h5]
   unfold evH
   split
   · have a1:=rgVEv_len vs.toNat
     have a2:=locEv_length (List.range (edgeN vs.toNat))
     have a3:=(edgeN_le vs.toNat).2
     rw [List.length_range] at a2
     rw [List.length_append]
     omega
   · split
     · obtain ⟨_,l64,_⟩:=c5 (by omega)
       have a1:=hvEv_length 0 rs
       have a2:=hmEv_65 0 rs
       rw [List.length_append]
       omega
     · simp
theorem trEv_len {op vs:Int} {rs:List Rg} {pts:Int} (hp:op=5→pts≤100):(trEv op vs rs pts).length≤1000000:=by
 unfold trEv
 split
 · rename_i hz;exact evH21_len hz hp
 · simp
def Lg22 (pts:Int) (w:World) (e:Ending) (w':World):Prop:=∃ z:Bool,e=.returned (.bool z)∧(z=false→pts≤100)∧Below w.heap.size w w'
section
variable (op vs pts:Int) (rs:List Rg) (HA:Option Addr) (hc:Nat) (w:World) (hs:Sl w w.heap.size HA (rgCells rs))
include hs
theorem large22:Calls Tryz.prog 10 #[.agg #[.int .i64 op,.int .i64 vs,.slice HA rs.length hc,.int .i64 pts]] w (Lg22 pts w):=by
 obtain ⟨w0,hw0⟩:∃ w0,w0=w.alloc (.cells #[.int .i64 op,.int .i64 vs,.slice HA rs.length hc,.int .i64 pts] 24):=⟨_,rfl⟩
 obtain ⟨hb,hhb⟩:∃ hb,hb=w.heap.size:=⟨_,rfl⟩
 have hb0:Below w.heap.size w w0:=by rw [hw0];exact bA
 have N0:Blk w0 hb 24 #[.int .i64 op,.int .i64 vs,.slice HA rs.length hc,.int .i64 pts]:=by rw [hw0,hhb];exact Blk.new _ _ _
 have b2:=N0.cell (i:=2) rfl
 have HN:=hide N0
 have HS:=hide ((hs.below hb0).more hb0.size)
 have HB0:=hide hb0
 have HHB:=hide hhb
 clear hs hb0 N0
 rw [hw0] at b2
 by_cases h30:30<(rs.length:Int)
 · go_enter Tryz.func10,Tryz.ntmps10
   rw [hhb] at b2
   go_wp2
   go_ret
   exact ⟨true,rfl,fun h=>(by cases h),by rw [hw0] at HB0;exact HB0.out⟩
 · go_enter Tryz.func10,Tryz.ntmps10
   rw [hhb] at b2
   go_wp2
   rw [← hw0,← hhb]
   clear b2 hw0 hhb
   go_loopw [3,13] (fun x i wr=>∃ (k:Nat) (z:Int),k≤rs.length∧i=.int .i64 k∧x=.int .i64 z∧0≤z∧z≤64*k∧Below w0.heap.size w0 wr)
    (fun _ i _=>rs.length - (intOf i).toNat)
   case atStart=>exact ⟨0,0,by omega,rfl,rfl,by omega,by omega,Below.refl _ _⟩
   case round =>
    obtain ⟨k,z,hk,rfl,rfl,hz0,hz1,hbr⟩:=hrel
    by_cases hlt:k<rs.length
    · obtain ⟨r,hr⟩:∃ r,rs[k]?=some r:=⟨_,List.getElem?_eq_getElem hlt⟩
      obtain ⟨b,off,rfl,hB,c0,c1,c2⟩:=(HS.out.below hbr).rg hr
      have hlti:((k:Nat):Int)<((rs.length:Nat):Int):=by omega
      obtain ⟨d,v,RA,n,c⟩:=r
      dsimp only at *
      have HBR:=hide (bl_alloc hbr (.cells #[.bool d,.int .i64 v,.slice RA n c] 61))
      obtain ⟨x,hx⟩:∃ x,x=min (max v 3) 64:=⟨_,rfl⟩
      have hxb:3≤x∧x≤64:=by omega
      have hw2:IntKind.i64.wrap (z+x)=z+x:=by rw [IntKind.wrap_i64];omega
      have hmin:min (max v 3) 64=x:=hx.symm
      clear hr hbr hx
      go_wp2
      go_roundw
      case rel=>exact ⟨k+1,z+x,by omega,by go_num,rfl,by omega,by omega,HBR.out⟩
      case measure=>simp [intOf];omega
    · obtain rfl:k=rs.length:=by omega
      have hki:¬ (rs.length:Int)<(rs.length:Int):=by omega
      have N1:=HN.out.step hbr
      have b3:=N1.cell (i:=3) rfl
      have HBR:=hide (bl_step HB0.out hbr)
      clear hbr N1
      by_cases hz:300<z
      · go_wp2
        go_ret
        exact ⟨true,rfl,fun h=>(by cases h),HBR.out⟩
      · by_cases hp:100<pts
        · go_wp2
          go_ret
          exact ⟨true,rfl,fun h=>(by cases h),HBR.out⟩
        · have hp':pts≤100:=by omega
          go_wp2
          go_ret
          exact ⟨_,rfl,fun _=>hp',HBR.out⟩
end
end
end Go.Proofs.YtfljlmleiggmjaaGreatDoor
