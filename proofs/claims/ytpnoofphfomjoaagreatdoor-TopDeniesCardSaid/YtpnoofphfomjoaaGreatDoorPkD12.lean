/- RefFence2 -/
import Derived.Test.YtpnoofphfomjoaaGreatDoorPkM07
import Derived.Test.YtpnoofphfomjoaaGreatDoorPkM34
import Derived.Test.YtpnoofphfomjoaaGreatDoorPkD05
import Derived.Test.YtpnoofphfomjoaaGreatDoorPkD11
set_option maxRecDepth 1000000
set_option maxHeartbeats 8000000
namespace Go.Proofs.YtpnoofphfomjoaaGreatDoor
section
open Go.RowKit
theorem rfcheck_raw (rs:List Rg) (m:Nat) (hm:rs.length=m) (A:Option Addr) (c:Nat) (w:World) (hs:Sl w w.heap.size A (rgCells rs)) :
 Calls Tryz.prog 43 #[.slice A m c] w fun e w'=>e=.returned (.int .i64 (fcheck rs))∧w'=w:=by
 have HS:=hide hs;clear hs
 by_cases hc:m<1∨64<m
 · have hf:fcheck rs=6:=by unfold fcheck;rw [if_pos (by omega)]
   rw [hf]
   have hci:(m:Int)<1∨(¬ (m:Int)<1∧(64:Int)<(m:Int)):=by omega
   clear hf hc
   rcases hci with h | ⟨h,h2⟩
   · go_enter Tryz.func43,Tryz.ntmps43
     go_wp2
     go_ret
     exact ⟨rfl,rfl⟩
   · go_enter Tryz.func43,Tryz.ntmps43
     go_wp2
     go_ret
     exact ⟨rfl,rfl⟩
 · have hf:fcheck rs=fcheckL rs:=by unfold fcheck;rw [if_neg (by omega)]
   rw [hf]
   have h1:¬ (m:Int)<1:=by omega
   have h2:¬ (64:Int)<(m:Int):=by omega
   have HM:=hide hm
   clear hf hc hm
   go_enter Tryz.func43,Tryz.ntmps43
   go_wp2
   go_loopw [3,4] (fun i _ wr=>∃ k:Nat,k≤m∧i=.int .i64 k∧Hid (fcheckL rs=fcheckL (rs.drop k))∧wr=w)
    (fun i _ _=>m - (intOf i).toNat)
   case atStart=>exact ⟨0,Nat.zero_le _,rfl,hide (by simp),rfl⟩
   case round =>
    obtain ⟨k,hk,rfl,hF,hwr⟩:=hrel
    subst hwr
    by_cases hlt:k<m
    · obtain ⟨r,hr⟩:∃ r,rs[k]?=some r:=⟨_,List.getElem?_eq_getElem (by have:=HM.out;omega)⟩
      obtain ⟨b,off,rfl,hB,c0,c1,c2⟩:=HS.out.rg hr
      have hD:=hide (hF.out.trans (fcheckL_drop rs k r hr))
      obtain ⟨d,v,A,n,c⟩:=r
      dsimp only at *
      have HSZ:=hide (refSize_any v wr)
      obtain ⟨z,hz⟩:∃ z,z=sizeOfReg v:=⟨_,rfl⟩
      rw [← hz] at hD HSZ
      clear hr hF hz
      by_cases h0:z=0
      · have hD':Hid (fcheckL rs=7):=hide (hD.out.trans (if_pos h0))
        clear hD
        subst h0
        go_wp2_with fail
        refine HSZ.out.mono ?_
        rintro e w2 ⟨rfl,hw2⟩
        rw [← hw2]
        clear hw2
        go_wp2
        go_ret
        exact ⟨by rw [hD'.out];rfl,rfl⟩
      · have h0i:(z == 0)=false:=by simp [h0]
        by_cases hn:z=(n:Int)
        · have hD':Hid (fcheckL rs=fcheckL (rs.drop (k+1))):=hide (hD.out.trans ((if_neg h0).trans (if_pos hn)))
          clear hD
          subst hn
          go_wp2_with fail
          refine HSZ.out.mono ?_
          rintro e w2 ⟨rfl,hw2⟩
          rw [← hw2]
          clear hw2
          go_wp2
          go_roundw
          case rel=>exact ⟨k+1,by omega,by go_num,hD',trivial⟩
          case measure=>simp [intOf];omega
        · have hD':Hid (fcheckL rs=8):=hide (hD.out.trans ((if_neg h0).trans (if_neg hn)))
          have hni:((n:Int) != z)=true:=bne_iff_ne.2 (fun h=>hn h.symm)
          have hni2:(n:Int)≠z:=fun h=>hn h.symm
          clear hD
          go_wp2_with fail
          refine HSZ.out.mono ?_
          rintro e w2 ⟨rfl,hw2⟩
          rw [← hw2]
          clear hw2
          go_wp2
          go_ret
          exact ⟨by rw [hD'.out];rfl,rfl⟩
    · obtain rfl:k=m:=by omega
      go_wp2
      go_ret
      have h:=hF.out
      rw [List.drop_of_length_le (by have:=HM.out;omega)] at h
      exact ⟨by rw [h];rfl,rfl⟩
theorem rfcheck_any (rs:List Rg) (A:Option Addr) (c:Nat) (w:World) (hs:Sl w w.heap.size A (rgCells rs)) :
 Calls Tryz.prog 43 #[.slice A rs.length c] w fun e w'=>e=.returned (.int .i64 (fcheck rs))∧w'=w:=rfcheck_raw rs _ rfl A c w hs
end
section
open Go.RowKit
def GsR (w:World) (gs:List Gr):Prop:=∀ g∈gs,g.1.n=g.2.length∧Sl w w.heap.size g.1.A (ptCs g.2)∧PsJ g.2
theorem GsR.step {w w':World} {gs:List Gr} (h:GsR w gs) (hb:Below w.heap.size w w'):GsR w' gs:=fun g hg=>⟨(h g hg).1,((h g hg).2.1.below hb).more hb.size,(h g hg).2.2⟩
end
end Go.Proofs.YtpnoofphfomjoaaGreatDoor
