/- Network Sort Req21 -/
import Derived.LoopIn
import Derived.LoopNIn
import Derived.OwnWalkIn
import Derived.RangeFuncBound
import Derived.RangeFuncCalls
import Derived.RangeFuncLeaves
import Derived.RangeFuncNested
import Derived.Shelf.Abstract
import Derived.Shelf.RegionOpen
import Derived.Shelf.Small.Bits
import Derived.TacticsInMore
import Derived.Test.YtpnoofphfomjoaaGreatDoorPkM07
import Derived.Test.YtpnoofphfomjoaaGreatDoorPkM11
import Derived.Test.YtpnoofphfomjoaaGreatDoorPkM40
import Derived.Test.YtpnoofphfomjoaaGreatDoorPkT01
import Derived.Test.YtpnoofphfomjoaaGreatDoorPkT02
set_option maxRecDepth 1000000
set_option maxHeartbeats 8000000
namespace Go.Proofs.YtpnoofphfomjoaaGreatDoor
section
open Go.RowKit Go.Shelf
attribute [local go_sem] Oper.semAt_some
end
section
open Go.RowKit Go.Shelf
attribute [local go_sem] Oper.semAt_some
section
variable {F:Fence} {n:Nat} {P:Program} {ops:Array Oper} {Q:Exit→Act→World→Prop} {S:World→Prop}
end
end
section
open Go.RowKit Go.Shelf
section
variable {w:World} {hrs:List Rg} {HA:Option Addr} {gs:List Gr} {GA:Option Addr} {ps:List Pt} {PA:Option Addr} {pc:Nat} {qs:List ((Int × Int) × Int)} {QA:Option Addr}
end
theorem flat_by {α:Type} (f:α→List Int) (h:∀ a,By (f a)) (l:List α):By (l.flatMap f):=fun x hx=>by
 obtain ⟨a,_,ha⟩:=List.mem_flatMap.1 hx
 exact h a x ha
theorem pt16_by (p:Int × Int):By (pt16 p):=(word8_by _).append (word8_by _)
theorem q24_by (q:(Int × Int) × Int):By (q24 q):=(pt16_by _).append (word8_by _)
theorem hencode_bd {op vs pts:Int} {hrs:List Rg} {gs:List Gr} {ps:List (Int × Int)} {qs:List ((Int × Int) × Int)} {b:List Int} {er:Int} (h:hencode op vs hrs pts gs ps qs=(b,er)) (hn:∀ g∈gs,g.1.n=g.2.length) :
 (er≠0→b=[])∧(er=0→b.length≤200000∧By b):=by
 unfold hencode at h
 by_cases hc:hcheck op vs hrs pts=0
 · rw [if_neg (by simpa using hc)] at h
   by_cases ha:gs.length≠hrs.length∨(ps.length:Int)≠cntP op vs∨(qs.length:Int)≠cntQ op pts
   · rw [if_pos ha] at h
     simp only [Prod.mk.injEq] at h
     exact ⟨fun _=>h.1.symm,fun e=>by omega⟩
   · rw [if_neg ha] at h
     cases hs:(gs.zip hrs).any szBad with
     | true =>
       rw [hs,if_pos rfl] at h
       simp only [Prod.mk.injEq] at h
       exact ⟨fun _=>h.1.symm,fun e=>by omega⟩
     | false =>
       rw [hs,if_neg (by simp)] at h
       cases hk:(gs.zip hrs).any kdBad with
       | true =>
         rw [hk,if_pos rfl] at h
         simp only [Prod.mk.injEq] at h
         exact ⟨fun _=>h.1.symm,fun e=>by omega⟩
       | false =>
         rw [hk,if_neg (by simp)] at h
         simp only [Prod.mk.injEq] at h
         refine ⟨fun e=>absurd h.2.symm e,fun _=>?_⟩
         rw [← h.1]
         obtain ⟨_,_,hl64,hcP,hcQ⟩:=cnt_bd hc
         have hl1:gs.length=hrs.length:=by omega
         have hsm:=gs_small hs hl1
         have hgl:=gBytes_len gs (fun x hx=>by have h1:=hn x hx;have h2:=hsm x hx;omega)
         have hfl:=fbytes_le op vs hrs pts
         constructor
         · rw [List.length_append,List.length_append,List.length_append,flat_len pt16 16 pt16_length,flat_len q24 24 q24_length];omega
         · refine By.append (By.append (By.append ?_ ?_) (flat_by _ pt16_by _)) (flat_by _ q24_by _)
           · intro x hx
             obtain ⟨j,hj⟩:=List.getElem?_of_mem hx
             exact fbytes_byte hc j x hj
           · exact flat_by _ (fun g=>flat_by _ pt16_by _) _
 · rw [if_pos hc] at h
   simp only [Prod.mk.injEq] at h
   exact ⟨fun _=>h.1.symm,fun e=>absurd (h.2.trans e) hc⟩
theorem pj64 {p:Pt} (h:PJ p):P64 p:=by
 obtain ⟨⟨a,b⟩,c,d⟩:=h
 exact ⟨⟨a,by omega⟩,c,by omega⟩
theorem serve_enc {op vs pts:Int} {hrs:List Rg} {gs:List Gr} {ps:List Pt} {qs:List ((Int × Int) × Int)} {b:List Int} (h:hencode op vs hrs pts gs ps qs=(b,0)) (hn:∀ g∈gs,g.1.n=g.2.length) (hg:∀ g∈gs,PsJ g.2) (hp:PsJ ps) (hqj:∀ q∈qs,PJ q.1) (hqu:∀ q∈qs,U64 q.2) :
 ∃ a:Ans,hhandle op vs hrs pts gs ps qs=(a,0)∧isAns op pts a.val a.cnt a.recs=true∧hrespond op vs hrs pts a.val a.cnt a.recs=(hserve b,0)∧a.recs.length≤maxLen:=by
 have hd:=(hdecode_encode h hn (fun g hg' p hp'=>pj64 (hg g hg' p hp')) (fun p hp'=>pj64 (hp p hp')) (fun q hq=>⟨pj64 (hqj q hq),hqu q hq⟩)).1
 obtain ⟨k1,_,k3,k4⟩:=handle_ok (q:=⟨⟨op,vs,hrs.map rgBack,pts⟩,gs.map gdOf,ps,qs⟩) (by rw [h]) hn hqu rfl rfl rfl rfl
 refine ⟨_,k1,k3,?_,?_⟩
 · unfold hrespond hserve
   rw [if_neg (by simpa using k4),if_neg (by simp [k3]),hd,if_neg (by simp)]
 · obtain ⟨o1,o5,c3,c4,c5,c6,c7,c8,_⟩:=hcheck_zero k4
   have hp0:0≤pts∧pts≤4096:=by
    by_cases h5:op=5
    · have:=c7 h5;omega
    · have:=c8 h5;omega
   have hia:=isAns_true k3 hp0.1
   unfold maxLen
   omega
end
end Go.Proofs.YtpnoofphfomjoaaGreatDoor
