/- TopMath -/
import Derived.Test.YtpnoofphfomjoaaGreatDoorPkM07
import Derived.Test.YtpnoofphfomjoaaGreatDoorPkM13
import Derived.Test.YtpnoofphfomjoaaGreatDoorPkM40
import Derived.Test.YtpnoofphfomjoaaGreatDoorPkT03
set_option maxRecDepth 1000000
set_option maxHeartbeats 8000000
namespace Go.Proofs.YtpnoofphfomjoaaGreatDoor
section
open Go.RowKit
def pubR (g:Gr):Rg:=⟨g.1.d,g.1.v,none,0,0⟩
theorem pub_zip:∀ (gs:List Gr),(∀ g∈gs,g.1.n=g.2.length)→fcheckL (gs.map (·.1))=0→(gs.zip (gs.map pubR)).any szBad=false∧(gs.zip (gs.map pubR)).any kdBad=false∧(gs.map pubR).any wrongRg=false∧(gs.map pubR).any fullRg=false
 | [],_,_=>⟨rfl,rfl,rfl,rfl⟩
 | g::gs,hn,h=>by
   rw [List.map_cons] at h
   unfold fcheckL at h
   by_cases h1:sizeOfReg g.1.v=0
   · rw [if_pos h1] at h;omega
   rw [if_neg h1] at h
   by_cases h2:sizeOfReg g.1.v=(g.1.n:Int)
   · rw [if_pos h2] at h
     obtain ⟨a1,a2,a3,a4⟩:=pub_zip gs (fun x hx=>hn x (List.mem_cons_of_mem _ hx)) h
     refine ⟨?_,?_,?_,?_⟩
     · rw [List.map_cons,List.zip_cons_cons,List.any_cons,a1]
       unfold szBad pubR
       simp [h2]
     · rw [List.map_cons,List.zip_cons_cons,List.any_cons,a2]
       unfold kdBad pubR
       simp
     · rw [List.map_cons,List.any_cons,a3]
       unfold wrongRg pubR
       simp [h1]
     · rw [List.map_cons,List.any_cons,a4]
       unfold fullRg pubR
       simp
   · rw [if_neg h2] at h;omega
theorem pub_ok {gs:List Gr} (hn:∀ g∈gs,g.1.n=g.2.length) (h:fcheck (gs.map (·.1))=0):1≤gs.length∧gs.length≤64∧(gs.zip (gs.map pubR)).any szBad=false∧(gs.zip (gs.map pubR)).any kdBad=false∧(gs.map pubR).any wrongRg=false∧(gs.map pubR).any fullRg=false:=by
 unfold fcheck at h
 rw [List.length_map] at h
 by_cases h1:gs.length<1∨64<gs.length
 · rw [if_pos h1] at h;omega
 rw [if_neg h1] at h
 exact ⟨by omega,by omega,pub_zip gs hn h⟩
theorem nil_bytes (op val:Int) (h:op≠5):ansBytes op val 0 []=[0,val]:=by
 unfold ansBytes
 rw [if_neg h]
 rfl
theorem served_of {op vs pts:Int} {hrs:List Rg} {gs:List Gr} {ps:List Pt} {qs:List ((Int × Int) × Int)} (h:(hencode op vs hrs pts gs ps qs).2=0) (hn:∀ g∈gs,g.1.n=g.2.length) (hg:∀ g∈gs,PsJ g.2) (hp:PsJ ps) (hqj:∀ q∈qs,PJ q.1) (hqu:∀ q∈qs,U64 q.2) :
 hserve (hencode op vs hrs pts gs ps qs).1=ansBytes op (hhandle op vs hrs pts gs ps qs).1.val (hhandle op vs hrs pts gs ps qs).1.cnt (hhandle op vs hrs pts gs ps qs).1.recs∧isAns op pts (hhandle op vs hrs pts gs ps qs).1.val (hhandle op vs hrs pts gs ps qs).1.cnt (hhandle op vs hrs pts gs ps qs).1.recs=true∧hcheck op vs hrs pts=0:=by
 obtain ⟨a,h1,h2,h3,_⟩:=serve_enc (b:=(hencode op vs hrs pts gs ps qs).1) (by rw [← h]) hn hg hp hqj hqu
 have hc:=(hencode_ok h).1
 unfold hrespond at h3
 rw [if_neg (by simpa using hc),if_neg (by simp [h2])] at h3
 rw [h1]
 exact ⟨(Prod.mk.inj h3).1.symm,h2,hc⟩
theorem enc_member (gs:List Gr) (p:Pt) (hn:∀ g∈gs,g.1.n=g.2.length) (hg:∀ g∈gs,PsJ g.2) (hf:fcheck (gs.map (·.1))=0) (hj:PJ p):(hencode 4 0 (gs.map pubR) 0 gs [p] []).2=0∧hserve (hencode 4 0 (gs.map pubR) 0 gs [p] []).1=[0,fenceA gs p]:=by
 obtain ⟨l1,l64,z1,z2,z3,z4⟩:=pub_ok hn hf
 have hc:hcheck 4 0 (gs.map pubR) 0=0:=hcheck_ok (by omega) (fun h=>by omega) (fun _=>rfl) (fun _=>⟨by rw [List.length_map];exact l1,by rw [List.length_map];exact l64,z3⟩) (fun h=>by omega) (fun h=>by omega) (fun _=>rfl) z4
 have he:(hencode 4 0 (gs.map pubR) 0 gs [p] []).2=0:=by
  unfold hencode
  rw [if_neg (by simpa using hc),if_neg (by simp [cntP,cntQ]),z1,z2,if_neg (by simp),if_neg (by simp)]
 refine ⟨he,?_⟩
 rw [(served_of he hn hg (fun q hq=>by rw [List.mem_singleton.1 hq];exact hj) (by simp) (by simp)).1]
 have hh:hhandle 4 0 (gs.map pubR) 0 gs [p] []=(⟨ansOp 4 gs [p],0,[]⟩,0):=by
  unfold hhandle
  rw [if_neg (by simpa using he),if_neg (by omega)]
 rw [hh]
 dsimp only
 rw [nil_bytes _ _ (by omega)]
 rfl
theorem rec_u64 {gs:List Gr} {qs:List ((Int × Int) × Int)} (hu:∀ q∈qs,U64 q.2):∀ r∈(isort rkey (hrecs gs qs)),U64 r.2:=fun r hr =>
 (cln_u64 (hrecs_cln gs hu r ((isort_perm rkey _).mem_iff.1 hr))).2
def batA (gs:List Gr) (qs:List ((Int × Int) × Int)):Ans:=⟨bif fenceOk gs then 1 else 0,cntL (hrecs gs qs),isort rkey (hrecs gs qs)⟩
theorem enc_batch (gs:List Gr) (qs:List ((Int × Int) × Int)) (hn:∀ g∈gs,g.1.n=g.2.length) (hg:∀ g∈gs,PsJ g.2) (hf:fcheck (gs.map (·.1))=0) (h1:1≤qs.length) (h4:qs.length≤4096) (hqj:∀ q∈qs,PJ q.1) (hqu:∀ q∈qs,U64 q.2) :
 (hencode 5 0 (gs.map pubR) qs.length gs [] qs).2=0∧hread 5 0 (gs.map pubR) qs.length (hserve (hencode 5 0 (gs.map pubR) qs.length gs [] qs).1)=(batA gs qs,0)∧By (hserve (hencode 5 0 (gs.map pubR) qs.length gs [] qs).1)∧(hserve (hencode 5 0 (gs.map pubR) qs.length gs [] qs).1).length≤40000:=by
 obtain ⟨l1,l64,z1,z2,z3,z4⟩:=pub_ok hn hf
 have hc:hcheck 5 0 (gs.map pubR) qs.length=0:=hcheck_ok (by omega) (fun h=>by omega) (fun _=>rfl) (fun _=>⟨by rw [List.length_map];exact l1,by rw [List.length_map];exact l64,z3⟩) (fun h=>by omega) (fun _=>by omega) (fun h=>absurd rfl h) z4
 have he:(hencode 5 0 (gs.map pubR) qs.length gs [] qs).2=0:=by
  unfold hencode
  rw [if_neg (by simpa using hc),if_neg (by simp [cntP,cntQ]),z1,z2,if_neg (by simp),if_neg (by simp)]
 have hh:hhandle 5 0 (gs.map pubR) qs.length gs [] qs=(batA gs qs,0):=by
  have hb:bcheck gs qs.length=0:=by
   unfold bcheck
   rw [if_neg (by simpa using hf),if_neg (by omega)]
  unfold hhandle
  rw [if_neg (by simpa using he),if_pos rfl]
  unfold hbatch
  rw [if_neg (by simpa using hb)]
  rfl
 obtain ⟨s1,s2,s3⟩:=served_of he hn hg (fun q hq=>by simp at hq) hqj hqu
 rw [hh] at s1 s2
 rw [s1]
 have hi:=isAns_true s2 (by omega)
 have hl:=ansBytes_len 5 (batA gs qs).val (batA gs qs).cnt (batA gs qs).recs
 rw [if_pos rfl] at hl
 dsimp only at hi hl ⊢
 refine ⟨he,read_respond s3 s2 (rec_u64 hqu),ansBytes_by hi.1 hi.2.1 hi.2.2.2.1 (by omega),?_⟩
 omega
section
variable {α:Type} [BEq α] [LawfulBEq α] (key:α→Nat)
end
theorem cnt_members (gs:List Gr):∀ (qs:List ((Int × Int) × Int)),((qs.filter fun q=>decide (fenceA gs q.1=1)).length:Nat)=cntL (hrecs gs qs)
 | []=>rfl
 | q::qs=>by
   have h:=cnt_members gs qs
   have hd:decide (fenceA gs q.1=1)=(fenceOk gs && memOk gs q.1):=by
    unfold fenceA
    cases fenceOk gs <;> cases memOk gs q.1 <;> rfl
   have hr:(hrec gs q).1.toNat=if (fenceOk gs && memOk gs q.1)=true then 1 else 0:=by
    unfold hrec
    split <;> rfl
   unfold hrecs cntL at h ⊢
   rw [List.map_cons,List.map_cons,List.sum_cons,← h,hr,List.filter_cons,hd]
   split
   · rw [List.length_cons];omega
   · omega
end
end Go.Proofs.YtpnoofphfomjoaaGreatDoor
