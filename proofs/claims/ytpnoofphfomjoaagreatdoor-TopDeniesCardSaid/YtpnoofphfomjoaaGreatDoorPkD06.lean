/- Network Sort Req21 TopMath RefSort13 -/
import Derived.LoopIn
import Derived.LoopNIn
import Derived.OwnWalkIn
import Derived.RangeFuncBound
import Derived.RangeFuncCalls
import Derived.RangeFuncLeaves
import Derived.RangeFuncNested
import Derived.Shelf.Abstract
import Derived.Shelf.RegionOpen
import Derived.Shelf.Small.Bits
import Derived.TacticsInMore
import Derived.Test.YtpnoofphfomjoaaGreatDoorPkM07
import Derived.Test.YtpnoofphfomjoaaGreatDoorPkM13
import Derived.Test.YtpnoofphfomjoaaGreatDoorPkM40
import Derived.Test.YtpnoofphfomjoaaGreatDoorPkD01
import Derived.Test.YtpnoofphfomjoaaGreatDoorPkD05
set_option maxRecDepth 1000000
set_option maxHeartbeats 8000000
namespace Go.Proofs.YtpnoofphfomjoaaGreatDoor
section
open Go.RowKit Go.Shelf
attribute [local go_sem] Oper.semAt_some
end
section
open Go.RowKit Go.Shelf
attribute [local go_sem] Oper.semAt_some
section
variable {F:Fence} {n:Nat} {P:Program} {ops:Array Oper} {Q:Exit→Act→World→Prop} {S:World→Prop}
end
end
section
open Go.RowKit Go.Shelf
section
variable {w:World} {hrs:List Rg} {HA:Option Addr} {gs:List Gr} {GA:Option Addr} {ps:List Pt} {PA:Option Addr} {pc:Nat} {qs:List ((Int × Int) × Int)} {QA:Option Addr}
end
theorem flat_by {α:Type} (f:α→List Int) (h:∀ a,By (f a)) (l:List α):By (l.flatMap f):=fun x hx=>by
 obtain ⟨a,_,ha⟩:=List.mem_flatMap.1 hx
 exact h a x ha
theorem pt16_by (p:Int × Int):By (pt16 p):=(word8_by _).append (word8_by _)
theorem q24_by (q:(Int × Int) × Int):By (q24 q):=(pt16_by _).append (word8_by _)
theorem hencode_bd {op vs pts:Int} {hrs:List Rg} {gs:List Gr} {ps:List (Int × Int)} {qs:List ((Int × Int) × Int)} {b:List Int} {er:Int} (h:hencode op vs hrs pts gs ps qs=(b,er)) (hn:∀ g∈gs,g.1.n=g.2.length) :
 (er≠0→b=[])∧(er=0→b.length≤200000∧By b):=by
 unfold hencode at h
 by_cases hc:hcheck op vs hrs pts=0
 · rw [if_neg (by simpa using hc)] at h
   by_cases ha:gs.length≠hrs.length∨(ps.length:Int)≠cntP op vs∨(qs.length:Int)≠cntQ op pts
   · rw [if_pos ha] at h
     simp only [Prod.mk.injEq] at h
     exact ⟨fun _=>h.1.symm,fun e=>by omega⟩
   · rw [if_neg ha] at h
     cases hs:(gs.zip hrs).any szBad with
     | true =>
       rw [hs,if_pos rfl] at h
       simp only [Prod.mk.injEq] at h
       exact ⟨fun _=>h.1.symm,fun e=>by omega⟩
     | false =>
       rw [hs,if_neg (by simp)] at h
       cases hk:(gs.zip hrs).any kdBad with
       | true =>
         rw [hk,if_pos rfl] at h
         simp only [Prod.mk.injEq] at h
         exact ⟨fun _=>h.1.symm,fun e=>by omega⟩
       | false =>
         rw [hk,if_neg (by simp)] at h
         simp only [Prod.mk.injEq] at h
         refine ⟨fun e=>absurd h.2.symm e,fun _=>?_⟩
         rw [← h.1]
         obtain ⟨_,_,hl64,hcP,hcQ⟩:=cnt_bd hc
         have hl1:gs.length=hrs.length:=by omega
         have hsm:=gs_small hs hl1
         have hgl:=gBytes_len gs (fun x hx=>by have h1:=hn x hx;have h2:=hsm x hx;omega)
         have hfl:=fbytes_le op vs hrs pts
         constructor
         · rw [List.length_append,List.length_append,List.length_append,flat_len pt16 16 pt16_length,flat_len q24 24 q24_length];omega
         · refine By.append (By.append (By.append ?_ ?_) (flat_by _ pt16_by _)) (flat_by _ q24_by _)
           · intro x hx
             obtain ⟨j,hj⟩:=List.getElem?_of_mem hx
             exact fbytes_byte hc j x hj
           · exact flat_by _ (fun g=>flat_by _ pt16_by _) _
 · rw [if_pos hc] at h
   simp only [Prod.mk.injEq] at h
   exact ⟨fun _=>h.1.symm,fun e=>absurd (h.2.trans e) hc⟩
theorem pj64 {p:Pt} (h:PJ p):P64 p:=by
 obtain ⟨⟨a,b⟩,c,d⟩:=h
 exact ⟨⟨a,by omega⟩,c,by omega⟩
theorem serve_enc {op vs pts:Int} {hrs:List Rg} {gs:List Gr} {ps:List Pt} {qs:List ((Int × Int) × Int)} {b:List Int} (h:hencode op vs hrs pts gs ps qs=(b,0)) (hn:∀ g∈gs,g.1.n=g.2.length) (hg:∀ g∈gs,PsJ g.2) (hp:PsJ ps) (hqj:∀ q∈qs,PJ q.1) (hqu:∀ q∈qs,U64 q.2) :
 ∃ a:Ans,hhandle op vs hrs pts gs ps qs=(a,0)∧isAns op pts a.val a.cnt a.recs=true∧hrespond op vs hrs pts a.val a.cnt a.recs=(hserve b,0)∧a.recs.length≤maxLen:=by
 have hd:=(hdecode_encode h hn (fun g hg' p hp'=>pj64 (hg g hg' p hp')) (fun p hp'=>pj64 (hp p hp')) (fun q hq=>⟨pj64 (hqj q hq),hqu q hq⟩)).1
 obtain ⟨k1,_,k3,k4⟩:=handle_ok (q:=⟨⟨op,vs,hrs.map rgBack,pts⟩,gs.map gdOf,ps,qs⟩) (by rw [h]) hn hqu rfl rfl rfl rfl
 refine ⟨_,k1,k3,?_,?_⟩
 · unfold hrespond hserve
   rw [if_neg (by simpa using k4),if_neg (by simp [k3]),hd,if_neg (by simp)]
 · obtain ⟨o1,o5,c3,c4,c5,c6,c7,c8,_⟩:=hcheck_zero k4
   have hp0:0≤pts∧pts≤4096:=by
    by_cases h5:op=5
    · have:=c7 h5;omega
    · have:=c8 h5;omega
   have hia:=isAns_true k3 hp0.1
   unfold maxLen
   omega
end
section
open Go.RowKit
def pubR (g:Gr):Rg:=⟨g.1.d,g.1.v,none,0,0⟩
theorem pub_zip:∀ (gs:List Gr),(∀ g∈gs,g.1.n=g.2.length)→fcheckL (gs.map (·.1))=0→(gs.zip (gs.map pubR)).any szBad=false∧(gs.zip (gs.map pubR)).any kdBad=false∧(gs.map pubR).any wrongRg=false∧(gs.map pubR).any fullRg=false
 | [],_,_=>⟨rfl,rfl,rfl,rfl⟩
 | g::gs,hn,h=>by
   rw [List.map_cons] at h
   unfold fcheckL at h
   by_cases h1:sizeOfReg g.1.v=0
   · rw [if_pos h1] at h;omega
   rw [if_neg h1] at h
   by_cases h2:sizeOfReg g.1.v=(g.1.n:Int)
   · rw [if_pos h2] at h
     obtain ⟨a1,a2,a3,a4⟩:=pub_zip gs (fun x hx=>hn x (List.mem_cons_of_mem _ hx)) h
     refine ⟨?_,?_,?_,?_⟩
     · rw [List.map_cons,List.zip_cons_cons,List.any_cons,a1]
       unfold szBad pubR
       simp [h2]
     · rw [List.map_cons,List.zip_cons_cons,List.any_cons,a2]
       unfold kdBad pubR
       simp
     · rw [List.map_cons,List.any_cons,a3]
       unfold wrongRg pubR
       simp [h1]
     · rw [List.map_cons,List.any_cons,a4]
       unfold fullRg pubR
       simp
   · rw [if_neg h2] at h;omega
theorem pub_ok {gs:List Gr} (hn:∀ g∈gs,g.1.n=g.2.length) (h:fcheck (gs.map (·.1))=0):1≤gs.length∧gs.length≤64∧(gs.zip (gs.map pubR)).any szBad=false∧(gs.zip (gs.map pubR)).any kdBad=false∧(gs.map pubR).any wrongRg=false∧(gs.map pubR).any fullRg=false:=by
 unfold fcheck at h
 rw [List.length_map] at h
 by_cases h1:gs.length<1∨64<gs.length
 · rw [if_pos h1] at h;omega
 rw [if_neg h1] at h
 exact ⟨by omega,by omega,pub_zip gs hn h⟩
theorem served_of {op vs pts:Int} {hrs:List Rg} {gs:List Gr} {ps:List Pt} {qs:List ((Int × Int) × Int)} (h:(hencode op vs hrs pts gs ps qs).2=0) (hn:∀ g∈gs,g.1.n=g.2.length) (hg:∀ g∈gs,PsJ g.2) (hp:PsJ ps) (hqj:∀ q∈qs,PJ q.1) (hqu:∀ q∈qs,U64 q.2) :
 hserve (hencode op vs hrs pts gs ps qs).1=ansBytes op (hhandle op vs hrs pts gs ps qs).1.val (hhandle op vs hrs pts gs ps qs).1.cnt (hhandle op vs hrs pts gs ps qs).1.recs∧isAns op pts (hhandle op vs hrs pts gs ps qs).1.val (hhandle op vs hrs pts gs ps qs).1.cnt (hhandle op vs hrs pts gs ps qs).1.recs=true∧hcheck op vs hrs pts=0:=by
 obtain ⟨a,h1,h2,h3,_⟩:=serve_enc (b:=(hencode op vs hrs pts gs ps qs).1) (by rw [← h]) hn hg hp hqj hqu
 have hc:=(hencode_ok h).1
 unfold hrespond at h3
 rw [if_neg (by simpa using hc),if_neg (by simp [h2])] at h3
 rw [h1]
 exact ⟨(Prod.mk.inj h3).1.symm,h2,hc⟩
theorem rec_u64 {gs:List Gr} {qs:List ((Int × Int) × Int)} (hu:∀ q∈qs,U64 q.2):∀ r∈(isort rkey (hrecs gs qs)),U64 r.2:=fun r hr =>
 (cln_u64 (hrecs_cln gs hu r ((isort_perm rkey _).mem_iff.1 hr))).2
def batA (gs:List Gr) (qs:List ((Int × Int) × Int)):Ans:=⟨bif fenceOk gs then 1 else 0,cntL (hrecs gs qs),isort rkey (hrecs gs qs)⟩
theorem enc_batch (gs:List Gr) (qs:List ((Int × Int) × Int)) (hn:∀ g∈gs,g.1.n=g.2.length) (hg:∀ g∈gs,PsJ g.2) (hf:fcheck (gs.map (·.1))=0) (h1:1≤qs.length) (h4:qs.length≤4096) (hqj:∀ q∈qs,PJ q.1) (hqu:∀ q∈qs,U64 q.2) :
 (hencode 5 0 (gs.map pubR) qs.length gs [] qs).2=0∧hread 5 0 (gs.map pubR) qs.length (hserve (hencode 5 0 (gs.map pubR) qs.length gs [] qs).1)=(batA gs qs,0)∧By (hserve (hencode 5 0 (gs.map pubR) qs.length gs [] qs).1)∧(hserve (hencode 5 0 (gs.map pubR) qs.length gs [] qs).1).length≤40000:=by
 obtain ⟨l1,l64,z1,z2,z3,z4⟩:=pub_ok hn hf
 have hc:hcheck 5 0 (gs.map pubR) qs.length=0:=hcheck_ok (by omega) (fun h=>by omega) (fun _=>rfl) (fun _=>⟨by rw [List.length_map];exact l1,by rw [List.length_map];exact l64,z3⟩) (fun h=>by omega) (fun _=>by omega) (fun h=>absurd rfl h) z4
 have he:(hencode 5 0 (gs.map pubR) qs.length gs [] qs).2=0:=by
  unfold hencode
  rw [if_neg (by simpa using hc),if_neg (by simp [cntP,cntQ]),z1,z2,if_neg (by simp),if_neg (by simp)]
 have hh:hhandle 5 0 (gs.map pubR) qs.length gs [] qs=(batA gs qs,0):=by
  have hb:bcheck gs qs.length=0:=by
   unfold bcheck
   rw [if_neg (by simpa using hf),if_neg (by omega)]
  unfold hhandle
  rw [if_neg (by simpa using he),if_pos rfl]
  unfold hbatch
  rw [if_neg (by simpa using hb)]
  rfl
 obtain ⟨s1,s2,s3⟩:=served_of he hn hg (fun q hq=>by simp at hq) hqj hqu
 rw [hh] at s1 s2
 rw [s1]
 have hi:=isAns_true s2 (by omega)
 have hl:=ansBytes_len 5 (batA gs qs).val (batA gs qs).cnt (batA gs qs).recs
 rw [if_pos rfl] at hl
 dsimp only at hi hl ⊢
 refine ⟨he,read_respond s3 s2 (rec_u64 hqu),ansBytes_by hi.1 hi.2.1 hi.2.2.2.1 (by omega),?_⟩
 omega
section
variable {α:Type} [BEq α] [LawfulBEq α] (key:α→Nat)
theorem sorted_sub:∀ (Y X:List α),(∀ a∈Y,∀ b∈Y,key a=key b→a=b)→Y.Pairwise (fun a b=>key a≤key b)→X.Pairwise (fun a b=>key a≤key b)→(∀ a,X.count a≤Y.count a)→X.Sublist Y
 | [],X,_,_,_,h=>by
   cases X with
   | nil=>exact List.Sublist.refl _
   | cons x X =>
     have:=h x
     rw [List.count_cons_self,List.count_nil] at this
     omega
 | y::Y,[],_,_,_,_=>List.nil_sublist _
 | y::Y,x::X,hi,hY,hX,h=>by
   have hY':=List.pairwise_cons.1 hY
   have hX':=List.pairwise_cons.1 hX
   have hi':∀ a∈Y,∀ b∈Y,key a=key b→a=b:=fun a ha b hb=>hi a (List.mem_cons_of_mem _ ha) b (List.mem_cons_of_mem _ hb)
   by_cases e:x=y
   · subst e
     refine List.Sublist.cons_cons x (sorted_sub Y X hi' hY'.2 hX'.2 fun a=>?_)
     have:=h a
     rw [List.count_cons,List.count_cons] at this
     omega
   · refine List.Sublist.cons y (sorted_sub Y (x::X) hi' hY'.2 hX fun a=>?_)
     by_cases ea:a=y
     · subst ea
       have hxm:x∈Y:=by
        have h1:=h x
        rw [List.count_cons_self,List.count_cons_of_ne (fun h=>e h.symm)] at h1
        exact List.count_pos_iff.1 (by omega)
       have hk:key a<key x:=by
        have h1:=hY'.1 x hxm
        have h2:key a≠key x:=fun hk=>e (hi a (List.mem_cons_self ..) x (List.mem_cons_of_mem _ hxm) hk).symm
        omega
       have:(x::X).count a=0:=by
        refine List.count_eq_zero.2 fun hm=>?_
        rcases List.mem_cons.1 hm with h1 | h1
        · exact e h1.symm
        · have:=hX'.1 a h1
          omega
       omega
     · have:=h a
       rw [List.count_cons_of_ne (fun h=>ea h.symm)] at this
       exact this
end
theorem live_ahead:∀ (l:List (Int × Int)),(∀ r∈l,Cln r)→l.Pairwise (fun a b=>rkey a≤rkey b)→(∀ r∈l.take (cntL l),r.1=1)∧(∀ r∈l.drop (cntL l),r=(0,0))
 | [],_,_=>by simp
 | r::l,hc,hs=>by
   have hs':=List.pairwise_cons.1 hs
   have hcl:∀ x∈l,Cln x:=fun x hx=>hc x (List.mem_cons_of_mem _ hx)
   rcases hc r (List.mem_cons_self ..) with ⟨h1,h2,h3⟩ | h1
   · have ih:=live_ahead l hcl hs'.2
     have e:cntL (r::l)=cntL l+1:=by
      unfold cntL
      rw [List.map_cons,List.sum_cons,h1]
      show 1+_=_
      omega
     rw [e,List.take_succ_cons,List.drop_succ_cons]
     refine ⟨fun x hx=>?_,ih.2⟩
     rcases List.mem_cons.1 hx with rfl | hx
     · exact h1
     · exact ih.1 x hx
   · have hd:∀ x∈r::l,x=(0,0):=fun x hx=>by
      rcases List.mem_cons.1 hx with rfl | hx
      · exact h1
      · exact dead_of (hcl x hx) h1 (hs'.1 x hx)
     rw [cntL_dead _ hd]
     exact ⟨by simp,hd⟩
theorem count_dead (a:Int × Int) (h:a≠(0,0)) (l:List (Int × Int)) (hl:∀ r∈l,r=(0,0)):l.count a=0 :=
 List.count_eq_zero.2 fun hm=>h (hl a hm)
theorem live_sub {α:Type} (f g:α→Int × Int) (qs:List α) (hf:∀ q∈qs,Cln (f q)) (hg:∀ q∈qs,g q=f q∨g q=(0,0)) :
 ((isort rkey (qs.map g)).take (cntL (qs.map g))).Sublist ((isort rkey (qs.map f)).take (cntL (qs.map f)))∧cntL (qs.map g)≤cntL (qs.map f):=by
 have hcf:∀ r∈qs.map f,Cln r:=fun r hr=>by obtain ⟨q,hq,rfl⟩:=List.mem_map.1 hr;exact hf q hq
 have hcg:∀ r∈qs.map g,Cln r:=fun r hr=>by
  obtain ⟨q,hq,rfl⟩:=List.mem_map.1 hr
  rcases hg q hq with h | h
  · rw [h];exact hf q hq
  · rw [h];exact .inr rfl
 have hF:=live_ahead (isort rkey (qs.map f)) (fun r hr=>hcf r ((isort_perm rkey _).mem_iff.1 hr)) (isort_sorted rkey _)
 have hG:=live_ahead (isort rkey (qs.map g)) (fun r hr=>hcg r ((isort_perm rkey _).mem_iff.1 hr)) (isort_sorted rkey _)
 rw [cntL_sort] at hF hG
 have hsub:∀ a,((isort rkey (qs.map g)).take (cntL (qs.map g))).count a≤((isort rkey (qs.map f)).take (cntL (qs.map f))).count a:=fun a=>by
  by_cases ha:a=(0,0)
  · have:((isort rkey (qs.map g)).take (cntL (qs.map g))).count a=0:=by
     refine List.count_eq_zero.2 fun hm=>?_
     have:=hG.1 a hm
     rw [ha] at this
     exact absurd this (by decide)
    omega
  · have cF:(isort rkey (qs.map f)).count a=((isort rkey (qs.map f)).take (cntL (qs.map f))).count a:=by
     have h:=congrArg (List.count a) (List.take_append_drop (cntL (qs.map f)) (isort rkey (qs.map f)))
     rw [List.count_append,count_dead a ha _ hF.2] at h
     omega
    have cG:(isort rkey (qs.map g)).count a=((isort rkey (qs.map g)).take (cntL (qs.map g))).count a:=by
     have h:=congrArg (List.count a) (List.take_append_drop (cntL (qs.map g)) (isort rkey (qs.map g)))
     rw [List.count_append,count_dead a ha _ hG.2] at h
     omega
    rw [← cF,← cG,(isort_perm rkey _).count_eq,(isort_perm rkey _).count_eq]
    clear cF cG hF hG hcf hcg hf
    induction qs with
    | nil=>exact Nat.le_refl _
    | cons q qs ih =>
      rw [List.map_cons,List.map_cons,List.count_cons,List.count_cons]
      have h1:=ih fun x hx=>hg x (List.mem_cons_of_mem _ hx)
      rcases hg q (List.mem_cons_self ..) with h | h
      · rw [h];omega
      · rw [h]
        have:((0,0) == a)=false:=by simpa using fun e=>ha e.symm
        rw [this]
        simp only [Bool.false_eq_true,if_false]
        omega
 have hsl:=sorted_sub rkey _ _ (fun a ha b hb h=>cln_inj (hcf a ((isort_perm rkey _).mem_iff.1 (List.mem_of_mem_take ha))) (hcf b ((isort_perm rkey _).mem_iff.1 (List.mem_of_mem_take hb))) h) ((isort_sorted rkey _).sublist (List.take_sublist _ _)) ((isort_sorted rkey _).sublist (List.take_sublist _ _)) hsub
 refine ⟨hsl,?_⟩
 have hl:=hsl.length_le
 rw [List.length_take,List.length_take,isort_length,isort_length,List.length_map,List.length_map] at hl
 have h1:=cntL_le _ hcg
 have h2:=cntL_le _ hcf
 rw [List.length_map] at h1 h2
 omega
theorem fvOk_snoc (gs:List Gr) (g:Gr):fvOk (gs++[g])=(fvOk gs && rgOk g.1.v g.2):=by unfold fvOk;rw [List.foldl_append];rfl
theorem deny_rec (gs:List Gr) (g:Gr) (hd:g.1.d=true) (hf:fcheck (gs.map (·.1))=0) (q:(Int × Int) × Int):hrec (gs++[g]) q=hrec gs q∨hrec (gs++[g]) q=(0,0):=by
 unfold hrec
 by_cases h:(fenceOk (gs++[g]) && memOk (gs++[g]) q.1)=true
 · rw [if_pos h]
   have h2:(fenceOk gs && memOk gs q.1)=true:=by
    unfold fenceOk memOk at h ⊢
    rw [decide_eq_true hf]
    rw [fvOk_snoc] at h
    have hm:memF q.1 (gs++[g])=((memF q.1 gs).1,(memF q.1 gs).2 || !decide (rgL g.1.v g.2 q.1<0)):=by
     unfold memF
     rw [List.foldl_append,List.foldl_cons,List.foldl_nil,hd]
     rfl
    rw [hm] at h
    simp only [Bool.and_eq_true,Bool.true_and,Bool.not_eq_true',Bool.or_eq_false_iff] at h ⊢
    exact ⟨h.1.2.1,h.2.2.1,h.2.2.2.1⟩
   rw [if_pos h2]
   exact .inl rfl
 · rw [if_neg h]
   exact .inr rfl
end
section
open Go.RowKit Go.Shelf
theorem rcount3 (rs:List (Int × Int)) (hcl:∀ r∈rs,Cln r) (hn:rs.length≤4096) (A:Option Addr) (c:Nat) (w:World) (hs:Sl w w.heap.size A (recCs rs)) :
 Calls Tryz.prog 48 #[.slice A rs.length c] w fun e w'=>e=.returned (.int .u64 (cntL rs:Int))∧Below w.heap.size w w':=by
 have HS:=hide hs;have HCL:=hide hcl
 clear hs hcl
 go_enter Tryz.func48,Tryz.ntmps48
 go_wp2
 go_loopw [3,4] (fun u i wr=>∃ k:Nat,k≤rs.length∧i=.int .i64 k∧u=.int .u64 (cntL (rs.take k):Int)∧Below w.heap.size w wr)
  (fun _ i _=>rs.length - (intOf i).toNat)
 case atStart=>exact ⟨0,Nat.zero_le _,rfl,rfl,Below.refl _ _⟩
 case round =>
  obtain ⟨k,hk,rfl,rfl,hbr⟩:=hrel
  by_cases hlt:k<rs.length
  · have hlti:(k:Int)<(rs.length:Int):=by omega
    obtain ⟨r,hr⟩:∃ r,rs[k]?=some r:=⟨_,List.getElem?_eq_getElem hlt⟩
    have hrc:=HCL.out r (List.mem_of_getElem? hr)
    obtain ⟨b,off,rfl,hb,c0,c1⟩:=(HS.out.below hbr).rec_ hr
    have hcs:=cntL_snoc (rs.take k) r
    have htk:rs.take (k+1)=rs.take k++[r]:=by rw [List.take_add_one,hr];rfl
    rw [← htk] at hcs
    have hle:=cntL_le (rs.take k) (fun x hx=>HCL.out x (List.mem_of_mem_take hx))
    rw [List.length_take] at hle
    have hr1:0≤r.1∧r.1≤1:=by
     rcases hrc with ⟨h,_⟩ | h
     · rw [h];decide
     · rw [h];decide
    have hbit:IntKind.u64.wrap (r.1.tmod 2)=r.1:=by
     rcases hrc with ⟨h,_⟩ | h
     · rw [h];rfl
     · rw [h];rfl
    have hw:IntKind.u64.wrap ((cntL (rs.take k):Int)+r.1)=(cntL (rs.take (k+1)):Int):=by rw [IntKind.wrap_u64,hcs];omega
    obtain ⟨C0,hC0⟩:∃ C0,C0=cntL (rs.take k):=⟨_,rfl⟩
    obtain ⟨C1,hC1⟩:∃ C1,C1=cntL (rs.take (k+1)):=⟨_,rfl⟩
    have HC1:=hide hC1
    rw [← hC0] at hw
    rw [← hC1] at hw
    rw [← hC0]
    obtain ⟨r1,r2⟩:=r
    dsimp only at *
    clear hr hcs htk hle hrc hC0 hC1
    go_wp2
    go_roundw
    case rel=>exact ⟨k+1,by omega,by go_num,by rw [show r1 % 2=r1 by omega,hw,HC1.out],hbr⟩
    case measure=>simp [intOf];omega
  · obtain rfl:k=rs.length:=by omega
    rw [List.take_length]
    go_wp2
    go_ret
    exact ⟨rfl,hbr⟩
end
end Go.Proofs.YtpnoofphfomjoaaGreatDoor
