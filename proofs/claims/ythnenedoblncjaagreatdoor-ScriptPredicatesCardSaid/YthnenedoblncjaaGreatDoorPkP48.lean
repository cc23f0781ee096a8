/- ScrRunA ScrRunB ScrRun ScrRunC -/
import Derived.BigQuiet
import Derived.ChangeAlike
import Derived.Deep.AppendLies
import Derived.Deep.QuietTactic
import Derived.Deep.RegionLaw
import Derived.Lib.SliceRun
import Derived.Test.YthnenedoblncjaaGreatDoorPkP18
import Derived.Test.YthnenedoblncjaaGreatDoorPkP43
set_option maxRecDepth 1000000
set_option maxHeartbeats 8000000
namespace Go.Proofs.YthnenedoblncjaaGreatDoor
section
open Go.RowKit Go.Shelf
def runA (σ:St):Ans:=(hbatch (σ.1.map cg) σ.2).1
def runT (σ:St):List UInt8 :=
 if (runA σ).val=0 then [105,110,118,97,108,105,100] else Lib.join (txt (runA σ).cnt::((runA σ).recs.take (runA σ).cnt.toNat).map fun r=>dgB r.2.toNat) [32]
theorem run_ses {σ:St} {sb:Nat} {gs:List Gr} {RA QA:Option Addr} {n rc m qc:Nat} {Wr Rd:Nat→Prop} {X:World} (h:Ses σ sb gs (.slice RA n rc) (.slice QA m qc) Wr Rd X) (hn:n=gs.length) (hm:m=σ.2.length) (hw:MW X) :
 Calls Tryz.prog 147 #[.pointer none,.slice RA n rc,.slice QA m qc] X fun e w'=>∃ A c er,(runA σ).recs.length≤c∧e=.returned (.tuple #[.agg #[.int .i64 (runA σ).val,.int .i64 (runA σ).cnt,.slice A (runA σ).recs.length c],.int .i64 er])∧Below X.heap.size X w'∧Sl w' w'.heap.size A (recCs (runA σ).recs):=by
 subst hn;subst hm
 have hh:∀ g∈gs,g.1.n=g.2.length:=fun g hg=>(h.pts g hg).1
 have e1:hbatch (σ.1.map cg) σ.2=hbatch gs σ.2:=by rw [← h.data,cg_gd,can_hbatch hh]
 unfold runA
 rw [e1]
 refine (runC_any (fun k=>k<X.heap.size) none [] gs RA rc σ.2 QA qc (fun q hq=>(h.small.2.1 q hq).1) (fun q hq=>(h.small.2.1 q hq).2) X (fun k h=>h) hw.2 ((Sl.of_own h.rows).slP fun _ h=>h) (fun g hg=>⟨hh g hg,(h.pts g hg).2.mono h.rlt,(h.small.1 g hg).1,by have:=(h.small.1 g hg).2;omega⟩) ((Sl.of_own h.qrows).slP fun _ h=>h) hw trivial (.inl rfl)).mono ?_
 rintro e w' ⟨A,c,hc,rfl,hk,-,hs⟩
 exact ⟨A,c,_,hc,rfl,⟨hk.os,hk.tape,hk.output,hk.size,hk.block⟩,hs⟩
theorem recs_far {X:World} {g A0:Nat} {rs:List (Int × Int)} {A:Option Addr} (hb:Blk X g 175 #[.int .i64 0,.int .i64 0,.slice none 0 0]) (hs:Sl X A0 A (recCs rs)):recCs rs=[]∨∃ b off,A=some ⟨b,off,none⟩∧b≠g∧b<A0∧∀ j u,(recCs rs)[j]?=some u→X.cell? ⟨b,off+j,none⟩=some u:=by
 rcases hs with h0 | ⟨b,off,hA,hlt,hc⟩
 · exact .inl h0
 · cases rs with
   | nil=>exact .inl rfl
   | cons r rs =>
     refine .inr ⟨b,off,hA,fun e=>?_,hlt,hc⟩
     subst e
     have h1:=hc 0 (.int .u64 r.1) rfl
     rw [Nat.add_zero] at h1
     match off,h1 with
     | 0,h1=>rw [hb.cell (i:=0) (v:=.int .i64 0) rfl] at h1;cases h1
     | 1,h1=>rw [hb.cell (i:=1) (v:=.int .i64 0) rfl] at h1;cases h1
     | 2,h1=>rw [hb.cell (i:=2) (v:=.slice none 0 0) rfl] at h1;cases h1
     | k+3,h1 =>
       have h2:X.cell? ⟨b,k+3,none⟩=none:=by
        unfold Blk at hb
        simp [World.cell?,hb]
       rw [h2] at h1;cases h1
theorem recs_set3 {X:World} {g:Nat} {rs:List (Int × Int)} {A:Option Addr} (hb:Blk X g 175 #[.int .i64 0,.int .i64 0,.slice none 0 0]) (hs:Sl X X.heap.size A (recCs rs)) (x y z:Value) :
 Sl (((X.setCell ⟨g,0,none⟩ x).setCell ⟨g,1,none⟩ y).setCell ⟨g,2,none⟩ z) (((X.setCell ⟨g,0,none⟩ x).setCell ⟨g,1,none⟩ y).setCell ⟨g,2,none⟩ z).heap.size A (recCs rs):=by
 rcases recs_far hb hs with h0 | ⟨b,off,rfl,hne,hlt,hc⟩
 · exact .inl h0
 · refine Sl.mk (by simp;omega) fun j u hu=>?_
   rw [World.cell?_setCell_other _ _ _ _ (fun e=>by injection e with e;exact hne e.symm),World.cell?_setCell_other _ _ _ _ (fun e=>by injection e with e;exact hne e.symm),World.cell?_setCell_other _ _ _ _ (fun e=>by injection e with e;exact hne e.symm)]
   exact hc j u hu
end
section
open Go.RowKit Go.Shelf
theorem runA_ok (σ:St) (hq:∀ q∈σ.2,U64 q.2):(∃ k:Nat,(runA σ).cnt=(k:Int)∧k≤(runA σ).recs.length)∧(∀ r∈(runA σ).recs,U64 r.2)∧(runA σ).recs.length≤σ.2.length∧((runA σ).val≠0→(runA σ).recs≠[]):=by
 unfold runA hbatch
 split
 · exact ⟨⟨0,rfl,Nat.zero_le _⟩,fun r hr=>(by cases hr),Nat.zero_le _,fun h=>absurd rfl h⟩
 · rename_i hb
   have hc:=hrecs_cln (σ.1.map cg) hq
   have hp:=isort_perm rkey (hrecs (σ.1.map cg) σ.2)
   have hl:(hrecs (σ.1.map cg) σ.2).length=σ.2.length:=by unfold hrecs;rw [List.length_map]
   refine ⟨⟨_,rfl,?_⟩,fun r hr=>?_,?_,fun _ h=>?_⟩
   · dsimp only
     rw [hp.length_eq]
     exact cntL_le _ hc
   · have:=hc r (hp.mem_iff.1 hr)
     unfold Cln at this
     unfold U64
     rcases this with h | h
     · exact h.2
     · rw [h];decide
   · dsimp only
     rw [hp.length_eq,hl];exact Nat.le_refl _
   · dsimp only at h
     have h2:=hp.length_eq
     rw [h,hl] at h2
     have h3:σ.2.length=0:=h2.symm
     apply hb
     rw [h3]
     unfold bcheck
     intro h4
     split at h4
     · rename_i h5;exact h5 h4
     · rw [if_pos (by omega)] at h4
       cases h4
theorem joinB {n:Nat} (sep:List UInt8) (hs:sep.length=1):∀ {xs:List (List UInt8)},(∀ x∈xs,x.length≤n)→(Lib.join xs sep).length≤(n+1)*xs.length
 | [],_=>Nat.zero_le _
 | x::r,h=>by
   have h1:=h x (List.mem_cons_self ..)
   have h2:∀ l:List (List UInt8),(∀ x∈l,x.length≤n)→(Lib.joinTail sep l).length≤(n+1)*l.length:=by
    intro l
    induction l with
    | nil=>intro _;exact Nat.zero_le _
    | cons y l ih =>
      intro hl
      have a:=hl y (List.mem_cons_self ..)
      have b:=ih fun y hy=>hl y (List.mem_cons_of_mem _ hy)
      unfold Lib.joinTail at b ⊢
      rw [List.map_cons,List.flatten_cons,List.length_append,List.length_append,hs,List.length_cons,Nat.mul_add]
      omega
   have h3:=h2 r fun y hy=>h y (List.mem_cons_of_mem _ hy)
   rw [Lib.join_cons,List.length_append,List.length_cons,Nat.mul_add]
   omega
theorem dgB_l30 {u:Nat} (h:u<18446744073709551616):(dgB u).length≤30:=by
 have h1:(dr u).length≤19+1:=dr_len (Nat.lt_of_lt_of_le h (by decide))
 unfold dgB
 rw [List.length_map,List.length_reverse]
 omega
end
section
open Go.RowKit Go.Shelf
section
variable {σ:St} {sb:Nat} {gs:List Gr} {vR vQ:Value} {Wr Rd:Nat→Prop} {w:World} (h:Ses σ sb gs vR vQ Wr Rd w) {B:Nat} (he:Env B w) (bx:Nat) (hbx:Blk w bx 24 #[.pointer (some ⟨sb,0,none⟩)])
include h he hbx
theorem run1_any:Calls Tryz.prog 146 #[.pointer (some ⟨bx,0,none⟩)] w fun e w'=>e=.returned (.string (strOf (runT σ)))∧Below w.heap.size w w':=by
 obtain ⟨RA,rc,rfl,_⟩:=own_slice h.rows
 obtain ⟨QA,qc,rfl,_⟩:=own_slice h.qrows
 have c0:=h.blk.cell (i:=0) (v:=.slice RA gs.length rc) rfl
 have c1:=h.blk.cell (i:=1) (v:=.slice QA σ.2.length qc) rfl
 have cb:=hbx.cell (i:=0) (v:=.pointer (some ⟨sb,0,none⟩)) rfl
 obtain ⟨n,hn⟩:∃ n,n=gs.length:=⟨_,rfl⟩
 obtain ⟨m,hm⟩:∃ m,m=σ.2.length:=⟨_,rfl⟩
 have HR:Hid (∀ X,Below w.heap.size w X→Calls Tryz.prog 147 #[.pointer none,.slice RA n rc,.slice QA m qc] X fun e w'=>∃ A c er,(runA σ).recs.length≤c∧e=.returned (.tuple #[.agg #[.int .i64 (runA σ).val,.int .i64 (runA σ).cnt,.slice A (runA σ).recs.length c],.int .i64 er])∧Below X.heap.size X w'∧Sl w' w'.heap.size A (recCs (runA σ).recs)):=hide fun X hX=>by
  rw [hn,hm]
  exact run_ses (h.below hX) rfl rfl (he.new hX).tabs.mw
 have HEN:=hide he
 rw [← hn] at c0
 rw [← hm] at c1
 obtain ⟨a,ha⟩:∃ a,a=runA σ:=⟨_,rfl⟩
 have HT:Hid (runT σ=if a.val=0 then [105,110,118,97,108,105,100] else Lib.join (txt a.cnt::(a.recs.take a.cnt.toNat).map fun r=>dgB r.2.toNat) [32]):=hide (by rw [ha];rfl)
 have HOK:=hide (runA_ok σ fun q hq=>(h.small.2.1 q hq).2)
 have HQ4:=hide h.small.2.2.2
 rw [← ha] at HR HOK
 have hbl:=hbx.lt
 have hsb:=h.blk.lt
 clear h he hbx hn hm ha
 go_enter Tryz.func146,Tryz.ntmps146
 go_upto_region 2 with fail
 go_cut [2] from 3 to 18 (fun p wc=>∃ g A c,p=.pointer (some ⟨g,0,none⟩)∧a.recs.length≤c∧Below w.heap.size w wc∧w.heap.size≤g∧Blk wc g 175 #[.int .i64 a.val,.int .i64 a.cnt,.slice A a.recs.length c]∧Sl wc wc.heap.size A (recCs a.recs))
 · have HBX:=hide hbl
   go_wp2
   go_region_law (first | (go_simp;go_at_call 147;refine (HR.out _ (bl_drew (bA))).mono ?_;rintro e w5 ⟨A,c,er,hc5,rfl,hb5,hs5⟩;have BN:Blk w5 w.heap.size 175 #[.int .i64 0,.int .i64 0,.slice none 0 0]:=(Blk.new _ _ _).drew.step hb5;have z0:=BN.cell (i:=0) rfl;have z1:=BN.cell (i:=1) rfl;have z2:=BN.cell (i:=2) rfl;have f0:=BN.frozen 0;have f1:=BN.frozen 1;have f2:=BN.frozen 2) | (go_simp;go_at_call 147;refine (HR.out _ (bl_drew (Below.refl _ _))).mono ?_;rintro e w5 ⟨A,c,er,hc5,rfl,hb5,hs5⟩))
   all_goals
    go_wp2
    go_meet
    first
     | exact ⟨w.heap.size,A,c,rfl,hc5,(((bl_step (bl_drew (bA)) hb5).setCell (Nat.le_refl _) _).setCell (Nat.le_refl _) _).setCell (Nat.le_refl _) _,Nat.le_refl _,((BN.set 0 _).set 1 _).set 2 _,recs_set3 BN hs5 _ _ _⟩
     | exact ⟨w5.heap.size,A,c,rfl,hc5,bl_alloc (bl_step (bl_drew (Below.refl _ _)) hb5) _,hb5.size,Blk.new _ _ _,(hs5.below (bA)).more (by simp)⟩
 · obtain ⟨g,A,c,rfl,hcc,hb,hg,hB,hs⟩:=hcut
   have z0:=hB.cell (i:=0) (v:=.int .i64 a.val) rfl
   have z1:=hB.cell (i:=1) (v:=.int .i64 a.cnt) rfl
   have z2:=hB.cell (i:=2) (v:=.slice A a.recs.length c) rfl
   by_cases hv:a.val=0
   · have HE:Hid (runT σ=[105,110,118,97,108,105,100]):=hide (by rw [HT.out,if_pos hv])
     have HB:=hide hb
     rw [hv] at z0
     clear hb hs hB HT HR
     go_wp2
     go_ret
     rw [HE.out]
     exact ⟨rfl,HB.out⟩
   · obtain ⟨⟨m,hm,hml⟩,hu,hrl,hne⟩:=HOK.out
     have HE:Hid (runT σ=Lib.join (txt m::(a.recs.take m).map fun r=>dgB r.2.toNat) [32]):=hide (by rw [HT.out,if_neg hv,hm,Int.toNat_natCast])
     have hm4:m≤4096:=by have:=HQ4.out;omega
     obtain ⟨b,off,rfl,hbs,hcs⟩:=hs.open_ (by
      cases hr:a.recs with
      | nil=>exact absurd hr (hne hv)
      | cons r l=>simp [recCs])
     obtain ⟨i0,hi,hz0,hz1,hz2⟩:=info_parts str_info
     have HS:Hid (Sl wc wc.heap.size (some ⟨b,off,none⟩) (recCs a.recs)):=hide hs
     have HU:=hide hu;have HB:=hide hb;have HAB:=hide hB
     have HIT:=hide (itoa_any m (by unfold I64w;omega))
     have HPT:=hide (HEN.out.new hb).pt
     obtain ⟨N,hN⟩:∃ N,N=a.recs.length:=⟨_,rfl⟩
     rw [hm] at z1
     rw [← hN] at z2 hml hcc
     have HN:=hide hN
     have HM:=hide hm
     have hvb:(a.val == 0)=false:=beq_eq_false_iff_ne.2 hv
     have hmc:(m:Int)≤(c:Int):=by omega
     have hm0:(0:Int)≤(m:Int):=by omega
     clear hu hrl hne hs hbs hcs hb hB HOK HQ4 HR HT hN hm
     go_wp2_with fail
     refine (HIT.out _ HPT.out).mono ?_
     rintro e w2 ⟨rfl,hb2⟩
     obtain ⟨w3,hw3⟩:∃ w3,w3=w2.alloc (.cells #[.string (strOf (txt m))] 9):=⟨_,rfl⟩
     obtain ⟨g3,hg3⟩:∃ g3,g3=w2.heap.size:=⟨_,rfl⟩
     have hb3:Below w2.heap.size w2 w3:=by rw [hw3];exact bA
     have hb13:=bl_step hb2 hb3
     have N3:Blk w3 g3 9 #[.string (strOf (txt m))]:=by rw [hw3,hg3];exact Blk.new _ _ _
     have A3:=HAB.out.step hb13
     rw [← HN.out,HM.out] at A3
     have y1:=A3.cell (i:=1) (v:=.int .i64 (m:Int)) rfl
     have y2:=A3.cell (i:=2) (v:=.slice (some ⟨b,off,none⟩) N c) rfl
     have HN3:=hide N3
     have HB3:=hide hb13
     have HG3:Hid (wc.heap.size≤g3):=hide (by rw [hg3];exact hb2.size)
     clear hb2 hb3 hb13 N3 A3 HIT z0 z1 z2
     rw [hw3] at y1 y2
     go_wp2
     rw [← hw3,← hg3]
     clear hw3 hg3 y1 y2
     go_loopw [4,32] (fun v i wr=>∃ k:Nat,k≤m∧i=.int .i64 (k:Int)∧wr.ownsRow wc.heap.size 9 1 v (k+1) (strCs (txt m::(a.recs.take k).map fun r=>dgB r.2.toNat))∧Below wc.heap.size wc wr)
      (fun _ i _=>m - (intOf i).toNat)
     case atStart=>exact ⟨0,Nat.zero_le _,rfl,⟨rfl,.inr ⟨g3,1,_,rfl,HG3.out,HN3.out,by decide,by decide,rfl,rfl⟩⟩,HB3.out⟩
     case round =>
      obtain ⟨k,hk,rfl,hown,hbr⟩:=hrel
      by_cases hkm:k<m
      · have hki:(k:Int)<(m:Int):=by omega
        obtain ⟨r,hr⟩:∃ r,a.recs[k]?=some r:=⟨_,List.getElem?_eq_getElem (by rw [← HN.out];omega)⟩
        obtain ⟨b',off',hA,hbb,q0,q1⟩:=(HS.out.below hbr).rec_ hr
        cases hA
        obtain ⟨u,hu,hu64⟩:∃ u:Nat,r.2=(u:Int)∧u<18446744073709551616:=⟨r.2.toNat,by have:=HU.out r (List.mem_of_getElem? hr);unfold U64 at this;omega,by have:=HU.out r (List.mem_of_getElem? hr);unfold U64 at this;omega⟩
        have HTK:Hid (strCs (txt m::(a.recs.take (k+1)).map fun r=>dgB r.2.toNat)=strCs (txt m::(a.recs.take k).map fun r=>dgB r.2.toNat)++[.string (strOf (dgB u))]):=hide (by
         rw [List.take_add_one,hr,List.map_append]
         simp [strCs,hu])
        obtain ⟨l1,hl1⟩:∃ l1,l1=r.1:=⟨_,rfl⟩
        rw [← hl1] at q0
        rw [hu] at q1
        obtain ⟨w4,hw4⟩:∃ w4,w4=wr.alloc (.cells #[.int .u64 l1,.int .u64 (u:Int)] 148):=⟨_,rfl⟩
        have hb4:Below wr.heap.size wr w4:=by rw [hw4];exact bA
        have N4:Blk w4 wr.heap.size 148 #[.int .u64 l1,.int .u64 (u:Int)]:=by rw [hw4];exact Blk.new _ _ _
        have n0:=N4.cell (i:=0) rfl
        have n1:=N4.cell (i:=1) rfl
        have HBR:=hide (bl_step hbr hb4)
        have HOW:=hide (own_step hown hb4)
        have HFU:=hide (formatU_any u hu64 w4 (HPT.out.step HBR.out))
        clear hr hown hbr hb4 N4 hu hu64 hl1
        rw [hw4] at n0 n1
        go_wp2_with fail
        rw [← hw4]
        refine HFU.out.mono ?_
        rintro e w5 ⟨rfl,hb5⟩
        have N6:=Blk.new w5 9 #[.string (strOf (dgB u))]
        have hb6:=bl_alloc (Below.refl w5.heap.size w5) (.cells #[.string (strOf (dgB u))] 9)
        have hown6:=own_step (own_step HOW.out hb5) hb6
        have hbl6:=bl_step (bl_step HBR.out hb5) hb6
        obtain ⟨g7,c7,w7,hr7,hown7,hg7,-,-⟩:=run_append_lies (P:=Tryz.prog) (w5.alloc (.cells #[.string (strOf (dgB u))] 9)) 28 28 wc.heap.size 9 i0 (.string ⟨#[]⟩) 1 16 Tryz.underlying28 hi hz0 hz1 hz2 rfl (by decide) _ (k+1) _ hown6 ⟨w5.heap.size,0,none⟩ 1 1 [.string (strOf (dgB u))] rfl (blk_cells N6) (by simp [Value.oneCell']) (by omega) (by unfold maxLen;omega) (by omega) hbl6.size _ rfl
        rw [← HTK.out] at hown7
        have HO7:=hide hown7
        have HB7:=hide (hbl6.grown hg7 hbl6.size (fun j hj=>own_base hown6 hj))
        clear hown7 hg7 hown6 hbl6 N6 hb6 hb5 HFU HOW HBR hw4 n0 n1 q0 q1 HTK
        go_wp2_with (at_builtin;refine app_runS (.tmp 36) (.tmp 40) 28 rfl rfl _ _ rfl rfl hr7 ?_)
        go_wp2
        go_roundw
        case rel=>exact ⟨k+1,by omega,by go_num,HO7.out,HB7.out⟩
        case measure=>simp [intOf];omega
      · obtain rfl:k=m:=by omega
        have hki:¬ (k:Int)<(k:Int):=by omega
        obtain ⟨PA,pc,rfl,hpc⟩:=own_slice hown
        have hsl:=Sl.of_own hown
        obtain ⟨xs,hxs⟩:∃ xs,xs=txt (k:Int)::(a.recs.take k).map fun r=>dgB r.2.toNat:=⟨_,rfl⟩
        have hxl:xs.length=k+1:=by rw [hxs,List.length_cons,List.length_map,List.length_take,← HN.out];omega
        rw [← hxs] at hsl HE
        have J:=joinS_any xs [32] PA pc wr hsl (by rw [hxl];exact hpc) (by rw [hxl];omega) (by
         have:=joinB (n:=30) [32] rfl (xs:=xs) (fun x hx=>by
          rw [hxs] at hx
          rcases List.mem_cons.1 hx with rfl | hx
          · exact txt_len (by unfold I64w;omega)
          · obtain ⟨r,hr,rfl⟩:=List.mem_map.1 hx
            have:=HU.out r (List.mem_of_mem_take hr)
            unfold U64 at this
            exact dgB_l30 (by omega))
         rw [hxl] at this
         omega)
        rw [hxl] at J
        have HJ:=hide J
        have HBR:=hide (bl_step HB.out hbr)
        clear hown hsl J hbr hxs hxl
        go_wp2_with fail
        refine HJ.out.mono ?_
        rintro e w' ⟨rfl,hb'⟩
        have HB':=hide (bl_step HBR.out hb')
        clear hb'
        go_wp2
        go_ret
        rw [HE.out]
        exact ⟨rfl,HB'.out⟩
end
end
section
open Go.RowKit Go.Shelf
def runR (l:List (List UInt8)) (σ:St):List UInt8 × St:=if l≠[] then (errT 11,σ) else if σ.1=[]∨σ.2=[] then (errT 6,σ) else (runT σ,σ)
theorem enters_run1:∀ args w,(callFunc 146 args).run Tryz.prog w=.ok (.enter 146 args) w:=enters_of Tryz.func146 (by kernel_rfl) rfl
section
variable {σ:St} {sb:Nat} {gs:List Gr} {vR vQ:Value} {Wr Rd:Nat→Prop} {w:World}
theorem run_batch (l:List (List UInt8)) (A:Option Addr) (c:Nat) (h:Ses σ sb gs vR vQ Wr Rd w) {B:Nat} (he:Env B w) (w1:World) (hw1:w1=w.alloc (.cells #[.pointer (some ⟨sb,0,none⟩)] 24)) :
 Calls Tryz.prog 145 #[.pointer (some ⟨sb,0,none⟩),.slice A l.length c,.func (.func 146) #[] #[.pointer (some ⟨w.heap.size,0,none⟩)]] w1 fun e w'=>∃ t,e=.returned (.string t)∧t=strOf (runR l σ).1∧Step (runR l σ).2 sb Wr Rd w w':=by
 have hb1:Below w.heap.size w w1:=by rw [hw1];exact bA
 have hbx:Blk w1 w.heap.size 24 #[.pointer (some ⟨sb,0,none⟩)]:=by rw [hw1];exact Blk.new _ _ _
 have h1:=h.below hb1
 have he1:=he.new hb1
 have hst:∀ Y,Below w1.heap.size w1 Y→Step σ sb Wr Rd w Y:=fun Y hY=>Step.before hb1 (Step.same ⟨gs,vR,vQ,h1⟩ hY)
 unfold runR
 by_cases hl:l=[]
 · subst hl
   by_cases hs:σ.1=[]∨σ.2=[]
   · rw [if_neg (by simp),if_pos hs]
     exact batch_none A c h1 he1 _ _ (fun t w'=>t=strOf (errT 6)∧Step σ sb Wr Rd w w') hs fun Y hY=>⟨rfl,hst Y hY⟩
   · rw [if_neg (by simp),if_neg hs]
     refine batch_call A c h1 _ _ (fun t w'=>t=strOf (runT σ)∧Step σ sb Wr Rd w w') ⟨fun e=>hs (.inl e),fun e=>hs (.inr e)⟩ enters_run1 ((run1_any h1 he1 w.heap.size hbx).mono ?_)
     rintro e Y ⟨rfl,hY⟩
     exact ⟨_,rfl,rfl,hst Y hY⟩
 · rw [if_pos hl]
   exact batch_len l A c he1 _ _ (fun t w'=>t=strOf (errT 11)∧Step σ sb Wr Rd w w') hl fun Y hY=>⟨rfl,hst Y hY⟩
theorem srun_any (l:List (List UInt8)) (A:Option Addr) (c:Nat) (h:Ses σ sb gs vR vQ Wr Rd w) {B:Nat} (he:Env B w) :
 Calls Tryz.prog 98 #[.pointer (some ⟨sb,0,none⟩),.slice A l.length c] w (Ans23 (runR l σ) sb Wr Rd w):=by
 obtain ⟨w1,hw1⟩:∃ w1,w1=w.alloc (.cells #[.pointer (some ⟨sb,0,none⟩)] 24):=⟨_,rfl⟩
 have HC:=hide (run_batch l A c h he w1 hw1)
 obtain ⟨q,hq⟩:∃ q,q=l.length:=⟨_,rfl⟩
 rw [← hq] at HC ⊢
 clear h he hq
 go_enter Tryz.func98,Tryz.ntmps98
 go_wp2_with fail
 rw [← hw1]
 refine HC.out.mono ?_
 rintro e Y ⟨t,rfl,rfl,hst⟩
 go_wp2
 go_ret
 exact ⟨rfl,hst⟩
end
end
end Go.Proofs.YthnenedoblncjaaGreatDoor
