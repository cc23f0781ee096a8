/- RefPts -/
import Derived.BigQuiet
import Derived.ChangeAlike
import Derived.Deep.CutBlock
import Derived.Deep.QuietTactic
import Derived.Laws.Bits64b
import Derived.Outline
import Derived.Shelf.Bits.Mul64
import Derived.Shelf.Small.Bits
import Derived.Test.YthnenedoblncjaaGreatDoorPkP30
import Derived.Test.YthnenedoblncjaaGreatDoorPkP34
set_option maxRecDepth 1000000
set_option maxHeartbeats 8000000
namespace Go.Proofs.YthnenedoblncjaaGreatDoor
open List (getElem_toArray getElem_cons_succ getElem_cons_zero setIfInBounds_toArray set_cons_zero set_cons_succ)
section
open Go.RowKit Go.Shelf
attribute [local go_sem] Oper.semAt_some
theorem rparse_u (a:List UInt8) (ha:a.length≤1000) (X:World):Calls Tryz.prog 37 #[.string (strOf a),.int .i64 1] X fun e X'=>Below X.heap.size X X' ∧
 ∃ A n c,e=.returned (.tuple #[.slice A n c,.int .i64 (pErr a 1)])∧(pErr a 1=0→n=1∧∃ bx ox z,A=some ⟨bx,ox,none⟩∧X'.cell? ⟨bx,ox,none⟩=some (.int .u64 z)∧bx<X'.heap.size∧IntKind.i64.wrap z=pVal a):=by
 refine (rparse10_any (strOf a) 1 (by rw [strOf_size];omega) X).mono ?_
 rintro e X' ⟨hb,h⟩
 have e0:(strOf a).data.toList=a:=rfl
 rw [e0] at h
 refine ⟨hb,?_⟩
 rcases h with ⟨h0,A,c,rfl,hs⟩ | ⟨h0,rfl⟩
 · refine ⟨A,_,c,by rw [h0];rfl,fun _=>⟨rfl,?_⟩⟩
   obtain ⟨bx,ox,rfl,hbx,hcx⟩:=hs.u (by rw [lims_length];decide)
   have hf:=fits1w (pErr_fits h0)
   refine ⟨bx,ox,_,rfl,hcx 0 _ (lims_get _ (by decide)),hbx,?_⟩
   unfold lim
   rw [IntKind.wrap_i64]
   simp only [Int.pow_zero,Int.ediv_one]
   omega
 · exact ⟨none,0,0,rfl,fun h=>absurd h h0⟩
section
variable (l:List (List UInt8)) (b off c:Nat) (hl:∀ x∈l,x.length≤1000) (hn:l.length≤1000000) (w:World) (hs:Sl w w.heap.size (some ⟨b,off,none⟩) (strCs l))
include hl hn hs
theorem rpoints_any23:Calls Tryz.prog 38 #[.slice (some ⟨b,off,none⟩) l.length c] w (PtsOut l w):=by
 have hmix:Tryz.prog.follows .mixedOrders=true:=by kernel_rfl
 obtain ⟨n,hnn⟩:∃ n,n=l.length:=⟨_,rfl⟩
 obtain ⟨i0,hi,hz0,hz1,hz2⟩:=info_parts pt_infoS
 rw [← hnn]
 by_cases h0:n=0
 · have HOK:Hid (ptsOk l=none):=hide (by
    obtain rfl:l=[]:=List.length_eq_zero_iff.1 (by omega)
    rfl)
   subst h0
   clear hl hn hs hnn
   go_enter Tryz.func38,Tryz.ntmps38
   go_wp2
   go_ret2
   exact ⟨Below.refl _ _,.inr ⟨HOK.out,rfl⟩⟩
 · have hz:¬ (n:Int)=0:=by omega
   have hzb:((n:Int) == 0)=false:=beq_eq_false_iff_ne.2 hz
   by_cases hp:n % 2=1
   · have HOK:Hid (ptsOk l=none):=hide (ptsOk_none (x:=n / 2) (by rw [← hnn];unfold chunkN;omega) (ptAtW_short (by rw [← hnn];omega)))
     have hpe:(n:Int) % 2=1:=by omega
     have hpb:((n:Int) % 2 == 1)=true:=beq_iff_eq.2 hpe
     clear hl hn hs hnn hp h0
     go_enter Tryz.func38,Tryz.ntmps38
     go_wp2
     go_ret2
     exact ⟨Below.refl _ _,.inr ⟨HOK.out,rfl⟩⟩
   · have hpe:¬ (n:Int) % 2=1:=by omega
     have hpb:((n:Int) % 2 == 1)=false:=beq_eq_false_iff_ne.2 hpe
     have HN:=hide hnn;have HS:=hide hs;have HLL:=hide hl;have HLN:=hide hn;have HP:=hide hp;have H0:=hide h0
     clear hl hn hs hnn hp h0
     refine (callsIn_wide (n:=6)).1 ?_
     refine callsIn_of_wp Tryz.func38 rfl trivial ?_ rfl
     simp only [Tryz.ntmps38,List.size_toArray,List.length_cons,List.length_nil,Nat.reduceAdd,Nat.reduceSub,Array.replicate_succ,Array.replicate_zero,List.push_toArray,List.append_toArray,List.nil_append,List.cons_append]
     gi_wp2
     gi_loopw [4,5] (fun v i wr=>∃ (k j:Nat) (ps:List Pt),j=2*k∧j≤n∧i=.int .i64 (j:Int)∧optL (ptAtW l) (List.range k)=some ps∧wr.ownsRow w.heap.size 41 2 v ps.length (ptCs ps)∧Below w.heap.size w wr)
      (fun _ i _=>n - (intOf i).toNat)
     case atStart=>exact ⟨0,0,[],rfl,Nat.zero_le _,rfl,rfl,World.ownsRow_nil _ _ _ _,Below.refl _ _⟩
     case round =>
      obtain ⟨k,j,ps,hj,hjn,rfl,hps,hown,hbr⟩:=hrel
      have hpl:ps.length=k:=by rw [optL_len _ hps,List.length_range]
      by_cases hlt:j<n
      · have hki:(j:Int)<(n:Int):=by omega
        have hj2:j+1<n:=by have:=HP.out;omega
        have hki2:(j:Int)+1<(n:Int):=by omega
        have hnb:n≤1000000:=by have:=HN.out;have:=HLN.out;omega
        obtain ⟨a,ha⟩:∃ a,l[j]?=some a:=⟨_,List.getElem?_eq_getElem (by rw [← HN.out];exact hlt)⟩
        obtain ⟨d,hd⟩:∃ d,l[j+1]?=some d:=⟨_,List.getElem?_eq_getElem (by rw [← HN.out];exact hj2)⟩
        have hat:ptAtW l k=if pErr a 1=0∧pErr d 1=0 then some (pVal a,pVal d) else none:=ptAtW_of (by rw [← hj];exact ha) (by rw [← hj];exact hd)
        have hSX:Sl wr wr.heap.size (some ⟨b,off,none⟩) (strCs l):=(HS.out.below hbr).more hbr.size
        have ca:=str_cell hSX ha
        have P1:=hide (rparse_u a (HLL.out a (List.mem_of_getElem? ha)) wr)
        have P2:=hide (fun X3=>rparse_u d (HLL.out d (List.mem_of_getElem? hd)) X3)
        have CD:Hid (∀ X3,Below wr.heap.size wr X3→X3.cell? ⟨b,off+(j+1),none⟩=some (.string (strOf d))):=hide fun X3 h=>str_cell ((hSX.below h).more h.size) hd
        obtain ⟨E1,hE1⟩:∃ E,E=pErr a 1:=⟨_,rfl⟩
        obtain ⟨E2,hE2⟩:∃ E,E=pErr d 1:=⟨_,rfl⟩
        obtain ⟨V1,hV1⟩:∃ E,E=pVal a:=⟨_,rfl⟩
        obtain ⟨V2,hV2⟩:∃ E,E=pVal d:=⟨_,rfl⟩
        obtain ⟨T1,hT1⟩:∃ T,T=strOf a:=⟨_,rfl⟩
        obtain ⟨T2,hT2⟩:∃ T,T=strOf d:=⟨_,rfl⟩
        rw [← hE1,← hE2,← hV1,← hV2] at hat
        rw [← hT1] at ca P1
        rw [← hE1,← hV1] at P1
        rw [← hT2] at P2 CD
        rw [← hE2,← hV2] at P2
        have HNONE:Hid (¬ (E1=0∧E2=0)→ptsOk l=none):=hide fun hh=>ptsOk_none (x:=k) (by rw [← HN.out];unfold chunkN;omega) (by rw [hat,if_neg hh])
        have HSOME:Hid (E1=0→E2=0→optL (ptAtW l) (List.range (k+1))=some (ps++[(V1,V2)])):=hide fun h1 h2=>by
         rw [List.range_succ]
         exact optL_snoc (ptAtW l) k (by rw [hat,if_pos ⟨h1,h2⟩]) hps
        have HBR:=hide hbr;have HOW:=hide hown;have HJ:=hide (And.intro hj hpl)
        clear ha hd hat hSX hE1 hE2 hV1 hV2 hT1 hT2 hbr hown hj hps hpl
        gi_wp2_with fail
        refine ⟨trivial,?_⟩
        refine (callsIn_wide.2 P1.out).mono ?_
        rintro e X3 ⟨hb3,A1,n1,c1,rfl,h1⟩
        have HB3:=hide hb3;have HH1:=hide h1
        have cd:=CD.out X3 hb3
        clear hb3 h1 ca P1 CD
        gi_wp2_with fail
        refine ⟨trivial,?_⟩
        refine (callsIn_wide.2 (P2.out X3)).mono ?_
        rintro e X4 ⟨hb4,A2,n2,c2,rfl,h2⟩
        have HB34:=hide hb4
        have HBB:=hide (bl_step HB3.out hb4);have HH2:=hide h2
        clear hb4 h2 cd P2
        by_cases e1:E1=0
        · subst e1
          by_cases e2:E2=0
          · subst e2
            obtain ⟨rfl,bx,ox,z1,rfl,cx,hbx,wx⟩:=HH1.out rfl
            obtain ⟨rfl,by_,oy,z2,rfl,cy,hby,wy⟩:=HH2.out rfl
            have cx4:X4.cell? ⟨bx,ox,none⟩=some (.int .u64 z1):=(World.cell?_of_block (HB34.out.block bx hbx)).trans cx
            obtain ⟨X5,hX5⟩:∃ X5,X5=X4.drew.alloc (.cells #[.int .i64 V1,.int .i64 V2] 41):=⟨_,rfl⟩
            obtain ⟨g5,hg5⟩:∃ g5,g5=X4.drew.heap.size:=⟨_,rfl⟩
            have hb45:Below X4.heap.size X4 X5:=by rw [hX5];exact bl_alloc (bl_drew (Below.refl _ _)) _
            have N5:Blk X5 g5 41 #[.int .i64 V1,.int .i64 V2]:=by rw [hX5,hg5];exact Blk.new _ _ _
            have hb25:=bl_step HBB.out hb45
            have hown5:=own_step HOW.out hb25
            have hbl5:=bl_step HBR.out hb25
            have hpn:ps.length≤1000000:=by have:=HJ.out;omega
            obtain ⟨g6,c6,X6,hr6,hown6,hg6,-,-⟩:=run_append_lies (P:=Tryz.prog) X5 36 36 w.heap.size 41 i0 (.agg #[.int .i64 0,.int .i64 0]) 2 16 Tryz.underlying36 hi hz0 hz1 hz2 rfl (by decide) _ ps.length (ptCs ps) hown5 ⟨g5,0,none⟩ 1 1 [.int .i64 V1,.int .i64 V2] rfl (blk_cells N5) (by simp [Value.oneCell']) (by omega) (by unfold maxLen;omega) (by omega) hbl5.size _ rfl
            have hB6:Below w.heap.size w X6:=hbl5.grown hg6 hbl5.size (fun j hj=>own_base hown5 hj)
            have HF:Hid (∃ ps':List Pt,optL (ptAtW l) (List.range (k+1))=some ps'∧X6.ownsRow w.heap.size 41 2 (.slice (some ⟨g6,0,none⟩) (ps.length+1) c6) ps'.length (ptCs ps')∧Below w.heap.size w X6):=hide ⟨ps++[(V1,V2)],HSOME.out rfl rfl,by
             have e:(ps++[(V1,V2)]).length=ps.length+1:=by simp
             rw [ptCs_snoc,e]
             exact hown6,hB6⟩
            have hX5s:=hX5.symm
            have S0:X4.drew.cell? ⟨bx,ox,none⟩=some (.int .u64 z1)∧X4.drew.cell? ⟨by_,oy,none⟩=some (.int .u64 z2):=⟨cx4,cy⟩
            have S5:X5.cell? ⟨bx,ox,none⟩=some (.int .u64 z1)∧X5.cell? ⟨by_,oy,none⟩=some (.int .u64 z2):=⟨(World.cell?_of_block (hb45.block bx (Nat.lt_of_lt_of_le hbx HB34.out.size))).trans cx4,(World.cell?_of_block (hb45.block by_ hby)).trans cy⟩
            clear hX5 hb45 N5 hb25 hown5 hbl5 hpn hown6 hg6 hB6 cx cy cx4 hbx hby
            gi_wp2
            refine startT 11 (S:=fun Y=>Y.cell? ⟨bx,ox,none⟩=some (.int .u64 z1)∧Y.cell? ⟨by_,oy,none⟩=some (.int .u64 z2)) hmix ?_
            have hg5s:=hg5.symm
            clear hg5
            generalize X4.drew=u0 at *
            refine' takeT (i:=0) (v:=_) (noDefer_of (by kernel_rfl)) rfl (by kernel_rfl) (by kernel_rfl) (by kernel_rfl) (fun _ _ _ h=>h) (by kernel_rfl) ⟨Or.inl ⟨by rfl,?hy0k1⟩,fun _=>rfl⟩ S0 ?rest0k1
            case hy0k1 =>
             intro w' hSw
             obtain ⟨q0,q1⟩:=hSw
             go_simp
             rfl
            simp only [Act.put,getElem_toArray,getElem_cons_zero,setIfInBounds_toArray,set_cons_zero,set_cons_succ]
            refine' takeT (i:=1) (v:=_) (noDefer_of (by kernel_rfl)) rfl (by kernel_rfl) (by kernel_rfl) (by kernel_rfl) (fun _ _ _ h=>h) (by kernel_rfl) ⟨Or.inl ⟨by rfl,?hy1k2⟩,fun _=>rfl⟩ S0 ?rest1k2
            case hy1k2 =>
             intro w' hSw
             obtain ⟨q0,q1⟩:=hSw
             go_simp
             rfl
            simp only [Act.put,getElem_toArray,getElem_cons_succ,getElem_cons_zero,setIfInBounds_toArray,set_cons_zero,set_cons_succ]
            refine' takeT (i:=2) (v:=_) (noDefer_of (by kernel_rfl)) rfl (by kernel_rfl) (by kernel_rfl) (by kernel_rfl) (fun _ _ _ h=>h) (by kernel_rfl) ⟨Or.inl ⟨by rfl,?hy2k3⟩,fun _=>rfl⟩ S0 ?rest2k3
            case hy2k3 =>
             intro w' hSw
             obtain ⟨q0,q1⟩:=hSw
             go_simp
             rfl
            simp only [Act.put,getElem_toArray,getElem_cons_succ,getElem_cons_zero,setIfInBounds_toArray,set_cons_zero,set_cons_succ]
            refine' takeT (i:=3) (v:=_) (noDefer_of (by kernel_rfl)) rfl (by kernel_rfl) (by kernel_rfl) (by kernel_rfl) (fun _ _ _ h=>h) (by kernel_rfl) ⟨Or.inl ⟨by rfl,?hy3k4⟩,fun _=>rfl⟩ S0 ?rest3k4
            case hy3k4 =>
             intro w' hSw
             obtain ⟨q0,q1⟩:=hSw
             go_simp
             rfl
            simp only [Act.put,getElem_toArray,getElem_cons_succ,getElem_cons_zero,setIfInBounds_toArray,set_cons_zero,set_cons_succ]
            refine' takeT (i:=4) (v:=_) (noDefer_of (by kernel_rfl)) rfl (by kernel_rfl) (by kernel_rfl) (by kernel_rfl) (fun _ _ _ h=>h) (by kernel_rfl) ⟨Or.inl ⟨by rfl,?hy4k5⟩,fun _=>rfl⟩ S0 ?rest4k5
            case hy4k5 =>
             intro w' hSw
             obtain ⟨q0,q1⟩:=hSw
             go_simp
             rfl
            simp only [Act.put,getElem_toArray,getElem_cons_succ,getElem_cons_zero,setIfInBounds_toArray,set_cons_zero,set_cons_succ]
            refine' takeT (i:=5) (v:=_) (noDefer_of (by kernel_rfl)) rfl (by kernel_rfl) (by kernel_rfl) (by kernel_rfl) (fun _ _ _ h=>h) (by kernel_rfl) ⟨Or.inl ⟨by rfl,?hy5k6⟩,fun _=>rfl⟩ S0 ?rest5k6
            case hy5k6 =>
             intro w' hSw
             obtain ⟨q0,q1⟩:=hSw
             go_simp
             rfl
            simp only [Act.put,getElem_toArray,getElem_cons_succ,getElem_cons_zero,setIfInBounds_toArray,set_cons_zero,set_cons_succ]
            refine' takeT (i:=6) (v:=_) (noDefer_of (by kernel_rfl)) rfl (by kernel_rfl) (by kernel_rfl) (by kernel_rfl) (fun _ _ _ h=>h) (by kernel_rfl) ⟨Or.inl ⟨by rfl,?hy6k7⟩,fun _=>rfl⟩ S0 ?rest6k7
            case hy6k7 =>
             intro w' hSw
             obtain ⟨q0,q1⟩:=hSw
             go_simp
             rfl
            simp only [Act.put,getElem_toArray,getElem_cons_succ,getElem_cons_zero,setIfInBounds_toArray,set_cons_zero,set_cons_succ]
            refine' takeT (i:=7) (v:=_) (noDefer_of (by kernel_rfl)) rfl (by kernel_rfl) (by kernel_rfl) (by kernel_rfl) (fun _ _ _ h=>h) (by kernel_rfl) ⟨Or.inl ⟨by rfl,?hy7k8⟩,fun _=>rfl⟩ S0 ?rest7k8
            case hy7k8 =>
             intro w' hSw
             obtain ⟨q0,q1⟩:=hSw
             go_simp
             rfl
            simp only [Act.put,getElem_toArray,getElem_cons_succ,getElem_cons_zero,setIfInBounds_toArray,set_cons_zero,set_cons_succ]
            refine' takeT (i:=8) (v:=_) (noDefer_of (by kernel_rfl)) rfl (by kernel_rfl) (by kernel_rfl) (by kernel_rfl) (fun _ _ _ h=>h) (by kernel_rfl) ⟨Or.inl ⟨by rfl,?hy8k9⟩,fun _=>rfl⟩ S0 ?rest8k9
            case hy8k9 =>
             intro w' hSw
             obtain ⟨q0,q1⟩:=hSw
             go_simp
             rfl
            simp only [Act.put,getElem_toArray,getElem_cons_succ,getElem_cons_zero,setIfInBounds_toArray,set_cons_zero,set_cons_succ]
            refine' takeT (i:=9) (v:=_) (noDefer_of (by kernel_rfl)) rfl (by kernel_rfl) (by kernel_rfl) (by kernel_rfl) (fun _ _ _ h=>h) (by kernel_rfl) ⟨Or.inl ⟨by rfl,?hy9k10⟩,fun _=>rfl⟩ S0 ?rest9k10
            case hy9k10 =>
             intro w' hSw
             obtain ⟨q0,q1⟩:=hSw
             go_simp
             rfl
            simp only [Act.put,getElem_toArray,getElem_cons_succ,getElem_cons_zero,setIfInBounds_toArray,set_cons_zero,set_cons_succ]
            refine oneT (i:=10) (by kernel_rfl) rfl ?_
            intro K hK
            rw [if_pos (by rfl)]
            go_simp
            refine hK.out _ _ (fun _=>S5) ?_
            clear hK K
            (try simp only [Act.put,getElem_toArray,getElem_cons_succ,getElem_cons_zero,setIfInBounds_toArray,set_cons_zero,set_cons_succ])
            refine oneT (i:=11) (by kernel_rfl) rfl ?_
            intro K hK
            rw [if_pos (by rfl)]
            refine app_opIn (.tmp 48) (.tmp 58) 36 rfl _ _ rfl rfl hr6 ?_
            refine hK.out _ _ (fun h=>absurd h (by decide)) ?_
            clear hK K
            (try simp only [Act.put,getElem_toArray,getElem_cons_succ,getElem_cons_zero,setIfInBounds_toArray,set_cons_zero,set_cons_succ])
            refine oneT (i:=12) (by kernel_rfl) rfl ?_
            intro K hK
            rw [if_pos (by rfl)]
            go_simp
            refine hK.out _ _ (fun h=>absurd h (by decide)) ?_
            clear hK K
            (try simp only [Act.put,getElem_toArray,getElem_cons_succ,getElem_cons_zero,setIfInBounds_toArray,set_cons_zero,set_cons_succ])
            refine doneT (by kernel_rfl) ?_ _
            gi_wp2
            go_roundw
            case rel =>
             obtain ⟨ps',h1,h2,h3⟩:=HF.out
             exact ⟨k+1,j+2,ps',by have:=HJ.out;omega,by omega,by go_num,h1,h2,h3⟩
            case measure=>simp [intOf];omega
          · have he2:(E2 == 0)=false:=beq_eq_false_iff_ne.2 e2
            have HBAD:=hide (HNONE.out fun h=>e2 h.2)
            have HB4:=hide (bl_step HBR.out HBB.out)
            clear HNONE HSOME HH1 HH2 HOW
            gi_wp2
            go_ret2
            exact ⟨HB4.out,.inr ⟨HBAD.out,rfl⟩⟩
        · have he1:(E1 == 0)=false:=beq_eq_false_iff_ne.2 e1
          have HBAD:=hide (HNONE.out fun h=>e1 h.1)
          have HB4:=hide (bl_step HBR.out HBB.out)
          clear HNONE HSOME HH1 HH2 HOW
          gi_wp2
          go_ret2
          exact ⟨HB4.out,.inr ⟨HBAD.out,rfl⟩⟩
      · obtain rfl:j=n:=by omega
        have hki:¬ (j:Int)<(j:Int):=by omega
        have HOK:Hid (ptsOk l=some ps):=hide (by
         have e:chunkN l.length=k:=by rw [← HN.out];unfold chunkN;omega
         unfold ptsOk ptsW
         rw [e,hps]
         cases ps with
         | nil=>have:=H0.out;rw [List.length_nil] at hpl;omega
         | cons p r=>rfl)
        obtain ⟨VA,vc,rfl,-⟩:=own_slice hown
        have HO:=hide hown;have HB:=hide hbr
        obtain ⟨q,hq⟩:∃ q,q=ps.length:=⟨_,rfl⟩
        rw [← hq]
        have HQ:=hide hq
        clear hown hbr hps hpl hj hq
        gi_wp2
        go_ret2
        exact ⟨HB.out,.inl ⟨ps,_,HOK.out,rfl,by rw [HQ.out];exact HO.out⟩⟩
end
end
end Go.Proofs.YthnenedoblncjaaGreatDoor
