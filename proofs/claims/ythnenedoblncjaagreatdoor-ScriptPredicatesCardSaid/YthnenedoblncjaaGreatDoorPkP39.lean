/- ScrAdd ScrQuery -/
import Derived.BigQuiet
import Derived.ChangeAlike
import Derived.Deep.AppendLies
import Derived.Deep.QuietTactic
import Derived.Deep.RegionLaw
import Derived.Test.YthnenedoblncjaaGreatDoorPkP17
import Derived.Test.YthnenedoblncjaaGreatDoorPkP30
set_option maxRecDepth 1000000
set_option maxHeartbeats 8000000
namespace Go.Proofs.YthnenedoblncjaaGreatDoor
section
open Go.RowKit Go.Shelf
def polyW:List UInt8:=[112,111,108,121,103,111,110]
def discW:List UInt8:=[100,105,115,99]
def addG (deny kd:Bool) (ws:List (List UInt8)) (σ:St):List UInt8 × St :=
 match ptsOk ws with
 | none=>(errT 11,σ)
 | some ps =>
   if ps.length<3∨(if kd then 64 else 3)<ps.length then (errT 7,σ)
   else if 64≤σ.1.length then (errT 6,σ)
   else (txt (σ.1.length+1:Nat),(σ.1++[(deny,if kd then (ps.length:Int) else 0,ps)],σ.2))
def addR (deny:Bool) (l:List (List UInt8)) (σ:St):List UInt8 × St :=
 match l with
 | []=>(errT 11,σ)
 | x::ws=>if x=polyW then addG deny true ws σ else if x=discW then addG deny false ws σ else (errT 11,σ)
theorem rg_infoS:(Tryz.prog.info? 38).map (fun i=>(i.zero,i.size,i.bytes))=some (some (.agg #[.bool false,.int .i64 0,.slice none 0 0]),3,40):=by kernel_rfl
section
variable {σ:St} {sb:Nat} {gs:List Gr} {vR vQ:Value} {Wr Rd:Nat→Prop} (deny:Bool) (w:World) (h:Ses σ sb gs vR vQ Wr Rd w) {B:Nat} (he:Env B w)
include h he
theorem add_nil (A:Option Addr) (c:Nat):Calls Tryz.prog 142 #[.pointer (some ⟨sb,0,none⟩),.bool deny,.slice A 0 c] w (Ans23 (errT 11,σ) sb Wr Rd w):=by
 have HF:=hide (fail_any 11 (by unfold I64w;omega) w he.pt)
 have HST:=hide (fun X (hb:Below w.heap.size w X)=>Step.same (Wr:=Wr) (Rd:=Rd) (sb:=sb) ⟨gs,vR,vQ,h⟩ hb)
 clear h he
 go_enter Tryz.func142,Tryz.ntmps142
 go_wp2_with fail
 refine HF.out.mono ?_
 rintro e w1 ⟨rfl,hb1⟩
 go_wp2
 go_ret
 exact ⟨rfl,HST.out _ hb1⟩
end
section
variable {σ:St} {sb:Nat} {gs:List Gr} {vR vQ:Value} {Wr Rd:Nat→Prop} (deny:Bool) (t:List UInt8) (ws:List (List UInt8)) (b off c:Nat) (hc:ws.length+1≤c) (hl:∀ x∈ws,x.length≤1000000) (hn:ws.length≤1000000) (w:World) (h:Ses σ sb gs vR vQ Wr Rd w) (hs:Sl w w.heap.size (some ⟨b,off,none⟩) (strCs (t::ws))) {B:Nat} (he:Env B w)
include h hs he
theorem add_other (h1:¬ t=polyW) (h2:¬ t=discW):Calls Tryz.prog 142 #[.pointer (some ⟨sb,0,none⟩),.bool deny,.slice (some ⟨b,off,none⟩) (ws.length+1) c] w (Ans23 (errT 11,σ) sb Wr Rd w):=by
 have HF:=hide (fail_any 11 (by unfold I64w;omega) w he.pt)
 have HST:=hide (fun X (hb:Below w.heap.size w X)=>Step.same (Wr:=Wr) (Rd:=Rd) (sb:=sb) ⟨gs,vR,vQ,h⟩ hb)
 have c0:=str_cell (k:=0) hs rfl
 obtain ⟨s,hs'⟩:∃ s,s=strOf t:=⟨_,rfl⟩
 have k1:¬ s.toList=[112,111,108,121,103,111,110]:=by rw [hs',strOf_toList];exact h1
 have k2:¬ s.toList=[100,105,115,99]:=by rw [hs',strOf_toList];exact h2
 have b1:(s.toList == [112,111,108,121,103,111,110])=false:=beq_eq_false_iff_ne.2 k1
 have b2:(s.toList == [100,105,115,99])=false:=beq_eq_false_iff_ne.2 k2
 rw [← hs'] at c0
 obtain ⟨q,hq⟩:∃ q,q=ws.length:=⟨_,rfl⟩
 rw [← hq]
 clear h he hs hq hs' h1 h2
 rw [Nat.add_zero] at c0
 go_enter Tryz.func142,Tryz.ntmps142
 go_wp2_with fail
 refine HF.out.mono ?_
 rintro e w1 ⟨rfl,hb1⟩
 go_wp2
 go_ret
 exact ⟨rfl,HST.out _ hb1⟩
include hc hl hn h hs he
theorem add_kind (hWB:∀ k,Wr k→B≤k) (kd:Bool) (hkd:t=if kd then polyW else discW):Calls Tryz.prog 142 #[.pointer (some ⟨sb,0,none⟩),.bool deny,.slice (some ⟨b,off,none⟩) (ws.length+1) c] w (Ans23 (addG deny kd ws σ) sb Wr Rd w):=by
 have c0:=str_cell (k:=0) hs rfl
 have HS:=hide hs
 have hs1:Sl w w.heap.size (some ⟨b,off+1,none⟩) (strCs ws):=by
  rcases hs with h0 | ⟨b',off',hA,hb,hc'⟩
  · cases h0
  · injection hA with hA
    injection hA with e1 e2 _
    subst e1;subst e2
    exact Sl.mk hb fun j u hu=>by rw [Nat.add_assoc,Nat.add_comm 1 j];exact hc' (j+1) u (by simpa [strCs] using hu)
 have hs0:ws=[]→Sl w w.heap.size (some ⟨b,off,none⟩) (strCs ws):=fun e=>by subst e;exact Sl.nil _ _ _
 obtain ⟨q,hq⟩:∃ q,q=ws.length:=⟨_,rfl⟩
 have HP1:Hid (∀ c',q≤c'→Calls Tryz.prog 139 #[.slice (some ⟨b,off+1,none⟩) q c'] w (PtsOut ws w)):=hide fun c' h'=>by rw [hq];exact points_any ws b (off+1) c' (by omega) hl hn w hs1 he.tabs.mw
 have HP0:Hid (q=0→Calls Tryz.prog 139 #[.slice (some ⟨b,off,none⟩) q 0] w (PtsOut ws w)):=hide fun h'=>by rw [hq];exact points_any ws b off 0 (by omega) hl hn w (hs0 (List.length_eq_zero_iff.1 (by omega))) he.tabs.mw
 have HST:=hide (fun X (hb:Below w.heap.size w X)=>Step.same (Wr:=Wr) (Rd:=Rd) (sb:=sb) ⟨gs,vR,vQ,h⟩ hb)
 have HF:=hide (fun n (h1:I64w n) X (hb:Below w.heap.size w X)=>fail_any n h1 X (he.new hb).pt)
 have H:=hide h
 have hcq:q+1≤c:=by omega
 have HEN:=hide he
 have HWB:=hide hWB
 obtain ⟨s,hs'⟩:∃ s,s=strOf t:=⟨_,rfl⟩
 obtain ⟨most,hmost⟩:∃ most:Int,most=if kd then 64 else 3:=⟨_,rfl⟩
 have kk:(kd=true∧most=64∧s.toList=[112,111,108,121,103,111,110]∧(s.toList == [112,111,108,121,103,111,110])=true)∨(kd=false∧most=3∧¬ s.toList=[112,111,108,121,103,111,110]∧(s.toList == [112,111,108,121,103,111,110])=false∧s.toList=[100,105,115,99]∧(s.toList == [100,105,115,99])=true):=by
  rw [hmost,hs',strOf_toList,hkd]
  cases kd
  · exact .inr ⟨rfl,rfl,by decide,by decide,rfl,by decide⟩
  · exact .inl ⟨rfl,rfl,rfl,by decide⟩
 rw [← hs'] at c0
 have HQ:=hide hq
 rw [← hq]
 have hdl:σ.1.length=gs.length:=by rw [← h.data,List.length_map]
 have hmm:∀ ps:List Pt,((ps.length:Int)<3∨(ps.length:Int) > most) ↔ (ps.length<3∨(if kd then 64 else 3)<ps.length):=fun ps=>by
  rw [hmost];cases kd <;> simp <;> omega
 have HA7:Hid (∀ ps:List Pt,ptsOk ws=some ps→((ps.length:Int)<3∨(ps.length:Int) > most)→addG deny kd ws σ=(errT 7,σ)):=hide fun ps h1 h2=>by
  unfold addG;rw [h1];exact if_pos ((hmm ps).1 h2)
 have HA6:Hid (∀ ps:List Pt,ptsOk ws=some ps→¬ ((ps.length:Int)<3∨(ps.length:Int) > most)→64≤gs.length→addG deny kd ws σ=(errT 6,σ)):=hide fun ps h1 h2 h3=>by
  unfold addG;rw [h1];exact (if_neg fun h=>h2 ((hmm ps).2 h)).trans (if_pos (by omega))
 have HAK:Hid (∀ ps:List Pt,ptsOk ws=some ps→¬ ((ps.length:Int)<3∨(ps.length:Int) > most)→¬ 64≤gs.length→addG deny kd ws σ=(txt (gs.length+1:Nat),(σ.1++[(deny,if kd then (ps.length:Int) else 0,ps)],σ.2))):=hide fun ps h1 h2 h3=>by
  unfold addG;rw [h1];exact (if_neg fun h=>h2 ((hmm ps).2 h)).trans ((if_neg (by omega)).trans (by rw [hdl]))
 have hm64:most≤64:=by rw [hmost];cases kd <;> simp
 clear hmost hdl hmm h he hWB hs hs1 hs0 hq hs' hkd hc hl hn
 rw [Nat.add_zero] at c0
 by_cases hc1:c=1
 · obtain rfl:q=0:=by omega
   have HP:=hide (HP0.out rfl)
   have HN:ptsOk ws=none:=by rw [List.length_eq_zero_iff.1 HQ.out.symm];rfl
   have HA:Hid (addG deny true ws σ=(errT 11,σ)∧addG deny false ws σ=(errT 11,σ)):=hide (by unfold addG;rw [HN];exact ⟨rfl,rfl⟩)
   clear HP0 HP1 H HA7 HA6 HAK
   subst hc1
   rcases kk with ⟨rfl,hmost,k1,k2⟩ | ⟨rfl,hmost,k1,k2,k3,k4⟩
   all_goals
    go_enter Tryz.func142,Tryz.ntmps142
    go_wp2_with fail
    refine HP.out.mono ?_
    rintro e w1 ⟨hb1,⟨ps,v,h1,rfl,hown⟩ | ⟨h1,rfl⟩⟩
    · rw [HN] at h1;cases h1
    · have HB1:=hide hb1
      have HF1:=hide (HF.out 11 (by unfold I64w;omega) w1 hb1)
      clear h1 hb1 HN
      go_wp2_with fail
      refine HF1.out.mono ?_
      rintro e w2 ⟨rfl,hb2⟩
      go_wp2
      go_ret
      first | rw [HA.out.1] | rw [HA.out.2]
      exact ⟨rfl,HST.out _ (bl_step HB1.out hb2)⟩
 have HP:=hide (HP1.out (c - 1) (by omega))
 clear HP0 HP1
 rcases kk with ⟨rfl,hmost,k1,k2⟩ | ⟨rfl,hmost,k1,k2,k3,k4⟩
 all_goals
  go_enter Tryz.func142,Tryz.ntmps142
  go_wp2_with fail
 all_goals
  refine HP.out.mono ?_
  rintro e w1 ⟨hb1,⟨ps,v,h1,rfl,hown⟩ | ⟨h1,rfl⟩⟩
  · obtain ⟨VA,vc,rfl,hvc⟩:=own_slice hown
    obtain ⟨m,hm⟩:∃ m,m=ps.length:=⟨_,rfl⟩
    have S1:=H.out.below hb1
    obtain ⟨RA,rc,rfl,hrc⟩:=own_slice S1.rows
    obtain ⟨n,hn⟩:∃ n,n=gs.length:=⟨_,rfl⟩
    have cS:=S1.blk.cell (i:=0) (v:=.slice RA gs.length rc) rfl
    have hsb:=S1.blk.lt
    have hbb:=cell_lt c0
    have c1:=(hb1.cell (p:=⟨b,off,none⟩) hbb).trans c0
    have hbl:b<w1.heap.size:=Nat.lt_of_lt_of_le hbb hb1.size
    have HB1:=hide hb1;have H1:=hide h1;have HO:=hide hown;have HM:=hide hm;have HN:=hide hn;have HS1:=hide S1
    rw [← hn] at cS
    rw [← hm]
    clear hb1 h1 hown hm hn S1 hrc hvc c0 hbb
    by_cases hbad:(m:Int)<3∨(m:Int) > most
    · have HE:=hide (HA7.out ps H1.out (by rw [← HM.out];exact hbad))
      clear HA7 HA6 HAK H
      rcases hbad with hm3 | hm3
      all_goals
       subst hmost
       try (have hm5:¬ (m:Int)<3:=by omega)
       go_wp2_with fail
       refine (HF.out 7 (by unfold I64w;omega) _ (bl_alloc HB1.out _)).mono ?_
       rintro e w2 ⟨rfl,hb2⟩
       go_wp2
       go_ret
       rw [HE.out]
       exact ⟨rfl,HST.out _ (bl_step (bl_alloc HB1.out _) hb2)⟩
    · by_cases h64:(n:Int) ≥ 64
      · have HE:=hide (HA6.out ps H1.out (by rw [← HM.out];exact hbad) (by rw [← HN.out];omega))
        have hm3:¬ (m:Int)<3:=fun h=>hbad (.inl h)
        have hm4:¬ (m:Int) > most:=fun h=>hbad (.inr h)
        clear HA7 HA6 HAK hbad
        subst hmost
        go_wp2_with (go_at_call 49;refine (HF.out 6 (by unfold I64w;omega) _ (bl_alloc HB1.out _)).mono ?_;rintro e w2 ⟨rfl,hb2⟩)
        go_ret
        rw [HE.out]
        exact ⟨rfl,HST.out _ (bl_step (bl_alloc HB1.out _) hb2)⟩
      · have HK:=hide (HAK.out ps H1.out (by rw [← HM.out];exact hbad) (by rw [← HN.out];omega))
        have hm3:¬ (m:Int)<3:=fun h=>hbad (.inl h)
        have hm4:¬ (m:Int) > most:=fun h=>hbad (.inr h)
        have hm6:m≤64:=by omega
        obtain ⟨i0,hi,hi0,hi1,hi2⟩:=info_parts rg_infoS
        have HROW:Hid (w1.ownsRow 0 38 3 (.slice RA n rc) n (rgCells (gs.map (·.1)))):=hide (by rw [HN.out];exact HS1.out.rows)
        have hne:some sb≠(Value.slice RA n rc).ownBlock:=fun e=>(HS1.out.wr sb (by rw [HN.out] at e;exact e.symm)).2 rfl
        have fS:=HS1.out.blk.frozen 0
        have hnl:n<64:=by omega
        clear HA7 HA6 HAK hbad h64
        subst hmost
        go_wp2
        go_region_law (first
         | (refine step_append_lies _ (by rfl) (.tmp 71) (.tmp 73) 32 (by rfl) 0 38 i0 (.agg #[.bool false,.int .i64 0,.slice none 0 0]) 3 40 Tryz.underlying32 hi hi0 hi1 hi2 (by rfl) (by decide) (.slice RA n rc) n _ (by rfl) (own_step HROW.out (bl_drew (bl_alloc (bA) _))) ⟨w1.heap.size+1,0,none⟩ 1 1 [.bool deny,.int .i64 _,.slice VA m vc] (by rfl) (by rfl) (blk_cells (Blk.new2 _ _ _ _).drew) (by simp [Value.oneCell']) (by omega) (by unfold maxLen;omega) (by omega) (by omega) (w1.heap.size+2) (by simp) ?_;intro g' cap w7 hown1 hgrow hat hlt';have d1:=(World.grownBy.cell_far hgrow ⟨sb,0,none⟩ (by simp;omega) hne).trans (((bl_drew (bl_alloc (bA) _):Below w1.heap.size w1 _).cell (p:=⟨sb,0,none⟩) hsb).trans cS);have f1:=(World.grownBy.frozen_far hgrow ⟨sb,0,none⟩ (by simp;omega) hne).trans (((bl_drew (bl_alloc (bA) _):Below w1.heap.size w1 _).frozen (p:=⟨sb,0,none⟩) hsb).trans fS))
         | go_simp)
        all_goals
         have hm':=HM.out
         have hn':=HN.out
         subst hm' hn'
         have HST2:=hide (ses_add H.out HB1.out HO.out ⟨(ptsOk_j H1.out).1,hm6⟩ hnl (bl_drew (bl_alloc (bA) _)) hgrow hown1 (hat.imp id fun e=>by rw [e];simp) hlt')
         have HY:=hide (HST2.out.below HEN.out.1 HWB.out)
         clear hown1 hgrow hat hlt' HROW H HS1 HO hne fS f1 hi hi0 hi1 hi2 cS c1
         go_wp2_with (go_at_call 22;refine (itoa_any _ (by unfold I64w;omega) _ (HEN.out.step HY.out).pt).mono ?_;rintro e w9 ⟨rfl,hb9⟩)
         go_ret
         rw [HK.out]
         try simp only [if_true]
         exact ⟨rfl,HST2.out.after hb9⟩
  · have HB1:=hide hb1
    have HA:Hid (addG deny true ws σ=(errT 11,σ)∧addG deny false ws σ=(errT 11,σ)):=hide (by unfold addG;rw [h1];exact ⟨rfl,rfl⟩)
    have HF1:=hide (HF.out 11 (by unfold I64w;omega) w1 hb1)
    clear h1 hb1
    go_wp2_with fail
    refine HF1.out.mono ?_
    rintro e w2 ⟨rfl,hb2⟩
    go_wp2
    go_ret
    first | rw [HA.out.1] | rw [HA.out.2]
    exact ⟨rfl,HST.out _ (bl_step HB1.out hb2)⟩
end
theorem rgadd_any {σ:St} {sb:Nat} {gs:List Gr} {vR vQ:Value} {Wr Rd:Nat→Prop} (deny:Bool) (l:List (List UInt8)) (b off c:Nat) (hc:l.length≤c) (hl:∀ x∈l,x.length≤1000000) (hn:l.length≤1000000) (w:World) (h:Ses σ sb gs vR vQ Wr Rd w) (hs:Sl w w.heap.size (some ⟨b,off,none⟩) (strCs l)) {B:Nat} (he:Env B w) (hWB:∀ k,Wr k→B≤k) :
 Calls Tryz.prog 142 #[.pointer (some ⟨sb,0,none⟩),.bool deny,.slice (some ⟨b,off,none⟩) l.length c] w (Ans23 (addR deny l σ) sb Wr Rd w):=by
 cases l with
 | nil=>exact add_nil deny w h he _ _
 | cons t ws =>
   unfold addR
   dsimp only
   by_cases h1:t=polyW
   · rw [if_pos h1]
     exact add_kind deny t ws b off c hc (fun x hx=>hl x (List.mem_cons_of_mem _ hx)) (by simp only [List.length_cons] at hn;omega) w h hs he hWB true h1
   · rw [if_neg h1]
     by_cases h2:t=discW
     · rw [if_pos h2]
       exact add_kind deny t ws b off c hc (fun x hx=>hl x (List.mem_cons_of_mem _ hx)) (by simp only [List.length_cons] at hn;omega) w h hs he hWB false h2
     · rw [if_neg h2]
       exact add_other deny t ws b off c w h hs he h1 h2
section
variable {σ:St} {sb:Nat} {gs:List Gr} {vR vQ:Value} {Wr Rd:Nat→Prop} (l:List (List UInt8)) (b off c:Nat) (hc:l.length≤c) (hl:∀ x∈l,x.length≤1000000) (hn:l.length≤1000000) (w:World) (h:Ses σ sb gs vR vQ Wr Rd w) (hs:Sl w w.heap.size (some ⟨b,off,none⟩) (strCs l)) {B:Nat} (he:Env B w) (hWB:∀ k,Wr k→B≤k)
include hc hl hn h hs he hWB
theorem allow_any:Calls Tryz.prog 94 #[.pointer (some ⟨sb,0,none⟩),.slice (some ⟨b,off,none⟩) l.length c] w (Ans23 (addR false l σ) sb Wr Rd w):=by
 have HA:=hide (rgadd_any false l b off c hc hl hn w h hs he hWB)
 obtain ⟨n,hnn⟩:∃ n,n=l.length:=⟨_,rfl⟩
 rw [← hnn] at HA ⊢
 clear hc hl hn h hs he hWB hnn
 go_enter Tryz.func94,Tryz.ntmps94
 go_wp2_with fail
 refine HA.out.mono ?_
 rintro e w1 ⟨rfl,hb1⟩
 go_wp2
 go_ret
 exact ⟨rfl,hb1⟩
theorem deny_any:Calls Tryz.prog 95 #[.pointer (some ⟨sb,0,none⟩),.slice (some ⟨b,off,none⟩) l.length c] w (Ans23 (addR true l σ) sb Wr Rd w):=by
 have HA:=hide (rgadd_any true l b off c hc hl hn w h hs he hWB)
 obtain ⟨n,hnn⟩:∃ n,n=l.length:=⟨_,rfl⟩
 rw [← hnn] at HA ⊢
 clear hc hl hn h hs he hWB hnn
 go_enter Tryz.func95,Tryz.ntmps95
 go_wp2_with fail
 refine HA.out.mono ?_
 rintro e w1 ⟨rfl,hb1⟩
 go_wp2
 go_ret
 exact ⟨rfl,hb1⟩
end
end
section
open Go.RowKit Go.Shelf
theorem parse_2 (a:List UInt8) (ha:a.length≤1000000) (X:World) (hw:MW X):Calls Tryz.prog 144 #[.string (strOf a),.int .i64 2] X fun e X'=>Below X.heap.size X X' ∧
 ((pErr a 2=0∧∃ bx ox c z0 z1,e=.returned (.tuple #[.slice (some ⟨bx,ox,none⟩) 2 c,.int .i64 0])∧X'.cell? ⟨bx,ox,none⟩=some (.int .u64 z0)∧X'.cell? ⟨bx,ox+1,none⟩=some (.int .u64 z1)∧bx<X'.heap.size∧(z1=0 ↔ 0≤pVal a∧pVal a<18446744073709551616)∧(z1=0→z0=pVal a)) ∨
   (pErr a 2≠0∧e=.returned (.tuple #[.slice none 0 0,.int .i64 (pErr a 2)]))):=by
 refine (parse_dec (strOf a) 2 (by rw [strOf_size];unfold maxLen;omega) X hw.1 hw.2).mono ?_
 rintro e X' ⟨hb,h⟩
 have e0:(strOf a).data.toList=a:=rfl
 rw [e0] at h
 refine ⟨hb,?_⟩
 rcases h with ⟨h0,A,c,rfl,hs⟩ | ⟨h0,rfl⟩
 · left
   obtain ⟨bx,ox,rfl,hbx,hcx⟩:=hs.u (by rw [lims_length];decide)
   have hf:=pErr_fits h0
   refine ⟨h0,bx,ox,c,_,_,rfl,hcx 0 _ (lims_get _ (by decide)),hcx 1 _ (lims_get _ (by decide)),hbx,?_,?_⟩
   all_goals
    unfold Fits at hf
    unfold lim
    simp only [Int.pow_zero,Int.ediv_one,Int.pow_succ,Int.one_mul]
    simp at hf
    omega
 · exact .inr ⟨h0,rfl⟩
def num2 (a:List UInt8):Option Int:=if pErr a 2=0∧0≤pVal a∧pVal a<18446744073709551616 then some (pVal a) else none
def queryG (a:List UInt8) (l:List (List UInt8)) (σ:St):List UInt8 × St :=
 match num2 a,ptsOk l with
 | some id,some (p::_)=>if 4096≤σ.2.length then (errT 6,σ) else (txt (σ.2.length+1:Nat),(σ.1,σ.2++[(p,id)]))
 | _,_=>(errT 11,σ)
def queryR (l:List (List UInt8)) (σ:St):List UInt8 × St:=if l.length=3 then queryG (l.headD []) l.tail σ else (errT 11,σ)
theorem queryG_pts {a:List UInt8} {l:List (List UInt8)} {σ:St} (h:ptsOk l=none):queryG a l σ=(errT 11,σ):=by
 unfold queryG;rw [h];cases num2 a <;> rfl
theorem queryG_num {a:List UInt8} {l:List (List UInt8)} {σ:St} (h:num2 a=none):queryG a l σ=(errT 11,σ):=by
 unfold queryG;rw [h]
section
variable {σ:St} {sb:Nat} {gs:List Gr} {vR vQ:Value} {Wr Rd:Nat→Prop} (w:World) (h:Ses σ sb gs vR vQ Wr Rd w) {B:Nat} (he:Env B w)
include h he
theorem query_bad (A:Option Addr) (n c:Nat) (hn:n≠3):Calls Tryz.prog 97 #[.pointer (some ⟨sb,0,none⟩),.slice A n c] w (Ans23 (errT 11,σ) sb Wr Rd w):=by
 have HF:=hide (fail_any 11 (by unfold I64w;omega) w he.pt)
 have HST:=hide (fun X (hb:Below w.heap.size w X)=>Step.same (Wr:=Wr) (Rd:=Rd) (sb:=sb) ⟨gs,vR,vQ,h⟩ hb)
 have hn':¬ (n:Int)=3:=by omega
 clear h he hn
 go_enter Tryz.func97,Tryz.ntmps97
 go_wp2_with fail
 refine HF.out.mono ?_
 rintro e w1 ⟨rfl,hb1⟩
 go_wp2
 go_ret
 exact ⟨rfl,HST.out _ hb1⟩
variable (a x y:List UInt8) (b off c:Nat) (hc:3≤c) (hl:∀ z∈[a,x,y],z.length≤1000000) (hs:Sl w w.heap.size (some ⟨b,off,none⟩) (strCs [a,x,y])) (hWB:∀ k,Wr k→B≤k)
include hc hl hs hWB
theorem query_three:Calls Tryz.prog 97 #[.pointer (some ⟨sb,0,none⟩),.slice (some ⟨b,off,none⟩) 3 c] w (Ans23 (queryG a [x,y] σ) sb Wr Rd w):=by
 have c0:w.cell? ⟨b,off,none⟩=some (.string (strOf a)):=str_cell (k:=0) hs rfl
 have hs1:Sl w w.heap.size (some ⟨b,off+1,none⟩) (strCs [x,y]):=by
  rcases hs with h0 | ⟨b',off',hA,hb,hc'⟩
  · cases h0
  · injection hA with hA
    injection hA with e1 e2 _
    subst e1;subst e2
    exact Sl.mk hb fun j u hu=>by rw [Nat.add_assoc,Nat.add_comm 1 j];exact hc' (j+1) u (by simpa [strCs] using hu)
 have HPA:=hide (parse_2 a (hl a (by simp)) w he.tabs.mw)
 have HPT:Hid (∀ X,Below w.heap.size w X→Calls Tryz.prog 139 #[.slice (some ⟨b,off+1,none⟩) 2 (c - 1)] X (PtsOut [x,y] X)):=hide fun X hb =>
  points_any [x,y] b (off+1) (c - 1) (by simp;omega) (fun z hz=>hl z (List.mem_cons_of_mem _ hz)) (by simp) X ((hs1.below hb).more hb.size) (he.new hb).tabs.mw
 have HST:=hide (fun X (hb:Below w.heap.size w X)=>Step.same (Wr:=Wr) (Rd:=Rd) (sb:=sb) ⟨gs,vR,vQ,h⟩ hb)
 have HF:=hide (fun n (h1:I64w n) X (hb:Below w.heap.size w X)=>fail_any n h1 X (he.new hb).pt)
 have H:=hide h
 have HEN:=hide he
 have HWB:=hide hWB
 have hc1:¬ c=1:=by omega
 obtain ⟨s,hs'⟩:∃ s,s=strOf a:=⟨_,rfl⟩
 rw [← hs'] at c0 HPA
 obtain ⟨k,hk⟩:∃ k,k=pErr a 2:=⟨_,rfl⟩
 have HK:=hide hk
 rw [← hk] at HPA
 clear h he hs hs1 hs' hk hl hWB
 go_enter Tryz.func97,Tryz.ntmps97
 go_wp2_with fail
 refine HPA.out.mono ?_
 rintro e w1 ⟨hb1,⟨hk0,bx,ox,c2,z0,z1,rfl,d0,d1,hbx,hz1,hz0⟩ | ⟨hk0,rfl⟩⟩
 all_goals
  have HB1:=hide hb1
 · have HZ1:=hide hz1;have HZ0:=hide hz0
   clear hb1 hz1 hz0
   subst hk0
   go_wp2_with fail
   refine (HPT.out _ HB1.out).mono ?_
   rintro e w2 ⟨hb2,⟨ps,v,h1,rfl,hown⟩ | ⟨h1,rfl⟩⟩
   all_goals
    have HB2:Hid (Below w.heap.size w w2):=hide (bl_step HB1.out hb2)
   · obtain ⟨p,rfl⟩:∃ p,ps=[p]:=by
      have h3:ps.length=1:=(ptsOk_j h1).2.2.trans (by simp [chunkN])
      exact List.length_eq_one_iff.1 h3
     have hpj:PJ p:=(ptsOk_j h1).1 p (List.mem_singleton.2 rfl)
     obtain ⟨bv,ov,vc,rfl,e0,e1⟩:∃ bv ov vc,v=.slice (some ⟨bv,ov,none⟩) 1 vc∧w2.cell? ⟨bv,ov,none⟩=some (.int .i64 p.1)∧w2.cell? ⟨bv,ov+1,none⟩=some (.int .i64 p.2):=by
      obtain ⟨VA,vc,rfl,_⟩:=own_slice hown
      rcases Sl.of_own hown with h7 | ⟨bv,ov,rfl,_,hcv⟩
      · cases h7
      · exact ⟨bv,ov,vc,rfl,hcv 0 _ rfl,hcv 1 _ rfl⟩
     have S2:=H.out.below HB2.out
     obtain ⟨QA,qc,rfl,hqc⟩:=own_slice S2.qrows
     have cS:=S2.blk.cell (i:=1) (v:=.slice QA σ.2.length qc) rfl
     have fS:=S2.blk.frozen 1
     have hsb:=S2.blk.lt
     obtain ⟨n,hn⟩:∃ n,n=σ.2.length:=⟨_,rfl⟩
     have HROW:Hid (w2.ownsRow 0 46 3 (.slice QA n qc) n (quCs σ.2)):=hide (by rw [hn];exact S2.qrows)
     have hne:some sb≠(Value.slice QA n qc).ownBlock:=fun e=>(S2.wq sb (by rw [hn] at e;exact e.symm)).2 rfl
     have f0:w2.cell? ⟨bx,ox,none⟩=some (.int .u64 z0):=(hb2.cell (p:=⟨bx,ox,none⟩) hbx).trans d0
     have f1:w2.cell? ⟨bx,ox+1,none⟩=some (.int .u64 z1):=(hb2.cell (p:=⟨bx,ox+1,none⟩) hbx).trans d1
     have hbx2:bx<w2.heap.size:=Nat.lt_of_lt_of_le hbx hb2.size
     have hbv2:=cell_lt e0
     rw [← hn] at cS
     have HN:=hide hn;have H1:=hide h1
     obtain ⟨px,py⟩:=p
     dsimp only at e0 e1
     clear hown h1 hb2 d0 d1 hbx S2 hn hqc HPA HPT c0
     by_cases hz:z1=0
     · have hid:z0=pVal a:=HZ0.out hz
       have hrng:=HZ1.out.1 hz
       have hnum:num2 a=some z0:=by rw [hid];exact if_pos ⟨HK.out.symm,hrng⟩
       by_cases hq:(n:Int) ≥ 4096
       · have HE:Hid (queryG a [x,y] σ=(errT 6,σ)):=hide (by
          unfold queryG;rw [hnum,H1.out];exact if_pos (by rw [← HN.out];omega))
         subst hz
         clear hid hnum hrng
         go_wp2_with (go_at_call 49;refine (HF.out 6 (by unfold I64w;omega) _ HB2.out).mono ?_;rintro e w3 ⟨rfl,hb3⟩)
         go_ret
         rw [HE.out]
         exact ⟨rfl,HST.out _ (bl_step HB2.out hb3)⟩
       · have HE:Hid (queryG a [x,y] σ=(txt (n+1:Nat),(σ.1,σ.2++[((px,py),z0)]))):=hide (by
          unfold queryG;rw [hnum,H1.out,HN.out];exact if_neg (by rw [← HN.out];omega))
         have hu:U64 z0:=by unfold U64;omega
         have hnl:n<4096:=by omega
         obtain ⟨i0,hi,hi0,hi1,hi2⟩:=info_parts qu_info
         have HPU:=hide (And.intro hpj hu)
         subst hz
         clear hid hnum hrng hpj hu
         go_wp2
         go_region_law (first
          | (refine step_append_lies _ (by rfl) (.tmp 52) (.tmp 60) 33 (by rfl) 0 46 i0 (.agg #[.int .i64 0,.int .i64 0,.int .u64 0]) 3 24 Tryz.underlying33 hi hi0 hi1 hi2 (by rfl) (by decide) (.slice QA n qc) n _ (by rfl) (own_step HROW.out (bl_drew (bA))) ⟨w2.heap.size,0,none⟩ 1 1 [.int .i64 px,.int .i64 py,.int .u64 z0] (by rfl) (by rfl) (blk_cells (Blk.new _ _ _).drew) (by simp [Value.oneCell']) (by omega) (by unfold maxLen;omega) (by omega) (by omega) (w2.heap.size+1) (by simp) ?_;intro g' cap w7 hown1 hgrow hat hlt';have d1:=(World.grownBy.cell_far hgrow ⟨sb,1,none⟩ (by simp;omega) hne).trans (((bl_drew (bA):Below w2.heap.size w2 _).cell (p:=⟨sb,1,none⟩) hsb).trans cS);have f1':=(World.grownBy.frozen_far hgrow ⟨sb,1,none⟩ (by simp;omega) hne).trans (((bl_drew (bA):Below w2.heap.size w2 _).frozen (p:=⟨sb,1,none⟩) hsb).trans fS))
          | go_simp)
         all_goals
          have hn':=HN.out
          subst hn'
          have HST2:=hide (ses_addq H.out (bl_step HB2.out (bl_drew (bA))) HPU.out hnl hgrow hown1 (hat.imp id fun e=>by rw [e];simp) hlt')
          have HY:=hide (HST2.out.below HEN.out.1 HWB.out)
          clear hown1 hgrow hat hlt' HROW H hne fS f1' hi hi0 hi1 hi2 cS
          go_wp2_with (go_at_call 22;refine (itoa_any _ (by unfold I64w;omega) _ (HEN.out.step HY.out).pt).mono ?_;rintro e w9 ⟨rfl,hb9⟩)
          go_ret
          rw [HE.out]
          exact ⟨rfl,HST2.out.after hb9⟩
     · have HE:Hid (queryG a [x,y] σ=(errT 11,σ)):=hide (queryG_num (if_neg fun h=>hz (HZ1.out.2 h.2)))
       go_wp2_with (go_at_call 49;refine (HF.out 11 (by unfold I64w;omega) _ HB2.out).mono ?_;rintro e w3 ⟨rfl,hb3⟩)
       go_ret
       rw [HE.out]
       exact ⟨rfl,HST.out _ (bl_step HB2.out hb3)⟩
   · have HE:Hid (queryG a [x,y] σ=(errT 11,σ)):=hide (queryG_pts h1)
     clear h1 hb2 d0 d1
     go_wp2_with (go_at_call 49;refine (HF.out 11 (by unfold I64w;omega) _ HB2.out).mono ?_;rintro e w3 ⟨rfl,hb3⟩)
     go_ret
     rw [HE.out]
     exact ⟨rfl,HST.out _ (bl_step HB2.out hb3)⟩
 · have HE:Hid (queryG a [x,y] σ=(errT 11,σ)):=hide (queryG_num (if_neg fun h=>by rw [HK.out] at hk0;exact hk0 h.1))
   clear hb1
   go_wp2_with fail
   refine (HPT.out _ HB1.out).mono ?_
   rintro e w2 ⟨hb2,⟨ps,v,h1,rfl,hown⟩ | ⟨h1,rfl⟩⟩
   all_goals
    have HB2:Hid (Below w.heap.size w w2):=hide (bl_step HB1.out hb2)
    clear h1 hb2
    go_wp2_with (go_at_call 49;refine (HF.out 11 (by unfold I64w;omega) _ HB2.out).mono ?_;rintro e w3 ⟨rfl,hb3⟩)
    go_ret
    rw [HE.out]
    exact ⟨rfl,HST.out _ (bl_step HB2.out hb3)⟩
end
theorem squery_any {σ:St} {sb:Nat} {gs:List Gr} {vR vQ:Value} {Wr Rd:Nat→Prop} (l:List (List UInt8)) (b off c:Nat) (hc:l.length≤c) (hl:∀ x∈l,x.length≤1000000) (w:World) (h:Ses σ sb gs vR vQ Wr Rd w) (hs:Sl w w.heap.size (some ⟨b,off,none⟩) (strCs l)) {B:Nat} (he:Env B w) (hWB:∀ k,Wr k→B≤k) :
 Calls Tryz.prog 97 #[.pointer (some ⟨sb,0,none⟩),.slice (some ⟨b,off,none⟩) l.length c] w (Ans23 (queryR l σ) sb Wr Rd w):=by
 unfold queryR
 by_cases h3:l.length=3
 · rw [if_pos h3]
   match l,h3 with
   | [a,x,y],_=>exact query_three w h he a x y b off c hc hl hs hWB
 · rw [if_neg h3]
   exact query_bad w h he _ _ _ h3
end
end Go.Proofs.YthnenedoblncjaaGreatDoor
