/- ScrAdd ScrQuery -/
import Derived.BigQuiet
import Derived.ChangeAlike
import Derived.Deep.AppendLies
import Derived.Deep.QuietTactic
import Derived.Deep.RegionLaw
import Derived.Laws.BytesArg
import Derived.Test.YthnenedoblncjaaGreatDoorPkN34
import Derived.Test.YthnenedoblncjaaGreatDoorPkN35
set_option maxRecDepth 1000000
set_option maxHeartbeats 8000000
namespace Go.Proofs.YthnenedoblncjaaGreatDoor
open Go.Proofs.Tryz
section
open Go.RowKit Go.Shelf
def LW:List UInt8:=[112,111,108,121,103,111,110]
def LB:List UInt8:=[100,105,115,99]
def Vk(deny kd:Bool)(ws:List (List UInt8))(σ:St):List UInt8 × St :=
 match Zb ws with
 | none=>(Zr 11,σ)
 | some ps =>
   if ps.length<3\/(if kd then 64 else 3)<ps.length then (Zr 7,σ)
   else if 64<=σ.1.length then (Zr 6,σ)
   else (txt (σ.1.length+1:Nat),(σ.1++[(deny,if kd then (ps.length:Int) else 0,ps)],σ.2))
def GD(deny:Bool)(l:List (List UInt8))(σ:St):List UInt8 × St :=
 match l with
 | []=>(Zr 11,σ)
 | x::ws=>if x=LW then Vk deny true ws σ else if x=LB then Vk deny false ws σ else (Zr 11,σ)
theorem Fv:(prog.info? 38).map (fun i=>(i.zero,i.size,i.bytes))=some (some (.agg #[.bool false,.int .i64 0,.slice none 0 0]),3,40):=by kernel_rfl
section
variable {σ:St}{sb:Nat}{gs:List Gr}{vR vQ:Value}{Wr Rd:Nat->Prop}(deny:Bool)(w:World)(h:TY σ sb gs vR vQ Wr Rd w){B:Nat}(he:Env B w)
include h he
theorem add_nil(A:Option Addr)(c:Nat):Calls prog 142 #[.pointer (some ⟨sb,0,none⟩),.bool deny,.slice A 0 c] w (XE (Zr 11,σ) sb Wr Rd w):=by
 have HF:=hide (YR 11 (by unfold Zj;omega) w he.pt);have HST:=hide (fun X (hb:Below w.heap.size w X)=>Step.same (Wr:=Wr) (Rd:=Rd) (sb:=sb) ⟨gs,vR,vQ,h⟩ hb);clear h he;go_enter func142,ntmps142;go_wp2_with fail;refine HF.out.mono ?_;rintro e w1 ⟨rfl,hb1⟩;go_wp2;go_ret;exact ⟨rfl,HST.out _ hb1⟩
end
section
variable {σ:St}{sb:Nat}{gs:List Gr}{vR vQ:Value}{Wr Rd:Nat->Prop}(deny:Bool)(t:List UInt8)(ws:List (List UInt8))(b off c:Nat)(hc:ws.length+1<=c)(hl:∀ x∈ws,x.length<=1000000)(hn:ws.length<=1000000)(w:World)(h:TY σ sb gs vR vQ Wr Rd w)(hs:Sl w w.heap.size (some ⟨b,off,none⟩) (ZN (t::ws))){B:Nat}(he:Env B w)
include h hs he
theorem JQ(h1:¬ t=LW)(h2:¬ t=LB):Calls prog 142 #[.pointer (some ⟨sb,0,none⟩),.bool deny,.slice (some ⟨b,off,none⟩) (ws.length+1) c] w (XE (Zr 11,σ) sb Wr Rd w):=by
 have HF:=hide (YR 11 (by unfold Zj;omega) w he.pt);have HST:=hide (fun X (hb:Below w.heap.size w X)=>Step.same (Wr:=Wr) (Rd:=Rd) (sb:=sb) ⟨gs,vR,vQ,h⟩ hb);have c0:=Wv (k:=0) hs rfl;obtain ⟨s,hs'⟩:=eE (strOf t);have k1:¬ s.toList=[112,111,108,121,103,111,110]:=by rw [hs',Zo];exact h1
 have k2:¬ s.toList=[100,105,115,99]:=by rw [hs',Zo];exact h2
 have b1:(s.toList == [112,111,108,121,103,111,110])=false:=beq_eq_false_iff_ne.2 k1;have b2:(s.toList == [100,105,115,99])=false:=beq_eq_false_iff_ne.2 k2;rw [<- hs'] at c0;obtain ⟨q,hq⟩:=eE ws.length;rw [<- hq];clear h he hs hq hs' h1 h2;rw [Nat.add_zero] at c0;go_enter func142,ntmps142;go_wp2_with fail;refine HF.out.mono ?_;rintro e w1 ⟨rfl,hb1⟩;go_wp2;go_ret;exact ⟨rfl,HST.out _ hb1⟩
include hc hl hn h hs he
theorem Oq(Qv:∀ k,Wr k->B<=k)(kd:Bool)(hkd:t=if kd then LW else LB):Calls prog 142 #[.pointer (some ⟨sb,0,none⟩),.bool deny,.slice (some ⟨b,off,none⟩) (ws.length+1) c] w (XE (Vk deny kd ws σ) sb Wr Rd w):=by
 have c0:=Wv (k:=0) hs rfl;have HS:=hide hs;have hs1:Sl w w.heap.size (some ⟨b,off+1,none⟩) (ZN ws):=by
  rcases hs with h0|⟨b',off',hA,hb,hc'⟩
  · cases h0
  · injection hA with hA;injection hA with e1 e2 _;subst e1;subst e2;exact Sl.mk hb fun j u hu=>by rw [Nat.add_assoc,Nat.add_comm 1 j];exact hc' (j+1) u (by simpa [ZN] using hu)
 have hs0:ws=[]->Sl w w.heap.size (some ⟨b,off,none⟩) (ZN ws):=fun e=>by subst e;exact Sl.nil _ _ _
 obtain ⟨q,hq⟩:=eE ws.length;have rJ:Hid (∀ c',q<=c'->Calls prog 139 #[.slice (some ⟨b,off+1,none⟩) q c'] w (Qh ws w)):=hide fun c' h'=>by rw [hq];exact Xa ws b (off+1) c' (by omega) hl hn w hs1 he.tabs.mw
 have F4:Hid (q=0->Calls prog 139 #[.slice (some ⟨b,off,none⟩) q 0] w (Qh ws w)):=hide fun h'=>by rw [hq];exact Xa ws b off 0 (by omega) hl hn w (hs0 (List.length_eq_zero_iff.1 (by omega))) he.tabs.mw
 have HST:=hide (fun X (hb:Below w.heap.size w X)=>Step.same (Wr:=Wr) (Rd:=Rd) (sb:=sb) ⟨gs,vR,vQ,h⟩ hb);have HF:=hide (fun n (h1:Zj n) X (hb:Below w.heap.size w X)=>YR n h1 X (he.new hb).pt);have H:=hide h;have hcq:q+1<=c:=by omega
 have FV:=hide he;have nC:=hide Qv;obtain ⟨s,hs'⟩:=eE (strOf t);obtain ⟨most,Wj⟩:∃ most:Int,most=if kd then 64 else 3:=⟨_,rfl⟩;have kk:(kd=true/\most=64/\s.toList=[112,111,108,121,103,111,110]/\(s.toList == [112,111,108,121,103,111,110])=true)\/(kd=false/\most=3/\¬ s.toList=[112,111,108,121,103,111,110]/\(s.toList == [112,111,108,121,103,111,110])=false/\s.toList=[100,105,115,99]/\(s.toList == [100,105,115,99])=true):=by
  rw [Wj,hs',Zo,hkd];cases kd
  · exact .inr ⟨rfl,rfl,by decide,by decide,rfl,by decide⟩
  · exact .inl ⟨rfl,rfl,rfl,by decide⟩
 rw [<- hs'] at c0;have HQ:=hide hq;rw [<- hq];have hdl:σ.1.length=gs.length:=by rw [<- h.data,List.length_map]
 have hmm:∀ ps:List Pt,((ps.length:Int)<3\/(ps.length:Int) > most) ↔ (ps.length<3\/(if kd then 64 else 3)<ps.length):=fun ps=>by
  rw [Wj];cases kd <;> simp <;> omega
 have qV:Hid (∀ ps:List Pt,Zb ws=some ps->((ps.length:Int)<3\/(ps.length:Int) > most)->Vk deny kd ws σ=(Zr 7,σ)):=hide fun ps h1 h2=>by
  unfold Vk;rw [h1];exact if_pos ((hmm ps).1 h2)
 have qU:Hid (∀ ps:List Pt,Zb ws=some ps->¬ ((ps.length:Int)<3\/(ps.length:Int) > most)->64<=gs.length->Vk deny kd ws σ=(Zr 6,σ)):=hide fun ps h1 h2 h3=>by
  unfold Vk;rw [h1];exact (if_neg fun h=>h2 ((hmm ps).2 h)).trans (if_pos (by omega))
 have qW:Hid (∀ ps:List Pt,Zb ws=some ps->¬ ((ps.length:Int)<3\/(ps.length:Int) > most)->¬ 64<=gs.length->Vk deny kd ws σ=(txt (gs.length+1:Nat),(σ.1++[(deny,if kd then (ps.length:Int) else 0,ps)],σ.2))):=hide fun ps h1 h2 h3=>by
  unfold Vk;rw [h1];exact (if_neg fun h=>h2 ((hmm ps).2 h)).trans ((if_neg (by omega)).trans (by rw [hdl]))
 have iZ:most<=64:=by rw [Wj];cases kd <;> simp
 clear Wj hdl hmm h he Qv hs hs1 hs0 hq hs' hkd hc hl hn;rw [Nat.add_zero] at c0
 by_cases hc1:c=1
 · obtain rfl:q=0:=(by omega);have HP:=hide (F4.out rfl);have HN:Zb ws=none:=(by rw [List.length_eq_zero_iff.1 HQ.out.symm];rfl);have HA:Hid (Vk deny true ws σ=(Zr 11,σ)/\Vk deny false ws σ=(Zr 11,σ)):=hide (by unfold Vk;rw [HN];exact ⟨rfl,rfl⟩);clear F4 rJ H qV qU qW;subst hc1;rcases kk with ⟨rfl,Wj,k1,k2⟩|⟨rfl,Wj,k1,k2,k3,k4⟩
   all_goals
    go_enter func142,ntmps142;go_wp2_with fail;refine HP.out.mono ?_;rintro e w1 ⟨hb1,⟨ps,v,h1,rfl,ZO⟩|⟨h1,rfl⟩⟩
    · rw [HN] at h1;cases h1
    · have HB1:=hide hb1;have xR:=hide (HF.out 11 (by unfold Zj;omega) w1 hb1);clear h1 hb1 HN;go_wp2_with fail;refine xR.out.mono ?_;rintro e w2 ⟨rfl,hb2⟩;go_wp2;go_ret
      first|rw [HA.out.1]|rw [HA.out.2]
      exact ⟨rfl,HST.out _ (Z8 HB1.out hb2)⟩
 have HP:=hide (rJ.out (c - 1) (by omega));clear F4 rJ;rcases kk with ⟨rfl,Wj,k1,k2⟩|⟨rfl,Wj,k1,k2,k3,k4⟩
 all_goals
  go_enter func142,ntmps142;go_wp2_with fail
 all_goals
  refine HP.out.mono ?_;rintro e w1 ⟨hb1,⟨ps,v,h1,rfl,ZO⟩|⟨h1,rfl⟩⟩
  · obtain ⟨VA,vc,rfl,yA⟩:=ZM ZO;obtain ⟨m,hm⟩:=eE ps.length;have S1:=H.out.below hb1;obtain ⟨RA,rc,rfl,hrc⟩:=ZM S1.rows;obtain ⟨n,hn⟩:=eE gs.length;have cS:=S1.blk.cell (i:=0) (v:=.slice RA gs.length rc) rfl;have hsb:=S1.blk.lt;have hbb:=ZG c0;have c1:=(hb1.cell (p:=⟨b,off,none⟩) hbb).trans c0;have hbl:b<w1.heap.size:=Nat.lt_of_lt_of_le hbb hb1.size;have HB1:=hide hb1;have H1:=hide h1;have HO:=hide ZO;have HM:=hide hm;have HN:=hide hn;have Gp:=hide S1;rw [<- hn] at cS;rw [<- hm];clear hb1 h1 ZO hm hn S1 hrc yA c0 hbb
    by_cases hbad:(m:Int)<3\/(m:Int) > most
    · have HE:=hide (qV.out ps H1.out (by rw [<- HM.out];exact hbad));clear qV qU qW H;rcases hbad with oH|oH
      all_goals
       subst Wj
       try (have dz:¬ (m:Int)<3:=by omega)
       go_wp2_with fail;refine (HF.out 7 (by unfold Zj;omega) _ (ZY HB1.out _)).mono ?_;rintro e w2 ⟨rfl,hb2⟩;go_wp2;go_ret;rw [HE.out];exact ⟨rfl,HST.out _ (Z8 (ZY HB1.out _) hb2)⟩
    · by_cases h64:(n:Int) ≥ 64
      · have HE:=hide (qU.out ps H1.out (by rw [<- HM.out];exact hbad) (by rw [<- HN.out];omega));have oH:¬ (m:Int)<3:=fun h=>hbad (.inl h);have kY:¬ (m:Int) > most:=fun h=>hbad (.inr h);clear qV qU qW hbad;subst Wj;go_wp2_with (go_at_call 49;refine (HF.out 6 (by unfold Zj;omega) _ (ZY HB1.out _)).mono ?_;rintro e w2 ⟨rfl,hb2⟩);go_ret;rw [HE.out];exact ⟨rfl,HST.out _ (Z8 (ZY HB1.out _) hb2)⟩
      · have HK:=hide (qW.out ps H1.out (by rw [<- HM.out];exact hbad) (by rw [<- HN.out];omega));have oH:¬ (m:Int)<3:=fun h=>hbad (.inl h);have kY:¬ (m:Int) > most:=fun h=>hbad (.inr h);have iY:m<=64:=(by omega);obtain ⟨i0,hi,hi0,hi1,hi2⟩:=info_parts Fv;have Gn:Hid (w1.ownsRow 0 38 3 (.slice RA n rc) n (rgCells (gs.map (·.1)))):=hide (by rw [HN.out];exact Gp.out.rows);have hne:some sb≠(Value.slice RA n rc).ownBlock:=fun e=>(Gp.out.wr sb (by rw [HN.out] at e;exact e.symm)).2 rfl;have fS:=Gp.out.blk.frozen 0;have hnl:n<64:=(by omega);clear qV qU qW hbad h64;subst Wj;go_wp2
        go_region_law (first
         | (refine step_append_lies _ (by rfl) (.tmp 71) (.tmp 73) 32 (by rfl) 0 38 i0 (.agg #[.bool false,.int .i64 0,.slice none 0 0]) 3 40 underlying32 hi hi0 hi1 hi2 (by rfl) (by decide) (.slice RA n rc) n _ (by rfl) (Zn Gn.out (ZV (ZY (bA) _))) ⟨w1.heap.size+1,0,none⟩ 1 1 [.bool deny,.int .i64 _,.slice VA m vc] (by rfl) (by rfl) (YW (Z6.new2 _ _ _ _).drew) (by simp [Value.oneCell']) (by omega) (by unfold maxLen;omega) (by omega) (by omega) (w1.heap.size+2) (by simp) ?_;intro g' cap w7 YS Za hat hlt';have d1:=(World.grownBy.cell_far Za ⟨sb,0,none⟩ (by simp;omega) hne).trans (((ZV (ZY (bA) _):Below w1.heap.size w1 _).cell (p:=⟨sb,0,none⟩) hsb).trans cS);have f1:=(World.grownBy.frozen_far Za ⟨sb,0,none⟩ (by simp;omega) hne).trans (((ZV (ZY (bA) _):Below w1.heap.size w1 _).frozen (p:=⟨sb,0,none⟩) hsb).trans fS))
         | go_simp)
        all_goals
         have hm':=HM.out;have hn':=HN.out;subst hm' hn';have Gs:=hide (Fz H.out HB1.out HO.out ⟨(TS H1.out).1,iY⟩ hnl (ZV (ZY (bA) _)) Za YS (hat.imp id fun e=>by rw [e];simp) hlt');have HY:=hide (Gs.out.below FV.out.1 nC.out);clear YS Za hat hlt' Gn H Gp HO hne fS f1 hi hi0 hi1 hi2 cS c1;go_wp2_with (go_at_call 22;refine (U9 _ (by unfold Zj;omega) _ (FV.out.step HY.out).pt).mono ?_;rintro e w9 ⟨rfl,yg⟩);go_ret;rw [HK.out]
         try simp only [if_true]
         exact ⟨rfl,Gs.out.after yg⟩
  · have HB1:=hide hb1;have HA:Hid (Vk deny true ws σ=(Zr 11,σ)/\Vk deny false ws σ=(Zr 11,σ)):=hide (by unfold Vk;rw [h1];exact ⟨rfl,rfl⟩);have xR:=hide (HF.out 11 (by unfold Zj;omega) w1 hb1);clear h1 hb1;go_wp2_with fail;refine xR.out.mono ?_;rintro e w2 ⟨rfl,hb2⟩;go_wp2;go_ret
    first|rw [HA.out.1]|rw [HA.out.2]
    exact ⟨rfl,HST.out _ (Z8 HB1.out hb2)⟩
end
theorem KT{σ:St}{sb:Nat}{gs:List Gr}{vR vQ:Value}{Wr Rd:Nat->Prop}(deny:Bool)(l:List (List UInt8))(b off c:Nat)(hc:l.length<=c)(hl:∀ x∈l,x.length<=1000000)(hn:l.length<=1000000)(w:World)(h:TY σ sb gs vR vQ Wr Rd w)(hs:Sl w w.heap.size (some ⟨b,off,none⟩) (ZN l)){B:Nat}(he:Env B w)(Qv:∀ k,Wr k->B<=k):
 Calls prog 142 #[.pointer (some ⟨sb,0,none⟩),.bool deny,.slice (some ⟨b,off,none⟩) l.length c] w (XE (GD deny l σ) sb Wr Rd w):=by
 cases l with
 | nil=>exact add_nil deny w h he _ _
 | cons t ws =>
   unfold GD;dsimp only
   by_cases h1:t=LW
   · rw [if_pos h1];exact Oq deny t ws b off c hc (fun x hx=>hl x (List.mem_cons_of_mem _ hx)) (by simp only [List.length_cons] at hn;omega) w h hs he Qv true h1
   · rw [if_neg h1]
     by_cases h2:t=LB
     · rw [if_pos h2];exact Oq deny t ws b off c hc (fun x hx=>hl x (List.mem_cons_of_mem _ hx)) (by simp only [List.length_cons] at hn;omega) w h hs he Qv false h2
     · rw [if_neg h2];exact JQ deny t ws b off c w h hs he h1 h2
section
variable {σ:St}{sb:Nat}{gs:List Gr}{vR vQ:Value}{Wr Rd:Nat->Prop}(l:List (List UInt8))(b off c:Nat)(hc:l.length<=c)(hl:∀ x∈l,x.length<=1000000)(hn:l.length<=1000000)(w:World)(h:TY σ sb gs vR vQ Wr Rd w)(hs:Sl w w.heap.size (some ⟨b,off,none⟩) (ZN l)){B:Nat}(he:Env B w)(Qv:∀ k,Wr k->B<=k)
include hc hl hn h hs he Qv
theorem JR:Calls prog 94 #[.pointer (some ⟨sb,0,none⟩),.slice (some ⟨b,off,none⟩) l.length c] w (XE (GD false l σ) sb Wr Rd w):=by
 have HA:=hide (KT false l b off c hc hl hn w h hs he Qv);obtain ⟨n,hnn⟩:=eE l.length;rw [<- hnn] at HA ⊢;clear hc hl hn h hs he Qv hnn;go_enter func94,ntmps94;go_wp2_with fail;refine HA.out.mono ?_;rintro e w1 ⟨rfl,hb1⟩;go_wp2;go_ret;exact ⟨rfl,hb1⟩
end
end
section
open Go.RowKit Go.Shelf
theorem Fa(a:List UInt8)(ha:a.length<=1000000)(X:World)(hw:MW X):Calls prog 144 #[.string (strOf a),.int .i64 2] X fun e X'=>Below X.heap.size X X' /\
 ((YN a 2=0/\∃ bx ox c z0 z1,e=.returned (.tuple #[.slice (some ⟨bx,ox,none⟩) 2 c,.int .i64 0])/\X'.cell? ⟨bx,ox,none⟩=some (.int .u64 z0)/\X'.cell? ⟨bx,ox+1,none⟩=some (.int .u64 z1)/\bx<X'.heap.size/\(z1=0 ↔ 0<=pVal a/\pVal a<18446744073709551616)/\(z1=0->z0=pVal a)) \/
   (YN a 2≠0/\e=.returned (.tuple #[.slice none 0 0,.int .i64 (YN a 2)]))):=by
 refine (RD (strOf a) 2 (by rw [ZQ];unfold maxLen;omega) X hw.1 hw.2).mono ?_;rintro e X' ⟨hb,h⟩;have e0:(strOf a).data.toList=a:=rfl;rw [e0] at h;refine ⟨hb,?_⟩;rcases h with ⟨h0,A,c,rfl,hs⟩|⟨h0,rfl⟩
 · left
   obtain ⟨bx,ox,rfl,hbx,hcx⟩:=hs.u (by rw [Z0];decide);have hf:=VX h0;refine ⟨h0,bx,ox,c,_,_,rfl,hcx 0 _ (Zu _ (by decide)),hcx 1 _ (Zu _ (by decide)),hbx,?_,?_⟩
   all_goals
    unfold Fits at hf;unfold lim;simp only [Int.pow_zero,Int.ediv_one,Int.pow_succ,Int.one_mul];simp at hf;omega
 · exact .inr ⟨h0,rfl⟩
def EZ(a:List UInt8):Option Int:=if YN a 2=0/\0<=pVal a/\pVal a<18446744073709551616 then some (pVal a) else none
def Yu(a:List UInt8)(l:List (List UInt8))(σ:St):List UInt8 × St :=
 match EZ a,Zb l with
 | some id,some (p::_)=>if 4096<=σ.2.length then (Zr 6,σ) else (txt (σ.2.length+1:Nat),(σ.1,σ.2++[(p,id)]))
 | _,_=>(Zr 11,σ)
def UM(l:List (List UInt8))(σ:St):List UInt8 × St:=if l.length=3 then Yu (l.headD []) l.tail σ else (Zr 11,σ)
theorem Nw{a:List UInt8}{l:List (List UInt8)}{σ:St}(h:Zb l=none):Yu a l σ=(Zr 11,σ):=by
 unfold Yu;rw [h];cases EZ a <;> rfl
theorem Tg{a:List UInt8}{l:List (List UInt8)}{σ:St}(h:EZ a=none):Yu a l σ=(Zr 11,σ):=by
 unfold Yu;rw [h]
section
variable {σ:St}{sb:Nat}{gs:List Gr}{vR vQ:Value}{Wr Rd:Nat->Prop}(w:World)(h:TY σ sb gs vR vQ Wr Rd w){B:Nat}(he:Env B w)
include h he
theorem KQ(A:Option Addr)(n c:Nat)(hn:n≠3):Calls prog 97 #[.pointer (some ⟨sb,0,none⟩),.slice A n c] w (XE (Zr 11,σ) sb Wr Rd w):=by
 have HF:=hide (YR 11 (by unfold Zj;omega) w he.pt);have HST:=hide (fun X (hb:Below w.heap.size w X)=>Step.same (Wr:=Wr) (Rd:=Rd) (sb:=sb) ⟨gs,vR,vQ,h⟩ hb);have hn':¬ (n:Int)=3:=by omega
 clear h he hn;go_enter func97,ntmps97;go_wp2_with fail;refine HF.out.mono ?_;rintro e w1 ⟨rfl,hb1⟩;go_wp2;go_ret;exact ⟨rfl,HST.out _ hb1⟩
variable (a x y:List UInt8)(b off c:Nat)(hc:3<=c)(hl:∀ z∈[a,x,y],z.length<=1000000)(hs:Sl w w.heap.size (some ⟨b,off,none⟩) (ZN [a,x,y]))(Qv:∀ k,Wr k->B<=k)
include hc hl hs Qv
theorem PD:Calls prog 97 #[.pointer (some ⟨sb,0,none⟩),.slice (some ⟨b,off,none⟩) 3 c] w (XE (Yu a [x,y] σ) sb Wr Rd w):=by
 have c0:w.cell? ⟨b,off,none⟩=some (.string (strOf a)):=Wv (k:=0) hs rfl;have hs1:Sl w w.heap.size (some ⟨b,off+1,none⟩) (ZN [x,y]):=by
  rcases hs with h0|⟨b',off',hA,hb,hc'⟩
  · cases h0
  · injection hA with hA;injection hA with e1 e2 _;subst e1;subst e2;exact Sl.mk hb fun j u hu=>by rw [Nat.add_assoc,Nat.add_comm 1 j];exact hc' (j+1) u (by simpa [ZN] using hu)
 have pU:=hide (Fa a (hl a (by simp)) w he.tabs.mw);have xU:Hid (∀ X,Below w.heap.size w X->Calls prog 139 #[.slice (some ⟨b,off+1,none⟩) 2 (c - 1)] X (Qh [x,y] X)):=hide fun X hb =>
  Xa [x,y] b (off+1) (c - 1) (by simp;omega) (fun z hz=>hl z (List.mem_cons_of_mem _ hz)) (by simp) X ((hs1.below hb).more hb.size) (he.new hb).tabs.mw
 have HST:=hide (fun X (hb:Below w.heap.size w X)=>Step.same (Wr:=Wr) (Rd:=Rd) (sb:=sb) ⟨gs,vR,vQ,h⟩ hb);have HF:=hide (fun n (h1:Zj n) X (hb:Below w.heap.size w X)=>YR n h1 X (he.new hb).pt);have H:=hide h;have FV:=hide he;have nC:=hide Qv;have hc1:¬ c=1:=by omega
 obtain ⟨s,hs'⟩:=eE (strOf a);rw [<- hs'] at c0 pU;obtain ⟨k,hk⟩:=eE (YN a 2);have HK:=hide hk;rw [<- hk] at pU;clear h he hs hs1 hs' hk hl Qv;go_enter func97,ntmps97;go_wp2_with fail;refine pU.out.mono ?_;rintro e w1 ⟨hb1,⟨hk0,bx,ox,c2,z0,z1,rfl,d0,d1,hbx,hz1,hz0⟩|⟨hk0,rfl⟩⟩
 all_goals
  have HB1:=hide hb1
 · have HZ1:=hide hz1;have HZ0:=hide hz0;clear hb1 hz1 hz0;subst hk0;go_wp2_with fail;refine (xU.out _ HB1.out).mono ?_;rintro e w2 ⟨hb2,⟨ps,v,h1,rfl,ZO⟩|⟨h1,rfl⟩⟩
   all_goals
    have HB2:Hid (Below w.heap.size w w2):=hide (Z8 HB1.out hb2)
   · obtain ⟨p,rfl⟩:∃ p,ps=[p]:=by
      have h3:ps.length=1:=(TS h1).2.2.trans (by simp [Y4]);exact List.length_eq_one_iff.1 h3
     have yu:PJ p:=(TS h1).1 p (List.mem_singleton.2 rfl);obtain ⟨bv,ov,vc,rfl,e0,e1⟩:∃ bv ov vc,v=.slice (some ⟨bv,ov,none⟩) 1 vc/\w2.cell? ⟨bv,ov,none⟩=some (.int .i64 p.1)/\w2.cell? ⟨bv,ov+1,none⟩=some (.int .i64 p.2):=by
      obtain ⟨VA,vc,rfl,_⟩:=ZM ZO;rcases Sl.XO ZO with h7|⟨bv,ov,rfl,_,hcv⟩
      · cases h7
      · exact ⟨bv,ov,vc,rfl,hcv 0 _ rfl,hcv 1 _ rfl⟩
     have S2:=H.out.below HB2.out;obtain ⟨QA,qc,rfl,hqc⟩:=ZM S2.VD;have cS:=S2.blk.cell (i:=1) (v:=.slice QA σ.2.length qc) rfl;have fS:=S2.blk.frozen 1;have hsb:=S2.blk.lt;obtain ⟨n,hn⟩:=eE σ.2.length;have Gn:Hid (w2.ownsRow 0 46 3 (.slice QA n qc) n (VK σ.2)):=hide (by rw [hn];exact S2.VD);have hne:some sb≠(Value.slice QA n qc).ownBlock:=fun e=>(S2.wq sb (by rw [hn] at e;exact e.symm)).2 rfl;have f0:w2.cell? ⟨bx,ox,none⟩=some (.int .u64 z0):=(hb2.cell (p:=⟨bx,ox,none⟩) hbx).trans d0;have f1:w2.cell? ⟨bx,ox+1,none⟩=some (.int .u64 z1):=(hb2.cell (p:=⟨bx,ox+1,none⟩) hbx).trans d1;have OU:bx<w2.heap.size:=Nat.lt_of_lt_of_le hbx hb2.size;have iP:=ZG e0;rw [<- hn] at cS;have HN:=hide hn;have H1:=hide h1;obtain ⟨px,py⟩:=p;dsimp only at e0 e1;clear ZO h1 hb2 d0 d1 hbx S2 hn hqc pU xU c0
     by_cases hz:z1=0
     · have hid:z0=pVal a:=HZ0.out hz;have Ac:=HZ1.out.1 hz;have Ej:EZ a=some z0:=by rw [hid];exact if_pos ⟨HK.out.symm,Ac⟩
       by_cases hq:(n:Int) ≥ 4096
       · have HE:Hid (Yu a [x,y] σ=(Zr 6,σ)):=hide (by
          unfold Yu;rw [Ej,H1.out];exact if_pos (by rw [<- HN.out];omega))
         subst hz;clear hid Ej Ac;go_wp2_with (go_at_call 49;refine (HF.out 6 (by unfold Zj;omega) _ HB2.out).mono ?_;rintro e w3 ⟨rfl,hb3⟩);go_ret;rw [HE.out];exact ⟨rfl,HST.out _ (Z8 HB2.out hb3)⟩
       · have HE:Hid (Yu a [x,y] σ=(txt (n+1:Nat),(σ.1,σ.2++[((px,py),z0)]))):=hide (by
          unfold Yu;rw [Ej,H1.out,HN.out];exact if_neg (by rw [<- HN.out];omega))
         have hu:Uk z0:=(by unfold Uk;omega);have hnl:n<4096:=(by omega);obtain ⟨i0,hi,hi0,hi1,hi2⟩:=info_parts Fe;have fO:=hide (And.intro yu hu);subst hz;clear hid Ej Ac yu hu;go_wp2
         go_region_law (first
          | (refine step_append_lies _ (by rfl) (.tmp 52) (.tmp 60) 33 (by rfl) 0 46 i0 (.agg #[.int .i64 0,.int .i64 0,.int .u64 0]) 3 24 underlying33 hi hi0 hi1 hi2 (by rfl) (by decide) (.slice QA n qc) n _ (by rfl) (Zn Gn.out (ZV (bA))) ⟨w2.heap.size,0,none⟩ 1 1 [.int .i64 px,.int .i64 py,.int .u64 z0] (by rfl) (by rfl) (YW (Z6.new _ _ _).drew) (by simp [Value.oneCell']) (by omega) (by unfold maxLen;omega) (by omega) (by omega) (w2.heap.size+1) (by simp) ?_;intro g' cap w7 YS Za hat hlt';have d1:=(World.grownBy.cell_far Za ⟨sb,1,none⟩ (by simp;omega) hne).trans (((ZV (bA):Below w2.heap.size w2 _).cell (p:=⟨sb,1,none⟩) hsb).trans cS);have iD:=(World.grownBy.frozen_far Za ⟨sb,1,none⟩ (by simp;omega) hne).trans (((ZV (bA):Below w2.heap.size w2 _).frozen (p:=⟨sb,1,none⟩) hsb).trans fS))
          | go_simp)
         all_goals
          have hn':=HN.out;subst hn';have Gs:=hide (Jc H.out (Z8 HB2.out (ZV (bA))) fO.out hnl Za YS (hat.imp id fun e=>by rw [e];simp) hlt');have HY:=hide (Gs.out.below FV.out.1 nC.out);clear YS Za hat hlt' Gn H hne fS iD hi hi0 hi1 hi2 cS;go_wp2_with (go_at_call 22;refine (U9 _ (by unfold Zj;omega) _ (FV.out.step HY.out).pt).mono ?_;rintro e w9 ⟨rfl,yg⟩);go_ret;rw [HE.out];exact ⟨rfl,Gs.out.after yg⟩
     · have HE:Hid (Yu a [x,y] σ=(Zr 11,σ)):=hide (Tg (if_neg fun h=>hz (HZ1.out.2 h.2)));go_wp2_with (go_at_call 49;refine (HF.out 11 (by unfold Zj;omega) _ HB2.out).mono ?_;rintro e w3 ⟨rfl,hb3⟩);go_ret;rw [HE.out];exact ⟨rfl,HST.out _ (Z8 HB2.out hb3)⟩
   · have HE:Hid (Yu a [x,y] σ=(Zr 11,σ)):=hide (Nw h1);clear h1 hb2 d0 d1;go_wp2_with (go_at_call 49;refine (HF.out 11 (by unfold Zj;omega) _ HB2.out).mono ?_;rintro e w3 ⟨rfl,hb3⟩);go_ret;rw [HE.out];exact ⟨rfl,HST.out _ (Z8 HB2.out hb3)⟩
 · have HE:Hid (Yu a [x,y] σ=(Zr 11,σ)):=hide (Tg (if_neg fun h=>by rw [HK.out] at hk0;exact hk0 h.1));clear hb1;go_wp2_with fail;refine (xU.out _ HB1.out).mono ?_;rintro e w2 ⟨hb2,⟨ps,v,h1,rfl,ZO⟩|⟨h1,rfl⟩⟩
   all_goals
    have HB2:Hid (Below w.heap.size w w2):=hide (Z8 HB1.out hb2);clear h1 hb2;go_wp2_with (go_at_call 49;refine (HF.out 11 (by unfold Zj;omega) _ HB2.out).mono ?_;rintro e w3 ⟨rfl,hb3⟩);go_ret;rw [HE.out];exact ⟨rfl,HST.out _ (Z8 HB2.out hb3)⟩
end
theorem Tx{σ:St}{sb:Nat}{gs:List Gr}{vR vQ:Value}{Wr Rd:Nat->Prop}(l:List (List UInt8))(b off c:Nat)(hc:l.length<=c)(hl:∀ x∈l,x.length<=1000000)(w:World)(h:TY σ sb gs vR vQ Wr Rd w)(hs:Sl w w.heap.size (some ⟨b,off,none⟩) (ZN l)){B:Nat}(he:Env B w)(Qv:∀ k,Wr k->B<=k):
 Calls prog 97 #[.pointer (some ⟨sb,0,none⟩),.slice (some ⟨b,off,none⟩) l.length c] w (XE (UM l σ) sb Wr Rd w):=by
 unfold UM
 by_cases h3:l.length=3
 · rw [if_pos h3]
   match l,h3 with
   | [a,x,y],_=>exact PD w h he a x y b off c hc hl hs Qv
 · rw [if_neg h3];exact KQ w h he _ _ _ h3
end
end Go.Proofs.YthnenedoblncjaaGreatDoor