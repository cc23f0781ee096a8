/- ScrAdd ScrMember ScrConvex ScrQuery ScrReq -/
import Derived.Deep.AppendLies
import Derived.Deep.RegionLaw
import Derived.Laws.BytesArg
import Derived.Test.YthnenedoblncjaaGreatDoorPkR26
import Derived.Test.YthnenedoblncjaaGreatDoorPkR29
import Derived.Test.YthnenedoblncjaaGreatDoorPkR32
import Derived.Test.YthnenedoblncjaaGreatDoorPkR34
set_option maxRecDepth 1000000
set_option maxHeartbeats 8000000
namespace Go.Proofs.YthnenedoblncjaaGreatDoor
open Go.Proofs.Tryz
open List (getElem_toArray getElem_cons_succ getElem_cons_zero setIfInBounds_toArray set_cons_zero set_cons_succ)
section
open Go.RowKit Go.Shelf
def uP:List UInt8:=[112,111,108,121,103,111,110]
def tY:List UInt8:=[100,105,115,99]
def QV(deny kd:Bool)(ws:List (List UInt8))(σ:St):List UInt8 × St :=
 match Yp ws with
 | none=>(YW 11,σ)
 | some ps =>
   if ps.length<3\/(if kd then 64 else 3)<ps.length then (YW 7,σ)
   else if 64<=σ.1.length then (YW 6,σ)
   else (txt (σ.1.length+1:Nat),(σ.1++[(deny,if kd then (ps.length:Int) else 0,ps)],σ.2))
def LX(deny:Bool)(l:List (List UInt8))(σ:St):List UInt8 × St :=
 match l with
 | []=>(YW 11,σ)
 | x::ws=>if x=uP then QV deny true ws σ else if x=tY then QV deny false ws σ else (YW 11,σ)
theorem KT:(prog.info? 38).map (fun i=>(i.zero,i.size,i.bytes))=some (some (.agg #[.bool false,.int .i64 0,.slice none 0 0]),3,40):=by kernel_rfl
section
variable {σ:St}{sb:Nat}{gs:List Gr}{vR vQ:Value}{Wr Rd:Nat->Prop}(deny:Bool)(w:World)(h:Qz σ sb gs vR vQ Wr Rd w){B:Nat}(he:Env B w)
include h he
theorem add_nil(A:Option Addr)(c:Nat):Calls prog 142 #[.pointer (some ⟨sb,0,none⟩),.bool deny,.slice A 0 c] w (XD (YW 11,σ) sb Wr Rd w):=by
 have HF:=hide (Yj 11 (by unfold Zg;omega) w he.pt);have HST:=hide (fun X (hb:Below w.heap.size w X)=>Step.same (Wr:=Wr) (Rd:=Rd) (sb:=sb) ⟨gs,vR,vQ,h⟩ hb);clear h he;go_enter func142,ntmps142;go_wp2_with fail;refine HF.out.mono ?_;rintro e w1 ⟨rfl,hb1⟩;go_wp2;go_ret;exact ⟨rfl,HST.out _ hb1⟩
end
section
variable {σ:St}{sb:Nat}{gs:List Gr}{vR vQ:Value}{Wr Rd:Nat->Prop}(deny:Bool)(t:List UInt8)(ws:List (List UInt8))(b off c:Nat)(hc:ws.length+1<=c)(hl:∀ x∈ws,x.length<=1000000)(hn:ws.length<=1000000)(w:World)(h:Qz σ sb gs vR vQ Wr Rd w)(hs:Sl w w.heap.size (some ⟨b,off,none⟩) (ZF (t::ws))){B:Nat}(he:Env B w)
include h hs he
theorem nQ(h1:¬ t=uP)(h2:¬ t=tY):Calls prog 142 #[.pointer (some ⟨sb,0,none⟩),.bool deny,.slice (some ⟨b,off,none⟩) (ws.length+1) c] w (XD (YW 11,σ) sb Wr Rd w):=by
 have HF:=hide (Yj 11 (by unfold Zg;omega) w he.pt);have HST:=hide (fun X (hb:Below w.heap.size w X)=>Step.same (Wr:=Wr) (Rd:=Rd) (sb:=sb) ⟨gs,vR,vQ,h⟩ hb);have c0:=RH (k:=0) hs rfl;obtain ⟨s,hs'⟩:=eE (strOf t);have k1:¬ s.toList=[112,111,108,121,103,111,110]:=by rw [hs',YL];exact h1
 have k2:¬ s.toList=[100,105,115,99]:=by rw [hs',YL];exact h2
 have b1:(s.toList == [112,111,108,121,103,111,110])=false:=beq_eq_false_iff_ne.2 k1;have b2:(s.toList == [100,105,115,99])=false:=beq_eq_false_iff_ne.2 k2;rw [<- hs'] at c0;obtain ⟨q,hq⟩:=eE ws.length;rw [<- hq];clear h he hs hq hs' h1 h2;rw [Nat.add_zero] at c0;go_enter func142,ntmps142;go_wp2_with fail;refine HF.out.mono ?_;rintro e w1 ⟨rfl,hb1⟩;go_wp2;go_ret;exact ⟨rfl,HST.out _ hb1⟩
include hc hl hn h hs he
theorem Af(Nr:∀ k,Wr k->B<=k)(kd:Bool)(hkd:t=if kd then uP else tY):Calls prog 142 #[.pointer (some ⟨sb,0,none⟩),.bool deny,.slice (some ⟨b,off,none⟩) (ws.length+1) c] w (XD (QV deny kd ws σ) sb Wr Rd w):=by
 have c0:=RH (k:=0) hs rfl;have HS:=hide hs;have hs1:Sl w w.heap.size (some ⟨b,off+1,none⟩) (ZF ws):=by
  rcases hs with h0|⟨b',off',hA,hb,hc'⟩
  · cases h0
  · injection hA with hA;injection hA with e1 e2 _;subst e1;subst e2;exact Sl.mk hb fun j u hu=>by rw [Nat.add_assoc,Nat.add_comm 1 j];exact hc' (j+1) u (by simpa [ZF] using hu)
 have hs0:ws=[]->Sl w w.heap.size (some ⟨b,off,none⟩) (ZF ws):=fun e=>by subst e;exact Sl.nil _ _ _
 obtain ⟨q,hq⟩:=eE ws.length;have Ei:Hid (∀ c',q<=c'->Calls prog 139 #[.slice (some ⟨b,off+1,none⟩) q c'] w (Em ws w)):=hide fun c' h'=>by rw [hq];exact U5 ws b (off+1) c' (by omega) hl hn w hs1 he.tabs.mw
 have II:Hid (q=0->Calls prog 139 #[.slice (some ⟨b,off,none⟩) q 0] w (Em ws w)):=hide fun h'=>by rw [hq];exact U5 ws b off 0 (by omega) hl hn w (hs0 (List.length_eq_zero_iff.1 (by omega))) he.tabs.mw
 have HST:=hide (fun X (hb:Below w.heap.size w X)=>Step.same (Wr:=Wr) (Rd:=Rd) (sb:=sb) ⟨gs,vR,vQ,h⟩ hb);have HF:=hide (fun n (h1:Zg n) X (hb:Below w.heap.size w X)=>Yj n h1 X (he.new hb).pt);have H:=hide h;have hcq:q+1<=c:=by omega
 have Qs:=hide he;have HWB:=hide Nr;obtain ⟨s,hs'⟩:=eE (strOf t);obtain ⟨most,Ra⟩:∃ most:Int,most=if kd then 64 else 3:=⟨_,rfl⟩;have kk:(kd=true/\most=64/\s.toList=[112,111,108,121,103,111,110]/\(s.toList == [112,111,108,121,103,111,110])=true)\/(kd=false/\most=3/\¬ s.toList=[112,111,108,121,103,111,110]/\(s.toList == [112,111,108,121,103,111,110])=false/\s.toList=[100,105,115,99]/\(s.toList == [100,105,115,99])=true):=by
  rw [Ra,hs',YL,hkd];cases kd
  · exact .inr ⟨rfl,rfl,by decide,by decide,rfl,by decide⟩
  · exact .inl ⟨rfl,rfl,rfl,by decide⟩
 rw [<- hs'] at c0;have HQ:=hide hq;rw [<- hq];have hdl:σ.1.length=gs.length:=by rw [<- h.data,List.length_map]
 have hmm:∀ ps:List Pt,((ps.length:Int)<3\/(ps.length:Int) > most) ↔ (ps.length<3\/(if kd then 64 else 3)<ps.length):=fun ps=>by
  rw [Ra];cases kd <;> simp <;> omega
 have HA7:Hid (∀ ps:List Pt,Yp ws=some ps->((ps.length:Int)<3\/(ps.length:Int) > most)->QV deny kd ws σ=(YW 7,σ)):=hide fun ps h1 h2=>by
  unfold QV;rw [h1];exact if_pos ((hmm ps).1 h2)
 have HA6:Hid (∀ ps:List Pt,Yp ws=some ps->¬ ((ps.length:Int)<3\/(ps.length:Int) > most)->64<=gs.length->QV deny kd ws σ=(YW 6,σ)):=hide fun ps h1 h2 h3=>by
  unfold QV;rw [h1];exact (if_neg fun h=>h2 ((hmm ps).2 h)).trans (if_pos (by omega))
 have HAK:Hid (∀ ps:List Pt,Yp ws=some ps->¬ ((ps.length:Int)<3\/(ps.length:Int) > most)->¬ 64<=gs.length->QV deny kd ws σ=(txt (gs.length+1:Nat),(σ.1++[(deny,if kd then (ps.length:Int) else 0,ps)],σ.2))):=hide fun ps h1 h2 h3=>by
  unfold QV;rw [h1];exact (if_neg fun h=>h2 ((hmm ps).2 h)).trans ((if_neg (by omega)).trans (by rw [hdl]))
 have zcu:most<=64:=by rw [Ra];cases kd <;> simp
 clear Ra hdl hmm h he Nr hs hs1 hs0 hq hs' hkd hc hl hn;rw [Nat.add_zero] at c0
 by_cases hc1:c=1
 · obtain rfl:q=0:=(by omega);have HP:=hide (II.out rfl);have HN:Yp ws=none:=(by rw [List.length_eq_zero_iff.1 HQ.out.symm];rfl);have HA:Hid (QV deny true ws σ=(YW 11,σ)/\QV deny false ws σ=(YW 11,σ)):=hide (by unfold QV;rw [HN];exact ⟨rfl,rfl⟩);clear II Ei H HA7 HA6 HAK;subst hc1;rcases kk with ⟨rfl,Ra,k1,k2⟩|⟨rfl,Ra,k1,k2,k3,k4⟩
   all_goals
    go_enter func142,ntmps142;go_wp2_with fail;refine HP.out.mono ?_;rintro e w1 ⟨hb1,⟨ps,v,h1,rfl,ZT⟩|⟨h1,rfl⟩⟩
    · rw [HN] at h1;cases h1
    · have HB1:=hide hb1;have HF1:=hide (HF.out 11 (by unfold Zg;omega) w1 hb1);clear h1 hb1 HN;go_wp2_with fail;refine HF1.out.mono ?_;rintro e w2 ⟨rfl,hb2⟩;go_wp2;go_ret
      first|rw [HA.out.1]|rw [HA.out.2]
      exact ⟨rfl,HST.out _ (Z8 HB1.out hb2)⟩
 have HP:=hide (Ei.out (c - 1) (by omega));clear II Ei;rcases kk with ⟨rfl,Ra,k1,k2⟩|⟨rfl,Ra,k1,k2,k3,k4⟩
 all_goals
  go_enter func142,ntmps142;go_wp2_with fail
 all_goals
  refine HP.out.mono ?_;rintro e w1 ⟨hb1,⟨ps,v,h1,rfl,ZT⟩|⟨h1,rfl⟩⟩
  · obtain ⟨VA,vc,rfl,xV⟩:=ZP ZT;obtain ⟨m,hm⟩:=eE ps.length;have S1:=H.out.below hb1;obtain ⟨RA,rc,rfl,hrc⟩:=ZP S1.rows;obtain ⟨n,hn⟩:=eE gs.length;have cS:=S1.blk.cell (i:=0) (v:=.slice RA gs.length rc) rfl;have hsb:=S1.blk.lt;have hbb:=Zz c0;have c1:=(hb1.cell (p:=⟨b,off,none⟩) hbb).trans c0;have hbl:b<w1.heap.size:=Nat.lt_of_lt_of_le hbb hb1.size;have HB1:=hide hb1;have H1:=hide h1;have HO:=hide ZT;have HM:=hide hm;have HN:=hide hn;have LU:=hide S1;rw [<- hn] at cS;rw [<- hm];clear hb1 h1 ZT hm hn S1 hrc xV c0 hbb
    by_cases hbad:(m:Int)<3\/(m:Int) > most
    · have HE:=hide (HA7.out ps H1.out (by rw [<- HM.out];exact hbad));clear HA7 HA6 HAK H;rcases hbad with hm3|hm3
      all_goals
       subst Ra
       try (have hm5:¬ (m:Int)<3:=by omega)
       go_wp2_with fail;refine (HF.out 7 (by unfold Zg;omega) _ (Z5 HB1.out _)).mono ?_;rintro e w2 ⟨rfl,hb2⟩;go_wp2;go_ret;rw [HE.out];exact ⟨rfl,HST.out _ (Z8 (Z5 HB1.out _) hb2)⟩
    · by_cases h64:(n:Int) ≥ 64
      · have HE:=hide (HA6.out ps H1.out (by rw [<- HM.out];exact hbad) (by rw [<- HN.out];omega));have hm3:¬ (m:Int)<3:=fun h=>hbad (.inl h);have hm4:¬ (m:Int) > most:=fun h=>hbad (.inr h);clear HA7 HA6 HAK hbad;subst Ra;go_wp2_with (go_at_call 49;refine (HF.out 6 (by unfold Zg;omega) _ (Z5 HB1.out _)).mono ?_;rintro e w2 ⟨rfl,hb2⟩);go_ret;rw [HE.out];exact ⟨rfl,HST.out _ (Z8 (Z5 HB1.out _) hb2)⟩
      · have HK:=hide (HAK.out ps H1.out (by rw [<- HM.out];exact hbad) (by rw [<- HN.out];omega));have hm3:¬ (m:Int)<3:=fun h=>hbad (.inl h);have hm4:¬ (m:Int) > most:=fun h=>hbad (.inr h);have hm6:m<=64:=(by omega);obtain ⟨i0,hi,hi0,hi1,hi2⟩:=info_parts KT;have eO:Hid (w1.ownsRow 0 38 3 (.slice RA n rc) n (rgCells (gs.map (·.1)))):=hide (by rw [HN.out];exact LU.out.rows);have hne:some sb≠(Value.slice RA n rc).ownBlock:=fun e=>(LU.out.wr sb (by rw [HN.out] at e;exact e.symm)).2 rfl;have fS:=LU.out.blk.frozen 0;have hnl:n<64:=(by omega);clear HA7 HA6 HAK hbad h64;subst Ra;go_wp2
        go_region_law (first
         | (refine step_append_lies _ (by rfl) (.tmp 71) (.tmp 73) 32 (by rfl) 0 38 i0 (.agg #[.bool false,.int .i64 0,.slice none 0 0]) 3 40 underlying32 hi hi0 hi1 hi2 (by rfl) (by decide) (.slice RA n rc) n _ (by rfl) (ZI eO.out (ZV (Z5 (bA) _))) ⟨w1.heap.size+1,0,none⟩ 1 1 [.bool deny,.int .i64 _,.slice VA m vc] (by rfl) (by rfl) (ZB (Z7.new2 _ _ _ _).drew) (by simp [Value.oneCell']) (by omega) (by unfold maxLen;omega) (by omega) (by omega) (w1.heap.size+2) (by simp) ?_;intro g' cap w7 YZ ZL hat hlt';have d1:=(World.grownBy.cell_far ZL ⟨sb,0,none⟩ (by simp;omega) hne).trans (((ZV (Z5 (bA) _):Below w1.heap.size w1 _).cell (p:=⟨sb,0,none⟩) hsb).trans cS);have f1:=(World.grownBy.frozen_far ZL ⟨sb,0,none⟩ (by simp;omega) hne).trans (((ZV (Z5 (bA) _):Below w1.heap.size w1 _).frozen (p:=⟨sb,0,none⟩) hsb).trans fS))
         | go_simp)
        all_goals
         have hm':=HM.out;have hn':=HN.out;subst hm' hn';have eP:=hide (bG H.out HB1.out HO.out ⟨(Tk H1.out).1,hm6⟩ hnl (ZV (Z5 (bA) _)) ZL YZ (hat.imp id fun e=>by rw [e];simp) hlt');have HY:=hide (eP.out.below Qs.out.1 HWB.out);clear YZ ZL hat hlt' eO H LU HO hne fS f1 hi hi0 hi1 hi2 cS c1;go_wp2_with (go_at_call 22;refine (Ri _ (by unfold Zg;omega) _ (Qs.out.step HY.out).pt).mono ?_;rintro e w9 ⟨rfl,mZ⟩);go_ret;rw [HK.out]
         try simp only [if_true]
         exact ⟨rfl,eP.out.after mZ⟩
  · have HB1:=hide hb1;have HA:Hid (QV deny true ws σ=(YW 11,σ)/\QV deny false ws σ=(YW 11,σ)):=hide (by unfold QV;rw [h1];exact ⟨rfl,rfl⟩);have HF1:=hide (HF.out 11 (by unfold Zg;omega) w1 hb1);clear h1 hb1;go_wp2_with fail;refine HF1.out.mono ?_;rintro e w2 ⟨rfl,hb2⟩;go_wp2;go_ret
    first|rw [HA.out.1]|rw [HA.out.2]
    exact ⟨rfl,HST.out _ (Z8 HB1.out hb2)⟩
end
theorem Ii{σ:St}{sb:Nat}{gs:List Gr}{vR vQ:Value}{Wr Rd:Nat->Prop}(deny:Bool)(l:List (List UInt8))(b off c:Nat)(hc:l.length<=c)(hl:∀ x∈l,x.length<=1000000)(hn:l.length<=1000000)(w:World)(h:Qz σ sb gs vR vQ Wr Rd w)(hs:Sl w w.heap.size (some ⟨b,off,none⟩) (ZF l)){B:Nat}(he:Env B w)(Nr:∀ k,Wr k->B<=k):
 Calls prog 142 #[.pointer (some ⟨sb,0,none⟩),.bool deny,.slice (some ⟨b,off,none⟩) l.length c] w (XD (LX deny l σ) sb Wr Rd w):=by
 cases l with
 | nil=>exact add_nil deny w h he _ _
 | cons t ws =>
   unfold LX;dsimp only
   by_cases h1:t=uP
   · rw [if_pos h1];exact Af deny t ws b off c hc (fun x hx=>hl x (List.mem_cons_of_mem _ hx)) (by simp only [List.length_cons] at hn;omega) w h hs he Nr true h1
   · rw [if_neg h1]
     by_cases h2:t=tY
     · rw [if_pos h2];exact Af deny t ws b off c hc (fun x hx=>hl x (List.mem_cons_of_mem _ hx)) (by simp only [List.length_cons] at hn;omega) w h hs he Nr false h2
     · rw [if_neg h2];exact nQ deny t ws b off c w h hs he h1 h2
section
variable {σ:St}{sb:Nat}{gs:List Gr}{vR vQ:Value}{Wr Rd:Nat->Prop}(l:List (List UInt8))(b off c:Nat)(hc:l.length<=c)(hl:∀ x∈l,x.length<=1000000)(hn:l.length<=1000000)(w:World)(h:Qz σ sb gs vR vQ Wr Rd w)(hs:Sl w w.heap.size (some ⟨b,off,none⟩) (ZF l)){B:Nat}(he:Env B w)(Nr:∀ k,Wr k->B<=k)
include hc hl hn h hs he Nr
theorem Gi:Calls prog 94 #[.pointer (some ⟨sb,0,none⟩),.slice (some ⟨b,off,none⟩) l.length c] w (XD (LX false l σ) sb Wr Rd w):=by
 have HA:=hide (Ii false l b off c hc hl hn w h hs he Nr);obtain ⟨n,hnn⟩:=eE l.length;rw [<- hnn] at HA ⊢;clear hc hl hn h hs he Nr hnn;go_enter func94,ntmps94;go_wp2_with fail;refine HA.out.mono ?_;rintro e w1 ⟨rfl,hb1⟩;go_wp2;go_ret;exact ⟨rfl,hb1⟩
theorem gF:Calls prog 95 #[.pointer (some ⟨sb,0,none⟩),.slice (some ⟨b,off,none⟩) l.length c] w (XD (LX true l σ) sb Wr Rd w):=by
 have HA:=hide (Ii true l b off c hc hl hn w h hs he Nr);obtain ⟨n,hnn⟩:=eE l.length;rw [<- hnn] at HA ⊢;clear hc hl hn h hs he Nr hnn;go_enter func95,ntmps95;go_wp2_with fail;refine HA.out.mono ?_;rintro e w1 ⟨rfl,hb1⟩;go_wp2;go_ret;exact ⟨rfl,hb1⟩
end
end
section
open Go.RowKit Go.Shelf
attribute [local go_sem] Oper.semAt_some
theorem J6(s : ByteArray)(hs : s.size < 4294967281)(ha : ∀ (j : Nat) b, s.data.toList[j]? = some b -> b.toNat < 128)(ws : List (List UInt8))(hw : Lib.fields s.data.toList = ws)(w : World)(ht : Lib.TabIs prog w "strings.asciiSpace" .u8 Lib.asciiSpaceTab):
 Calls prog 140 #[.string s] w fun e w'=>∃ g,e=.returned (.slice (some ⟨g,0,none⟩) ws.length ws.length)/\Below w.heap.size w w'/\Z7 w' g 9 (ZF ws).toArray:=by
 subst hw;refine (Any.strings_Fields Tryz.lays157 (by kernel_rfl) (by kernel_rfl) s w hs ha ht).mono ?_;rintro e w' ⟨rfl,rfl⟩;exact ⟨_,rfl,bA,Z7.new _ _ _⟩
theorem oP{σ:St}{sb:Nat}{gs:List Gr}{vQ:Value}{RA:Option Addr}{n rc:Nat}{Wr Rd:Nat->Prop}{X:World}(h:Qz σ sb gs (.slice RA n rc) vQ Wr Rd X)(hn:n=gs.length)(hw:MW X)(p:Pt)(hp:PJ p):
 Calls prog 143 #[.pointer none,.slice RA n rc,.agg #[.int .i64 p.1,.int .i64 p.2]] X fun e w'=>e=.returned (.int .i64 (Xy (σ.1.map cg) p))/\Below X.heap.size X w':=by
 subst hn;have hh:∀ g∈gs,g.1.n=g.2.length:=fun g hg=>(h.ZY g hg).1;have e1:Xy (σ.1.map cg) p=Xy gs p:=by
  rw [<- h.data,tO];unfold Xy;rw [Uu hh,Nl hh]
 rw [e1];refine (JW (fun k=>k<X.heap.size) none [] p hp X (fun k h=>h) hw.2 hw trivial (by simp) gs RA rc ((Sl.Zv h.rows).lX fun _ h=>h) (fun g hg=>⟨hh g hg,(h.ZY g hg).2.mono h.zV,(h.small.1 g hg).1,by have:=(h.small.1 g hg).2;omega⟩)).mono ?_;rintro e w' ⟨rfl,hk,-⟩;exact ⟨rfl,hk.os,hk.tape,hk.output,hk.size,hk.block⟩
def zwb(k:Int):List UInt8:=if k=0 then [110,111] else if k=1 then [121,101,115] else [105,110,118,97,108,105,100]
def Xp(l:List (List UInt8))(σ:St):List UInt8 × St :=
 match Yp l with
 | some [p]=>if σ.1=[] then (YW 6,σ) else (zwb (Xy (σ.1.map cg) p),σ)
 | _=>(YW 11,σ)
section
variable {σ:St}{sb:Nat}{gs:List Gr}{vR vQ:Value}{Wr Rd:Nat->Prop}(l:List (List UInt8))(b off c:Nat)(hc:l.length<=c)(hl:∀ x∈l,x.length<=1000000)(hn:l.length<=1000000)(w:World)(h:Qz σ sb gs vR vQ Wr Rd w)(hs:Sl w w.heap.size (some ⟨b,off,none⟩) (ZF l)){B:Nat}(he:Env B w)
include hc hl hn h hs he
theorem M5:Calls prog 96 #[.pointer (some ⟨sb,0,none⟩),.slice (some ⟨b,off,none⟩) l.length c] w (XD (Xp l σ) sb Wr Rd w):=by
 have Yv:prog.follows .mixedOrders=true:=by kernel_rfl
 have HX:=hide (QY l b off c hc hl hn 1 w hs he.tabs.mw);have HST:=hide (fun X (hb:Below w.heap.size w X)=>Step.same (Wr:=Wr) (Rd:=Rd) (sb:=sb) ⟨gs,vR,vQ,h⟩ hb);have HF:=hide (fun n (h1:Zg n) X (hb:Below w.heap.size w X)=>Yj n h1 X (he.new hb).pt);have H:=hide h;have Qs:=hide he;obtain ⟨q,hq⟩:=eE l.length;rw [<- hq] at HX ⊢;clear hc hl hn h hs he hq;refine (callsIn_wide (n:=6)).1 ?_;refine callsIn_of_wp func96 rfl trivial ?_ rfl;simp only [ntmps96,List.size_toArray,List.length_cons,List.length_nil,Nat.reduceAdd,Nat.reduceSub,Array.replicate_succ,Array.replicate_zero,List.push_toArray,List.append_toArray,List.nil_append,List.cons_append];gi_wp2_with fail;refine ⟨trivial,?_⟩;refine (callsIn_wide.2 HX.out).mono ?_;rintro e w1 ⟨hb1,⟨ps,v,h1,h2,rfl,ZT⟩|⟨h1,v,rfl⟩⟩
 · obtain ⟨p,rfl⟩:∃ p,ps=[p]:=List.length_eq_one_iff.1 (by omega);have I5:PJ p:=(Tk h1).1 p (List.mem_singleton.2 rfl);obtain ⟨bv,ov,vc,rfl,e0,e1⟩:∃ bv ov vc,v=.slice (some ⟨bv,ov,none⟩) 1 vc/\w1.cell? ⟨bv,ov,none⟩=some (.int .i64 p.1)/\w1.cell? ⟨bv,ov+1,none⟩=some (.int .i64 p.2):=by
    obtain ⟨VA,vc,rfl,_⟩:=ZP ZT;rcases Sl.Zv ZT with h7|⟨bv,ov,rfl,_,hcv⟩
    · cases h7
    · exact ⟨bv,ov,vc,rfl,hcv 0 _ rfl,hcv 1 _ rfl⟩
   have S1:=H.out.below hb1;obtain ⟨RA,rc,rfl,hrc⟩:=ZP S1.rows;obtain ⟨n,hn⟩:=eE gs.length;have cS:=S1.blk.cell (i:=0) (v:=.slice RA gs.length rc) rfl;rw [<- hn] at cS;have hbv:=Zz e0;have hsb:=S1.blk.lt;have HB1:=hide hb1;have HPJ:=hide I5;have HN:=hide hn;have LU:=hide S1;have hnil:σ.1=[] ↔ n=0:=(by rw [hn,<- S1.data];simp);have HM6:Hid (n=0->Xp l σ=(YW 6,σ)):=hide fun hh=>by unfold Xp;rw [h1];exact if_pos (hnil.2 hh)
   have HMK:Hid (n≠0->Xp l σ=(zwb (Xy (σ.1.map cg) p),σ)):=hide fun hh=>by unfold Xp;rw [h1];exact if_neg fun h=>hh (hnil.1 h)
   obtain ⟨A,hA⟩:=eE (Xy (σ.1.map cg) p);have hAb:0<=A/\A<=2:=by rw [hA];unfold Xy;cases YN (σ.1.map cg) <;> cases WH (σ.1.map cg) p <;> decide
   have dQ:Hid (∀ X,Below w1.heap.size w1 X->Calls prog 143 #[.pointer none,.slice RA n rc,.agg #[.int .i64 p.1,.int .i64 p.2]] X fun e w'=>e=.returned (.int .i64 A)/\Below X.heap.size X w'):=hide fun X hX=>by
    rw [hA,hn];exact oP (S1.below hX) rfl ((Qs.out.new hb1).new hX).tabs.mw p I5
   have HFI:Hid (∀ X,Below w1.heap.size w1 X->Calls prog 140 #[.string ⟨#[110,111,32,121,101,115,32,105,110,118,97,108,105,100]⟩] X fun e w'=>∃ g,e=.returned (.slice (some ⟨g,0,none⟩) 3 3)/\Below X.heap.size X w'/\Z7 w' g 9 #[.string ⟨#[110,111]⟩,.string ⟨#[121,101,115]⟩,.string ⟨#[105,110,118,97,108,105,100]⟩]):=hide fun X hX =>
    J6 ⟨#[110,111,32,121,101,115,32,105,110,118,97,108,105,100]⟩ (by decide) (by
     intro j b' hb';have:∀ b'∈([110,111,32,121,101,115,32,105,110,118,97,108,105,100]:List UInt8),b'.toNat<128:=by decide
     exact this b' (List.mem_of_getElem? hb')) [[110,111],[121,101,115],[105,110,118,97,108,105,100]] (by decide) X ((Qs.out.new hb1).new hX).tabs.sp
   rw [<- hA] at HMK;obtain ⟨px,py⟩:=p;dsimp only at e0 e1 dQ;clear ZT h1 h2 hb1 I5 hn S1 hrc hnil hA HX
   by_cases hn0:n=0
   · have HE:=hide (HM6.out hn0);subst hn0;clear HMK HM6;gi_wp2_with fail;refine ⟨trivial,?_⟩;refine (callsIn_wide.2 (HF.out 6 (by unfold Zg;omega) _ HB1.out)).mono ?_;rintro e w3 ⟨rfl,hb3⟩;gi_wp2;go_ret;rw [HE.out];exact ⟨rfl,HST.out _ (Z8 HB1.out hb3)⟩
   · have HE:=hide (HMK.out hn0);have hn1:¬ (n:Int)=0:=(by omega);clear HMK HM6;gi_wp2;have hS:w1.drew.cell? ⟨sb,0,none⟩=some (.slice RA n rc)/\w1.drew.cell? ⟨bv,ov,none⟩=some (.int .i64 px)/\w1.drew.cell? ⟨bv,ov+1,none⟩=some (.int .i64 py):=⟨cS,e0,e1⟩;have Xe:Hid (Below w1.heap.size w1 w1.drew):=hide (ZV (Below.refl _ _));have Pp:Hid (∀ X Y,(X.cell? ⟨sb,0,none⟩=some (.slice RA n rc)/\X.cell? ⟨bv,ov,none⟩=some (.int .i64 px)/\X.cell? ⟨bv,ov+1,none⟩=some (.int .i64 py))->Below X.heap.size X Y->(Y.cell? ⟨sb,0,none⟩=some (.slice RA n rc)/\Y.cell? ⟨bv,ov,none⟩=some (.int .i64 px)/\Y.cell? ⟨bv,ov+1,none⟩=some (.int .i64 py))):=hide fun X Y h hb =>
      ⟨(hb.cell (p:=⟨sb,0,none⟩) (Zz h.1)).trans h.1,(hb.cell (p:=⟨bv,ov,none⟩) (Zz h.2.1)).trans h.2.1,(hb.cell (p:=⟨bv,ov+1,none⟩) (Zz h.2.2)).trans h.2.2⟩
     refine Yz 1000 (S:=fun w'=>w'.cell? ⟨sb,0,none⟩=some (.slice RA n rc)/\w'.cell? ⟨bv,ov,none⟩=some (.int .i64 px)/\w'.cell? ⟨bv,ov+1,none⟩=some (.int .i64 py)) Yv ?_;generalize w1.drew=u0 at *;refine' Z0 (i:=1) rfl ?jg hS ?aU
     case jg =>
      intro w' hSw;obtain ⟨k0,k1,k2⟩:=hSw;go_simp;rfl
     simp only [Act.put,Z6];refine' Z0 (i:=2) rfl ?jh hS ?aV
     case jh =>
      intro w' hSw;obtain ⟨k0,k1,k2⟩:=hSw;go_simp;rfl
     simp only [Act.put,Z6];refine' Z0 (i:=3) rfl ?ji hS ?aW
     case ji =>
      intro w' hSw;obtain ⟨k0,k1,k2⟩:=hSw;go_simp;rfl
     simp only [Act.put,Z6];refine' Z0 (i:=4) rfl ?jm hS ?aX
     case jm =>
      intro w' hSw;obtain ⟨k0,k1,k2⟩:=hSw;go_simp;rfl
     simp only [Act.put,Z6];refine' Z0 (i:=5) rfl ?Kq hS ?FI
     case Kq =>
      intro w' hSw;obtain ⟨k0,k1,k2⟩:=hSw;go_simp;rfl
     simp only [Act.put,Z6];refine' Z0 (i:=6) rfl ?Kr hS ?FJ
     case Kr =>
      intro w' hSw;obtain ⟨k0,k1,k2⟩:=hSw;go_simp;rfl
     simp only [Act.put,Z6];refine' Z0 (i:=7) rfl ?OC hS ?LJ
     case OC =>
      intro w' hSw;obtain ⟨k0,k1,k2⟩:=hSw;go_simp;rfl
     simp only [Act.put,Z6];refine Zc (i:=0) (by kernel_rfl) rfl ?_;intro K hK;rw [if_pos (by rfl)];go_simp;refine ⟨trivial,?_⟩;refine (callsIn_wide.2 (HFI.out u0 Xe.out)).mono ?_;rintro e y1 ⟨g,rfl,UY,xD⟩;have hS1:=Pp.out _ _ hS UY;have Nb:=Z8 Xe.out UY;refine hK.out _ _ (fun _=>hS1) ?_;clear hK K
     (try simp only [Act.put,Z6])
     refine Zc (i:=8) (by kernel_rfl) rfl ?_;intro K hK;rw [if_pos (by rfl)];go_simp;refine ⟨trivial,?_⟩;refine (callsIn_wide.2 (dQ.out y1 Nb)).mono ?_;rintro e y2 ⟨rfl,Ws⟩;have hS2:=Pp.out _ _ hS1 Ws;have Uq:=Z8 Nb Ws;refine hK.out _ _ (fun _=>hS2) ?_;clear hK K
     (try simp only [Act.put,Z6])
     have hbk:=xD.step Ws;have q0:=hbk.q0 rfl;have q1:=hbk.q1 rfl;have q2:=hbk.q2 rfl;rcases (show A=0\/A=1\/A=2 by omega) with hA|hA|hA
     all_goals
      subst hA;refine Zc (i:=9) (by kernel_rfl) rfl ?_;intro K hK;rw [if_pos (by rfl)];go_simp;refine hK.out _ _ (fun _=>hS2) ?_;clear hK K
      (try simp only [Act.put,Z6])
      refine Zc (i:=10) (by kernel_rfl) rfl ?_;intro K hK;rw [if_pos (by rfl)];go_simp;refine hK.out _ _ (fun _=>hS2) ?_;clear hK K
      (try simp only [Act.put,Z6])
      refine Zc (i:=11) (by kernel_rfl) rfl ?_;intro K hK;rw [if_pos (by rfl)];go_simp;refine hK.out _ _ (fun _=>hS2) ?_;clear hK K
      (try simp only [Act.put,Z6])
      refine Yc (by kernel_rfl) ?_ _;gi_wp2;go_ret;rw [HE.out];exact ⟨rfl,HST.out _ (Z8 HB1.out Uq)⟩
 · have HE:Hid (Xp l σ=(YW 11,σ)):=hide (by
    unfold Xp;split
    · rename_i p hp
      exact absurd rfl (h1 _ hp)
    · rfl)
   have HB1:=hide hb1;clear h1 hb1 HX;gi_wp2_with fail;refine ⟨trivial,?_⟩;refine (callsIn_wide.2 (HF.out 11 (by unfold Zg;omega) _ HB1.out)).mono ?_;rintro e w3 ⟨rfl,hb3⟩;gi_wp2;go_ret;rw [HE.out];exact ⟨rfl,HST.out _ (Z8 HB1.out hb3)⟩
end
end
section
open Go.RowKit Go.Shelf
attribute [local go_sem] Oper.semAt_some
def zvy(k:Int):List UInt8:=if k=0 then [111,117,116,115,105,100,101] else if k=1 then [98,111,117,110,100,97,114,121] else if k=2 then [105,110,115,105,100,101] else [105,110,118,97,108,105,100]
def Wz(l:List (List UInt8))(σ:St):List UInt8 × St :=
 match Yp l with
 | none=>(YW 11,σ)
 | some ps=>if ps.length<4\/65<ps.length then (YW 6,σ) else (zvy (XE (ps.take (ps.length - 1)) (ZX ps (ps.length - 1))),σ)
theorem oD(ps:List Pt)(p:Pt):0<=XE ps p/\XE ps p<=3:=by
 unfold XE;cases Un ps with
 | false=>exact (by decide:(0:Int)<=3/\(3:Int)<=3)
 | true =>
   unfold Fx;rw [cond_true];have h1:∀ a b:Bool,-1<=KY a b/\KY a b<=1:=(by decide);have:=h1 (Xg (Z4 ps) ps p (List.range (Zy ps.length))).1 (Xg (Z4 ps) ps p (List.range (Zy ps.length))).2;omega
theorem lY{X:World}{B b off:Nat}{ps:List Pt}(m:Nat)(h:Sl X B (some ⟨b,off,none⟩) (Zl ps)):Sl X B (some ⟨b,off,none⟩) (Zl (ps.take m)):=by
 rcases h with h|⟨b',off',e,hb,hc⟩
 · cases ht:Zl (ps.take m) with
   | nil=>exact .inl rfl
   | cons u r =>
     have:=NJ ps m 0 u (by rw [ht];rfl);rw [h] at this;cases this
 · exact .inr ⟨b',off',e,hb,fun j u hu=>hc j u (NJ ps m j u hu)⟩
section
variable {σ:St}{sb:Nat}{gs:List Gr}{vR vQ:Value}{Wr Rd:Nat->Prop}(l:List (List UInt8))(b off c:Nat)(hc:l.length<=c)(hl:∀ x∈l,x.length<=1000000)(hn:l.length<=1000000)(w:World)(h:Qz σ sb gs vR vQ Wr Rd w)(hs:Sl w w.heap.size (some ⟨b,off,none⟩) (ZF l)){B:Nat}(he:Env B w)
include hc hl hn h hs he
theorem Du:Calls prog 93 #[.pointer (some ⟨sb,0,none⟩),.slice (some ⟨b,off,none⟩) l.length c] w (XD (Wz l σ) sb Wr Rd w):=by
 have Yv:prog.follows .mixedOrders=true:=by kernel_rfl
 have HX:=hide (U5 l b off c hc hl hn w hs he.tabs.mw);have HST:=hide (fun X (hb:Below w.heap.size w X)=>Step.same (Wr:=Wr) (Rd:=Rd) (sb:=sb) ⟨gs,vR,vQ,h⟩ hb);have HF:=hide (fun n (h1:Zg n) X (hb:Below w.heap.size w X)=>Yj n h1 X (he.new hb).pt);have Qs:=hide he;obtain ⟨q,hq⟩:=eE l.length;rw [<- hq] at HX ⊢;have HN:=hide hn;have HQ:=hide hq;clear hc hl hn h hs he hq;refine (callsIn_wide (n:=6)).1 ?_;refine callsIn_of_wp func93 rfl trivial ?_ rfl;simp only [ntmps93,List.size_toArray,List.length_cons,List.length_nil,Nat.reduceAdd,Nat.reduceSub,Array.replicate_succ,Array.replicate_zero,List.push_toArray,List.append_toArray,List.nil_append,List.cons_append];gi_wp2_with fail;refine ⟨trivial,?_⟩;refine (callsIn_wide.2 HX.out).mono ?_;rintro e w1 ⟨hb1,⟨ps,v,h1,rfl,ZT⟩|⟨h1,rfl⟩⟩
 · obtain ⟨I5,hne,hpl⟩:=Tk h1;have hL1:1<=ps.length:=List.length_pos_iff.2 hne;have hL2:ps.length<=1000001:=(by have:=HN.out;unfold XH at hpl;omega);obtain ⟨L,hL⟩:=eE ps.length;obtain ⟨m,hm⟩:∃ m:Nat,m+1=L:=⟨L - 1,by omega⟩;have hml:m<ps.length:=(by omega);obtain ⟨bv,ov,vc,rfl,hbv,xV,hsl⟩:∃ bv ov vc,v=.slice (some ⟨bv,ov,none⟩) ps.length vc/\bv<w1.heap.size/\ps.length<=vc/\Sl w1 w1.heap.size (some ⟨bv,ov,none⟩) (Zl ps):=by
    obtain ⟨VA,vc,rfl,xV⟩:=ZP ZT;have hs:=Sl.Zv ZT;obtain ⟨bv,ov,rfl,hlt,_⟩:=hs.open_ (by unfold Zl;rw [Y5 (fun p:Pt=>[Value.int .i64 p.1,.int .i64 p.2]) 2 (fun _=>rfl)];omega);exact ⟨bv,ov,vc,rfl,hlt,xV,hs⟩
   obtain ⟨e0,e1⟩:=M4 hsl hml;have HB1:=hide hb1;have zbo:=hide hsl;have HM6:Hid (m<3\/64<m->Wz l σ=(YW 6,σ)):=hide fun hh=>by unfold Wz;rw [h1];dsimp only;exact if_pos (by omega)
   have HMK:Hid (¬ (m<3\/64<m)->Wz l σ=(zvy (XE (ps.take m) (ZX ps m)),σ)):=hide fun hh=>by
    unfold Wz;rw [h1];dsimp only;rw [if_neg (by omega),show ps.length - 1=m from by omega]
   obtain ⟨p,hp⟩:=eE (ZX ps m);obtain ⟨A,hA⟩:=eE (XE (ps.take m) p);have hAb:0<=A/\A<=3:=(by rw [hA];exact oD _ _);have hpp:PJ p:=(by rw [hp];exact I5.at_ m);have htl:(ps.take m).length=m:=by rw [List.length_take];omega
   have dQ:Hid (m<=64->∀ X,Below w1.heap.size w1 X->Calls prog 141 #[.pointer none,.slice (some ⟨bv,ov,none⟩) m vc,.agg #[.int .i64 p.1,.int .i64 p.2]] X fun e w'=>e=.returned (.int .i64 A)/\Below X.heap.size X w'):=hide fun zcu X hX=>by
    rw [hA];have hw:=((Qs.out.new hb1).new hX).tabs.mw;have h:=JO (fun k=>k<X.heap.size) none [] p hpp X (fun k h=>h) hw.2 hw trivial (by simp) (ps.take m) (fun q hq=>I5 q (List.mem_of_mem_take hq)) (by omega) (some ⟨bv,ov,none⟩) vc ((lY m ((zbo.out.below hX).more hX.size)).lX fun k h=>h);rw [htl] at h;refine h.mono ?_;rintro e w' ⟨he,hk,_⟩;exact ⟨he,hk.below fun k h=>h⟩
   have HFI:Hid (∀ X,Below w1.heap.size w1 X->Calls prog 140 #[.string ⟨#[111,117,116,115,105,100,101,32,98,111,117,110,100,97,114,121,32,105,110,115,105,100,101,32,105,110,118,97,108,105,100]⟩] X fun e w'=>∃ g,e=.returned (.slice (some ⟨g,0,none⟩) 4 4)/\Below X.heap.size X w'/\Z7 w' g 9 #[.string ⟨#[111,117,116,115,105,100,101]⟩,.string ⟨#[98,111,117,110,100,97,114,121]⟩,.string ⟨#[105,110,115,105,100,101]⟩,.string ⟨#[105,110,118,97,108,105,100]⟩]):=hide fun X hX =>
    J6 ⟨#[111,117,116,115,105,100,101,32,98,111,117,110,100,97,114,121,32,105,110,115,105,100,101,32,105,110,118,97,108,105,100]⟩ (by decide) (by
     intro j b' hb';have:∀ b'∈([111,117,116,115,105,100,101,32,98,111,117,110,100,97,114,121,32,105,110,115,105,100,101,32,105,110,118,97,108,105,100]:List UInt8),b'.toNat<128:=by decide
     exact this b' (List.mem_of_getElem? hb')) [[111,117,116,115,105,100,101],[98,111,117,110,100,97,114,121],[105,110,115,105,100,101],[105,110,118,97,108,105,100]] (by decide) X ((Qs.out.new hb1).new hX).tabs.sp
   rw [<- hp,<- hA] at HMK;rw [<- hp] at e0 e1;rw [<- hL] at xV ⊢;have hmv:(m:Int)<=(vc:Int):=(by omega);have hm0:(0:Int)<=(m:Int):=(by omega);have hmL:(m:Int)<(L:Int):=(by omega);have hwr:IntKind.i64.wrap ((L:Int) - 1)=(m:Int):=(by rw [IntKind.wrap_i64];omega);obtain ⟨px,py⟩:=p;dsimp only at e0 e1 dQ;have hm1:=hide hm;clear ZT h1 hb1 I5 hne hpl hL1 hL2 hL hml hsl hA hp hpp htl HX xV hm
   by_cases hn0:m<3\/64<m
   · have HE:=hide (HM6.out hn0);clear HMK HM6;have hn1:(m:Int)<3\/¬ (m:Int)<3/\(m:Int) > 64:=(by omega);clear hn0;rcases hn1 with hn1|⟨hn1,hn2⟩
     all_goals
      gi_wp2_with fail;refine ⟨trivial,?_⟩;refine (callsIn_wide.2 (HF.out 6 (by unfold Zg;omega) _ HB1.out)).mono ?_;rintro e w3 ⟨rfl,hb3⟩;gi_wp2;go_ret;rw [HE.out];exact ⟨rfl,HST.out _ (Z8 HB1.out hb3)⟩
   · have HE:=hide (HMK.out hn0);have hn1:¬ (m:Int)<3:=(by omega);have hn2:¬ (m:Int) > 64:=(by omega);have dQ:=hide (dQ.out (by omega));clear HMK HM6 hn0;gi_wp2;have hS:w1.drew.cell? ⟨bv,ov+m*2,none⟩=some (.int .i64 px)/\w1.drew.cell? ⟨bv,ov+m*2+1,none⟩=some (.int .i64 py):=⟨e0,e1⟩;have Xe:Hid (Below w1.heap.size w1 w1.drew):=hide (ZV (Below.refl _ _));have Pp:Hid (∀ X Y,(X.cell? ⟨bv,ov+m*2,none⟩=some (.int .i64 px)/\X.cell? ⟨bv,ov+m*2+1,none⟩=some (.int .i64 py))->Below X.heap.size X Y->(Y.cell? ⟨bv,ov+m*2,none⟩=some (.int .i64 px)/\Y.cell? ⟨bv,ov+m*2+1,none⟩=some (.int .i64 py))):=hide fun X Y h hb =>
      ⟨(hb.cell (p:=⟨bv,ov+m*2,none⟩) (Zz h.1)).trans h.1,(hb.cell (p:=⟨bv,ov+m*2+1,none⟩) (Zz h.2)).trans h.2⟩
     clear e0 e1;refine Yz 1000 (S:=fun w'=>w'.cell? ⟨bv,ov+m*2,none⟩=some (.int .i64 px)/\w'.cell? ⟨bv,ov+m*2+1,none⟩=some (.int .i64 py)) Yv ?_;generalize w1.drew=u0 at *;refine' Z0 (i:=1) rfl ?jg hS ?aU
     case jg =>
      intro w' hSw;obtain ⟨k0,k1⟩:=hSw;go_simp;rfl
     simp only [Act.put,Z6];refine' Z0 (i:=2) rfl ?jh hS ?aV
     case jh =>
      intro w' hSw;obtain ⟨k0,k1⟩:=hSw;go_simp;rfl
     simp only [Act.put,Z6];refine' Z0 (i:=3) rfl ?ji hS ?aW
     case ji =>
      intro w' hSw;obtain ⟨k0,k1⟩:=hSw;go_simp;rfl
     simp only [Act.put,Z6];refine' Z0 (i:=4) rfl ?jm hS ?aX
     case jm =>
      intro w' hSw;obtain ⟨k0,k1⟩:=hSw;go_simp;rfl
     simp only [Act.put,Z6];refine' Z0 (i:=5) rfl ?Kq hS ?FI
     case Kq =>
      intro w' hSw;obtain ⟨k0,k1⟩:=hSw;go_simp;rfl
     simp only [Act.put,Z6];refine' Z0 (i:=6) rfl ?Kr hS ?FJ
     case Kr =>
      intro w' hSw;obtain ⟨k0,k1⟩:=hSw;go_simp;rfl
     simp only [Act.put,Z6];refine' Z0 (i:=7) rfl ?OC hS ?LJ
     case OC =>
      intro w' hSw;obtain ⟨k0,k1⟩:=hSw;go_simp;rfl
     simp only [Act.put,Z6];refine Zc (i:=0) (by kernel_rfl) rfl ?_;intro K hK;rw [if_pos (by rfl)];go_simp;refine ⟨trivial,?_⟩;refine (callsIn_wide.2 (HFI.out u0 Xe.out)).mono ?_;rintro e y1 ⟨g,rfl,UY,xD⟩;have hS1:=Pp.out _ _ hS UY;have Nb:=Z8 Xe.out UY;refine hK.out _ _ (fun _=>hS1) ?_;clear hK K
     (try simp only [Act.put,Z6])
     refine Zc (i:=8) (by kernel_rfl) rfl ?_;intro K hK;rw [if_pos (by rfl)];go_simp;refine ⟨trivial,?_⟩;refine (callsIn_wide.2 (dQ.out y1 Nb)).mono ?_;rintro e y2 ⟨rfl,Ws⟩;have hS2:=Pp.out _ _ hS1 Ws;have Uq:=Z8 Nb Ws;refine hK.out _ _ (fun _=>hS2) ?_;clear hK K
     (try simp only [Act.put,Z6])
     have hbk:=xD.step Ws;have q0:=hbk.q0 rfl;have q1:=hbk.q1 rfl;have q2:=hbk.q2 rfl;have q3:=hbk.q3 rfl;rcases (show A=0\/A=1\/A=2\/A=3 by omega) with hA|hA|hA|hA
     all_goals
      subst hA;refine Zc (i:=9) (by kernel_rfl) rfl ?_;intro K hK;rw [if_pos (by rfl)];go_simp;refine hK.out _ _ (fun _=>hS2) ?_;clear hK K
      (try simp only [Act.put,Z6])
      refine Zc (i:=10) (by kernel_rfl) rfl ?_;intro K hK;rw [if_pos (by rfl)];go_simp;refine hK.out _ _ (fun _=>hS2) ?_;clear hK K
      (try simp only [Act.put,Z6])
      refine Zc (i:=11) (by kernel_rfl) rfl ?_;intro K hK;rw [if_pos (by rfl)];go_simp;refine hK.out _ _ (fun _=>hS2) ?_;clear hK K
      (try simp only [Act.put,Z6])
      refine Yc (by kernel_rfl) ?_ _;gi_wp2;go_ret;rw [HE.out];exact ⟨rfl,HST.out _ (Z8 HB1.out Uq)⟩
 · have HE:Hid (Wz l σ=(YW 11,σ)):=hide (by unfold Wz;rw [h1]);have HB1:=hide hb1;clear h1 hb1 HX;gi_wp2_with fail;refine ⟨trivial,?_⟩;refine (callsIn_wide.2 (HF.out 11 (by unfold Zg;omega) _ HB1.out)).mono ?_;rintro e w3 ⟨rfl,hb3⟩;gi_wp2;go_ret;rw [HE.out];exact ⟨rfl,HST.out _ (Z8 HB1.out hb3)⟩
end
end
section
open Go.RowKit Go.Shelf
theorem aK(a:List UInt8)(ha:a.length<=1000000)(X:World)(hw:MW X):Calls prog 144 #[.string (strOf a),.int .i64 2] X fun e X'=>Below X.heap.size X X' /\
 ((WX a 2=0/\∃ bx ox c z0 z1,e=.returned (.tuple #[.slice (some ⟨bx,ox,none⟩) 2 c,.int .i64 0])/\X'.cell? ⟨bx,ox,none⟩=some (.int .u64 z0)/\X'.cell? ⟨bx,ox+1,none⟩=some (.int .u64 z1)/\bx<X'.heap.size/\(z1=0 ↔ 0<=pVal a/\pVal a<18446744073709551616)/\(z1=0->z0=pVal a)) \/
   (WX a 2≠0/\e=.returned (.tuple #[.slice none 0 0,.int .i64 (WX a 2)]))):=by
 refine (H7 (strOf a) 2 (by rw [ZK];unfold maxLen;omega) X hw.1 hw.2).mono ?_;rintro e X' ⟨hb,h⟩;have e0:(strOf a).data.toList=a:=rfl;rw [e0] at h;refine ⟨hb,?_⟩;rcases h with ⟨h0,A,c,rfl,hs⟩|⟨h0,rfl⟩
 · left
   obtain ⟨bx,ox,rfl,hbx,hcx⟩:=hs.u (by rw [ZQ];decide);have hf:=QO h0;refine ⟨h0,bx,ox,c,_,_,rfl,hcx 0 _ (Yw _ (by decide)),hcx 1 _ (Yw _ (by decide)),hbx,?_,?_⟩
   all_goals
    unfold Fits at hf;unfold lim;simp only [Int.pow_zero,Int.ediv_one,Int.pow_succ,Int.one_mul];simp at hf;omega
 · exact .inr ⟨h0,rfl⟩
def av(a:List UInt8):Option Int:=if WX a 2=0/\0<=pVal a/\pVal a<18446744073709551616 then some (pVal a) else none
def WI(a:List UInt8)(l:List (List UInt8))(σ:St):List UInt8 × St :=
 match av a,Yp l with
 | some id,some (p::_)=>if 4096<=σ.2.length then (YW 6,σ) else (txt (σ.2.length+1:Nat),(σ.1,σ.2++[(p,id)]))
 | _,_=>(YW 11,σ)
def Ul(l:List (List UInt8))(σ:St):List UInt8 × St:=if l.length=3 then WI (l.headD []) l.tail σ else (YW 11,σ)
theorem yS{a:List UInt8}{l:List (List UInt8)}{σ:St}(h:Yp l=none):WI a l σ=(YW 11,σ):=by
 unfold WI;rw [h];cases av a <;> rfl
theorem KM{a:List UInt8}{l:List (List UInt8)}{σ:St}(h:av a=none):WI a l σ=(YW 11,σ):=by
 unfold WI;rw [h]
section
variable {σ:St}{sb:Nat}{gs:List Gr}{vR vQ:Value}{Wr Rd:Nat->Prop}(w:World)(h:Qz σ sb gs vR vQ Wr Rd w){B:Nat}(he:Env B w)
include h he
theorem qX(A:Option Addr)(n c:Nat)(hn:n≠3):Calls prog 97 #[.pointer (some ⟨sb,0,none⟩),.slice A n c] w (XD (YW 11,σ) sb Wr Rd w):=by
 have HF:=hide (Yj 11 (by unfold Zg;omega) w he.pt);have HST:=hide (fun X (hb:Below w.heap.size w X)=>Step.same (Wr:=Wr) (Rd:=Rd) (sb:=sb) ⟨gs,vR,vQ,h⟩ hb);have hn':¬ (n:Int)=3:=by omega
 clear h he hn;go_enter func97,ntmps97;go_wp2_with fail;refine HF.out.mono ?_;rintro e w1 ⟨rfl,hb1⟩;go_wp2;go_ret;exact ⟨rfl,HST.out _ hb1⟩
variable (a x y:List UInt8)(b off c:Nat)(hc:3<=c)(hl:∀ z∈[a,x,y],z.length<=1000000)(hs:Sl w w.heap.size (some ⟨b,off,none⟩) (ZF [a,x,y]))(Nr:∀ k,Wr k->B<=k)
include hc hl hs Nr
theorem Da:Calls prog 97 #[.pointer (some ⟨sb,0,none⟩),.slice (some ⟨b,off,none⟩) 3 c] w (XD (WI a [x,y] σ) sb Wr Rd w):=by
 have c0:w.cell? ⟨b,off,none⟩=some (.string (strOf a)):=RH (k:=0) hs rfl;have hs1:Sl w w.heap.size (some ⟨b,off+1,none⟩) (ZF [x,y]):=by
  rcases hs with h0|⟨b',off',hA,hb,hc'⟩
  · cases h0
  · injection hA with hA;injection hA with e1 e2 _;subst e1;subst e2;exact Sl.mk hb fun j u hu=>by rw [Nat.add_assoc,Nat.add_comm 1 j];exact hc' (j+1) u (by simpa [ZF] using hu)
 have Gb:=hide (aK a (hl a (by simp)) w he.tabs.mw);have vJ:Hid (∀ X,Below w.heap.size w X->Calls prog 139 #[.slice (some ⟨b,off+1,none⟩) 2 (c - 1)] X (Em [x,y] X)):=hide fun X hb =>
  U5 [x,y] b (off+1) (c - 1) (by simp;omega) (fun z hz=>hl z (List.mem_cons_of_mem _ hz)) (by simp) X ((hs1.below hb).more hb.size) (he.new hb).tabs.mw
 have HST:=hide (fun X (hb:Below w.heap.size w X)=>Step.same (Wr:=Wr) (Rd:=Rd) (sb:=sb) ⟨gs,vR,vQ,h⟩ hb);have HF:=hide (fun n (h1:Zg n) X (hb:Below w.heap.size w X)=>Yj n h1 X (he.new hb).pt);have H:=hide h;have Qs:=hide he;have HWB:=hide Nr;have hc1:¬ c=1:=by omega
 obtain ⟨s,hs'⟩:=eE (strOf a);rw [<- hs'] at c0 Gb;obtain ⟨k,hk⟩:=eE (WX a 2);have HK:=hide hk;rw [<- hk] at Gb;clear h he hs hs1 hs' hk hl Nr;go_enter func97,ntmps97;go_wp2_with fail;refine Gb.out.mono ?_;rintro e w1 ⟨hb1,⟨hk0,bx,ox,c2,z0,z1,rfl,d0,d1,hbx,hz1,hz0⟩|⟨hk0,rfl⟩⟩
 all_goals
  have HB1:=hide hb1
 · have HZ1:=hide hz1;have HZ0:=hide hz0;clear hb1 hz1 hz0;subst hk0;go_wp2_with fail;refine (vJ.out _ HB1.out).mono ?_;rintro e w2 ⟨hb2,⟨ps,v,h1,rfl,ZT⟩|⟨h1,rfl⟩⟩
   all_goals
    have HB2:Hid (Below w.heap.size w w2):=hide (Z8 HB1.out hb2)
   · obtain ⟨p,rfl⟩:∃ p,ps=[p]:=by
      have h3:ps.length=1:=(Tk h1).2.2.trans (by simp [XH]);exact List.length_eq_one_iff.1 h3
     have I5:PJ p:=(Tk h1).1 p (List.mem_singleton.2 rfl);obtain ⟨bv,ov,vc,rfl,e0,e1⟩:∃ bv ov vc,v=.slice (some ⟨bv,ov,none⟩) 1 vc/\w2.cell? ⟨bv,ov,none⟩=some (.int .i64 p.1)/\w2.cell? ⟨bv,ov+1,none⟩=some (.int .i64 p.2):=by
      obtain ⟨VA,vc,rfl,_⟩:=ZP ZT;rcases Sl.Zv ZT with h7|⟨bv,ov,rfl,_,hcv⟩
      · cases h7
      · exact ⟨bv,ov,vc,rfl,hcv 0 _ rfl,hcv 1 _ rfl⟩
     have S2:=H.out.below HB2.out;obtain ⟨QA,qc,rfl,hqc⟩:=ZP S2.VW;have cS:=S2.blk.cell (i:=1) (v:=.slice QA σ.2.length qc) rfl;have fS:=S2.blk.frozen 1;have hsb:=S2.blk.lt;obtain ⟨n,hn⟩:=eE σ.2.length;have eO:Hid (w2.ownsRow 0 46 3 (.slice QA n qc) n (XC σ.2)):=hide (by rw [hn];exact S2.VW);have hne:some sb≠(Value.slice QA n qc).ownBlock:=fun e=>(S2.wq sb (by rw [hn] at e;exact e.symm)).2 rfl;have f0:w2.cell? ⟨bx,ox,none⟩=some (.int .u64 z0):=(hb2.cell (p:=⟨bx,ox,none⟩) hbx).trans d0;have f1:w2.cell? ⟨bx,ox+1,none⟩=some (.int .u64 z1):=(hb2.cell (p:=⟨bx,ox+1,none⟩) hbx).trans d1;have BH:bx<w2.heap.size:=Nat.lt_of_lt_of_le hbx hb2.size;have yzd:=Zz e0;rw [<- hn] at cS;have HN:=hide hn;have H1:=hide h1;obtain ⟨px,py⟩:=p;dsimp only at e0 e1;clear ZT h1 hb2 d0 d1 hbx S2 hn hqc Gb vJ c0
     by_cases hz:z1=0
     · have hid:z0=pVal a:=HZ0.out hz;have zqq:=HZ1.out.1 hz;have zxw:av a=some z0:=by rw [hid];exact if_pos ⟨HK.out.symm,zqq⟩
       by_cases hq:(n:Int) ≥ 4096
       · have HE:Hid (WI a [x,y] σ=(YW 6,σ)):=hide (by
          unfold WI;rw [zxw,H1.out];exact if_pos (by rw [<- HN.out];omega))
         subst hz;clear hid zxw zqq;go_wp2_with (go_at_call 49;refine (HF.out 6 (by unfold Zg;omega) _ HB2.out).mono ?_;rintro e w3 ⟨rfl,hb3⟩);go_ret;rw [HE.out];exact ⟨rfl,HST.out _ (Z8 HB2.out hb3)⟩
       · have HE:Hid (WI a [x,y] σ=(txt (n+1:Nat),(σ.1,σ.2++[((px,py),z0)]))):=hide (by
          unfold WI;rw [zxw,H1.out,HN.out];exact if_neg (by rw [<- HN.out];omega))
         have hu:Ua z0:=(by unfold Ua;omega);have hnl:n<4096:=(by omega);obtain ⟨i0,hi,hi0,hi1,hi2⟩:=info_parts LD;have HPU:=hide (And.intro I5 hu);subst hz;clear hid zxw zqq I5 hu;go_wp2
         go_region_law (first
          | (refine step_append_lies _ (by rfl) (.tmp 52) (.tmp 60) 33 (by rfl) 0 46 i0 (.agg #[.int .i64 0,.int .i64 0,.int .u64 0]) 3 24 underlying33 hi hi0 hi1 hi2 (by rfl) (by decide) (.slice QA n qc) n _ (by rfl) (ZI eO.out (ZV (bA))) ⟨w2.heap.size,0,none⟩ 1 1 [.int .i64 px,.int .i64 py,.int .u64 z0] (by rfl) (by rfl) (ZB (Z7.new _ _ _).drew) (by simp [Value.oneCell']) (by omega) (by unfold maxLen;omega) (by omega) (by omega) (w2.heap.size+1) (by simp) ?_;intro g' cap w7 YZ ZL hat hlt';have d1:=(World.grownBy.cell_far ZL ⟨sb,1,none⟩ (by simp;omega) hne).trans (((ZV (bA):Below w2.heap.size w2 _).cell (p:=⟨sb,1,none⟩) hsb).trans cS);have f1':=(World.grownBy.frozen_far ZL ⟨sb,1,none⟩ (by simp;omega) hne).trans (((ZV (bA):Below w2.heap.size w2 _).frozen (p:=⟨sb,1,none⟩) hsb).trans fS))
          | go_simp)
         all_goals
          have hn':=HN.out;subst hn';have eP:=hide (lS H.out (Z8 HB2.out (ZV (bA))) HPU.out hnl ZL YZ (hat.imp id fun e=>by rw [e];simp) hlt');have HY:=hide (eP.out.below Qs.out.1 HWB.out);clear YZ ZL hat hlt' eO H hne fS f1' hi hi0 hi1 hi2 cS;go_wp2_with (go_at_call 22;refine (Ri _ (by unfold Zg;omega) _ (Qs.out.step HY.out).pt).mono ?_;rintro e w9 ⟨rfl,mZ⟩);go_ret;rw [HE.out];exact ⟨rfl,eP.out.after mZ⟩
     · have HE:Hid (WI a [x,y] σ=(YW 11,σ)):=hide (KM (if_neg fun h=>hz (HZ1.out.2 h.2)));go_wp2_with (go_at_call 49;refine (HF.out 11 (by unfold Zg;omega) _ HB2.out).mono ?_;rintro e w3 ⟨rfl,hb3⟩);go_ret;rw [HE.out];exact ⟨rfl,HST.out _ (Z8 HB2.out hb3)⟩
   · have HE:Hid (WI a [x,y] σ=(YW 11,σ)):=hide (yS h1);clear h1 hb2 d0 d1;go_wp2_with (go_at_call 49;refine (HF.out 11 (by unfold Zg;omega) _ HB2.out).mono ?_;rintro e w3 ⟨rfl,hb3⟩);go_ret;rw [HE.out];exact ⟨rfl,HST.out _ (Z8 HB2.out hb3)⟩
 · have HE:Hid (WI a [x,y] σ=(YW 11,σ)):=hide (KM (if_neg fun h=>by rw [HK.out] at hk0;exact hk0 h.1));clear hb1;go_wp2_with fail;refine (vJ.out _ HB1.out).mono ?_;rintro e w2 ⟨hb2,⟨ps,v,h1,rfl,ZT⟩|⟨h1,rfl⟩⟩
   all_goals
    have HB2:Hid (Below w.heap.size w w2):=hide (Z8 HB1.out hb2);clear h1 hb2;go_wp2_with (go_at_call 49;refine (HF.out 11 (by unfold Zg;omega) _ HB2.out).mono ?_;rintro e w3 ⟨rfl,hb3⟩);go_ret;rw [HE.out];exact ⟨rfl,HST.out _ (Z8 HB2.out hb3)⟩
end
theorem PZ{σ:St}{sb:Nat}{gs:List Gr}{vR vQ:Value}{Wr Rd:Nat->Prop}(l:List (List UInt8))(b off c:Nat)(hc:l.length<=c)(hl:∀ x∈l,x.length<=1000000)(w:World)(h:Qz σ sb gs vR vQ Wr Rd w)(hs:Sl w w.heap.size (some ⟨b,off,none⟩) (ZF l)){B:Nat}(he:Env B w)(Nr:∀ k,Wr k->B<=k):
 Calls prog 97 #[.pointer (some ⟨sb,0,none⟩),.slice (some ⟨b,off,none⟩) l.length c] w (XD (Ul l σ) sb Wr Rd w):=by
 unfold Ul
 by_cases h3:l.length=3
 · rw [if_pos h3]
   match l,h3 with
   | [a,x,y],_=>exact Da w h he a x y b off c hc hl hs Nr
 · rw [if_neg h3];exact qX w h he _ _ _ h3
end
section
open Go.RowKit Go.Shelf
def uz(x:Gd):Rg:=⟨x.1,x.2.1,none,0,0⟩
theorem yZ {fn:Func} {p:Tmp} {tmps:Array Value} {w:World} {g:Nat} {v0 v1 v2 v3 v4 v5 v6:Value} (h:fn.results=#[.cell p 182])
 (hp:tmps.getD p undef=.pointer (some ⟨g,0,none⟩)) (hb:Z7 w g 182 #[v0,v1,v2,v3,v4,v5,v6]) :
 (results fn tmps).run prog w=.ok (.agg #[v0,v1,v2,v3,v4,v5,v6]) w:=by
 have c0:=hb.q0 rfl;have c1:=hb.q1 rfl;have c2:=hb.q2 rfl;have c3:=hb.q3 rfl;have c4:=hb.q4 rfl;have c5:=hb.q5 rfl;have c6:=hb.q6 rfl;have hp':tmps[p]?.getD undef=.pointer (some ⟨g,0,none⟩):=by rw [<- hp];simp
 simp [results,h,hp',go_sem,c0,c1,c2,c3,c4,c5,c6]
section
variable {σ:St}{sb:Nat}{gs:List Gr}{RA QA:Option Addr}{rc qc:Nat}{Wr Rd:Nat->Prop}{w:World}(h:Qz σ sb gs (.slice RA gs.length rc) (.slice QA σ.2.length qc) Wr Rd w)
include h
theorem DJ:Calls prog 152 #[.pointer (some ⟨sb,0,none⟩)] w fun e w'=>∃ HA hc,
 e=.returned (.agg #[.int .i64 5,.int .i64 0,.slice HA gs.length hc,.int .i64 σ.2.length,.slice RA gs.length rc,.slice none 0 0,.slice QA σ.2.length qc])/\gs.length<=hc/\Below w.heap.size w w'/\Sl w' w'.heap.size HA (rgCells (σ.1.map uz)):=by
 have c0:=h.blk.cell (i:=0) (v:=.slice RA gs.length rc) rfl;have c1:=h.blk.cell (i:=1) (v:=.slice QA σ.2.length qc) rfl;have hsb:=h.blk.lt;have HR:=hide (Sl.Zv h.rows);have HN:Hid (gs.length<=64):=hide h.small.2.2.1;obtain ⟨hr,hhr⟩:=eE (σ.1.map uz);have hrl:hr.length=gs.length:=by rw [hhr,<- h.data,List.length_map,List.length_map]
 have HG:Hid (∀ (k:Nat) (r:Rg),(gs.map (·.1))[k]?=some r->hr[k]?=some ⟨r.d,r.v,none,0,0⟩):=hide fun k r hk=>by
  rw [List.getElem?_map] at hk;rw [hhr,<- h.data,List.getElem?_map,List.getElem?_map];cases hg:gs[k]? with
  | none=>rw [hg] at hk;cases hk
  | some g=>rw [hg] at hk;cases hk;rfl
 obtain ⟨m,hm⟩:=eE σ.2.length;obtain ⟨n,hn⟩:=eE gs.length;rw [<- hm] at c1 ⊢;rw [<- hn] at c0 HN hrl ⊢;rw [<- hhr];have Oc:=hide hn;have sU:=hide hrl;obtain ⟨i0,hi,hz0,hz1,hz2⟩:=info_parts KT;obtain ⟨g0,hg0⟩:∃ g,g=w.heap.size:=⟨_,rfl⟩;obtain ⟨g1,hg1⟩:∃ g,g=w.heap.size+1:=⟨_,rfl⟩;obtain ⟨w1,hw1⟩:=eE ((w.alloc (.cells #[.int .i64 0,.int .i64 0,.slice none 0 0,.int .i64 0,.slice none 0 0,.slice none 0 0,.slice none 0 0] 182)).alloc (.cells #[.int .i64 5,.int .i64 0,.slice none 0 0,.int .i64 (m:Int)] 53));have hb1:=bF hw1;have R1:Z7 w1 g0 182 #[.int .i64 0,.int .i64 0,.slice none 0 0,.int .i64 0,.slice none 0 0,.slice none 0 0,.slice none 0 0]:=by rw [hw1,hg0];exact (Z7.new _ _ _).alloc _
 have H1:Z7 w1 g1 53 #[.int .i64 5,.int .i64 0,.slice none 0 0,.int .i64 (m:Int)]:=by rw [hw1,hg1];exact Z7.new2 _ _ _ _
 have HB1:=hide hb1;have HR1:=hide R1;have HH1:=hide H1;have HZ:Hid (g0=w.heap.size/\g1=g0+1/\sb<g0):=hide (by omega);have HC:Hid (∀ X,Below w.heap.size w X->X.cell? ⟨sb,0,none⟩=some (.slice RA n rc)/\X.cell? ⟨sb,1,none⟩=some (.slice QA m qc)):=hide fun X hX=>⟨(hX.cell (p:=⟨sb,0,none⟩) hsb).trans c0,(hX.cell (p:=⟨sb,1,none⟩) hsb).trans c1⟩;clear h hhr hrl hm hn hb1 R1 H1;go_enter func152,ntmps152;go_wp2;rw [<- hw1,<- hg1,<- hg0];clear hw1 hg1 hg0 c0 c1
 go_loopw [17] (fun i wr=>∃ (k:Nat) (v:Value),k<=n/\i=.int .i64 (k:Int)/\Z7 wr g1 53 #[.int .i64 5,.int .i64 0,v,.int .i64 (m:Int)]/\Z7 wr g0 182 #[.int .i64 0,.int .i64 0,.slice none 0 0,.int .i64 0,.slice none 0 0,.slice none 0 0,.slice none 0 0]/\wr.ownsRow (g1+1) 38 3 v k (rgCells (hr.take k))/\Below w.heap.size w wr)
  (fun i _=>n - (intOf i).toNat)
 case atStart=>exact ⟨0,_,Nat.zero_le _,rfl,HH1.out,HR1.out,World.ownsRow_nil _ _ _ _,HB1.out⟩
 case round =>
  obtain ⟨k,v,hk,rfl,hH,hQ,ZT,hbr⟩:=hrel
  by_cases hkn:k<n
  · have hki:(k:Int)<(n:Int):=(by omega);obtain ⟨r,hr0⟩:∃ r,(gs.map (·.1))[k]?=some r:=⟨_,List.getElem?_eq_getElem (by rw [List.length_map,<- Oc.out];exact hkn)⟩;obtain ⟨b,off,hA,hbb,q0,q1,q2⟩:=(HR.out.below hbr).rg hr0;subst hA
    have Lh:Hid (rgCells (hr.take (k+1))=rgCells (hr.take k)++[.bool r.d,.int .i64 r.v,.slice none 0 0]):=hide (by
     rw [List.take_add_one,HG.out k r hr0]
     simp [rgCells,Rg.cells])
    obtain ⟨d,hd⟩:=eE r.d;obtain ⟨vv,hvv⟩:∃ d,d=r.v:=⟨_,rfl⟩;obtain ⟨ra,hra⟩:∃ d,d=r.A:=⟨_,rfl⟩;obtain ⟨rn,hrn⟩:∃ d,d=r.n:=⟨_,rfl⟩;obtain ⟨rcc,hrc⟩:∃ d,d=r.c:=⟨_,rfl⟩;rw [<- hd,<- hvv] at Lh;rw [<- hd] at q0;rw [<- hvv] at q1;rw [<- hra,<- hrn,<- hrc] at q2;obtain ⟨w4,hw4⟩:=eE (wr.alloc (.cells #[.bool d,.int .i64 vv,.slice ra rn rcc] 38));obtain ⟨w5,dh⟩:=eE (w4.alloc (.cells #[.bool d,.int .i64 vv,.slice none 0 0] 38));obtain ⟨g5,hg5⟩:=eE (wr.heap.size+1);have hb4:=bE hw4;have hb5:=bE dh;have EG:=Z8 hb4 hb5;have N4:Z7 w4 wr.heap.size 38 #[.bool d,.int .i64 vv,.slice ra rn rcc]:=(by rw [hw4];exact Z7.new _ _ _);have N5:Z7 w5 g5 38 #[.bool d,.int .i64 vv,.slice none 0 0]:=(by rw [dh,hw4,hg5];exact Z7.new2 _ _ _ _);have n0:=N4.q0 rfl;have n1:=N4.q1 rfl;have hH4:=hH.step hb4;have h42:=hH4.q2 rfl;have WQ:=ZI ZT EG;have zqb:=Z8 hbr EG;have hlH:=hH.lt;have zqs:=hb4.size;have hsz5:=hb5.size;have iR:=HN.out;have zdh:w4.heap.size=wr.heap.size+1:=(by rw [hw4];simp);obtain ⟨g6,c6,w6,hr6,VJ,N8,-,-⟩:=run_append_lies (P:=prog) w5 32 32 (g1+1) 38 i0 (.agg #[.bool false,.int .i64 0,.slice none 0 0]) 3 40 underlying32 hi hz0 hz1 hz2 rfl (by decide) v k _ WQ ⟨g5,0,none⟩ 1 1 [.bool d,.int .i64 vv,.slice none 0 0] rfl (ZB N5) (by simp [Value.oneCell']) (by omega) (by unfold maxLen;have:=HN.out;omega) (by omega) (by omega) _ rfl;rw [<- Lh.out] at VJ;have hvg:∀ j,v.ownBlock=some j->g1+1<=j:=fun j hj=>ZN ZT hj;have hH6:Z7 w6 g1 53 #[.int .i64 5,.int .i64 0,v,.int .i64 (m:Int)]:=(hH4.step hb5).grown N8 (fun e=>by have:=hvg _ e.symm;omega);have hQ6:=((hQ.step EG).grown N8 (fun e=>by have:=hvg _ e.symm;have:=HZ.out;omega)).far (p:=⟨g1,2,none⟩) (by have:=HZ.out;dsimp only;omega) (.slice (some ⟨g6,0,none⟩) (k+1) c6);have zgo:Below w.heap.size w w6:=zqb.grown N8 zqb.size (fun j hj=>by have:=hvg j hj;have:=HZ.out;omega);have c62:=hH6.q2 rfl;have f62:=hH6.frozen 2;have zcq:g1+1<=g6:=ZN VJ rfl;have HO6:Hid ((w6.setCell ⟨g1,2,none⟩ (.slice (some ⟨g6,0,none⟩) (k+1) c6)).ownsRow (g1+1) 38 3 (.slice (some ⟨g6,0,none⟩) (k+1) c6) (k+1) (rgCells (hr.take (k+1)))):=hide (Yt VJ (by simp [Value.ownBlock];omega) _);have HH6:=hide (hH6.set 2 (.slice (some ⟨g6,0,none⟩) (k+1) c6));have HQ6:=hide hQ6;have nH:Hid (Below w.heap.size w (w6.setCell ⟨g1,2,none⟩ (.slice (some ⟨g6,0,none⟩) (k+1) c6))):=hide (zgo.setCell (by have:=HZ.out;dsimp only;omega) _);rw [hw4] at n0 n1 h42;clear zdh hr0 hbb hd hvv hra hrn hrc hb4 hb5 EG N4 N5 hH4 WQ zqb hlH zqs hsz5 VJ N8 hvg hH6 hQ6 zgo zcq hH hQ ZT hbr Lh;go_wp2_with (at_builtin;rw [<- hw4,<- dh,<- hg5];refine QW (.tmp 22) (.tmp 28) 32 rfl rfl _ _ rfl rfl hr6 ?_);clear hw4 dh hg5 n0 n1 h42 q0 q1 q2 hr6;go_wp2;go_roundw
    case rel=>exact ⟨k+1,_,by omega,by go_num,HH6.out,HQ6.out,HO6.out,nH.out⟩
    case measure=>simp [intOf];omega
  · obtain rfl:k=n:=(by omega);have hki:¬ (k:Int)<(k:Int):=(by omega);rw [List.take_of_length_le (Nat.le_of_eq sU.out)] at ZT;obtain ⟨HA,hc,rfl,hhc⟩:=ZP ZT;obtain ⟨c0,c1⟩:=HC.out wr hbr;have z0:=hH.cell (i:=0) (v:=.int .i64 5) rfl;have z1:=hH.cell (i:=1) (v:=.int .i64 0) rfl;have z2:=hH.cell (i:=2) (v:=.slice HA k hc) rfl;have z3:=hH.cell (i:=3) (v:=.int .i64 (m:Int)) rfl;have HOW:=hide ZT;have HQQ:=hide hQ;have RN:=hide hbr;have HHC:=hide hhc;have y0:=hQ.cell (i:=0) (v:=.int .i64 0) rfl;have y1:=hQ.cell (i:=1) (v:=.int .i64 0) rfl;have y2:=hQ.cell (i:=2) (v:=.slice none 0 0) rfl;have y3:=hQ.cell (i:=3) (v:=.int .i64 0) rfl;have y4:=hQ.cell (i:=4) (v:=.slice none 0 0) rfl;have y5:=hQ.cell (i:=5) (v:=.slice none 0 0) rfl;have y6:=hQ.cell (i:=6) (v:=.slice none 0 0) rfl;have f0:=hQ.frozen 0;have f1:=hQ.frozen 1;have f2:=hQ.frozen 2;have f3:=hQ.frozen 3;have f4:=hQ.frozen 4;have f5:=hQ.frozen 5;have f6:=hQ.frozen 6;clear ZT hH hQ hbr hhc;have HF:Hid (Z7 (((((((wr.setCell ⟨g0,0,none⟩ (.int .i64 5)).setCell ⟨g0,1,none⟩ (.int .i64 0)).setCell ⟨g0,2,none⟩ (.slice HA k hc)).setCell ⟨g0,3,none⟩ (.int .i64 (m:Int))).setCell ⟨g0,4,none⟩ (.slice RA k rc)).setCell ⟨g0,5,none⟩ (.slice none 0 0)).setCell ⟨g0,6,none⟩ (.slice QA m qc)).drew g0 182 #[.int .i64 5,.int .i64 0,.slice HA k hc,.int .i64 (m:Int),.slice RA k rc,.slice none 0 0,.slice QA m qc]/\Below w.heap.size w (((((((wr.setCell ⟨g0,0,none⟩ (.int .i64 5)).setCell ⟨g0,1,none⟩ (.int .i64 0)).setCell ⟨g0,2,none⟩ (.slice HA k hc)).setCell ⟨g0,3,none⟩ (.int .i64 (m:Int))).setCell ⟨g0,4,none⟩ (.slice RA k rc)).setCell ⟨g0,5,none⟩ (.slice none 0 0)).setCell ⟨g0,6,none⟩ (.slice QA m qc)).drew/\Sl (((((((wr.setCell ⟨g0,0,none⟩ (.int .i64 5)).setCell ⟨g0,1,none⟩ (.int .i64 0)).setCell ⟨g0,2,none⟩ (.slice HA k hc)).setCell ⟨g0,3,none⟩ (.int .i64 (m:Int))).setCell ⟨g0,4,none⟩ (.slice RA k rc)).setCell ⟨g0,5,none⟩ (.slice none 0 0)).setCell ⟨g0,6,none⟩ (.slice QA m qc)).drew (((((((wr.setCell ⟨g0,0,none⟩ (.int .i64 5)).setCell ⟨g0,1,none⟩ (.int .i64 0)).setCell ⟨g0,2,none⟩ (.slice HA k hc)).setCell ⟨g0,3,none⟩ (.int .i64 (m:Int))).setCell ⟨g0,4,none⟩ (.slice RA k rc)).setCell ⟨g0,5,none⟩ (.slice none 0 0)).setCell ⟨g0,6,none⟩ (.slice QA m qc)).drew.heap.size HA (rgCells hr)):=by
     have hz:=HZ.out;refine hide ⟨(((((((HQQ.out.set 0 (.int .i64 5)).set 1 (.int .i64 0)).set 2 (.slice HA k hc)).set 3 (.int .i64 (m:Int))).set 4 (.slice RA k rc)).set 5 (.slice none 0 0)).set 6 (.slice QA m qc)).drew,ZV (((((((RN.out.setCell (by dsimp only;omega) (.int .i64 5)).setCell (by dsimp only;omega) (.int .i64 0)).setCell (by dsimp only;omega) (.slice HA k hc)).setCell (by dsimp only;omega) (.int .i64 (m:Int))).setCell (by dsimp only;omega) (.slice RA k rc)).setCell (by dsimp only;omega) (.slice none 0 0)).setCell (by dsimp only;omega) (.slice QA m qc)),?_⟩;exact Sl.Zv (ZI (Yt (Yt (Yt (Yt (Yt (Yt (Yt HOW.out (p:=⟨g0,0,none⟩) (fun e=>by have:=ZN HOW.out e;dsimp only at this;omega) (.int .i64 5)) (p:=⟨g0,1,none⟩) (fun e=>by have:=ZN HOW.out e;dsimp only at this;omega) (.int .i64 0)) (p:=⟨g0,2,none⟩) (fun e=>by have:=ZN HOW.out e;dsimp only at this;omega) (.slice HA k hc)) (p:=⟨g0,3,none⟩) (fun e=>by have:=ZN HOW.out e;dsimp only at this;omega) (.int .i64 (m:Int))) (p:=⟨g0,4,none⟩) (fun e=>by have:=ZN HOW.out e;dsimp only at this;omega) (.slice RA k rc)) (p:=⟨g0,5,none⟩) (fun e=>by have:=ZN HOW.out e;dsimp only at this;omega) (.slice none 0 0)) (p:=⟨g0,6,none⟩) (fun e=>by have:=ZN HOW.out e;dsimp only at this;omega) (.slice QA m qc)) (ZV (Below.refl _ _)))
    go_wp2
    go_region
    go_wp2;refine bodyPost_ret (yZ rfl rfl HF.out.1) rfl ?_;exact ⟨HA,hc,rfl,HHC.out,HF.out.2⟩
end
end
end Go.Proofs.YthnenedoblncjaaGreatDoor