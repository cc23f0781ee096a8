/- ScrMember -/
import Derived.BigQuiet
import Derived.ChangeAlike
import Derived.Deep.AppendLies
import Derived.Deep.QuietTactic
import Derived.Deep.RegionLaw
import Derived.Laws.BytesArg
import Derived.Lib.SliceRun
import Derived.Test.YthnenedoblncjaaGreatDoorPkN36
import Derived.Test.YthnenedoblncjaaGreatDoorPkN37
import Derived.Test.YthnenedoblncjaaGreatDoorPkN38
set_option maxRecDepth 1000000
set_option maxHeartbeats 8000000
namespace Go.Proofs.YthnenedoblncjaaGreatDoor
open Go.Proofs.Tryz
open List (getElem_toArray getElem_cons_succ getElem_cons_zero setIfInBounds_toArray set_cons_zero set_cons_succ)
section
open Go.RowKit Go.Shelf
attribute [local go_sem] Oper.semAt_some
theorem MO(s : ByteArray)(hs : s.size < 4294967281)(ha : ∀ (j : Nat) b, s.data.toList[j]? = some b -> b.toNat < 128)(ws : List (List UInt8))(hw : Lib.fields s.data.toList = ws)(w : World)(ht : Lib.TabIs prog w "strings.asciiSpace" .u8 Lib.asciiSpaceTab):
 Calls prog 140 #[.string s] w fun e w'=>∃ g,e=.returned (.slice (some ⟨g,0,none⟩) ws.length ws.length)/\Below w.heap.size w w'/\Z6 w' g 9 (ZN ws).toArray:=by
 subst hw;refine (Any.strings_Fields Tryz.lays157 (by kernel_rfl) (by kernel_rfl) s w hs ha ht).mono ?_;rintro e w' ⟨rfl,rfl⟩;exact ⟨_,rfl,bA,Z6.new _ _ _⟩
theorem Kj{σ:St}{sb:Nat}{gs:List Gr}{vQ:Value}{RA:Option Addr}{n rc:Nat}{Wr Rd:Nat->Prop}{X:World}(h:TY σ sb gs (.slice RA n rc) vQ Wr Rd X)(hn:n=gs.length)(hw:MW X)(p:Pt)(hp:PJ p):
 Calls prog 143 #[.pointer none,.slice RA n rc,.agg #[.int .i64 p.1,.int .i64 p.2]] X fun e w'=>e=.returned (.int .i64 (Xv (σ.1.map cg) p))/\Below X.heap.size X w':=by
 subst hn;have hh:∀ g∈gs,g.1.n=g.2.length:=fun g hg=>(h.XQ g hg).1;have e1:Xv (σ.1.map cg) p=Xv gs p:=by
  rw [<- h.data,CP];unfold Xv;rw [V8 hh,QZ hh]
 rw [e1];refine (MK (fun k=>k<X.heap.size) none [] p hp X (fun k h=>h) hw.2 hw trivial (by simp) gs RA rc ((Sl.XO h.rows).pF fun _ h=>h) (fun g hg=>⟨hh g hg,(h.XQ g hg).2.mono h.JI,(h.small.1 g hg).1,by have:=(h.small.1 g hg).2;omega⟩)).mono ?_;rintro e w' ⟨rfl,hk,-⟩;exact ⟨rfl,hk.os,hk.tape,hk.output,hk.size,hk.block⟩
def CU(k:Int):List UInt8:=if k=0 then [110,111] else if k=1 then [121,101,115] else [105,110,118,97,108,105,100]
def XY(l:List (List UInt8))(σ:St):List UInt8 × St :=
 match Zb l with
 | some [p]=>if σ.1=[] then (Zr 6,σ) else (CU (Xv (σ.1.map cg) p),σ)
 | _=>(Zr 11,σ)
section
variable {σ:St}{sb:Nat}{gs:List Gr}{vR vQ:Value}{Wr Rd:Nat->Prop}(l:List (List UInt8))(b off c:Nat)(hc:l.length<=c)(hl:∀ x∈l,x.length<=1000000)(hn:l.length<=1000000)(w:World)(h:TY σ sb gs vR vQ Wr Rd w)(hs:Sl w w.heap.size (some ⟨b,off,none⟩) (ZN l)){B:Nat}(he:Env B w)
include hc hl hn h hs he
theorem PS:Calls prog 96 #[.pointer (some ⟨sb,0,none⟩),.slice (some ⟨b,off,none⟩) l.length c] w (XE (XY l σ) sb Wr Rd w):=by
 have YD:prog.follows .mixedOrders=true:=by kernel_rfl
 have HX:=hide (OL l b off c hc hl hn 1 w hs he.tabs.mw);have HST:=hide (fun X (hb:Below w.heap.size w X)=>Step.same (Wr:=Wr) (Rd:=Rd) (sb:=sb) ⟨gs,vR,vQ,h⟩ hb);have HF:=hide (fun n (h1:Zj n) X (hb:Below w.heap.size w X)=>YR n h1 X (he.new hb).pt);have H:=hide h;have FV:=hide he;obtain ⟨q,hq⟩:=eE l.length;rw [<- hq] at HX ⊢;clear hc hl hn h hs he hq;refine (callsIn_wide (n:=6)).1 ?_;refine callsIn_of_wp func96 rfl trivial ?_ rfl;simp only [ntmps96,List.size_toArray,List.length_cons,List.length_nil,Nat.reduceAdd,Nat.reduceSub,Array.replicate_succ,Array.replicate_zero,List.push_toArray,List.append_toArray,List.nil_append,List.cons_append];gi_wp2_with fail;refine ⟨trivial,?_⟩;refine (callsIn_wide.2 HX.out).mono ?_;rintro e w1 ⟨hb1,⟨ps,v,h1,h2,rfl,ZO⟩|⟨h1,v,rfl⟩⟩
 · obtain ⟨p,rfl⟩:∃ p,ps=[p]:=List.length_eq_one_iff.1 (by omega);have yu:PJ p:=(TS h1).1 p (List.mem_singleton.2 rfl);obtain ⟨bv,ov,vc,rfl,e0,e1⟩:∃ bv ov vc,v=.slice (some ⟨bv,ov,none⟩) 1 vc/\w1.cell? ⟨bv,ov,none⟩=some (.int .i64 p.1)/\w1.cell? ⟨bv,ov+1,none⟩=some (.int .i64 p.2):=by
    obtain ⟨VA,vc,rfl,_⟩:=ZM ZO;rcases Sl.XO ZO with h7|⟨bv,ov,rfl,_,hcv⟩
    · cases h7
    · exact ⟨bv,ov,vc,rfl,hcv 0 _ rfl,hcv 1 _ rfl⟩
   have S1:=H.out.below hb1;obtain ⟨RA,rc,rfl,hrc⟩:=ZM S1.rows;obtain ⟨n,hn⟩:=eE gs.length;have cS:=S1.blk.cell (i:=0) (v:=.slice RA gs.length rc) rfl;rw [<- hn] at cS;have hbv:=ZG e0;have hsb:=S1.blk.lt;have HB1:=hide hb1;have rM:=hide yu;have HN:=hide hn;have Gp:=hide S1;have hnil:σ.1=[] ↔ n=0:=(by rw [hn,<- S1.data];simp);have mK:Hid (n=0->XY l σ=(Zr 6,σ)):=hide fun hh=>by unfold XY;rw [h1];exact if_pos (hnil.2 hh)
   have pJ:Hid (n≠0->XY l σ=(CU (Xv (σ.1.map cg) p),σ)):=hide fun hh=>by unfold XY;rw [h1];exact if_neg fun h=>hh (hnil.1 h)
   obtain ⟨A,hA⟩:=eE (Xv (σ.1.map cg) p);have cB:0<=A/\A<=2:=by rw [hA];unfold Xv;cases Zx (σ.1.map cg) <;> cases YA (σ.1.map cg) p <;> decide
   have jH:Hid (∀ X,Below w1.heap.size w1 X->Calls prog 143 #[.pointer none,.slice RA n rc,.agg #[.int .i64 p.1,.int .i64 p.2]] X fun e w'=>e=.returned (.int .i64 A)/\Below X.heap.size X w'):=hide fun X hX=>by
    rw [hA,hn];exact Kj (S1.below hX) rfl ((FV.out.new hb1).new hX).tabs.mw p yu
   have dY:Hid (∀ X,Below w1.heap.size w1 X->Calls prog 140 #[.string ⟨#[110,111,32,121,101,115,32,105,110,118,97,108,105,100]⟩] X fun e w'=>∃ g,e=.returned (.slice (some ⟨g,0,none⟩) 3 3)/\Below X.heap.size X w'/\Z6 w' g 9 #[.string ⟨#[110,111]⟩,.string ⟨#[121,101,115]⟩,.string ⟨#[105,110,118,97,108,105,100]⟩]):=hide fun X hX =>
    MO ⟨#[110,111,32,121,101,115,32,105,110,118,97,108,105,100]⟩ (by decide) (by
     intro j b' hb';have:∀ b'∈([110,111,32,121,101,115,32,105,110,118,97,108,105,100]:List UInt8),b'.toNat<128:=by decide
     exact this b' (List.mem_of_getElem? hb')) [[110,111],[121,101,115],[105,110,118,97,108,105,100]] (by decide) X ((FV.out.new hb1).new hX).tabs.sp
   rw [<- hA] at pJ;obtain ⟨px,py⟩:=p;dsimp only at e0 e1 jH;clear ZO h1 h2 hb1 yu hn S1 hrc hnil hA HX
   by_cases hn0:n=0
   · have HE:=hide (mK.out hn0);subst hn0;clear pJ mK;gi_wp2_with fail;refine ⟨trivial,?_⟩;refine (callsIn_wide.2 (HF.out 6 (by unfold Zj;omega) _ HB1.out)).mono ?_;rintro e w3 ⟨rfl,hb3⟩;gi_wp2;go_ret;rw [HE.out];exact ⟨rfl,HST.out _ (Z8 HB1.out hb3)⟩
   · have HE:=hide (pJ.out hn0);have hn1:¬ (n:Int)=0:=(by omega);clear pJ mK;gi_wp2;have hS:w1.drew.cell? ⟨sb,0,none⟩=some (.slice RA n rc)/\w1.drew.cell? ⟨bv,ov,none⟩=some (.int .i64 px)/\w1.drew.cell? ⟨bv,ov+1,none⟩=some (.int .i64 py):=⟨cS,e0,e1⟩;have Xc:Hid (Below w1.heap.size w1 w1.drew):=hide (ZV (Below.refl _ _));have Lh:Hid (∀ X Y,(X.cell? ⟨sb,0,none⟩=some (.slice RA n rc)/\X.cell? ⟨bv,ov,none⟩=some (.int .i64 px)/\X.cell? ⟨bv,ov+1,none⟩=some (.int .i64 py))->Below X.heap.size X Y->(Y.cell? ⟨sb,0,none⟩=some (.slice RA n rc)/\Y.cell? ⟨bv,ov,none⟩=some (.int .i64 px)/\Y.cell? ⟨bv,ov+1,none⟩=some (.int .i64 py))):=hide fun X Y h hb =>
      ⟨(hb.cell (p:=⟨sb,0,none⟩) (ZG h.1)).trans h.1,(hb.cell (p:=⟨bv,ov,none⟩) (ZG h.2.1)).trans h.2.1,(hb.cell (p:=⟨bv,ov+1,none⟩) (ZG h.2.2)).trans h.2.2⟩
     refine YO 1000 (S:=fun w'=>w'.cell? ⟨sb,0,none⟩=some (.slice RA n rc)/\w'.cell? ⟨bv,ov,none⟩=some (.int .i64 px)/\w'.cell? ⟨bv,ov+1,none⟩=some (.int .i64 py)) YD ?_;generalize w1.drew=u0 at *;refine' ZW (i:=1) rfl ?uP hS ?qA
     case uP =>
      intro w' hSw;obtain ⟨k0,k1,k2⟩:=hSw;go_simp;rfl
     simp only [Act.put,Z4];refine' ZW (i:=2) rfl ?uR hS ?qC
     case uR =>
      intro w' hSw;obtain ⟨k0,k1,k2⟩:=hSw;go_simp;rfl
     simp only [Act.put,Z4];refine' ZW (i:=3) rfl ?uT hS ?qE
     case uT =>
      intro w' hSw;obtain ⟨k0,k1,k2⟩:=hSw;go_simp;rfl
     simp only [Act.put,Z4];refine' ZW (i:=4) rfl ?uV hS ?qG
     case uV =>
      intro w' hSw;obtain ⟨k0,k1,k2⟩:=hSw;go_simp;rfl
     simp only [Act.put,Z4];refine' ZW (i:=5) rfl ?Ij hS ?Fp
     case Ij =>
      intro w' hSw;obtain ⟨k0,k1,k2⟩:=hSw;go_simp;rfl
     simp only [Act.put,Z4];refine' ZW (i:=6) rfl ?Ik hS ?Fq
     case Ik =>
      intro w' hSw;obtain ⟨k0,k1,k2⟩:=hSw;go_simp;rfl
     simp only [Act.put,Z4];refine' ZW (i:=7) rfl ?OY hS ?LZ
     case OY =>
      intro w' hSw;obtain ⟨k0,k1,k2⟩:=hSw;go_simp;rfl
     simp only [Act.put,Z4];refine Zc (i:=0) (by kernel_rfl) rfl ?_;intro K hK;rw [if_pos (by rfl)];go_simp;refine ⟨trivial,?_⟩;refine (callsIn_wide.2 (dY.out u0 Xc.out)).mono ?_;rintro e y1 ⟨g,rfl,C9,zR⟩;have hS1:=Lh.out _ _ hS C9;have FU:=Z8 Xc.out C9;refine hK.out _ _ (fun _=>hS1) ?_;clear hK K
     (try simp only [Act.put,Z4])
     refine Zc (i:=8) (by kernel_rfl) rfl ?_;intro K hK;rw [if_pos (by rfl)];go_simp;refine ⟨trivial,?_⟩;refine (callsIn_wide.2 (jH.out y1 FU)).mono ?_;rintro e y2 ⟨rfl,Hz⟩;have hS2:=Lh.out _ _ hS1 Hz;have dP:=Z8 FU Hz;refine hK.out _ _ (fun _=>hS2) ?_;clear hK K
     (try simp only [Act.put,Z4])
     have hbk:=zR.step Hz;have q0:=hbk.q0 rfl;have q1:=hbk.q1 rfl;have q2:=hbk.q2 rfl;rcases (show A=0\/A=1\/A=2 by omega) with hA|hA|hA
     all_goals
      subst hA;refine Zc (i:=9) (by kernel_rfl) rfl ?_;intro K hK;rw [if_pos (by rfl)];go_simp;refine hK.out _ _ (fun _=>hS2) ?_;clear hK K
      (try simp only [Act.put,Z4])
      refine Zc (i:=10) (by kernel_rfl) rfl ?_;intro K hK;rw [if_pos (by rfl)];go_simp;refine hK.out _ _ (fun _=>hS2) ?_;clear hK K
      (try simp only [Act.put,Z4])
      refine Zc (i:=11) (by kernel_rfl) rfl ?_;intro K hK;rw [if_pos (by rfl)];go_simp;refine hK.out _ _ (fun _=>hS2) ?_;clear hK K
      (try simp only [Act.put,Z4])
      refine Ye (by kernel_rfl) ?_ _;gi_wp2;go_ret;rw [HE.out];exact ⟨rfl,HST.out _ (Z8 HB1.out dP)⟩
 · have HE:Hid (XY l σ=(Zr 11,σ)):=hide (by
    unfold XY;split
    · rename_i p hp
      exact absurd rfl (h1 _ hp)
    · rfl)
   have HB1:=hide hb1;clear h1 hb1 HX;gi_wp2_with fail;refine ⟨trivial,?_⟩;refine (callsIn_wide.2 (HF.out 11 (by unfold Zj;omega) _ HB1.out)).mono ?_;rintro e w3 ⟨rfl,hb3⟩;gi_wp2;go_ret;rw [HE.out];exact ⟨rfl,HST.out _ (Z8 HB1.out hb3)⟩
end
end
end Go.Proofs.YthnenedoblncjaaGreatDoor