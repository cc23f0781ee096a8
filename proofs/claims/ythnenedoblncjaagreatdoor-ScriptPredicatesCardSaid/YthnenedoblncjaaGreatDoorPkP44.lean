/- ScrMember ScrConvex -/
import Derived.BigQuiet
import Derived.ChangeAlike
import Derived.Deep.AppendLies
import Derived.Deep.QuietTactic
import Derived.Deep.RegionLaw
import Derived.Lib.SliceRun
import Derived.Test.YthnenedoblncjaaGreatDoorPkP39
import Derived.Test.YthnenedoblncjaaGreatDoorPkP42
import Derived.Test.YthnenedoblncjaaGreatDoorPkP43
set_option maxRecDepth 1000000
set_option maxHeartbeats 8000000
namespace Go.Proofs.YthnenedoblncjaaGreatDoor
open List (getElem_toArray getElem_cons_succ getElem_cons_zero setIfInBounds_toArray set_cons_zero set_cons_succ)
section
open Go.RowKit Go.Shelf
attribute [local go_sem] Oper.semAt_some
theorem fields_any (s : ByteArray) (hs : s.size < 4294967281) (ha : ∀ (j : Nat) b, s.data.toList[j]? = some b → b.toNat < 128) (ws : List (List UInt8)) (hw : Lib.fields s.data.toList = ws) (w : World) (ht : Lib.TabIs Tryz.prog w "strings.asciiSpace" .u8 Lib.asciiSpaceTab) :
 Calls Tryz.prog 140 #[.string s] w fun e w'=>∃ g,e=.returned (.slice (some ⟨g,0,none⟩) ws.length ws.length)∧Below w.heap.size w w'∧Blk w' g 9 (strCs ws).toArray:=by
 subst hw
 refine (Any.strings_Fields Tryz.lays157 (by kernel_rfl) (by kernel_rfl) s w hs ha ht).mono ?_
 rintro e w' ⟨rfl,rfl⟩
 exact ⟨_,rfl,bA,Blk.new _ _ _⟩
theorem fence_ses {σ:St} {sb:Nat} {gs:List Gr} {vQ:Value} {RA:Option Addr} {n rc:Nat} {Wr Rd:Nat→Prop} {X:World} (h:Ses σ sb gs (.slice RA n rc) vQ Wr Rd X) (hn:n=gs.length) (hw:MW X) (p:Pt) (hp:PJ p) :
 Calls Tryz.prog 143 #[.pointer none,.slice RA n rc,.agg #[.int .i64 p.1,.int .i64 p.2]] X fun e w'=>e=.returned (.int .i64 (fenceA (σ.1.map cg) p))∧Below X.heap.size X w':=by
 subst hn
 have hh:∀ g∈gs,g.1.n=g.2.length:=fun g hg=>(h.pts g hg).1
 have e1:fenceA (σ.1.map cg) p=fenceA gs p:=by
  rw [← h.data,cg_gd];unfold fenceA;rw [can_fenceOk hh,can_memOk hh]
 rw [e1]
 refine (efence_any (fun k=>k<X.heap.size) none [] p hp X (fun k h=>h) hw.2 hw trivial (by simp) gs RA rc ((Sl.of_own h.rows).slP fun _ h=>h) (fun g hg=>⟨hh g hg,(h.pts g hg).2.mono h.rlt,(h.small.1 g hg).1,by have:=(h.small.1 g hg).2;omega⟩)).mono ?_
 rintro e w' ⟨rfl,hk,-⟩
 exact ⟨rfl,hk.os,hk.tape,hk.output,hk.size,hk.block⟩
def fword (k:Int):List UInt8:=if k=0 then [110,111] else if k=1 then [121,101,115] else [105,110,118,97,108,105,100]
def memberR (l:List (List UInt8)) (σ:St):List UInt8 × St :=
 match ptsOk l with
 | some [p]=>if σ.1=[] then (errT 6,σ) else (fword (fenceA (σ.1.map cg) p),σ)
 | _=>(errT 11,σ)
section
variable {σ:St} {sb:Nat} {gs:List Gr} {vR vQ:Value} {Wr Rd:Nat→Prop} (l:List (List UInt8)) (b off c:Nat) (hc:l.length≤c) (hl:∀ x∈l,x.length≤1000000) (hn:l.length≤1000000) (w:World) (h:Ses σ sb gs vR vQ Wr Rd w) (hs:Sl w w.heap.size (some ⟨b,off,none⟩) (strCs l)) {B:Nat} (he:Env B w)
include hc hl hn h hs he
theorem smember_any:Calls Tryz.prog 96 #[.pointer (some ⟨sb,0,none⟩),.slice (some ⟨b,off,none⟩) l.length c] w (Ans23 (memberR l σ) sb Wr Rd w):=by
 have hmix:Tryz.prog.follows .mixedOrders=true:=by kernel_rfl
 have HX:=hide (exactly_any l b off c hc hl hn 1 w hs he.tabs.mw)
 have HST:=hide (fun X (hb:Below w.heap.size w X)=>Step.same (Wr:=Wr) (Rd:=Rd) (sb:=sb) ⟨gs,vR,vQ,h⟩ hb)
 have HF:=hide (fun n (h1:I64w n) X (hb:Below w.heap.size w X)=>fail_any n h1 X (he.new hb).pt)
 have H:=hide h
 have HEN:=hide he
 obtain ⟨q,hq⟩:∃ q,q=l.length:=⟨_,rfl⟩
 rw [← hq] at HX ⊢
 clear hc hl hn h hs he hq
 refine (callsIn_wide (n:=6)).1 ?_
 refine callsIn_of_wp Tryz.func96 rfl trivial ?_ rfl
 simp only [Tryz.ntmps96,List.size_toArray,List.length_cons,List.length_nil,Nat.reduceAdd,Nat.reduceSub,Array.replicate_succ,Array.replicate_zero,List.push_toArray,List.append_toArray,List.nil_append,List.cons_append]
 gi_wp2_with fail
 refine ⟨trivial,?_⟩
 refine (callsIn_wide.2 HX.out).mono ?_
 rintro e w1 ⟨hb1,⟨ps,v,h1,h2,rfl,hown⟩ | ⟨h1,v,rfl⟩⟩
 · obtain ⟨p,rfl⟩:∃ p,ps=[p]:=List.length_eq_one_iff.1 (by omega)
   have hpj:PJ p:=(ptsOk_j h1).1 p (List.mem_singleton.2 rfl)
   obtain ⟨bv,ov,vc,rfl,e0,e1⟩:∃ bv ov vc,v=.slice (some ⟨bv,ov,none⟩) 1 vc∧w1.cell? ⟨bv,ov,none⟩=some (.int .i64 p.1)∧w1.cell? ⟨bv,ov+1,none⟩=some (.int .i64 p.2):=by
    obtain ⟨VA,vc,rfl,_⟩:=own_slice hown
    rcases Sl.of_own hown with h7 | ⟨bv,ov,rfl,_,hcv⟩
    · cases h7
    · exact ⟨bv,ov,vc,rfl,hcv 0 _ rfl,hcv 1 _ rfl⟩
   have S1:=H.out.below hb1
   obtain ⟨RA,rc,rfl,hrc⟩:=own_slice S1.rows
   obtain ⟨n,hn⟩:∃ n,n=gs.length:=⟨_,rfl⟩
   have cS:=S1.blk.cell (i:=0) (v:=.slice RA gs.length rc) rfl
   rw [← hn] at cS
   have hbv:=cell_lt e0
   have hsb:=S1.blk.lt
   have HB1:=hide hb1;have HPJ:=hide hpj;have HN:=hide hn;have HS1:=hide S1
   have hnil:σ.1=[] ↔ n=0:=by rw [hn,← S1.data];simp
   have HM6:Hid (n=0→memberR l σ=(errT 6,σ)):=hide fun hh=>by unfold memberR;rw [h1];exact if_pos (hnil.2 hh)
   have HMK:Hid (n≠0→memberR l σ=(fword (fenceA (σ.1.map cg) p),σ)):=hide fun hh=>by unfold memberR;rw [h1];exact if_neg fun h=>hh (hnil.1 h)
   obtain ⟨A,hA⟩:∃ A,A=fenceA (σ.1.map cg) p:=⟨_,rfl⟩
   have hAb:0≤A∧A≤2:=by rw [hA];unfold fenceA;cases fenceOk (σ.1.map cg) <;> cases memOk (σ.1.map cg) p <;> decide
   have HFE:Hid (∀ X,Below w1.heap.size w1 X→Calls Tryz.prog 143 #[.pointer none,.slice RA n rc,.agg #[.int .i64 p.1,.int .i64 p.2]] X fun e w'=>e=.returned (.int .i64 A)∧Below X.heap.size X w'):=hide fun X hX=>by
    rw [hA,hn]
    exact fence_ses (S1.below hX) rfl ((HEN.out.new hb1).new hX).tabs.mw p hpj
   have HFI:Hid (∀ X,Below w1.heap.size w1 X→Calls Tryz.prog 140 #[.string ⟨#[110,111,32,121,101,115,32,105,110,118,97,108,105,100]⟩] X fun e w'=>∃ g,e=.returned (.slice (some ⟨g,0,none⟩) 3 3)∧Below X.heap.size X w'∧Blk w' g 9 #[.string ⟨#[110,111]⟩,.string ⟨#[121,101,115]⟩,.string ⟨#[105,110,118,97,108,105,100]⟩]):=hide fun X hX =>
    fields_any ⟨#[110,111,32,121,101,115,32,105,110,118,97,108,105,100]⟩ (by decide) (by
     intro j b' hb'
     have:∀ b'∈([110,111,32,121,101,115,32,105,110,118,97,108,105,100]:List UInt8),b'.toNat<128:=by decide
     exact this b' (List.mem_of_getElem? hb')) [[110,111],[121,101,115],[105,110,118,97,108,105,100]] (by decide) X ((HEN.out.new hb1).new hX).tabs.sp
   rw [← hA] at HMK
   obtain ⟨px,py⟩:=p
   dsimp only at e0 e1 HFE
   clear hown h1 h2 hb1 hpj hn S1 hrc hnil hA HX
   by_cases hn0:n=0
   · have HE:=hide (HM6.out hn0)
     subst hn0
     clear HMK HM6
     gi_wp2_with fail
     refine ⟨trivial,?_⟩
     refine (callsIn_wide.2 (HF.out 6 (by unfold I64w;omega) _ HB1.out)).mono ?_
     rintro e w3 ⟨rfl,hb3⟩
     gi_wp2
     go_ret
     rw [HE.out]
     exact ⟨rfl,HST.out _ (bl_step HB1.out hb3)⟩
   · have HE:=hide (HMK.out hn0)
     have hn1:¬ (n:Int)=0:=by omega
     clear HMK HM6
     gi_wp2
     have hS:w1.drew.cell? ⟨sb,0,none⟩=some (.slice RA n rc)∧w1.drew.cell? ⟨bv,ov,none⟩=some (.int .i64 px)∧w1.drew.cell? ⟨bv,ov+1,none⟩=some (.int .i64 py):=⟨cS,e0,e1⟩
     have HBD:Hid (Below w1.heap.size w1 w1.drew):=hide (bl_drew (Below.refl _ _))
     have HK3:Hid (∀ X Y,(X.cell? ⟨sb,0,none⟩=some (.slice RA n rc)∧X.cell? ⟨bv,ov,none⟩=some (.int .i64 px)∧X.cell? ⟨bv,ov+1,none⟩=some (.int .i64 py))→Below X.heap.size X Y→(Y.cell? ⟨sb,0,none⟩=some (.slice RA n rc)∧Y.cell? ⟨bv,ov,none⟩=some (.int .i64 px)∧Y.cell? ⟨bv,ov+1,none⟩=some (.int .i64 py))):=hide fun X Y h hb =>
      ⟨(hb.cell (p:=⟨sb,0,none⟩) (cell_lt h.1)).trans h.1,(hb.cell (p:=⟨bv,ov,none⟩) (cell_lt h.2.1)).trans h.2.1,(hb.cell (p:=⟨bv,ov+1,none⟩) (cell_lt h.2.2)).trans h.2.2⟩
     refine startH 1000 (S:=fun w'=>w'.cell? ⟨sb,0,none⟩=some (.slice RA n rc)∧w'.cell? ⟨bv,ov,none⟩=some (.int .i64 px)∧w'.cell? ⟨bv,ov+1,none⟩=some (.int .i64 py)) hmix ?_
     generalize w1.drew=u0 at *
     refine' takeH (i:=1) (v:=_) (noDefer_of (by kernel_rfl)) rfl (by kernel_rfl) (by kernel_rfl) (by kernel_rfl) (fun _ _ _ h=>h) (by kernel_rfl) ⟨Or.inl ⟨by rfl,?hy1k1⟩,fun _=>rfl⟩ hS ?rest1k1
     case hy1k1 =>
      intro w' hSw
      obtain ⟨k0,k1,k2⟩:=hSw
      go_simp
      rfl
     simp only [Act.put,getElem_toArray,getElem_cons_succ,getElem_cons_zero,setIfInBounds_toArray,set_cons_zero,set_cons_succ]
     refine' takeH (i:=2) (v:=_) (noDefer_of (by kernel_rfl)) rfl (by kernel_rfl) (by kernel_rfl) (by kernel_rfl) (fun _ _ _ h=>h) (by kernel_rfl) ⟨Or.inl ⟨by rfl,?hy2k2⟩,fun _=>rfl⟩ hS ?rest2k2
     case hy2k2 =>
      intro w' hSw
      obtain ⟨k0,k1,k2⟩:=hSw
      go_simp
      rfl
     simp only [Act.put,getElem_toArray,getElem_cons_succ,getElem_cons_zero,setIfInBounds_toArray,set_cons_zero,set_cons_succ]
     refine' takeH (i:=3) (v:=_) (noDefer_of (by kernel_rfl)) rfl (by kernel_rfl) (by kernel_rfl) (by kernel_rfl) (fun _ _ _ h=>h) (by kernel_rfl) ⟨Or.inl ⟨by rfl,?hy3k3⟩,fun _=>rfl⟩ hS ?rest3k3
     case hy3k3 =>
      intro w' hSw
      obtain ⟨k0,k1,k2⟩:=hSw
      go_simp
      rfl
     simp only [Act.put,getElem_toArray,getElem_cons_succ,getElem_cons_zero,setIfInBounds_toArray,set_cons_zero,set_cons_succ]
     refine' takeH (i:=4) (v:=_) (noDefer_of (by kernel_rfl)) rfl (by kernel_rfl) (by kernel_rfl) (by kernel_rfl) (fun _ _ _ h=>h) (by kernel_rfl) ⟨Or.inl ⟨by rfl,?hy4k4⟩,fun _=>rfl⟩ hS ?rest4k4
     case hy4k4 =>
      intro w' hSw
      obtain ⟨k0,k1,k2⟩:=hSw
      go_simp
      rfl
     simp only [Act.put,getElem_toArray,getElem_cons_succ,getElem_cons_zero,setIfInBounds_toArray,set_cons_zero,set_cons_succ]
     refine' takeH (i:=5) (v:=_) (noDefer_of (by kernel_rfl)) rfl (by kernel_rfl) (by kernel_rfl) (by kernel_rfl) (fun _ _ _ h=>h) (by kernel_rfl) ⟨Or.inl ⟨by rfl,?hy5k5⟩,fun _=>rfl⟩ hS ?rest5k5
     case hy5k5 =>
      intro w' hSw
      obtain ⟨k0,k1,k2⟩:=hSw
      go_simp
      rfl
     simp only [Act.put,getElem_toArray,getElem_cons_succ,getElem_cons_zero,setIfInBounds_toArray,set_cons_zero,set_cons_succ]
     refine' takeH (i:=6) (v:=_) (noDefer_of (by kernel_rfl)) rfl (by kernel_rfl) (by kernel_rfl) (by kernel_rfl) (fun _ _ _ h=>h) (by kernel_rfl) ⟨Or.inl ⟨by rfl,?hy6k6⟩,fun _=>rfl⟩ hS ?rest6k6
     case hy6k6 =>
      intro w' hSw
      obtain ⟨k0,k1,k2⟩:=hSw
      go_simp
      rfl
     simp only [Act.put,getElem_toArray,getElem_cons_succ,getElem_cons_zero,setIfInBounds_toArray,set_cons_zero,set_cons_succ]
     refine' takeH (i:=7) (v:=_) (noDefer_of (by kernel_rfl)) rfl (by kernel_rfl) (by kernel_rfl) (by kernel_rfl) (fun _ _ _ h=>h) (by kernel_rfl) ⟨Or.inl ⟨by rfl,?hy7k7⟩,fun _=>rfl⟩ hS ?rest7k7
     case hy7k7 =>
      intro w' hSw
      obtain ⟨k0,k1,k2⟩:=hSw
      go_simp
      rfl
     simp only [Act.put,getElem_toArray,getElem_cons_succ,getElem_cons_zero,setIfInBounds_toArray,set_cons_zero,set_cons_succ]
     refine oneH (i:=0) (by kernel_rfl) rfl ?_
     intro K hK
     rw [if_pos (by rfl)]
     go_simp
     refine ⟨trivial,?_⟩
     refine (callsIn_wide.2 (HFI.out u0 HBD.out)).mono ?_
     rintro e y1 ⟨g,rfl,hb_y1,hbk_y1⟩
     have hS1:=HK3.out _ _ hS hb_y1
     have HBX:=bl_step HBD.out hb_y1
     refine hK.out _ _ (fun _=>hS1) ?_
     clear hK K
     (try simp only [Act.put,getElem_toArray,getElem_cons_succ,getElem_cons_zero,setIfInBounds_toArray,set_cons_zero,set_cons_succ])
     refine oneH (i:=8) (by kernel_rfl) rfl ?_
     intro K hK
     rw [if_pos (by rfl)]
     go_simp
     refine ⟨trivial,?_⟩
     refine (callsIn_wide.2 (HFE.out y1 HBX)).mono ?_
     rintro e y2 ⟨rfl,hb_y2⟩
     have hS2:=HK3.out _ _ hS1 hb_y2
     have HBY:=bl_step HBX hb_y2
     refine hK.out _ _ (fun _=>hS2) ?_
     clear hK K
     (try simp only [Act.put,getElem_toArray,getElem_cons_succ,getElem_cons_zero,setIfInBounds_toArray,set_cons_zero,set_cons_succ])
     have hbk:=hbk_y1.step hb_y2
     have q0:=hbk.cell (i:=0) rfl
     have q1:=hbk.cell (i:=1) rfl
     have q2:=hbk.cell (i:=2) rfl
     rcases (show A=0∨A=1∨A=2 by omega) with hA | hA | hA
     all_goals
      subst hA
      refine oneH (i:=9) (by kernel_rfl) rfl ?_
      intro K hK
      rw [if_pos (by rfl)]
      go_simp
      refine hK.out _ _ (fun _=>hS2) ?_
      clear hK K
      (try simp only [Act.put,getElem_toArray,getElem_cons_succ,getElem_cons_zero,setIfInBounds_toArray,set_cons_zero,set_cons_succ])
      refine oneH (i:=10) (by kernel_rfl) rfl ?_
      intro K hK
      rw [if_pos (by rfl)]
      go_simp
      refine hK.out _ _ (fun _=>hS2) ?_
      clear hK K
      (try simp only [Act.put,getElem_toArray,getElem_cons_succ,getElem_cons_zero,setIfInBounds_toArray,set_cons_zero,set_cons_succ])
      refine oneH (i:=11) (by kernel_rfl) rfl ?_
      intro K hK
      rw [if_pos (by rfl)]
      go_simp
      refine hK.out _ _ (fun _=>hS2) ?_
      clear hK K
      (try simp only [Act.put,getElem_toArray,getElem_cons_succ,getElem_cons_zero,setIfInBounds_toArray,set_cons_zero,set_cons_succ])
      refine doneH (by kernel_rfl) ?_ _
      gi_wp2
      go_ret
      rw [HE.out]
      exact ⟨rfl,HST.out _ (bl_step HB1.out HBY)⟩
 · have HE:Hid (memberR l σ=(errT 11,σ)):=hide (by
    unfold memberR
    split
    · rename_i p hp
      exact absurd rfl (h1 _ hp)
    · rfl)
   have HB1:=hide hb1
   clear h1 hb1 HX
   gi_wp2_with fail
   refine ⟨trivial,?_⟩
   refine (callsIn_wide.2 (HF.out 11 (by unfold I64w;omega) _ HB1.out)).mono ?_
   rintro e w3 ⟨rfl,hb3⟩
   gi_wp2
   go_ret
   rw [HE.out]
   exact ⟨rfl,HST.out _ (bl_step HB1.out hb3)⟩
end
end
section
open Go.RowKit Go.Shelf
attribute [local go_sem] Oper.semAt_some
def cword (k:Int):List UInt8:=if k=0 then [111,117,116,115,105,100,101] else if k=1 then [98,111,117,110,100,97,114,121] else if k=2 then [105,110,115,105,100,101] else [105,110,118,97,108,105,100]
def convexR (l:List (List UInt8)) (σ:St):List UInt8 × St :=
 match ptsOk l with
 | none=>(errT 11,σ)
 | some ps=>if ps.length<4∨65<ps.length then (errT 6,σ) else (cword (convexA (ps.take (ps.length - 1)) (ptAt ps (ps.length - 1))),σ)
theorem convex_bd (ps:List Pt) (p:Pt):0≤convexA ps p∧convexA ps p≤3:=by
 unfold convexA
 cases validV ps with
 | false=>exact (by decide:(0:Int)≤3∧(3:Int)≤3)
 | true =>
   unfold locV
   rw [cond_true]
   have h1:∀ a b:Bool,-1≤sgnM a b∧sgnM a b≤1:=by decide
   have:=h1 (locF (orientV ps) ps p (List.range (edgeN ps.length))).1 (locF (orientV ps) ps p (List.range (edgeN ps.length))).2
   omega
theorem sl_takeN {X:World} {B b off:Nat} {ps:List Pt} (m:Nat) (h:Sl X B (some ⟨b,off,none⟩) (ptCs ps)):Sl X B (some ⟨b,off,none⟩) (ptCs (ps.take m)):=by
 rcases h with h | ⟨b',off',e,hb,hc⟩
 · cases ht:ptCs (ps.take m) with
   | nil=>exact .inl rfl
   | cons u r =>
     have:=ptCs_take ps m 0 u (by rw [ht];rfl)
     rw [h] at this;cases this
 · exact .inr ⟨b',off',e,hb,fun j u hu=>hc j u (ptCs_take ps m j u hu)⟩
section
variable {σ:St} {sb:Nat} {gs:List Gr} {vR vQ:Value} {Wr Rd:Nat→Prop} (l:List (List UInt8)) (b off c:Nat) (hc:l.length≤c) (hl:∀ x∈l,x.length≤1000000) (hn:l.length≤1000000) (w:World) (h:Ses σ sb gs vR vQ Wr Rd w) (hs:Sl w w.heap.size (some ⟨b,off,none⟩) (strCs l)) {B:Nat} (he:Env B w)
include hc hl hn h hs he
theorem sconvex_any:Calls Tryz.prog 93 #[.pointer (some ⟨sb,0,none⟩),.slice (some ⟨b,off,none⟩) l.length c] w (Ans23 (convexR l σ) sb Wr Rd w):=by
 have hmix:Tryz.prog.follows .mixedOrders=true:=by kernel_rfl
 have HX:=hide (points_any l b off c hc hl hn w hs he.tabs.mw)
 have HST:=hide (fun X (hb:Below w.heap.size w X)=>Step.same (Wr:=Wr) (Rd:=Rd) (sb:=sb) ⟨gs,vR,vQ,h⟩ hb)
 have HF:=hide (fun n (h1:I64w n) X (hb:Below w.heap.size w X)=>fail_any n h1 X (he.new hb).pt)
 have HEN:=hide he
 obtain ⟨q,hq⟩:∃ q,q=l.length:=⟨_,rfl⟩
 rw [← hq] at HX ⊢
 have HN:=hide hn
 have HQ:=hide hq
 clear hc hl hn h hs he hq
 refine (callsIn_wide (n:=6)).1 ?_
 refine callsIn_of_wp Tryz.func93 rfl trivial ?_ rfl
 simp only [Tryz.ntmps93,List.size_toArray,List.length_cons,List.length_nil,Nat.reduceAdd,Nat.reduceSub,Array.replicate_succ,Array.replicate_zero,List.push_toArray,List.append_toArray,List.nil_append,List.cons_append]
 gi_wp2_with fail
 refine ⟨trivial,?_⟩
 refine (callsIn_wide.2 HX.out).mono ?_
 rintro e w1 ⟨hb1,⟨ps,v,h1,rfl,hown⟩ | ⟨h1,rfl⟩⟩
 · obtain ⟨hpj,hne,hpl⟩:=ptsOk_j h1
   have hL1:1≤ps.length:=List.length_pos_iff.2 hne
   have hL2:ps.length≤1000001:=by have:=HN.out;unfold chunkN at hpl;omega
   obtain ⟨L,hL⟩:∃ L,L=ps.length:=⟨_,rfl⟩
   obtain ⟨m,hm⟩:∃ m:Nat,m+1=L:=⟨L - 1,by omega⟩
   have hml:m<ps.length:=by omega
   obtain ⟨bv,ov,vc,rfl,hbv,hvc,hsl⟩:∃ bv ov vc,v=.slice (some ⟨bv,ov,none⟩) ps.length vc∧bv<w1.heap.size∧ps.length≤vc∧Sl w1 w1.heap.size (some ⟨bv,ov,none⟩) (ptCs ps):=by
    obtain ⟨VA,vc,rfl,hvc⟩:=own_slice hown
    have hs:=Sl.of_own hown
    obtain ⟨bv,ov,rfl,hlt,_⟩:=hs.open_ (by unfold ptCs;rw [flat_length (fun p:Pt=>[Value.int .i64 p.1,.int .i64 p.2]) 2 (fun _=>rfl)];omega)
    exact ⟨bv,ov,vc,rfl,hlt,hvc,hs⟩
   obtain ⟨e0,e1⟩:=sl_pt hsl hml
   have HB1:=hide hb1;have HST1:=hide hsl
   have HM6:Hid (m<3∨64<m→convexR l σ=(errT 6,σ)):=hide fun hh=>by unfold convexR;rw [h1];dsimp only;exact if_pos (by omega)
   have HMK:Hid (¬ (m<3∨64<m)→convexR l σ=(cword (convexA (ps.take m) (ptAt ps m)),σ)):=hide fun hh=>by
    unfold convexR;rw [h1];dsimp only
    rw [if_neg (by omega),show ps.length - 1=m from by omega]
   obtain ⟨p,hp⟩:∃ p,p=ptAt ps m:=⟨_,rfl⟩
   obtain ⟨A,hA⟩:∃ A,A=convexA (ps.take m) p:=⟨_,rfl⟩
   have hAb:0≤A∧A≤3:=by rw [hA];exact convex_bd _ _
   have hpp:PJ p:=by rw [hp];exact hpj.at_ m
   have htl:(ps.take m).length=m:=by rw [List.length_take];omega
   have HFE:Hid (m≤64→∀ X,Below w1.heap.size w1 X→Calls Tryz.prog 141 #[.pointer none,.slice (some ⟨bv,ov,none⟩) m vc,.agg #[.int .i64 p.1,.int .i64 p.2]] X fun e w'=>e=.returned (.int .i64 A)∧Below X.heap.size X w'):=hide fun hm64 X hX=>by
    rw [hA]
    have hw:=((HEN.out.new hb1).new hX).tabs.mw
    have h:=convex_any (fun k=>k<X.heap.size) none [] p hpp X (fun k h=>h) hw.2 hw trivial (by simp) (ps.take m) (fun q hq=>hpj q (List.mem_of_mem_take hq)) (by omega) (some ⟨bv,ov,none⟩) vc ((sl_takeN m ((HST1.out.below hX).more hX.size)).slP fun k h=>h)
    rw [htl] at h
    refine h.mono ?_
    rintro e w' ⟨he,hk,_⟩
    exact ⟨he,hk.below fun k h=>h⟩
   have HFI:Hid (∀ X,Below w1.heap.size w1 X→Calls Tryz.prog 140 #[.string ⟨#[111,117,116,115,105,100,101,32,98,111,117,110,100,97,114,121,32,105,110,115,105,100,101,32,105,110,118,97,108,105,100]⟩] X fun e w'=>∃ g,e=.returned (.slice (some ⟨g,0,none⟩) 4 4)∧Below X.heap.size X w'∧Blk w' g 9 #[.string ⟨#[111,117,116,115,105,100,101]⟩,.string ⟨#[98,111,117,110,100,97,114,121]⟩,.string ⟨#[105,110,115,105,100,101]⟩,.string ⟨#[105,110,118,97,108,105,100]⟩]):=hide fun X hX =>
    fields_any ⟨#[111,117,116,115,105,100,101,32,98,111,117,110,100,97,114,121,32,105,110,115,105,100,101,32,105,110,118,97,108,105,100]⟩ (by decide) (by
     intro j b' hb'
     have:∀ b'∈([111,117,116,115,105,100,101,32,98,111,117,110,100,97,114,121,32,105,110,115,105,100,101,32,105,110,118,97,108,105,100]:List UInt8),b'.toNat<128:=by decide
     exact this b' (List.mem_of_getElem? hb')) [[111,117,116,115,105,100,101],[98,111,117,110,100,97,114,121],[105,110,115,105,100,101],[105,110,118,97,108,105,100]] (by decide) X ((HEN.out.new hb1).new hX).tabs.sp
   rw [← hp,← hA] at HMK
   rw [← hp] at e0 e1
   rw [← hL] at hvc ⊢
   have hmv:(m:Int)≤(vc:Int):=by omega
   have hm0:(0:Int)≤(m:Int):=by omega
   have hmL:(m:Int)<(L:Int):=by omega
   have hwr:IntKind.i64.wrap ((L:Int) - 1)=(m:Int):=by rw [IntKind.wrap_i64];omega
   obtain ⟨px,py⟩:=p
   dsimp only at e0 e1 HFE
   have hm1:=hide hm
   clear hown h1 hb1 hpj hne hpl hL1 hL2 hL hml hsl hA hp hpp htl HX hvc hm
   by_cases hn0:m<3∨64<m
   · have HE:=hide (HM6.out hn0)
     clear HMK HM6
     have hn1:(m:Int)<3∨¬ (m:Int)<3∧(m:Int) > 64:=by omega
     clear hn0
     rcases hn1 with hn1 | ⟨hn1,hn2⟩
     all_goals
      gi_wp2_with fail
      refine ⟨trivial,?_⟩
      refine (callsIn_wide.2 (HF.out 6 (by unfold I64w;omega) _ HB1.out)).mono ?_
      rintro e w3 ⟨rfl,hb3⟩
      gi_wp2
      go_ret
      rw [HE.out]
      exact ⟨rfl,HST.out _ (bl_step HB1.out hb3)⟩
   · have HE:=hide (HMK.out hn0)
     have hn1:¬ (m:Int)<3:=by omega
     have hn2:¬ (m:Int) > 64:=by omega
     have HFE:=hide (HFE.out (by omega))
     clear HMK HM6 hn0
     gi_wp2
     have hS:w1.drew.cell? ⟨bv,ov+m*2,none⟩=some (.int .i64 px)∧w1.drew.cell? ⟨bv,ov+m*2+1,none⟩=some (.int .i64 py):=⟨e0,e1⟩
     have HBD:Hid (Below w1.heap.size w1 w1.drew):=hide (bl_drew (Below.refl _ _))
     have HK3:Hid (∀ X Y,(X.cell? ⟨bv,ov+m*2,none⟩=some (.int .i64 px)∧X.cell? ⟨bv,ov+m*2+1,none⟩=some (.int .i64 py))→Below X.heap.size X Y→(Y.cell? ⟨bv,ov+m*2,none⟩=some (.int .i64 px)∧Y.cell? ⟨bv,ov+m*2+1,none⟩=some (.int .i64 py))):=hide fun X Y h hb =>
      ⟨(hb.cell (p:=⟨bv,ov+m*2,none⟩) (cell_lt h.1)).trans h.1,(hb.cell (p:=⟨bv,ov+m*2+1,none⟩) (cell_lt h.2)).trans h.2⟩
     clear e0 e1
     refine startH 1000 (S:=fun w'=>w'.cell? ⟨bv,ov+m*2,none⟩=some (.int .i64 px)∧w'.cell? ⟨bv,ov+m*2+1,none⟩=some (.int .i64 py)) hmix ?_
     generalize w1.drew=u0 at *
     refine' takeH (i:=1) (v:=_) (noDefer_of (by kernel_rfl)) rfl (by kernel_rfl) (by kernel_rfl) (by kernel_rfl) (fun _ _ _ h=>h) (by kernel_rfl) ⟨Or.inl ⟨by rfl,?hy1k1⟩,fun _=>rfl⟩ hS ?rest1k1
     case hy1k1 =>
      intro w' hSw
      obtain ⟨k0,k1⟩:=hSw
      go_simp
      rfl
     simp only [Act.put,getElem_toArray,getElem_cons_succ,getElem_cons_zero,setIfInBounds_toArray,set_cons_zero,set_cons_succ]
     refine' takeH (i:=2) (v:=_) (noDefer_of (by kernel_rfl)) rfl (by kernel_rfl) (by kernel_rfl) (by kernel_rfl) (fun _ _ _ h=>h) (by kernel_rfl) ⟨Or.inl ⟨by rfl,?hy2k2⟩,fun _=>rfl⟩ hS ?rest2k2
     case hy2k2 =>
      intro w' hSw
      obtain ⟨k0,k1⟩:=hSw
      go_simp
      rfl
     simp only [Act.put,getElem_toArray,getElem_cons_succ,getElem_cons_zero,setIfInBounds_toArray,set_cons_zero,set_cons_succ]
     refine' takeH (i:=3) (v:=_) (noDefer_of (by kernel_rfl)) rfl (by kernel_rfl) (by kernel_rfl) (by kernel_rfl) (fun _ _ _ h=>h) (by kernel_rfl) ⟨Or.inl ⟨by rfl,?hy3k3⟩,fun _=>rfl⟩ hS ?rest3k3
     case hy3k3 =>
      intro w' hSw
      obtain ⟨k0,k1⟩:=hSw
      go_simp
      rfl
     simp only [Act.put,getElem_toArray,getElem_cons_succ,getElem_cons_zero,setIfInBounds_toArray,set_cons_zero,set_cons_succ]
     refine' takeH (i:=4) (v:=_) (noDefer_of (by kernel_rfl)) rfl (by kernel_rfl) (by kernel_rfl) (by kernel_rfl) (fun _ _ _ h=>h) (by kernel_rfl) ⟨Or.inl ⟨by rfl,?hy4k4⟩,fun _=>rfl⟩ hS ?rest4k4
     case hy4k4 =>
      intro w' hSw
      obtain ⟨k0,k1⟩:=hSw
      go_simp
      rfl
     simp only [Act.put,getElem_toArray,getElem_cons_succ,getElem_cons_zero,setIfInBounds_toArray,set_cons_zero,set_cons_succ]
     refine' takeH (i:=5) (v:=_) (noDefer_of (by kernel_rfl)) rfl (by kernel_rfl) (by kernel_rfl) (by kernel_rfl) (fun _ _ _ h=>h) (by kernel_rfl) ⟨Or.inl ⟨by rfl,?hy5k5⟩,fun _=>rfl⟩ hS ?rest5k5
     case hy5k5 =>
      intro w' hSw
      obtain ⟨k0,k1⟩:=hSw
      go_simp
      rfl
     simp only [Act.put,getElem_toArray,getElem_cons_succ,getElem_cons_zero,setIfInBounds_toArray,set_cons_zero,set_cons_succ]
     refine' takeH (i:=6) (v:=_) (noDefer_of (by kernel_rfl)) rfl (by kernel_rfl) (by kernel_rfl) (by kernel_rfl) (fun _ _ _ h=>h) (by kernel_rfl) ⟨Or.inl ⟨by rfl,?hy6k6⟩,fun _=>rfl⟩ hS ?rest6k6
     case hy6k6 =>
      intro w' hSw
      obtain ⟨k0,k1⟩:=hSw
      go_simp
      rfl
     simp only [Act.put,getElem_toArray,getElem_cons_succ,getElem_cons_zero,setIfInBounds_toArray,set_cons_zero,set_cons_succ]
     refine' takeH (i:=7) (v:=_) (noDefer_of (by kernel_rfl)) rfl (by kernel_rfl) (by kernel_rfl) (by kernel_rfl) (fun _ _ _ h=>h) (by kernel_rfl) ⟨Or.inl ⟨by rfl,?hy7k7⟩,fun _=>rfl⟩ hS ?rest7k7
     case hy7k7 =>
      intro w' hSw
      obtain ⟨k0,k1⟩:=hSw
      go_simp
      rfl
     simp only [Act.put,getElem_toArray,getElem_cons_succ,getElem_cons_zero,setIfInBounds_toArray,set_cons_zero,set_cons_succ]
     refine oneH (i:=0) (by kernel_rfl) rfl ?_
     intro K hK
     rw [if_pos (by rfl)]
     go_simp
     refine ⟨trivial,?_⟩
     refine (callsIn_wide.2 (HFI.out u0 HBD.out)).mono ?_
     rintro e y1 ⟨g,rfl,hb_y1,hbk_y1⟩
     have hS1:=HK3.out _ _ hS hb_y1
     have HBX:=bl_step HBD.out hb_y1
     refine hK.out _ _ (fun _=>hS1) ?_
     clear hK K
     (try simp only [Act.put,getElem_toArray,getElem_cons_succ,getElem_cons_zero,setIfInBounds_toArray,set_cons_zero,set_cons_succ])
     refine oneH (i:=8) (by kernel_rfl) rfl ?_
     intro K hK
     rw [if_pos (by rfl)]
     go_simp
     refine ⟨trivial,?_⟩
     refine (callsIn_wide.2 (HFE.out y1 HBX)).mono ?_
     rintro e y2 ⟨rfl,hb_y2⟩
     have hS2:=HK3.out _ _ hS1 hb_y2
     have HBY:=bl_step HBX hb_y2
     refine hK.out _ _ (fun _=>hS2) ?_
     clear hK K
     (try simp only [Act.put,getElem_toArray,getElem_cons_succ,getElem_cons_zero,setIfInBounds_toArray,set_cons_zero,set_cons_succ])
     have hbk:=hbk_y1.step hb_y2
     have q0:=hbk.cell (i:=0) rfl
     have q1:=hbk.cell (i:=1) rfl
     have q2:=hbk.cell (i:=2) rfl
     have q3:=hbk.cell (i:=3) rfl
     rcases (show A=0∨A=1∨A=2∨A=3 by omega) with hA | hA | hA | hA
     all_goals
      subst hA
      refine oneH (i:=9) (by kernel_rfl) rfl ?_
      intro K hK
      rw [if_pos (by rfl)]
      go_simp
      refine hK.out _ _ (fun _=>hS2) ?_
      clear hK K
      (try simp only [Act.put,getElem_toArray,getElem_cons_succ,getElem_cons_zero,setIfInBounds_toArray,set_cons_zero,set_cons_succ])
      refine oneH (i:=10) (by kernel_rfl) rfl ?_
      intro K hK
      rw [if_pos (by rfl)]
      go_simp
      refine hK.out _ _ (fun _=>hS2) ?_
      clear hK K
      (try simp only [Act.put,getElem_toArray,getElem_cons_succ,getElem_cons_zero,setIfInBounds_toArray,set_cons_zero,set_cons_succ])
      refine oneH (i:=11) (by kernel_rfl) rfl ?_
      intro K hK
      rw [if_pos (by rfl)]
      go_simp
      refine hK.out _ _ (fun _=>hS2) ?_
      clear hK K
      (try simp only [Act.put,getElem_toArray,getElem_cons_succ,getElem_cons_zero,setIfInBounds_toArray,set_cons_zero,set_cons_succ])
      refine doneH (by kernel_rfl) ?_ _
      gi_wp2
      go_ret
      rw [HE.out]
      exact ⟨rfl,HST.out _ (bl_step HB1.out HBY)⟩
 · have HE:Hid (convexR l σ=(errT 11,σ)):=hide (by unfold convexR;rw [h1])
   have HB1:=hide hb1
   clear h1 hb1 HX
   gi_wp2_with fail
   refine ⟨trivial,?_⟩
   refine (callsIn_wide.2 (HF.out 11 (by unfold I64w;omega) _ HB1.out)).mono ?_
   rintro e w3 ⟨rfl,hb3⟩
   gi_wp2
   go_ret
   rw [HE.out]
   exact ⟨rfl,HST.out _ (bl_step HB1.out hb3)⟩
end
end
end Go.Proofs.YthnenedoblncjaaGreatDoor
