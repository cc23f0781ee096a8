/- ScrPred -/
import Derived.BigQuiet
import Derived.ChangeAlike
import Derived.Deep.QuietTactic
import Derived.Deep.RegionLaw
import Derived.Test.YthnenedoblncjaaGreatDoorPkP39
import Derived.Test.YthnenedoblncjaaGreatDoorPkP45
set_option maxRecDepth 1000000
set_option maxHeartbeats 8000000
namespace Go.Proofs.YthnenedoblncjaaGreatDoor
open List (getElem_toArray getElem_cons_succ getElem_cons_zero setIfInBounds_toArray set_cons_zero set_cons_succ)
section
open Go.RowKit Go.Shelf
attribute [local go_sem] Oper.semAt_some
theorem formatI_any (n:Int) (hn:I64w n) (w:World) (hp:PT w):Calls Tryz.prog 48 #[.int .i64 n,.int .i64 10] w fun e w'=>e=.returned (.string (strOf (txt n)))∧Below w.heap.size w w':=by
 refine (Any.strconv_FormatInt_10 Tryz.lays173 n hn.1 hn.2 w (hp w (Below.refl _ _))).mono ?_
 rintro e w' ⟨rfl,k,os,rfl⟩
 refine ⟨?_,below_grown' w k os⟩
 rw [← txt_itoa];rfl
theorem sign_w (x:Int):I64w x.sign:=by
 unfold I64w
 rcases Int.lt_trichotomy x 0 with h | h | h
 · rw [Int.sign_eq_neg_one_of_neg h];omega
 · rw [h];decide
 · rw [Int.sign_eq_one_of_pos h];omega
theorem len3 {ps:List Pt} (h:ps.length=3):∃ a b c,ps=[a,b,c]:=by
 rcases ps with _ | ⟨a,_ | ⟨b,_ | ⟨c,_ | ⟨d,r⟩⟩⟩⟩ <;> simp at h
 exact ⟨a,b,c,rfl⟩
theorem len4 {ps:List Pt} (h:ps.length=4):∃ a b c d,ps=[a,b,c,d]:=by
 rcases ps with _ | ⟨a,_ | ⟨b,_ | ⟨c,_ | ⟨d,_ | ⟨e,r⟩⟩⟩⟩⟩ <;> simp at h
 exact ⟨a,b,c,d,rfl⟩
def orientR (l:List (List UInt8)) (σ:St):List UInt8 × St :=
 match ptsOk l with
 | some [p0,p1,p2]=>(txt (orientD p0 p1 p2).sign,σ)
 | _=>(errT 11,σ)
def circleR (l:List (List UInt8)) (σ:St):List UInt8 × St :=
 match ptsOk l with
 | some [p0,p1,p2,p3]=>(txt (circleD p0 p1 p2 p3).sign,σ)
 | _=>(errT 11,σ)
section
variable {σ:St} {sb:Nat} {gs:List Gr} {vR vQ:Value} {Wr Rd:Nat→Prop} (l:List (List UInt8)) (b off c:Nat) (hc:l.length≤c) (hl:∀ x∈l,x.length≤1000000) (hn:l.length≤1000000) (w:World) (h:Ses σ sb gs vR vQ Wr Rd w) (hs:Sl w w.heap.size (some ⟨b,off,none⟩) (strCs l)) {B:Nat} (he:Env B w)
include hc hl hn h hs he
theorem sorient_any:Calls Tryz.prog 91 #[.pointer (some ⟨sb,0,none⟩),.slice (some ⟨b,off,none⟩) l.length c] w (Ans23 (orientR l σ) sb Wr Rd w):=by
 have hmix:Tryz.prog.follows .mixedOrders=true:=by kernel_rfl
 have HX:=hide (exactly_any l b off c hc hl hn 3 w hs he.tabs.mw)
 have HST:=hide (fun X (hb:Below w.heap.size w X)=>Step.same (Wr:=Wr) (Rd:=Rd) (sb:=sb) ⟨gs,vR,vQ,h⟩ hb)
 have HF:=hide (fun n (h1:I64w n) X (hb:Below w.heap.size w X)=>fail_any n h1 X (he.new hb).pt)
 have HEN:=hide he
 obtain ⟨q,hq⟩:∃ q,q=l.length:=⟨_,rfl⟩
 rw [← hq] at HX ⊢
 clear hc hl hn h hs he hq
 refine (callsIn_wide (n:=6)).1 ?_
 refine callsIn_of_wp Tryz.func91 rfl trivial ?_ rfl
 simp only [Tryz.ntmps91,List.size_toArray,List.length_cons,List.length_nil,Nat.reduceAdd,Nat.reduceSub,Array.replicate_succ,Array.replicate_zero,List.push_toArray,List.append_toArray,List.nil_append,List.cons_append]
 gi_wp2_with fail
 refine ⟨trivial,?_⟩
 refine (callsIn_wide.2 HX.out).mono ?_
 rintro e w1 ⟨hb1,⟨ps,v,h1,h2,rfl,hown⟩ | ⟨h1,v,rfl⟩⟩
 · obtain ⟨p0,p1,p2,rfl⟩:=len3 (ps:=ps) (by omega)
   have hpj:=(ptsOk_j h1).1
   have hj0:PJ p0:=hpj p0 (by simp)
   have hj1:PJ p1:=hpj p1 (by simp)
   have hj2:PJ p2:=hpj p2 (by simp)
   obtain ⟨bv,ov,vc,rfl,hbv,hcs⟩:∃ bv ov vc,v=.slice (some ⟨bv,ov,none⟩) 3 vc∧bv<w1.heap.size∧(w1.cell? ⟨bv,ov,none⟩=some (.int .i64 p0.1)∧w1.cell? ⟨bv,ov+1,none⟩=some (.int .i64 p0.2)∧w1.cell? ⟨bv,ov+2,none⟩=some (.int .i64 p1.1)∧w1.cell? ⟨bv,ov+2+1,none⟩=some (.int .i64 p1.2)∧w1.cell? ⟨bv,ov+4,none⟩=some (.int .i64 p2.1)∧w1.cell? ⟨bv,ov+4+1,none⟩=some (.int .i64 p2.2)):=by
    obtain ⟨VA,vc,rfl,_⟩:=own_slice hown
    rcases Sl.of_own hown with h7 | ⟨bv,ov,rfl,hlt,hcv⟩
    · cases h7
    · exact ⟨bv,ov,vc,rfl,hlt,hcv 0 _ rfl,hcv 1 _ rfl,hcv 2 _ rfl,hcv 3 _ rfl,hcv 4 _ rfl,hcv 5 _ rfl⟩
   have HE:Hid (orientR l σ=(txt (orientD p0 p1 p2).sign,σ)):=hide (by unfold orientR;rw [h1])
   obtain ⟨A,hA⟩:∃ A,A=(orientD p0 p1 p2).sign:=⟨_,rfl⟩
   have HAW:Hid (I64w A):=hide (by rw [hA];exact sign_w _)
   obtain ⟨x0,y0⟩:=p0
   obtain ⟨x1,y1⟩:=p1
   obtain ⟨x2,y2⟩:=p2
   dsimp only at hcs
   have HFE:Hid (∀ X,Below w1.heap.size w1 X→Calls Tryz.prog 137 #[.agg #[.int .i64 x0,.int .i64 y0],.agg #[.int .i64 x1,.int .i64 y1],.agg #[.int .i64 x2,.int .i64 y2]] X fun e w'=>e=.returned (.int .i64 A)∧Below X.heap.size X w'):=hide fun X hX=>by
    rw [hA]
    exact osign_any (x0,y0) (x1,y1) (x2,y2) hj0 hj1 hj2 X ((HEN.out.new hb1).new hX).tabs.mw
   have HFI:Hid (∀ X,Below w1.heap.size w1 X→Calls Tryz.prog 48 #[.int .i64 A,.int .i64 10] X fun e w'=>e=.returned (.string (strOf (txt A)))∧Below X.heap.size X w'):=hide fun X hX=>formatI_any A HAW.out X ((HEN.out.new hb1).new hX).pt
   rw [← hA] at HE
   have HB1:=hide hb1
   clear hown h1 h2 hb1 hpj hA HX hj0 hj1 hj2
   have hS:w1.drew.cell? ⟨bv,ov,none⟩=some (.int .i64 x0)∧w1.drew.cell? ⟨bv,ov+1,none⟩=some (.int .i64 y0)∧w1.drew.cell? ⟨bv,ov+2,none⟩=some (.int .i64 x1)∧w1.drew.cell? ⟨bv,ov+2+1,none⟩=some (.int .i64 y1)∧w1.drew.cell? ⟨bv,ov+4,none⟩=some (.int .i64 x2)∧w1.drew.cell? ⟨bv,ov+4+1,none⟩=some (.int .i64 y2):=hcs
   have HBD:Hid (Below w1.heap.size w1 w1.drew):=hide (bl_drew (Below.refl _ _))
   have HBV:=hide hbv
   have HK3:Hid (∀ X Y,Below w1.heap.size w1 X→(X.cell? ⟨bv,ov,none⟩=some (.int .i64 x0)∧X.cell? ⟨bv,ov+1,none⟩=some (.int .i64 y0)∧X.cell? ⟨bv,ov+2,none⟩=some (.int .i64 x1)∧X.cell? ⟨bv,ov+2+1,none⟩=some (.int .i64 y1)∧X.cell? ⟨bv,ov+4,none⟩=some (.int .i64 x2)∧X.cell? ⟨bv,ov+4+1,none⟩=some (.int .i64 y2))→Below X.heap.size X Y→(Y.cell? ⟨bv,ov,none⟩=some (.int .i64 x0)∧Y.cell? ⟨bv,ov+1,none⟩=some (.int .i64 y0)∧Y.cell? ⟨bv,ov+2,none⟩=some (.int .i64 x1)∧Y.cell? ⟨bv,ov+2+1,none⟩=some (.int .i64 y1)∧Y.cell? ⟨bv,ov+4,none⟩=some (.int .i64 x2)∧Y.cell? ⟨bv,ov+4+1,none⟩=some (.int .i64 y2))):=hide fun X Y hwX h hb=>by
    have hl:=Nat.lt_of_lt_of_le HBV.out hwX.size
    exact ⟨(hb.cell (p:=⟨bv,ov,none⟩) hl).trans h.1,(hb.cell (p:=⟨bv,ov+1,none⟩) hl).trans h.2.1,(hb.cell (p:=⟨bv,ov+2,none⟩) hl).trans h.2.2.1,(hb.cell (p:=⟨bv,ov+2+1,none⟩) hl).trans h.2.2.2.1,(hb.cell (p:=⟨bv,ov+4,none⟩) hl).trans h.2.2.2.2.1,(hb.cell (p:=⟨bv,ov+4+1,none⟩) hl).trans h.2.2.2.2.2⟩
   clear hcs hbv
   obtain ⟨g0,g1,g2,g3,g4,g5⟩:=hS
   gi_wp2
   have hS:w1.drew.cell? ⟨bv,ov,none⟩=some (.int .i64 x0)∧w1.drew.cell? ⟨bv,ov+1,none⟩=some (.int .i64 y0)∧w1.drew.cell? ⟨bv,ov+2,none⟩=some (.int .i64 x1)∧w1.drew.cell? ⟨bv,ov+2+1,none⟩=some (.int .i64 y1)∧w1.drew.cell? ⟨bv,ov+4,none⟩=some (.int .i64 x2)∧w1.drew.cell? ⟨bv,ov+4+1,none⟩=some (.int .i64 y2):=⟨g0,g1,g2,g3,g4,g5⟩
   clear g0 g1 g2 g3 g4 g5
   refine startH 1000 (S:=fun w'=>w'.cell? ⟨bv,ov,none⟩=some (.int .i64 x0)∧w'.cell? ⟨bv,ov+1,none⟩=some (.int .i64 y0)∧w'.cell? ⟨bv,ov+2,none⟩=some (.int .i64 x1)∧w'.cell? ⟨bv,ov+2+1,none⟩=some (.int .i64 y1)∧w'.cell? ⟨bv,ov+4,none⟩=some (.int .i64 x2)∧w'.cell? ⟨bv,ov+4+1,none⟩=some (.int .i64 y2)) hmix ?_
   generalize w1.drew=u0 at *
   refine' takeH (i:=0) (v:=_) (noDefer_of (by kernel_rfl)) rfl (by kernel_rfl) (by kernel_rfl) (by kernel_rfl) (fun _ _ _ h=>h) (by kernel_rfl) ⟨Or.inl ⟨by rfl,?hy0k1orient⟩,fun _=>rfl⟩ hS ?rest0k1orient
   case hy0k1orient =>
    intro w' hSw
    obtain ⟨k0,k1,k2,k3,k4,k5⟩:=hSw
    go_simp
    rfl
   simp only [Act.put,getElem_toArray,getElem_cons_zero,setIfInBounds_toArray,set_cons_zero,set_cons_succ]
   refine' takeH (i:=1) (v:=_) (noDefer_of (by kernel_rfl)) rfl (by kernel_rfl) (by kernel_rfl) (by kernel_rfl) (fun _ _ _ h=>h) (by kernel_rfl) ⟨Or.inl ⟨by rfl,?hy1k2orient⟩,fun _=>rfl⟩ hS ?rest1k2orient
   case hy1k2orient =>
    intro w' hSw
    obtain ⟨k0,k1,k2,k3,k4,k5⟩:=hSw
    go_simp
    rfl
   simp only [Act.put,getElem_toArray,getElem_cons_succ,getElem_cons_zero,setIfInBounds_toArray,set_cons_zero,set_cons_succ]
   refine' takeH (i:=2) (v:=_) (noDefer_of (by kernel_rfl)) rfl (by kernel_rfl) (by kernel_rfl) (by kernel_rfl) (fun _ _ _ h=>h) (by kernel_rfl) ⟨Or.inl ⟨by rfl,?hy2k3orient⟩,fun _=>rfl⟩ hS ?rest2k3orient
   case hy2k3orient =>
    intro w' hSw
    obtain ⟨k0,k1,k2,k3,k4,k5⟩:=hSw
    go_simp
    rfl
   simp only [Act.put,getElem_toArray,getElem_cons_succ,getElem_cons_zero,setIfInBounds_toArray,set_cons_zero,set_cons_succ]
   refine' takeH (i:=3) (v:=_) (noDefer_of (by kernel_rfl)) rfl (by kernel_rfl) (by kernel_rfl) (by kernel_rfl) (fun _ _ _ h=>h) (by kernel_rfl) ⟨Or.inl ⟨by rfl,?hy3k4orient⟩,fun _=>rfl⟩ hS ?rest3k4orient
   case hy3k4orient =>
    intro w' hSw
    obtain ⟨k0,k1,k2,k3,k4,k5⟩:=hSw
    go_simp
    rfl
   simp only [Act.put,getElem_toArray,getElem_cons_succ,getElem_cons_zero,setIfInBounds_toArray,set_cons_zero,set_cons_succ]
   refine' takeH (i:=4) (v:=_) (noDefer_of (by kernel_rfl)) rfl (by kernel_rfl) (by kernel_rfl) (by kernel_rfl) (fun _ _ _ h=>h) (by kernel_rfl) ⟨Or.inl ⟨by rfl,?hy4k5orient⟩,fun _=>rfl⟩ hS ?rest4k5orient
   case hy4k5orient =>
    intro w' hSw
    obtain ⟨k0,k1,k2,k3,k4,k5⟩:=hSw
    go_simp
    rfl
   simp only [Act.put,getElem_toArray,getElem_cons_succ,getElem_cons_zero,setIfInBounds_toArray,set_cons_zero,set_cons_succ]
   refine' takeH (i:=5) (v:=_) (noDefer_of (by kernel_rfl)) rfl (by kernel_rfl) (by kernel_rfl) (by kernel_rfl) (fun _ _ _ h=>h) (by kernel_rfl) ⟨Or.inl ⟨by rfl,?hy5k6orient⟩,fun _=>rfl⟩ hS ?rest5k6orient
   case hy5k6orient =>
    intro w' hSw
    obtain ⟨k0,k1,k2,k3,k4,k5⟩:=hSw
    go_simp
    rfl
   simp only [Act.put,getElem_toArray,getElem_cons_succ,getElem_cons_zero,setIfInBounds_toArray,set_cons_zero,set_cons_succ]
   refine' takeH (i:=6) (v:=_) (noDefer_of (by kernel_rfl)) rfl (by kernel_rfl) (by kernel_rfl) (by kernel_rfl) (fun _ _ _ h=>h) (by kernel_rfl) ⟨Or.inl ⟨by rfl,?hy6k7orient⟩,fun _=>rfl⟩ hS ?rest6k7orient
   case hy6k7orient =>
    intro w' hSw
    obtain ⟨k0,k1,k2,k3,k4,k5⟩:=hSw
    go_simp
    rfl
   simp only [Act.put,getElem_toArray,getElem_cons_succ,getElem_cons_zero,setIfInBounds_toArray,set_cons_zero,set_cons_succ]
   refine' takeH (i:=7) (v:=_) (noDefer_of (by kernel_rfl)) rfl (by kernel_rfl) (by kernel_rfl) (by kernel_rfl) (fun _ _ _ h=>h) (by kernel_rfl) ⟨Or.inl ⟨by rfl,?hy7k8orient⟩,fun _=>rfl⟩ hS ?rest7k8orient
   case hy7k8orient =>
    intro w' hSw
    obtain ⟨k0,k1,k2,k3,k4,k5⟩:=hSw
    go_simp
    rfl
   simp only [Act.put,getElem_toArray,getElem_cons_succ,getElem_cons_zero,setIfInBounds_toArray,set_cons_zero,set_cons_succ]
   refine' takeH (i:=8) (v:=_) (noDefer_of (by kernel_rfl)) rfl (by kernel_rfl) (by kernel_rfl) (by kernel_rfl) (fun _ _ _ h=>h) (by kernel_rfl) ⟨Or.inl ⟨by rfl,?hy8k9orient⟩,fun _=>rfl⟩ hS ?rest8k9orient
   case hy8k9orient =>
    intro w' hSw
    obtain ⟨k0,k1,k2,k3,k4,k5⟩:=hSw
    go_simp
    rfl
   simp only [Act.put,getElem_toArray,getElem_cons_succ,getElem_cons_zero,setIfInBounds_toArray,set_cons_zero,set_cons_succ]
   refine oneH (i:=9) (by kernel_rfl) rfl ?_
   intro K hK
   rw [if_pos (by rfl)]
   go_simp
   refine ⟨trivial,?_⟩
   refine (callsIn_wide.2 (HFE.out u0 HBD.out)).mono ?_
   rintro e y1 ⟨rfl,hb_y1⟩
   have hS1:=HK3.out _ _ HBD.out hS hb_y1
   have HBX:=bl_step HBD.out hb_y1
   refine hK.out _ _ (fun _=>hS1) ?_
   clear hK K
   (try simp only [Act.put,getElem_toArray,getElem_cons_succ,getElem_cons_zero,setIfInBounds_toArray,set_cons_zero,set_cons_succ])
   refine oneH (i:=10) (by kernel_rfl) rfl ?_
   intro K hK
   rw [if_pos (by rfl)]
   go_simp
   refine ⟨trivial,?_⟩
   refine (callsIn_wide.2 (HFI.out y1 HBX)).mono ?_
   rintro e y2 ⟨rfl,hb_y2⟩
   have hS2:=HK3.out _ _ HBX hS1 hb_y2
   have HBY:=bl_step HBX hb_y2
   refine hK.out _ _ (fun _=>hS2) ?_
   clear hK K
   (try simp only [Act.put,getElem_toArray,getElem_cons_succ,getElem_cons_zero,setIfInBounds_toArray,set_cons_zero,set_cons_succ])
   refine oneH (i:=11) (by kernel_rfl) rfl ?_
   intro K hK
   rw [if_pos (by rfl)]
   go_simp
   refine hK.out _ _ (fun _=>hS2) ?_
   clear hK K
   (try simp only [Act.put,getElem_toArray,getElem_cons_succ,getElem_cons_zero,setIfInBounds_toArray,set_cons_zero,set_cons_succ])
   refine doneH (by kernel_rfl) ?_ _
   gi_wp2
   go_ret
   rw [HE.out]
   exact ⟨rfl,HST.out _ (bl_step HB1.out HBY)⟩
 · have HE:Hid (orientR l σ=(errT 11,σ)):=hide (by
    unfold orientR
    split
    · rename_i p0 p1 p2 hp
      exact absurd rfl (h1 _ hp)
    · rfl)
   have HB1:=hide hb1
   clear h1 hb1 HX
   gi_wp2_with fail
   refine ⟨trivial,?_⟩
   refine (callsIn_wide.2 (HF.out 11 (by unfold I64w;omega) _ HB1.out)).mono ?_
   rintro e w3 ⟨rfl,hb3⟩
   gi_wp2
   go_ret
   rw [HE.out]
   exact ⟨rfl,HST.out _ (bl_step HB1.out hb3)⟩
theorem scircle_any:Calls Tryz.prog 92 #[.pointer (some ⟨sb,0,none⟩),.slice (some ⟨b,off,none⟩) l.length c] w (Ans23 (circleR l σ) sb Wr Rd w):=by
 have hmix:Tryz.prog.follows .mixedOrders=true:=by kernel_rfl
 have HX:=hide (exactly_any l b off c hc hl hn 4 w hs he.tabs.mw)
 have HST:=hide (fun X (hb:Below w.heap.size w X)=>Step.same (Wr:=Wr) (Rd:=Rd) (sb:=sb) ⟨gs,vR,vQ,h⟩ hb)
 have HF:=hide (fun n (h1:I64w n) X (hb:Below w.heap.size w X)=>fail_any n h1 X (he.new hb).pt)
 have HEN:=hide he
 obtain ⟨q,hq⟩:∃ q,q=l.length:=⟨_,rfl⟩
 rw [← hq] at HX ⊢
 clear hc hl hn h hs he hq
 refine (callsIn_wide (n:=6)).1 ?_
 refine callsIn_of_wp Tryz.func92 rfl trivial ?_ rfl
 simp only [Tryz.ntmps92,List.size_toArray,List.length_cons,List.length_nil,Nat.reduceAdd,Nat.reduceSub,Array.replicate_succ,Array.replicate_zero,List.push_toArray,List.append_toArray,List.nil_append,List.cons_append]
 gi_wp2_with fail
 refine ⟨trivial,?_⟩
 refine (callsIn_wide.2 HX.out).mono ?_
 rintro e w1 ⟨hb1,⟨ps,v,h1,h2,rfl,hown⟩ | ⟨h1,v,rfl⟩⟩
 · obtain ⟨p0,p1,p2,p3,rfl⟩:=len4 (ps:=ps) (by omega)
   have hpj:=(ptsOk_j h1).1
   have hj0:PJ p0:=hpj p0 (by simp)
   have hj1:PJ p1:=hpj p1 (by simp)
   have hj2:PJ p2:=hpj p2 (by simp)
   have hj3:PJ p3:=hpj p3 (by simp)
   obtain ⟨bv,ov,vc,rfl,hbv,hcs⟩:∃ bv ov vc,v=.slice (some ⟨bv,ov,none⟩) 4 vc∧bv<w1.heap.size∧(w1.cell? ⟨bv,ov,none⟩=some (.int .i64 p0.1)∧w1.cell? ⟨bv,ov+1,none⟩=some (.int .i64 p0.2)∧w1.cell? ⟨bv,ov+2,none⟩=some (.int .i64 p1.1)∧w1.cell? ⟨bv,ov+2+1,none⟩=some (.int .i64 p1.2)∧w1.cell? ⟨bv,ov+4,none⟩=some (.int .i64 p2.1)∧w1.cell? ⟨bv,ov+4+1,none⟩=some (.int .i64 p2.2)∧w1.cell? ⟨bv,ov+6,none⟩=some (.int .i64 p3.1)∧w1.cell? ⟨bv,ov+6+1,none⟩=some (.int .i64 p3.2)):=by
    obtain ⟨VA,vc,rfl,_⟩:=own_slice hown
    rcases Sl.of_own hown with h7 | ⟨bv,ov,rfl,hlt,hcv⟩
    · cases h7
    · exact ⟨bv,ov,vc,rfl,hlt,hcv 0 _ rfl,hcv 1 _ rfl,hcv 2 _ rfl,hcv 3 _ rfl,hcv 4 _ rfl,hcv 5 _ rfl,hcv 6 _ rfl,hcv 7 _ rfl⟩
   have HE:Hid (circleR l σ=(txt (circleD p0 p1 p2 p3).sign,σ)):=hide (by unfold circleR;rw [h1])
   obtain ⟨A,hA⟩:∃ A,A=(circleD p0 p1 p2 p3).sign:=⟨_,rfl⟩
   have HAW:Hid (I64w A):=hide (by rw [hA];exact sign_w _)
   obtain ⟨x0,y0⟩:=p0
   obtain ⟨x1,y1⟩:=p1
   obtain ⟨x2,y2⟩:=p2
   obtain ⟨x3,y3⟩:=p3
   dsimp only at hcs
   have HFE:Hid (∀ X,Below w1.heap.size w1 X→Calls Tryz.prog 138 #[.agg #[.int .i64 x0,.int .i64 y0],.agg #[.int .i64 x1,.int .i64 y1],.agg #[.int .i64 x2,.int .i64 y2],.agg #[.int .i64 x3,.int .i64 y3]] X fun e w'=>e=.returned (.int .i64 A)∧Below X.heap.size X w'):=hide fun X hX=>by
    rw [hA]
    exact csign_any (x0,y0) (x1,y1) (x2,y2) (x3,y3) hj0 hj1 hj2 hj3 X ((HEN.out.new hb1).new hX).tabs.mw
   have HFI:Hid (∀ X,Below w1.heap.size w1 X→Calls Tryz.prog 48 #[.int .i64 A,.int .i64 10] X fun e w'=>e=.returned (.string (strOf (txt A)))∧Below X.heap.size X w'):=hide fun X hX=>formatI_any A HAW.out X ((HEN.out.new hb1).new hX).pt
   rw [← hA] at HE
   have HB1:=hide hb1
   clear hown h1 h2 hb1 hpj hA HX hj0 hj1 hj2 hj3
   have hS:w1.drew.cell? ⟨bv,ov,none⟩=some (.int .i64 x0)∧w1.drew.cell? ⟨bv,ov+1,none⟩=some (.int .i64 y0)∧w1.drew.cell? ⟨bv,ov+2,none⟩=some (.int .i64 x1)∧w1.drew.cell? ⟨bv,ov+2+1,none⟩=some (.int .i64 y1)∧w1.drew.cell? ⟨bv,ov+4,none⟩=some (.int .i64 x2)∧w1.drew.cell? ⟨bv,ov+4+1,none⟩=some (.int .i64 y2)∧w1.drew.cell? ⟨bv,ov+6,none⟩=some (.int .i64 x3)∧w1.drew.cell? ⟨bv,ov+6+1,none⟩=some (.int .i64 y3):=hcs
   have HBD:Hid (Below w1.heap.size w1 w1.drew):=hide (bl_drew (Below.refl _ _))
   have HBV:=hide hbv
   have HK3:Hid (∀ X Y,Below w1.heap.size w1 X→(X.cell? ⟨bv,ov,none⟩=some (.int .i64 x0)∧X.cell? ⟨bv,ov+1,none⟩=some (.int .i64 y0)∧X.cell? ⟨bv,ov+2,none⟩=some (.int .i64 x1)∧X.cell? ⟨bv,ov+2+1,none⟩=some (.int .i64 y1)∧X.cell? ⟨bv,ov+4,none⟩=some (.int .i64 x2)∧X.cell? ⟨bv,ov+4+1,none⟩=some (.int .i64 y2)∧X.cell? ⟨bv,ov+6,none⟩=some (.int .i64 x3)∧X.cell? ⟨bv,ov+6+1,none⟩=some (.int .i64 y3))→Below X.heap.size X Y→(Y.cell? ⟨bv,ov,none⟩=some (.int .i64 x0)∧Y.cell? ⟨bv,ov+1,none⟩=some (.int .i64 y0)∧Y.cell? ⟨bv,ov+2,none⟩=some (.int .i64 x1)∧Y.cell? ⟨bv,ov+2+1,none⟩=some (.int .i64 y1)∧Y.cell? ⟨bv,ov+4,none⟩=some (.int .i64 x2)∧Y.cell? ⟨bv,ov+4+1,none⟩=some (.int .i64 y2)∧Y.cell? ⟨bv,ov+6,none⟩=some (.int .i64 x3)∧Y.cell? ⟨bv,ov+6+1,none⟩=some (.int .i64 y3))):=hide fun X Y hwX h hb=>by
    have hl:=Nat.lt_of_lt_of_le HBV.out hwX.size
    exact ⟨(hb.cell (p:=⟨bv,ov,none⟩) hl).trans h.1,(hb.cell (p:=⟨bv,ov+1,none⟩) hl).trans h.2.1,(hb.cell (p:=⟨bv,ov+2,none⟩) hl).trans h.2.2.1,(hb.cell (p:=⟨bv,ov+2+1,none⟩) hl).trans h.2.2.2.1,(hb.cell (p:=⟨bv,ov+4,none⟩) hl).trans h.2.2.2.2.1,(hb.cell (p:=⟨bv,ov+4+1,none⟩) hl).trans h.2.2.2.2.2.1,(hb.cell (p:=⟨bv,ov+6,none⟩) hl).trans h.2.2.2.2.2.2.1,(hb.cell (p:=⟨bv,ov+6+1,none⟩) hl).trans h.2.2.2.2.2.2.2⟩
   clear hcs hbv
   obtain ⟨g0,g1,g2,g3,g4,g5,g6,g7⟩:=hS
   gi_wp2
   have hS:w1.drew.cell? ⟨bv,ov,none⟩=some (.int .i64 x0)∧w1.drew.cell? ⟨bv,ov+1,none⟩=some (.int .i64 y0)∧w1.drew.cell? ⟨bv,ov+2,none⟩=some (.int .i64 x1)∧w1.drew.cell? ⟨bv,ov+2+1,none⟩=some (.int .i64 y1)∧w1.drew.cell? ⟨bv,ov+4,none⟩=some (.int .i64 x2)∧w1.drew.cell? ⟨bv,ov+4+1,none⟩=some (.int .i64 y2)∧w1.drew.cell? ⟨bv,ov+6,none⟩=some (.int .i64 x3)∧w1.drew.cell? ⟨bv,ov+6+1,none⟩=some (.int .i64 y3):=⟨g0,g1,g2,g3,g4,g5,g6,g7⟩
   clear g0 g1 g2 g3 g4 g5 g6 g7
   refine startH 1000 (S:=fun w'=>w'.cell? ⟨bv,ov,none⟩=some (.int .i64 x0)∧w'.cell? ⟨bv,ov+1,none⟩=some (.int .i64 y0)∧w'.cell? ⟨bv,ov+2,none⟩=some (.int .i64 x1)∧w'.cell? ⟨bv,ov+2+1,none⟩=some (.int .i64 y1)∧w'.cell? ⟨bv,ov+4,none⟩=some (.int .i64 x2)∧w'.cell? ⟨bv,ov+4+1,none⟩=some (.int .i64 y2)∧w'.cell? ⟨bv,ov+6,none⟩=some (.int .i64 x3)∧w'.cell? ⟨bv,ov+6+1,none⟩=some (.int .i64 y3)) hmix ?_
   generalize w1.drew=u0 at *
   refine' takeH (i:=0) (v:=_) (noDefer_of (by kernel_rfl)) rfl (by kernel_rfl) (by kernel_rfl) (by kernel_rfl) (fun _ _ _ h=>h) (by kernel_rfl) ⟨Or.inl ⟨by rfl,?hy0k10circle⟩,fun _=>rfl⟩ hS ?rest0k10circle
   case hy0k10circle =>
    intro w' hSw
    obtain ⟨k0,k1,k2,k3,k4,k5,k6,k7⟩:=hSw
    go_simp
    rfl
   simp only [Act.put,getElem_toArray,getElem_cons_zero,setIfInBounds_toArray,set_cons_zero,set_cons_succ]
   refine' takeH (i:=1) (v:=_) (noDefer_of (by kernel_rfl)) rfl (by kernel_rfl) (by kernel_rfl) (by kernel_rfl) (fun _ _ _ h=>h) (by kernel_rfl) ⟨Or.inl ⟨by rfl,?hy1k11circle⟩,fun _=>rfl⟩ hS ?rest1k11circle
   case hy1k11circle =>
    intro w' hSw
    obtain ⟨k0,k1,k2,k3,k4,k5,k6,k7⟩:=hSw
    go_simp
    rfl
   simp only [Act.put,getElem_toArray,getElem_cons_succ,getElem_cons_zero,setIfInBounds_toArray,set_cons_zero,set_cons_succ]
   refine' takeH (i:=2) (v:=_) (noDefer_of (by kernel_rfl)) rfl (by kernel_rfl) (by kernel_rfl) (by kernel_rfl) (fun _ _ _ h=>h) (by kernel_rfl) ⟨Or.inl ⟨by rfl,?hy2k12circle⟩,fun _=>rfl⟩ hS ?rest2k12circle
   case hy2k12circle =>
    intro w' hSw
    obtain ⟨k0,k1,k2,k3,k4,k5,k6,k7⟩:=hSw
    go_simp
    rfl
   simp only [Act.put,getElem_toArray,getElem_cons_succ,getElem_cons_zero,setIfInBounds_toArray,set_cons_zero,set_cons_succ]
   refine' takeH (i:=3) (v:=_) (noDefer_of (by kernel_rfl)) rfl (by kernel_rfl) (by kernel_rfl) (by kernel_rfl) (fun _ _ _ h=>h) (by kernel_rfl) ⟨Or.inl ⟨by rfl,?hy3k13circle⟩,fun _=>rfl⟩ hS ?rest3k13circle
   case hy3k13circle =>
    intro w' hSw
    obtain ⟨k0,k1,k2,k3,k4,k5,k6,k7⟩:=hSw
    go_simp
    rfl
   simp only [Act.put,getElem_toArray,getElem_cons_succ,getElem_cons_zero,setIfInBounds_toArray,set_cons_zero,set_cons_succ]
   refine' takeH (i:=4) (v:=_) (noDefer_of (by kernel_rfl)) rfl (by kernel_rfl) (by kernel_rfl) (by kernel_rfl) (fun _ _ _ h=>h) (by kernel_rfl) ⟨Or.inl ⟨by rfl,?hy4k14circle⟩,fun _=>rfl⟩ hS ?rest4k14circle
   case hy4k14circle =>
    intro w' hSw
    obtain ⟨k0,k1,k2,k3,k4,k5,k6,k7⟩:=hSw
    go_simp
    rfl
   simp only [Act.put,getElem_toArray,getElem_cons_succ,getElem_cons_zero,setIfInBounds_toArray,set_cons_zero,set_cons_succ]
   refine' takeH (i:=5) (v:=_) (noDefer_of (by kernel_rfl)) rfl (by kernel_rfl) (by kernel_rfl) (by kernel_rfl) (fun _ _ _ h=>h) (by kernel_rfl) ⟨Or.inl ⟨by rfl,?hy5k15circle⟩,fun _=>rfl⟩ hS ?rest5k15circle
   case hy5k15circle =>
    intro w' hSw
    obtain ⟨k0,k1,k2,k3,k4,k5,k6,k7⟩:=hSw
    go_simp
    rfl
   simp only [Act.put,getElem_toArray,getElem_cons_succ,getElem_cons_zero,setIfInBounds_toArray,set_cons_zero,set_cons_succ]
   refine' takeH (i:=6) (v:=_) (noDefer_of (by kernel_rfl)) rfl (by kernel_rfl) (by kernel_rfl) (by kernel_rfl) (fun _ _ _ h=>h) (by kernel_rfl) ⟨Or.inl ⟨by rfl,?hy6k16circle⟩,fun _=>rfl⟩ hS ?rest6k16circle
   case hy6k16circle =>
    intro w' hSw
    obtain ⟨k0,k1,k2,k3,k4,k5,k6,k7⟩:=hSw
    go_simp
    rfl
   simp only [Act.put,getElem_toArray,getElem_cons_succ,getElem_cons_zero,setIfInBounds_toArray,set_cons_zero,set_cons_succ]
   refine' takeH (i:=7) (v:=_) (noDefer_of (by kernel_rfl)) rfl (by kernel_rfl) (by kernel_rfl) (by kernel_rfl) (fun _ _ _ h=>h) (by kernel_rfl) ⟨Or.inl ⟨by rfl,?hy7k17circle⟩,fun _=>rfl⟩ hS ?rest7k17circle
   case hy7k17circle =>
    intro w' hSw
    obtain ⟨k0,k1,k2,k3,k4,k5,k6,k7⟩:=hSw
    go_simp
    rfl
   simp only [Act.put,getElem_toArray,getElem_cons_succ,getElem_cons_zero,setIfInBounds_toArray,set_cons_zero,set_cons_succ]
   refine' takeH (i:=8) (v:=_) (noDefer_of (by kernel_rfl)) rfl (by kernel_rfl) (by kernel_rfl) (by kernel_rfl) (fun _ _ _ h=>h) (by kernel_rfl) ⟨Or.inl ⟨by rfl,?hy8k18circle⟩,fun _=>rfl⟩ hS ?rest8k18circle
   case hy8k18circle =>
    intro w' hSw
    obtain ⟨k0,k1,k2,k3,k4,k5,k6,k7⟩:=hSw
    go_simp
    rfl
   simp only [Act.put,getElem_toArray,getElem_cons_succ,getElem_cons_zero,setIfInBounds_toArray,set_cons_zero,set_cons_succ]
   refine' takeH (i:=9) (v:=_) (noDefer_of (by kernel_rfl)) rfl (by kernel_rfl) (by kernel_rfl) (by kernel_rfl) (fun _ _ _ h=>h) (by kernel_rfl) ⟨Or.inl ⟨by rfl,?hy9k19circle⟩,fun _=>rfl⟩ hS ?rest9k19circle
   case hy9k19circle =>
    intro w' hSw
    obtain ⟨k0,k1,k2,k3,k4,k5,k6,k7⟩:=hSw
    go_simp
    rfl
   simp only [Act.put,getElem_toArray,getElem_cons_succ,getElem_cons_zero,setIfInBounds_toArray,set_cons_zero,set_cons_succ]
   refine' takeH (i:=10) (v:=_) (noDefer_of (by kernel_rfl)) rfl (by kernel_rfl) (by kernel_rfl) (by kernel_rfl) (fun _ _ _ h=>h) (by kernel_rfl) ⟨Or.inl ⟨by rfl,?hy10k20circle⟩,fun _=>rfl⟩ hS ?rest10k20circle
   case hy10k20circle =>
    intro w' hSw
    obtain ⟨k0,k1,k2,k3,k4,k5,k6,k7⟩:=hSw
    go_simp
    rfl
   simp only [Act.put,getElem_toArray,getElem_cons_succ,getElem_cons_zero,setIfInBounds_toArray,set_cons_zero,set_cons_succ]
   refine' takeH (i:=11) (v:=_) (noDefer_of (by kernel_rfl)) rfl (by kernel_rfl) (by kernel_rfl) (by kernel_rfl) (fun _ _ _ h=>h) (by kernel_rfl) ⟨Or.inl ⟨by rfl,?hy11k21circle⟩,fun _=>rfl⟩ hS ?rest11k21circle
   case hy11k21circle =>
    intro w' hSw
    obtain ⟨k0,k1,k2,k3,k4,k5,k6,k7⟩:=hSw
    go_simp
    rfl
   simp only [Act.put,getElem_toArray,getElem_cons_succ,getElem_cons_zero,setIfInBounds_toArray,set_cons_zero,set_cons_succ]
   refine oneH (i:=12) (by kernel_rfl) rfl ?_
   intro K hK
   rw [if_pos (by rfl)]
   go_simp
   refine ⟨trivial,?_⟩
   refine (callsIn_wide.2 (HFE.out u0 HBD.out)).mono ?_
   rintro e y1 ⟨rfl,hb_y1⟩
   have hS1:=HK3.out _ _ HBD.out hS hb_y1
   have HBX:=bl_step HBD.out hb_y1
   refine hK.out _ _ (fun _=>hS1) ?_
   clear hK K
   (try simp only [Act.put,getElem_toArray,getElem_cons_succ,getElem_cons_zero,setIfInBounds_toArray,set_cons_zero,set_cons_succ])
   refine oneH (i:=13) (by kernel_rfl) rfl ?_
   intro K hK
   rw [if_pos (by rfl)]
   go_simp
   refine ⟨trivial,?_⟩
   refine (callsIn_wide.2 (HFI.out y1 HBX)).mono ?_
   rintro e y2 ⟨rfl,hb_y2⟩
   have hS2:=HK3.out _ _ HBX hS1 hb_y2
   have HBY:=bl_step HBX hb_y2
   refine hK.out _ _ (fun _=>hS2) ?_
   clear hK K
   (try simp only [Act.put,getElem_toArray,getElem_cons_succ,getElem_cons_zero,setIfInBounds_toArray,set_cons_zero,set_cons_succ])
   refine oneH (i:=14) (by kernel_rfl) rfl ?_
   intro K hK
   rw [if_pos (by rfl)]
   go_simp
   refine hK.out _ _ (fun _=>hS2) ?_
   clear hK K
   (try simp only [Act.put,getElem_toArray,getElem_cons_succ,getElem_cons_zero,setIfInBounds_toArray,set_cons_zero,set_cons_succ])
   refine doneH (by kernel_rfl) ?_ _
   gi_wp2
   go_ret
   rw [HE.out]
   exact ⟨rfl,HST.out _ (bl_step HB1.out HBY)⟩
 · have HE:Hid (circleR l σ=(errT 11,σ)):=hide (by
    unfold circleR
    split
    · rename_i p0 p1 p2 p3 hp
      exact absurd rfl (h1 _ hp)
    · rfl)
   have HB1:=hide hb1
   clear h1 hb1 HX
   gi_wp2_with fail
   refine ⟨trivial,?_⟩
   refine (callsIn_wide.2 (HF.out 11 (by unfold I64w;omega) _ HB1.out)).mono ?_
   rintro e w3 ⟨rfl,hb3⟩
   gi_wp2
   go_ret
   rw [HE.out]
   exact ⟨rfl,HST.out _ (bl_step HB1.out hb3)⟩
end
end
end Go.Proofs.YthnenedoblncjaaGreatDoor
