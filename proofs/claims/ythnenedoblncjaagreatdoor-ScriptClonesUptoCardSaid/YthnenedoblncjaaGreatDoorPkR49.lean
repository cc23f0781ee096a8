/- ScrPred ScrRunA ScrRunB ScrRun ScrDo ScrRunC ScrEnc ScrServe ScrAll AlvMath ScrAlive RefData Skip23 ScrLaw LawScrNil LawScrRuns -/
import Derived.Deep.RegionLaw
import Derived.Laws.BytesArg
import Derived.Shelf.Strings.Prefix
import Derived.Test.YthnenedoblncjaaGreatDoorProg
import Derived.Test.YthnenedoblncjaaGreatDoorPkR28
import Derived.Test.YthnenedoblncjaaGreatDoorPkR35
import Derived.Test.YthnenedoblncjaaGreatDoorPkR41
import Derived.Test.YthnenedoblncjaaGreatDoorPkR43
import Derived.Test.YthnenedoblncjaaGreatDoorPkR46
import Derived.Test.YthnenedoblncjaaGreatDoorPkR47
set_option maxRecDepth 1000000
set_option maxHeartbeats 8000000
namespace Go.Proofs.YthnenedoblncjaaGreatDoor
open Go.Proofs.Tryz
open List (getElem_toArray getElem_cons_succ getElem_cons_zero setIfInBounds_toArray set_cons_zero set_cons_succ)
section
open Go.RowKit Go.Shelf
attribute [local go_sem] Oper.semAt_some
theorem Mx(n:Int)(hn:Zg n)(w:World)(hp:PT w):Calls prog 48 #[.int .i64 n,.int .i64 10] w fun e w'=>e=.returned (.string (strOf (txt n)))/\Below w.heap.size w w':=by
 refine (Any.strconv_FormatInt_10 Tryz.lays173 n hn.1 hn.2 w (hp w (Below.refl _ _))).mono ?_;rintro e w' ⟨rfl,k,os,rfl⟩;refine ⟨?_,SI w k os⟩;rw [<- DW];rfl
theorem lW(x:Int):Zg x.sign:=by
 unfold Zg;rcases Int.lt_trichotomy x 0 with h|h|h
 · rw [Int.sign_eq_neg_one_of_neg h];omega
 · rw [h];decide
 · rw [Int.sign_eq_one_of_pos h];omega
theorem zdq{ps:List Pt}(h:ps.length=3):∃ a b c,ps=[a,b,c]:=by
 rcases ps with _|⟨a,_|⟨b,_|⟨c,_|⟨d,r⟩⟩⟩⟩ <;> simp at h
 exact ⟨a,b,c,rfl⟩
theorem zdr{ps:List Pt}(h:ps.length=4):∃ a b c d,ps=[a,b,c,d]:=by
 rcases ps with _|⟨a,_|⟨b,_|⟨c,_|⟨d,_|⟨e,r⟩⟩⟩⟩⟩ <;> simp at h
 exact ⟨a,b,c,d,rfl⟩
def Vl(l:List (List UInt8))(σ:St):List UInt8 × St :=
 match Yp l with
 | some [p0,p1,p2]=>(txt (Zw p0 p1 p2).sign,σ)
 | _=>(YW 11,σ)
def Vh(l:List (List UInt8))(σ:St):List UInt8 × St :=
 match Yp l with
 | some [p0,p1,p2,p3]=>(txt (Yq p0 p1 p2 p3).sign,σ)
 | _=>(YW 11,σ)
section
variable {σ:St}{sb:Nat}{gs:List Gr}{vR vQ:Value}{Wr Rd:Nat->Prop}(l:List (List UInt8))(b off c:Nat)(hc:l.length<=c)(hl:∀ x∈l,x.length<=1000000)(hn:l.length<=1000000)(w:World)(h:Qz σ sb gs vR vQ Wr Rd w)(hs:Sl w w.heap.size (some ⟨b,off,none⟩) (ZF l)){B:Nat}(he:Env B w)
include hc hl hn h hs he
theorem DC:Calls prog 91 #[.pointer (some ⟨sb,0,none⟩),.slice (some ⟨b,off,none⟩) l.length c] w (XD (Vl l σ) sb Wr Rd w):=by
 have Yv:prog.follows .mixedOrders=true:=by kernel_rfl
 have HX:=hide (QY l b off c hc hl hn 3 w hs he.tabs.mw);have HST:=hide (fun X (hb:Below w.heap.size w X)=>Step.same (Wr:=Wr) (Rd:=Rd) (sb:=sb) ⟨gs,vR,vQ,h⟩ hb);have HF:=hide (fun n (h1:Zg n) X (hb:Below w.heap.size w X)=>Yj n h1 X (he.new hb).pt);have Qs:=hide he;obtain ⟨q,hq⟩:=eE l.length;rw [<- hq] at HX ⊢;clear hc hl hn h hs he hq;refine (callsIn_wide (n:=6)).1 ?_;refine callsIn_of_wp func91 rfl trivial ?_ rfl;simp only [ntmps91,List.size_toArray,List.length_cons,List.length_nil,Nat.reduceAdd,Nat.reduceSub,Array.replicate_succ,Array.replicate_zero,List.push_toArray,List.append_toArray,List.nil_append,List.cons_append];gi_wp2_with fail;refine ⟨trivial,?_⟩;refine (callsIn_wide.2 HX.out).mono ?_;rintro e w1 ⟨hb1,⟨ps,v,h1,h2,rfl,ZT⟩|⟨h1,v,rfl⟩⟩
 · obtain ⟨p0,p1,p2,rfl⟩:=zdq (ps:=ps) (by omega);have I5:=(Tk h1).1;have hj0:PJ p0:=I5 p0 (by simp);have hj1:PJ p1:=I5 p1 (by simp);have hj2:PJ p2:=I5 p2 (by simp);obtain ⟨bv,ov,vc,rfl,hbv,hcs⟩:∃ bv ov vc,v=.slice (some ⟨bv,ov,none⟩) 3 vc/\bv<w1.heap.size/\(w1.cell? ⟨bv,ov,none⟩=some (.int .i64 p0.1)/\w1.cell? ⟨bv,ov+1,none⟩=some (.int .i64 p0.2)/\w1.cell? ⟨bv,ov+2,none⟩=some (.int .i64 p1.1)/\w1.cell? ⟨bv,ov+2+1,none⟩=some (.int .i64 p1.2)/\w1.cell? ⟨bv,ov+4,none⟩=some (.int .i64 p2.1)/\w1.cell? ⟨bv,ov+4+1,none⟩=some (.int .i64 p2.2)):=by
    obtain ⟨VA,vc,rfl,_⟩:=ZP ZT;rcases Sl.Zv ZT with h7|⟨bv,ov,rfl,hlt,hcv⟩
    · cases h7
    · exact ⟨bv,ov,vc,rfl,hlt,hcv 0 _ rfl,hcv 1 _ rfl,hcv 2 _ rfl,hcv 3 _ rfl,hcv 4 _ rfl,hcv 5 _ rfl⟩
   have HE:Hid (Vl l σ=(txt (Zw p0 p1 p2).sign,σ)):=hide (by unfold Vl;rw [h1]);obtain ⟨A,hA⟩:=eE ((Zw p0 p1 p2).sign);have HAW:Hid (Zg A):=hide (by rw [hA];exact lW _);obtain ⟨x0,y0⟩:=p0;obtain ⟨x1,y1⟩:=p1;obtain ⟨x2,y2⟩:=p2;dsimp only at hcs
   have dQ:Hid (∀ X,Below w1.heap.size w1 X->Calls prog 137 #[.agg #[.int .i64 x0,.int .i64 y0],.agg #[.int .i64 x1,.int .i64 y1],.agg #[.int .i64 x2,.int .i64 y2]] X fun e w'=>e=.returned (.int .i64 A)/\Below X.heap.size X w'):=hide fun X hX=>by
    rw [hA];exact Wh (x0,y0) (x1,y1) (x2,y2) hj0 hj1 hj2 X ((Qs.out.new hb1).new hX).tabs.mw
   have HFI:Hid (∀ X,Below w1.heap.size w1 X->Calls prog 48 #[.int .i64 A,.int .i64 10] X fun e w'=>e=.returned (.string (strOf (txt A)))/\Below X.heap.size X w'):=hide fun X hX=>Mx A HAW.out X ((Qs.out.new hb1).new hX).pt;rw [<- hA] at HE;have HB1:=hide hb1;clear ZT h1 h2 hb1 I5 hA HX hj0 hj1 hj2;have hS:w1.drew.cell? ⟨bv,ov,none⟩=some (.int .i64 x0)/\w1.drew.cell? ⟨bv,ov+1,none⟩=some (.int .i64 y0)/\w1.drew.cell? ⟨bv,ov+2,none⟩=some (.int .i64 x1)/\w1.drew.cell? ⟨bv,ov+2+1,none⟩=some (.int .i64 y1)/\w1.drew.cell? ⟨bv,ov+4,none⟩=some (.int .i64 x2)/\w1.drew.cell? ⟨bv,ov+4+1,none⟩=some (.int .i64 y2):=hcs;have Xe:Hid (Below w1.heap.size w1 w1.drew):=hide (ZV (Below.refl _ _));have HBV:=hide hbv
   have Pp:Hid (∀ X Y,Below w1.heap.size w1 X->(X.cell? ⟨bv,ov,none⟩=some (.int .i64 x0)/\X.cell? ⟨bv,ov+1,none⟩=some (.int .i64 y0)/\X.cell? ⟨bv,ov+2,none⟩=some (.int .i64 x1)/\X.cell? ⟨bv,ov+2+1,none⟩=some (.int .i64 y1)/\X.cell? ⟨bv,ov+4,none⟩=some (.int .i64 x2)/\X.cell? ⟨bv,ov+4+1,none⟩=some (.int .i64 y2))->Below X.heap.size X Y->(Y.cell? ⟨bv,ov,none⟩=some (.int .i64 x0)/\Y.cell? ⟨bv,ov+1,none⟩=some (.int .i64 y0)/\Y.cell? ⟨bv,ov+2,none⟩=some (.int .i64 x1)/\Y.cell? ⟨bv,ov+2+1,none⟩=some (.int .i64 y1)/\Y.cell? ⟨bv,ov+4,none⟩=some (.int .i64 x2)/\Y.cell? ⟨bv,ov+4+1,none⟩=some (.int .i64 y2))):=hide fun X Y hwX h hb=>by
    have hl:=Nat.lt_of_lt_of_le HBV.out hwX.size;exact ⟨(hb.cell (p:=⟨bv,ov,none⟩) hl).trans h.1,(hb.cell (p:=⟨bv,ov+1,none⟩) hl).trans h.2.1,(hb.cell (p:=⟨bv,ov+2,none⟩) hl).trans h.2.2.1,(hb.cell (p:=⟨bv,ov+2+1,none⟩) hl).trans h.2.2.2.1,(hb.cell (p:=⟨bv,ov+4,none⟩) hl).trans h.2.2.2.2.1,(hb.cell (p:=⟨bv,ov+4+1,none⟩) hl).trans h.2.2.2.2.2⟩
   clear hcs hbv;obtain ⟨g0,g1,g2,g3,g4,g5⟩:=hS;gi_wp2;have hS:w1.drew.cell? ⟨bv,ov,none⟩=some (.int .i64 x0)/\w1.drew.cell? ⟨bv,ov+1,none⟩=some (.int .i64 y0)/\w1.drew.cell? ⟨bv,ov+2,none⟩=some (.int .i64 x1)/\w1.drew.cell? ⟨bv,ov+2+1,none⟩=some (.int .i64 y1)/\w1.drew.cell? ⟨bv,ov+4,none⟩=some (.int .i64 x2)/\w1.drew.cell? ⟨bv,ov+4+1,none⟩=some (.int .i64 y2):=⟨g0,g1,g2,g3,g4,g5⟩;clear g0 g1 g2 g3 g4 g5;refine Yz 1000 (S:=fun w'=>w'.cell? ⟨bv,ov,none⟩=some (.int .i64 x0)/\w'.cell? ⟨bv,ov+1,none⟩=some (.int .i64 y0)/\w'.cell? ⟨bv,ov+2,none⟩=some (.int .i64 x1)/\w'.cell? ⟨bv,ov+2+1,none⟩=some (.int .i64 y1)/\w'.cell? ⟨bv,ov+4,none⟩=some (.int .i64 x2)/\w'.cell? ⟨bv,ov+4+1,none⟩=some (.int .i64 y2)) Yv ?_;generalize w1.drew=u0 at *;refine' Z0 (i:=0) rfl ?BO hS ?dw
   case BO =>
    intro w' hSw;obtain ⟨k0,k1,k2,k3,k4,k5⟩:=hSw;go_simp;rfl
   simp only [Act.put,getElem_toArray,getElem_cons_zero,setIfInBounds_toArray,set_cons_zero,set_cons_succ];refine' Z0 (i:=1) rfl ?BP hS ?dx
   case BP =>
    intro w' hSw;obtain ⟨k0,k1,k2,k3,k4,k5⟩:=hSw;go_simp;rfl
   simp only [Act.put,Z6];refine' Z0 (i:=2) rfl ?BS hS ?dA
   case BS =>
    intro w' hSw;obtain ⟨k0,k1,k2,k3,k4,k5⟩:=hSw;go_simp;rfl
   simp only [Act.put,Z6];refine' Z0 (i:=3) rfl ?BU hS ?dB
   case BU =>
    intro w' hSw;obtain ⟨k0,k1,k2,k3,k4,k5⟩:=hSw;go_simp;rfl
   simp only [Act.put,Z6];refine' Z0 (i:=4) rfl ?BZ hS ?dD
   case BZ =>
    intro w' hSw;obtain ⟨k0,k1,k2,k3,k4,k5⟩:=hSw;go_simp;rfl
   simp only [Act.put,Z6];refine' Z0 (i:=5) rfl ?Ca hS ?dF
   case Ca =>
    intro w' hSw;obtain ⟨k0,k1,k2,k3,k4,k5⟩:=hSw;go_simp;rfl
   simp only [Act.put,Z6];refine' Z0 (i:=6) rfl ?Cb hS ?dG
   case Cb =>
    intro w' hSw;obtain ⟨k0,k1,k2,k3,k4,k5⟩:=hSw;go_simp;rfl
   simp only [Act.put,Z6];refine' Z0 (i:=7) rfl ?Cc hS ?dH
   case Cc =>
    intro w' hSw;obtain ⟨k0,k1,k2,k3,k4,k5⟩:=hSw;go_simp;rfl
   simp only [Act.put,Z6];refine' Z0 (i:=8) rfl ?Ce hS ?dI
   case Ce =>
    intro w' hSw;obtain ⟨k0,k1,k2,k3,k4,k5⟩:=hSw;go_simp;rfl
   simp only [Act.put,Z6];refine Zc (i:=9) (by kernel_rfl) rfl ?_;intro K hK;rw [if_pos (by rfl)];go_simp;refine ⟨trivial,?_⟩;refine (callsIn_wide.2 (dQ.out u0 Xe.out)).mono ?_;rintro e y1 ⟨rfl,UY⟩;have hS1:=Pp.out _ _ Xe.out hS UY;have Nb:=Z8 Xe.out UY;refine hK.out _ _ (fun _=>hS1) ?_;clear hK K
   (try simp only [Act.put,Z6])
   refine Zc (i:=10) (by kernel_rfl) rfl ?_;intro K hK;rw [if_pos (by rfl)];go_simp;refine ⟨trivial,?_⟩;refine (callsIn_wide.2 (HFI.out y1 Nb)).mono ?_;rintro e y2 ⟨rfl,Ws⟩;have hS2:=Pp.out _ _ Nb hS1 Ws;have Uq:=Z8 Nb Ws;refine hK.out _ _ (fun _=>hS2) ?_;clear hK K
   (try simp only [Act.put,Z6])
   refine Zc (i:=11) (by kernel_rfl) rfl ?_;intro K hK;rw [if_pos (by rfl)];go_simp;refine hK.out _ _ (fun _=>hS2) ?_;clear hK K
   (try simp only [Act.put,Z6])
   refine Yc (by kernel_rfl) ?_ _;gi_wp2;go_ret;rw [HE.out];exact ⟨rfl,HST.out _ (Z8 HB1.out Uq)⟩
 · have HE:Hid (Vl l σ=(YW 11,σ)):=hide (by
    unfold Vl;split
    · rename_i p0 p1 p2 hp
      exact absurd rfl (h1 _ hp)
    · rfl)
   have HB1:=hide hb1;clear h1 hb1 HX;gi_wp2_with fail;refine ⟨trivial,?_⟩;refine (callsIn_wide.2 (HF.out 11 (by unfold Zg;omega) _ HB1.out)).mono ?_;rintro e w3 ⟨rfl,hb3⟩;gi_wp2;go_ret;rw [HE.out];exact ⟨rfl,HST.out _ (Z8 HB1.out hb3)⟩
theorem Dt:Calls prog 92 #[.pointer (some ⟨sb,0,none⟩),.slice (some ⟨b,off,none⟩) l.length c] w (XD (Vh l σ) sb Wr Rd w):=by
 have Yv:prog.follows .mixedOrders=true:=by kernel_rfl
 have HX:=hide (QY l b off c hc hl hn 4 w hs he.tabs.mw);have HST:=hide (fun X (hb:Below w.heap.size w X)=>Step.same (Wr:=Wr) (Rd:=Rd) (sb:=sb) ⟨gs,vR,vQ,h⟩ hb);have HF:=hide (fun n (h1:Zg n) X (hb:Below w.heap.size w X)=>Yj n h1 X (he.new hb).pt);have Qs:=hide he;obtain ⟨q,hq⟩:=eE l.length;rw [<- hq] at HX ⊢;clear hc hl hn h hs he hq;refine (callsIn_wide (n:=6)).1 ?_;refine callsIn_of_wp func92 rfl trivial ?_ rfl;simp only [ntmps92,List.size_toArray,List.length_cons,List.length_nil,Nat.reduceAdd,Nat.reduceSub,Array.replicate_succ,Array.replicate_zero,List.push_toArray,List.append_toArray,List.nil_append,List.cons_append];gi_wp2_with fail;refine ⟨trivial,?_⟩;refine (callsIn_wide.2 HX.out).mono ?_;rintro e w1 ⟨hb1,⟨ps,v,h1,h2,rfl,ZT⟩|⟨h1,v,rfl⟩⟩
 · obtain ⟨p0,p1,p2,p3,rfl⟩:=zdr (ps:=ps) (by omega);have I5:=(Tk h1).1;have hj0:PJ p0:=I5 p0 (by simp);have hj1:PJ p1:=I5 p1 (by simp);have hj2:PJ p2:=I5 p2 (by simp);have hj3:PJ p3:=I5 p3 (by simp);obtain ⟨bv,ov,vc,rfl,hbv,hcs⟩:∃ bv ov vc,v=.slice (some ⟨bv,ov,none⟩) 4 vc/\bv<w1.heap.size/\(w1.cell? ⟨bv,ov,none⟩=some (.int .i64 p0.1)/\w1.cell? ⟨bv,ov+1,none⟩=some (.int .i64 p0.2)/\w1.cell? ⟨bv,ov+2,none⟩=some (.int .i64 p1.1)/\w1.cell? ⟨bv,ov+2+1,none⟩=some (.int .i64 p1.2)/\w1.cell? ⟨bv,ov+4,none⟩=some (.int .i64 p2.1)/\w1.cell? ⟨bv,ov+4+1,none⟩=some (.int .i64 p2.2)/\w1.cell? ⟨bv,ov+6,none⟩=some (.int .i64 p3.1)/\w1.cell? ⟨bv,ov+6+1,none⟩=some (.int .i64 p3.2)):=by
    obtain ⟨VA,vc,rfl,_⟩:=ZP ZT;rcases Sl.Zv ZT with h7|⟨bv,ov,rfl,hlt,hcv⟩
    · cases h7
    · exact ⟨bv,ov,vc,rfl,hlt,hcv 0 _ rfl,hcv 1 _ rfl,hcv 2 _ rfl,hcv 3 _ rfl,hcv 4 _ rfl,hcv 5 _ rfl,hcv 6 _ rfl,hcv 7 _ rfl⟩
   have HE:Hid (Vh l σ=(txt (Yq p0 p1 p2 p3).sign,σ)):=hide (by unfold Vh;rw [h1]);obtain ⟨A,hA⟩:=eE ((Yq p0 p1 p2 p3).sign);have HAW:Hid (Zg A):=hide (by rw [hA];exact lW _);obtain ⟨x0,y0⟩:=p0;obtain ⟨x1,y1⟩:=p1;obtain ⟨x2,y2⟩:=p2;obtain ⟨x3,y3⟩:=p3;dsimp only at hcs
   have dQ:Hid (∀ X,Below w1.heap.size w1 X->Calls prog 138 #[.agg #[.int .i64 x0,.int .i64 y0],.agg #[.int .i64 x1,.int .i64 y1],.agg #[.int .i64 x2,.int .i64 y2],.agg #[.int .i64 x3,.int .i64 y3]] X fun e w'=>e=.returned (.int .i64 A)/\Below X.heap.size X w'):=hide fun X hX=>by
    rw [hA];exact Nq (x0,y0) (x1,y1) (x2,y2) (x3,y3) hj0 hj1 hj2 hj3 X ((Qs.out.new hb1).new hX).tabs.mw
   have HFI:Hid (∀ X,Below w1.heap.size w1 X->Calls prog 48 #[.int .i64 A,.int .i64 10] X fun e w'=>e=.returned (.string (strOf (txt A)))/\Below X.heap.size X w'):=hide fun X hX=>Mx A HAW.out X ((Qs.out.new hb1).new hX).pt;rw [<- hA] at HE;have HB1:=hide hb1;clear ZT h1 h2 hb1 I5 hA HX hj0 hj1 hj2 hj3;have hS:w1.drew.cell? ⟨bv,ov,none⟩=some (.int .i64 x0)/\w1.drew.cell? ⟨bv,ov+1,none⟩=some (.int .i64 y0)/\w1.drew.cell? ⟨bv,ov+2,none⟩=some (.int .i64 x1)/\w1.drew.cell? ⟨bv,ov+2+1,none⟩=some (.int .i64 y1)/\w1.drew.cell? ⟨bv,ov+4,none⟩=some (.int .i64 x2)/\w1.drew.cell? ⟨bv,ov+4+1,none⟩=some (.int .i64 y2)/\w1.drew.cell? ⟨bv,ov+6,none⟩=some (.int .i64 x3)/\w1.drew.cell? ⟨bv,ov+6+1,none⟩=some (.int .i64 y3):=hcs;have Xe:Hid (Below w1.heap.size w1 w1.drew):=hide (ZV (Below.refl _ _));have HBV:=hide hbv
   have Pp:Hid (∀ X Y,Below w1.heap.size w1 X->(X.cell? ⟨bv,ov,none⟩=some (.int .i64 x0)/\X.cell? ⟨bv,ov+1,none⟩=some (.int .i64 y0)/\X.cell? ⟨bv,ov+2,none⟩=some (.int .i64 x1)/\X.cell? ⟨bv,ov+2+1,none⟩=some (.int .i64 y1)/\X.cell? ⟨bv,ov+4,none⟩=some (.int .i64 x2)/\X.cell? ⟨bv,ov+4+1,none⟩=some (.int .i64 y2)/\X.cell? ⟨bv,ov+6,none⟩=some (.int .i64 x3)/\X.cell? ⟨bv,ov+6+1,none⟩=some (.int .i64 y3))->Below X.heap.size X Y->(Y.cell? ⟨bv,ov,none⟩=some (.int .i64 x0)/\Y.cell? ⟨bv,ov+1,none⟩=some (.int .i64 y0)/\Y.cell? ⟨bv,ov+2,none⟩=some (.int .i64 x1)/\Y.cell? ⟨bv,ov+2+1,none⟩=some (.int .i64 y1)/\Y.cell? ⟨bv,ov+4,none⟩=some (.int .i64 x2)/\Y.cell? ⟨bv,ov+4+1,none⟩=some (.int .i64 y2)/\Y.cell? ⟨bv,ov+6,none⟩=some (.int .i64 x3)/\Y.cell? ⟨bv,ov+6+1,none⟩=some (.int .i64 y3))):=hide fun X Y hwX h hb=>by
    have hl:=Nat.lt_of_lt_of_le HBV.out hwX.size;exact ⟨(hb.cell (p:=⟨bv,ov,none⟩) hl).trans h.1,(hb.cell (p:=⟨bv,ov+1,none⟩) hl).trans h.2.1,(hb.cell (p:=⟨bv,ov+2,none⟩) hl).trans h.2.2.1,(hb.cell (p:=⟨bv,ov+2+1,none⟩) hl).trans h.2.2.2.1,(hb.cell (p:=⟨bv,ov+4,none⟩) hl).trans h.2.2.2.2.1,(hb.cell (p:=⟨bv,ov+4+1,none⟩) hl).trans h.2.2.2.2.2.1,(hb.cell (p:=⟨bv,ov+6,none⟩) hl).trans h.2.2.2.2.2.2.1,(hb.cell (p:=⟨bv,ov+6+1,none⟩) hl).trans h.2.2.2.2.2.2.2⟩
   clear hcs hbv;obtain ⟨g0,g1,g2,g3,g4,g5,g6,g7⟩:=hS;gi_wp2;have hS:w1.drew.cell? ⟨bv,ov,none⟩=some (.int .i64 x0)/\w1.drew.cell? ⟨bv,ov+1,none⟩=some (.int .i64 y0)/\w1.drew.cell? ⟨bv,ov+2,none⟩=some (.int .i64 x1)/\w1.drew.cell? ⟨bv,ov+2+1,none⟩=some (.int .i64 y1)/\w1.drew.cell? ⟨bv,ov+4,none⟩=some (.int .i64 x2)/\w1.drew.cell? ⟨bv,ov+4+1,none⟩=some (.int .i64 y2)/\w1.drew.cell? ⟨bv,ov+6,none⟩=some (.int .i64 x3)/\w1.drew.cell? ⟨bv,ov+6+1,none⟩=some (.int .i64 y3):=⟨g0,g1,g2,g3,g4,g5,g6,g7⟩;clear g0 g1 g2 g3 g4 g5 g6 g7;refine Yz 1000 (S:=fun w'=>w'.cell? ⟨bv,ov,none⟩=some (.int .i64 x0)/\w'.cell? ⟨bv,ov+1,none⟩=some (.int .i64 y0)/\w'.cell? ⟨bv,ov+2,none⟩=some (.int .i64 x1)/\w'.cell? ⟨bv,ov+2+1,none⟩=some (.int .i64 y1)/\w'.cell? ⟨bv,ov+4,none⟩=some (.int .i64 x2)/\w'.cell? ⟨bv,ov+4+1,none⟩=some (.int .i64 y2)/\w'.cell? ⟨bv,ov+6,none⟩=some (.int .i64 x3)/\w'.cell? ⟨bv,ov+6+1,none⟩=some (.int .i64 y3)) Yv ?_;generalize w1.drew=u0 at *;refine' Z0 (i:=0) rfl ?EP hS ?kW
   case EP =>
    intro w' hSw;obtain ⟨k0,k1,k2,k3,k4,k5,k6,k7⟩:=hSw;go_simp;rfl
   simp only [Act.put,getElem_toArray,getElem_cons_zero,setIfInBounds_toArray,set_cons_zero,set_cons_succ];refine' Z0 (i:=1) rfl ?ER hS ?kX
   case ER =>
    intro w' hSw;obtain ⟨k0,k1,k2,k3,k4,k5,k6,k7⟩:=hSw;go_simp;rfl
   simp only [Act.put,Z6];refine' Z0 (i:=2) rfl ?ES hS ?kY
   case ES =>
    intro w' hSw;obtain ⟨k0,k1,k2,k3,k4,k5,k6,k7⟩:=hSw;go_simp;rfl
   simp only [Act.put,Z6];refine' Z0 (i:=3) rfl ?ET hS ?kZ
   case ET =>
    intro w' hSw;obtain ⟨k0,k1,k2,k3,k4,k5,k6,k7⟩:=hSw;go_simp;rfl
   simp only [Act.put,Z6];refine' Z0 (i:=4) rfl ?EU hS ?lq
   case EU =>
    intro w' hSw;obtain ⟨k0,k1,k2,k3,k4,k5,k6,k7⟩:=hSw;go_simp;rfl
   simp only [Act.put,Z6];refine' Z0 (i:=5) rfl ?EW hS ?lu
   case EW =>
    intro w' hSw;obtain ⟨k0,k1,k2,k3,k4,k5,k6,k7⟩:=hSw;go_simp;rfl
   simp only [Act.put,Z6];refine' Z0 (i:=6) rfl ?EZ hS ?lC
   case EZ =>
    intro w' hSw;obtain ⟨k0,k1,k2,k3,k4,k5,k6,k7⟩:=hSw;go_simp;rfl
   simp only [Act.put,Z6];refine' Z0 (i:=7) rfl ?E8 hS ?lD
   case E8 =>
    intro w' hSw;obtain ⟨k0,k1,k2,k3,k4,k5,k6,k7⟩:=hSw;go_simp;rfl
   simp only [Act.put,Z6];refine' Z0 (i:=8) rfl ?E9 hS ?lF
   case E9 =>
    intro w' hSw;obtain ⟨k0,k1,k2,k3,k4,k5,k6,k7⟩:=hSw;go_simp;rfl
   simp only [Act.put,Z6];refine' Z0 (i:=9) rfl ?Fa hS ?lG
   case Fa =>
    intro w' hSw;obtain ⟨k0,k1,k2,k3,k4,k5,k6,k7⟩:=hSw;go_simp;rfl
   simp only [Act.put,Z6];refine' Z0 (i:=10) rfl ?I7 hS ?ny
   case I7 =>
    intro w' hSw;obtain ⟨k0,k1,k2,k3,k4,k5,k6,k7⟩:=hSw;go_simp;rfl
   simp only [Act.put,Z6];refine' Z0 (i:=11) rfl ?I8 hS ?nA
   case I8 =>
    intro w' hSw;obtain ⟨k0,k1,k2,k3,k4,k5,k6,k7⟩:=hSw;go_simp;rfl
   simp only [Act.put,Z6];refine Zc (i:=12) (by kernel_rfl) rfl ?_;intro K hK;rw [if_pos (by rfl)];go_simp;refine ⟨trivial,?_⟩;refine (callsIn_wide.2 (dQ.out u0 Xe.out)).mono ?_;rintro e y1 ⟨rfl,UY⟩;have hS1:=Pp.out _ _ Xe.out hS UY;have Nb:=Z8 Xe.out UY;refine hK.out _ _ (fun _=>hS1) ?_;clear hK K
   (try simp only [Act.put,Z6])
   refine Zc (i:=13) (by kernel_rfl) rfl ?_;intro K hK;rw [if_pos (by rfl)];go_simp;refine ⟨trivial,?_⟩;refine (callsIn_wide.2 (HFI.out y1 Nb)).mono ?_;rintro e y2 ⟨rfl,Ws⟩;have hS2:=Pp.out _ _ Nb hS1 Ws;have Uq:=Z8 Nb Ws;refine hK.out _ _ (fun _=>hS2) ?_;clear hK K
   (try simp only [Act.put,Z6])
   refine Zc (i:=14) (by kernel_rfl) rfl ?_;intro K hK;rw [if_pos (by rfl)];go_simp;refine hK.out _ _ (fun _=>hS2) ?_;clear hK K
   (try simp only [Act.put,Z6])
   refine Yc (by kernel_rfl) ?_ _;gi_wp2;go_ret;rw [HE.out];exact ⟨rfl,HST.out _ (Z8 HB1.out Uq)⟩
 · have HE:Hid (Vh l σ=(YW 11,σ)):=hide (by
    unfold Vh;split
    · rename_i p0 p1 p2 p3 hp
      exact absurd rfl (h1 _ hp)
    · rfl)
   have HB1:=hide hb1;clear h1 hb1 HX;gi_wp2_with fail;refine ⟨trivial,?_⟩;refine (callsIn_wide.2 (HF.out 11 (by unfold Zg;omega) _ HB1.out)).mono ?_;rintro e w3 ⟨rfl,hb3⟩;gi_wp2;go_ret;rw [HE.out];exact ⟨rfl,HST.out _ (Z8 HB1.out hb3)⟩
end
end
section
open Go.RowKit Go.Shelf
def Vy(σ:St):bU:=(YO (σ.1.map cg) σ.2).1
def runT(σ:St):List UInt8 :=
 if (Vy σ).val=0 then [105,110,118,97,108,105,100] else Lib.join (txt (Vy σ).cnt::((Vy σ).recs.take (Vy σ).cnt.toNat).map fun r=>NY r.2.toNat) [32]
theorem bD{σ:St}{sb:Nat}{gs:List Gr}{RA QA:Option Addr}{n rc m qc:Nat}{Wr Rd:Nat->Prop}{X:World}(h:Qz σ sb gs (.slice RA n rc) (.slice QA m qc) Wr Rd X)(hn:n=gs.length)(hm:m=σ.2.length)(hw:MW X):
 Calls prog 147 #[.pointer none,.slice RA n rc,.slice QA m qc] X fun e w'=>∃ A c er,(Vy σ).recs.length<=c/\e=.returned (.tuple #[.agg #[.int .i64 (Vy σ).val,.int .i64 (Vy σ).cnt,.slice A (Vy σ).recs.length c],.int .i64 er])/\Below X.heap.size X w'/\Sl w' w'.heap.size A (Zb (Vy σ).recs):=by
 subst hn;subst hm;have hh:∀ g∈gs,g.1.n=g.2.length:=fun g hg=>(h.ZY g hg).1;have e1:YO (σ.1.map cg) σ.2=YO gs σ.2:=by rw [<- h.data,tO,JI hh]
 unfold Vy;rw [e1];refine (Dq (fun k=>k<X.heap.size) none [] gs RA rc σ.2 QA qc (fun q hq=>(h.small.2.1 q hq).1) (fun q hq=>(h.small.2.1 q hq).2) X (fun k h=>h) hw.2 ((Sl.Zv h.rows).lX fun _ h=>h) (fun g hg=>⟨hh g hg,(h.ZY g hg).2.mono h.zV,(h.small.1 g hg).1,by have:=(h.small.1 g hg).2;omega⟩) ((Sl.Zv h.VW).lX fun _ h=>h) hw trivial (.inl rfl)).mono ?_;rintro e w' ⟨A,c,hc,rfl,hk,-,hs⟩;exact ⟨A,c,_,hc,rfl,⟨hk.os,hk.tape,hk.output,hk.size,hk.block⟩,hs⟩
theorem kU{X:World}{g A0:Nat}{rs:List (Int × Int)}{A:Option Addr}(hb:Z7 X g 175 #[.int .i64 0,.int .i64 0,.slice none 0 0])(hs:Sl X A0 A (Zb rs)):Zb rs=[]\/∃ b off,A=some ⟨b,off,none⟩/\b≠g/\b<A0/\∀ j u,(Zb rs)[j]?=some u->X.cell? ⟨b,off+j,none⟩=some u:=by
 rcases hs with h0|⟨b,off,hA,hlt,hc⟩
 · exact .inl h0
 · cases rs with
   | nil=>exact .inl rfl
   | cons r rs =>
     refine .inr ⟨b,off,hA,fun e=>?_,hlt,hc⟩;subst e;have h1:=hc 0 (.int .u64 r.1) rfl;rw [Nat.add_zero] at h1
     match off,h1 with
     | 0,h1=>rw [hb.cell (i:=0) (v:=.int .i64 0) rfl] at h1;cases h1
     | 1,h1=>rw [hb.cell (i:=1) (v:=.int .i64 0) rfl] at h1;cases h1
     | 2,h1=>rw [hb.cell (i:=2) (v:=.slice none 0 0) rfl] at h1;cases h1
     | k+3,h1 =>
       have h2:X.cell? ⟨b,k+3,none⟩=none:=by
        unfold Z7 at hb;simp [World.cell?,hb]
       rw [h2] at h1;cases h1
theorem rz{X:World}{g:Nat}{rs:List (Int × Int)}{A:Option Addr}(hb:Z7 X g 175 #[.int .i64 0,.int .i64 0,.slice none 0 0])(hs:Sl X X.heap.size A (Zb rs))(x y z:Value):
 Sl (((X.setCell ⟨g,0,none⟩ x).setCell ⟨g,1,none⟩ y).setCell ⟨g,2,none⟩ z) (((X.setCell ⟨g,0,none⟩ x).setCell ⟨g,1,none⟩ y).setCell ⟨g,2,none⟩ z).heap.size A (Zb rs):=by
 rcases kU hb hs with h0|⟨b,off,rfl,hne,hlt,hc⟩
 · exact .inl h0
 · refine Sl.mk (by simp;omega) fun j u hu=>?_;rw [World.cell?_setCell_other _ _ _ _ (fun e=>by injection e with e;exact hne e.symm),World.cell?_setCell_other _ _ _ _ (fun e=>by injection e with e;exact hne e.symm),World.cell?_setCell_other _ _ _ _ (fun e=>by injection e with e;exact hne e.symm)];exact hc j u hu
theorem bB(σ:St)(hq:∀ q∈σ.2,Ua q.2):(∃ k:Nat,(Vy σ).cnt=(k:Int)/\k<=(Vy σ).recs.length)/\(∀ r∈(Vy σ).recs,Ua r.2)/\(Vy σ).recs.length<=σ.2.length/\((Vy σ).val≠0->(Vy σ).recs≠[]):=by
 unfold Vy YO;split
 · exact ⟨⟨0,rfl,Nat.zero_le _⟩,fun r hr=>(by cases hr),Nat.zero_le _,fun h=>absurd rfl h⟩
 · rename_i hb
   have hc:=QH (σ.1.map cg) hq;have hp:=WU Y9 (Y2 (σ.1.map cg) σ.2);have hl:(Y2 (σ.1.map cg) σ.2).length=σ.2.length:=(by unfold Y2;rw [List.length_map]);refine ⟨⟨_,rfl,?_⟩,fun r hr=>?_,?_,fun _ h=>?_⟩
   · dsimp only;rw [hp.length_eq];exact Oj _ hc
   · have:=hc r (hp.mem_iff.1 hr);unfold LK at this;unfold Ua;rcases this with h|h
     · exact h.2
     · rw [h];decide
   · dsimp only;rw [hp.length_eq,hl];exact Nat.le_refl _
   · dsimp only at h;have h2:=hp.length_eq;rw [h,hl] at h2;have h3:σ.2.length=0:=h2.symm;apply hb;rw [h3];unfold XY;intro h4;split at h4
     · rename_i h5;exact h5 h4
     · rw [if_pos (by omega)] at h4;cases h4
theorem zjb{n:Nat}(sep:List UInt8)(hs:sep.length=1):∀ {xs:List (List UInt8)},(∀ x∈xs,x.length<=n)->(Lib.join xs sep).length<=(n+1)*xs.length
 | [],_=>Nat.zero_le _
 | x::r,h=>by
   have h1:=h x (List.mem_cons_self ..);have h2:∀ l:List (List UInt8),(∀ x∈l,x.length<=n)->(Lib.joinTail sep l).length<=(n+1)*l.length:=by
    intro l
    induction l with
    | nil=>intro _;exact Nat.zero_le _
    | cons y l ih =>
      intro hl;have a:=hl y (List.mem_cons_self ..);have b:=ih fun y hy=>hl y (List.mem_cons_of_mem _ hy);unfold Lib.joinTail at b ⊢;rw [List.map_cons,List.flatten_cons,List.length_append,List.length_append,hs,List.length_cons,Nat.mul_add];omega
   have h3:=h2 r fun y hy=>h y (List.mem_cons_of_mem _ hy);rw [Lib.join_cons,List.length_append,List.length_cons,Nat.mul_add];omega
theorem zxg{u:Nat}(h:u<18446744073709551616):(NY u).length<=30:=by
 have h1:(dr u).length<=19+1:=wL (Nat.lt_of_lt_of_le h (by decide));unfold NY;rw [List.length_map,List.length_reverse];omega
end
section
open Go.RowKit Go.Shelf
section
variable {σ:St}{sb:Nat}{gs:List Gr}{vR vQ:Value}{Wr Rd:Nat->Prop}{w:World}(h:Qz σ sb gs vR vQ Wr Rd w){B:Nat}(he:Env B w)(bx:Nat)(hbx:Z7 w bx 24 #[.pointer (some ⟨sb,0,none⟩)])
include h he hbx
theorem lI:Calls prog 146 #[.pointer (some ⟨bx,0,none⟩)] w fun e w'=>e=.returned (.string (strOf (runT σ)))/\Below w.heap.size w w':=by
 obtain ⟨RA,rc,rfl,_⟩:=ZP h.rows;obtain ⟨QA,qc,rfl,_⟩:=ZP h.VW;have c0:=h.blk.cell (i:=0) (v:=.slice RA gs.length rc) rfl;have c1:=h.blk.cell (i:=1) (v:=.slice QA σ.2.length qc) rfl;have cb:=hbx.cell (i:=0) (v:=.pointer (some ⟨sb,0,none⟩)) rfl;obtain ⟨n,hn⟩:=eE gs.length;obtain ⟨m,hm⟩:=eE σ.2.length
 have HR:Hid (∀ X,Below w.heap.size w X->Calls prog 147 #[.pointer none,.slice RA n rc,.slice QA m qc] X fun e w'=>∃ A c er,(Vy σ).recs.length<=c/\e=.returned (.tuple #[.agg #[.int .i64 (Vy σ).val,.int .i64 (Vy σ).cnt,.slice A (Vy σ).recs.length c],.int .i64 er])/\Below X.heap.size X w'/\Sl w' w'.heap.size A (Zb (Vy σ).recs)):=hide fun X hX=>by
  rw [hn,hm];exact bD (h.below hX) rfl rfl (he.new hX).tabs.mw
 have Qs:=hide he;rw [<- hn] at c0;rw [<- hm] at c1;obtain ⟨a,ha⟩:=eE (Vy σ);have HT:Hid (runT σ=if a.val=0 then [105,110,118,97,108,105,100] else Lib.join (txt a.cnt::(a.recs.take a.cnt.toNat).map fun r=>NY r.2.toNat) [32]):=hide (by rw [ha];rfl);have Ud:=hide (bB σ fun q hq=>(h.small.2.1 q hq).2);have HQ4:=hide h.small.2.2.2;rw [<- ha] at HR Ud;have hbl:=hbx.lt;have hsb:=h.blk.lt;clear h he hbx hn hm ha;go_enter func146,ntmps146
 go_upto_region 2 with fail
 go_cut [2] from 3 to 18 (fun p wc=>∃ g A c,p=.pointer (some ⟨g,0,none⟩)/\a.recs.length<=c/\Below w.heap.size w wc/\w.heap.size<=g/\Z7 wc g 175 #[.int .i64 a.val,.int .i64 a.cnt,.slice A a.recs.length c]/\Sl wc wc.heap.size A (Zb a.recs))
 · have Nb:=hide hbl;go_wp2
   go_region_law (first|(go_simp;go_at_call 147;refine (HR.out _ (ZV (bA))).mono ?_;rintro e w5 ⟨A,c,er,hc5,rfl,hb5,hs5⟩;have BN:Z7 w5 w.heap.size 175 #[.int .i64 0,.int .i64 0,.slice none 0 0]:=(Z7.new _ _ _).drew.step hb5;have z0:=BN.q0 rfl;have z1:=BN.q1 rfl;have z2:=BN.q2 rfl;have f0:=BN.frozen 0;have f1:=BN.frozen 1;have f2:=BN.frozen 2)|(go_simp;go_at_call 147;refine (HR.out _ (ZV (Below.refl _ _))).mono ?_;rintro e w5 ⟨A,c,er,hc5,rfl,hb5,hs5⟩))
   all_goals
    go_wp2
    go_meet
    first
     | exact ⟨w.heap.size,A,c,rfl,hc5,(((Z8 (ZV (bA)) hb5).setCell (Nat.le_refl _) _).setCell (Nat.le_refl _) _).setCell (Nat.le_refl _) _,Nat.le_refl _,((BN.set 0 _).set 1 _).set 2 _,rz BN hs5 _ _ _⟩
     | exact ⟨w5.heap.size,A,c,rfl,hc5,Z5 (Z8 (ZV (Below.refl _ _)) hb5) _,hb5.size,Z7.new _ _ _,(hs5.below (bA)).more (by simp)⟩
 · obtain ⟨g,A,c,rfl,hcc,hb,hg,hB,hs⟩:=hcut;have z0:=hB.cell (i:=0) (v:=.int .i64 a.val) rfl;have z1:=hB.cell (i:=1) (v:=.int .i64 a.cnt) rfl;have z2:=hB.cell (i:=2) (v:=.slice A a.recs.length c) rfl
   by_cases hv:a.val=0
   · have HE:Hid (runT σ=[105,110,118,97,108,105,100]):=hide (by rw [HT.out,if_pos hv]);have HB:=hide hb;rw [hv] at z0;clear hb hs hB HT HR;go_wp2;go_ret;rw [HE.out];exact ⟨rfl,HB.out⟩
   · obtain ⟨⟨m,hm,hml⟩,hu,hrl,hne⟩:=Ud.out;have HE:Hid (runT σ=Lib.join (txt m::(a.recs.take m).map fun r=>NY r.2.toNat) [32]):=hide (by rw [HT.out,if_neg hv,hm,Int.toNat_natCast]);have hm4:m<=4096:=by have:=HQ4.out;omega
     obtain ⟨b,off,rfl,hbs,hcs⟩:=hs.open_ (by
      cases hr:a.recs with
      | nil=>exact absurd hr (hne hv)
      | cons r l=>simp [Zb])
     obtain ⟨i0,hi,hz0,hz1,hz2⟩:=info_parts RJ;have HS:Hid (Sl wc wc.heap.size (some ⟨b,off,none⟩) (Zb a.recs)):=hide hs;have HU:=hide hu;have HB:=hide hb;have nD:=hide hB;have HIT:=hide (Ri m (by unfold Zg;omega));have vJ:=hide (Qs.out.new hb).pt;obtain ⟨N,hN⟩:=eE a.recs.length;rw [hm] at z1;rw [<- hN] at z2 hml hcc;have HN:=hide hN;have HM:=hide hm;have hvb:(a.val == 0)=false:=beq_eq_false_iff_ne.2 hv;have hmc:(m:Int)<=(c:Int):=(by omega);have hm0:(0:Int)<=(m:Int):=(by omega);clear hu hrl hne hs hbs hcs hb hB Ud HQ4 HR HT hN hm;go_wp2_with fail;refine (HIT.out _ vJ.out).mono ?_;rintro e w2 ⟨rfl,hb2⟩;obtain ⟨w3,hw3⟩:=eE (w2.alloc (.cells #[.string (strOf (txt m))] 9));obtain ⟨g3,hg3⟩:=eE w2.heap.size;have hb3:=bE hw3;have EF:=Z8 hb2 hb3;have N3:Z7 w3 g3 9 #[.string (strOf (txt m))]:=(by rw [hw3,hg3];exact Z7.new _ _ _);have A3:=nD.out.step EF;rw [<- HN.out,HM.out] at A3;have y1:=A3.cell (i:=1) (v:=.int .i64 (m:Int)) rfl;have y2:=A3.cell (i:=2) (v:=.slice (some ⟨b,off,none⟩) N c) rfl;have HN3:=hide N3;have HB3:=hide EF;have HG3:Hid (wc.heap.size<=g3):=hide (by rw [hg3];exact hb2.size);clear hb2 hb3 EF N3 A3 HIT z0 z1 z2;rw [hw3] at y1 y2;go_wp2;rw [<- hw3,<- hg3];clear hw3 hg3 y1 y2
     go_loopw [4,32] (fun v i wr=>∃ k:Nat,k<=m/\i=.int .i64 (k:Int)/\wr.ownsRow wc.heap.size 9 1 v (k+1) (ZF (txt m::(a.recs.take k).map fun r=>NY r.2.toNat))/\Below wc.heap.size wc wr)
      (fun _ i _=>m - (intOf i).toNat)
     case atStart=>exact ⟨0,Nat.zero_le _,rfl,⟨rfl,.inr ⟨g3,1,_,rfl,HG3.out,HN3.out,by decide,by decide,rfl,rfl⟩⟩,HB3.out⟩
     case round =>
      obtain ⟨k,hk,rfl,ZT,hbr⟩:=hrel
      by_cases hkm:k<m
      · have hki:(k:Int)<(m:Int):=(by omega);obtain ⟨r,hr⟩:∃ r,a.recs[k]?=some r:=⟨_,List.getElem?_eq_getElem (by rw [<- HN.out];omega)⟩;obtain ⟨b',off',hA,hbb,q0,q1⟩:=(HS.out.below hbr).aR hr;cases hA;obtain ⟨u,hu,hu64⟩:∃ u:Nat,r.2=(u:Int)/\u<18446744073709551616:=⟨r.2.toNat,by have:=HU.out r (List.mem_of_getElem? hr);unfold Ua at this;omega,by have:=HU.out r (List.mem_of_getElem? hr);unfold Ua at this;omega⟩
        have Lh:Hid (ZF (txt m::(a.recs.take (k+1)).map fun r=>NY r.2.toNat)=ZF (txt m::(a.recs.take k).map fun r=>NY r.2.toNat)++[.string (strOf (NY u))]):=hide (by
         rw [List.take_add_one,hr,List.map_append]
         simp [ZF,hu])
        obtain ⟨l1,hl1⟩:=eE r.1;rw [<- hl1] at q0;rw [hu] at q1;obtain ⟨w4,hw4⟩:=eE (wr.alloc (.cells #[.int .u64 l1,.int .u64 (u:Int)] 148));have hb4:=bE hw4;have N4:Z7 w4 wr.heap.size 148 #[.int .u64 l1,.int .u64 (u:Int)]:=(by rw [hw4];exact Z7.new _ _ _);have n0:=N4.q0 rfl;have n1:=N4.q1 rfl;have RN:=hide (Z8 hbr hb4);have HOW:=hide (ZI ZT hb4);have HFU:=hide (Bp u hu64 w4 (vJ.out.step RN.out));clear hr ZT hbr hb4 N4 hu hu64 hl1;rw [hw4] at n0 n1;go_wp2_with fail;rw [<- hw4];refine HFU.out.mono ?_;rintro e w5 ⟨rfl,hb5⟩;have N6:=Z7.new w5 9 #[.string (strOf (NY u))];have hb6:=Z5 (Below.refl w5.heap.size w5) (.cells #[.string (strOf (NY u))] 9);have VJ:=ZI (ZI HOW.out hb5) hb6;have xE:=Z8 (Z8 RN.out hb5) hb6;obtain ⟨g7,c7,w7,hr7,XU,hg7,-,-⟩:=run_append_lies (P:=prog) (w5.alloc (.cells #[.string (strOf (NY u))] 9)) 28 28 wc.heap.size 9 i0 (.string ⟨#[]⟩) 1 16 underlying28 hi hz0 hz1 hz2 rfl (by decide) _ (k+1) _ VJ ⟨w5.heap.size,0,none⟩ 1 1 [.string (strOf (NY u))] rfl (ZB N6) (by simp [Value.oneCell']) (by omega) (by unfold maxLen;omega) (by omega) xE.size _ rfl;rw [<- Lh.out] at XU;have HO7:=hide XU;have dN:=hide (xE.grown hg7 xE.size (fun j hj=>ZN VJ hj));clear XU hg7 VJ xE N6 hb6 hb5 HFU HOW RN hw4 n0 n1 q0 q1 Lh;go_wp2_with (at_builtin;refine QW (.tmp 36) (.tmp 40) 28 rfl rfl _ _ rfl rfl hr7 ?_);go_wp2;go_roundw
        case rel=>exact ⟨k+1,by omega,by go_num,HO7.out,dN.out⟩
        case measure=>simp [intOf];omega
      · obtain rfl:k=m:=(by omega);have hki:¬ (k:Int)<(k:Int):=(by omega);obtain ⟨PA,pc,rfl,hpc⟩:=ZP ZT;have hsl:=Sl.Zv ZT;obtain ⟨xs,hxs⟩:=eE (txt (k:Int)::(a.recs.take k).map fun r=>NY r.2.toNat);have hxl:xs.length=k+1:=(by rw [hxs,List.length_cons,List.length_map,List.length_take,<- HN.out];omega);rw [<- hxs] at hsl HE
        have J:=qb xs [32] PA pc wr hsl (by rw [hxl];exact hpc) (by rw [hxl];omega) (by
         have:=zjb (n:=30) [32] rfl (xs:=xs) (fun x hx=>by
          rw [hxs] at hx;rcases List.mem_cons.1 hx with rfl|hx
          · exact uZ (by unfold Zg;omega)
          · obtain ⟨r,hr,rfl⟩:=List.mem_map.1 hx;have:=HU.out r (List.mem_of_mem_take hr);unfold Ua at this
            exact zxg (by omega))
         rw [hxl] at this
         omega)
        rw [hxl] at J;have HJ:=hide J;have RN:=hide (Z8 HB.out hbr);clear ZT hsl J hbr hxs hxl;go_wp2_with fail;refine HJ.out.mono ?_;rintro e w' ⟨rfl,hb'⟩;have HB':=hide (Z8 RN.out hb');clear hb';go_wp2;go_ret;rw [HE.out];exact ⟨rfl,HB'.out⟩
end
end
section
open Go.RowKit Go.Shelf
theorem Step.before{σ':St}{sb:Nat}{Wr Rd:Nat->Prop}{X Y Z:World}(hb:Below X.heap.size X Y)(h:Step σ' sb Wr Rd Y Z):Step σ' sb Wr Rd X Z:=by
 obtain ⟨eZ,Rd',hs,a,b,k⟩:=h;have hz:=hb.size;refine ⟨eZ,Rd',hs,fun j hj=>(a j hj).imp id fun h=>by omega,fun j hj=>(b j hj).imp id fun h=>by omega,(Z9.of_below hb fun j hj=>hj.1).trans (k.mono fun j hj=>⟨by omega,hj.2⟩)⟩
theorem XK {σ:St} {sb:Nat} {Wr Rd:Nat->Prop} (L x:List UInt8) (xs:List (List UInt8)) (hL:L.length<=1000000) (hsp:sp 32 L=x::xs) (n:Nat) (hn:Xa x=n) (hn0:n≠0) (en:∀ args w,(callFunc n args).run prog w=.ok (.enter n args) w)
 (r:List UInt8 × St) (w:World) {B:Nat} (hs:UJ σ sb Wr Rd w) (he:Env B w)
 (hcall:∀ w1 bb ob c gs vR vQ,Qz σ sb gs vR vQ Wr Rd w1->Env B w1->Sl w1 w1.heap.size (some ⟨bb,ob,none⟩) (ZF xs)->xs.length<=c->Calls prog n #[.pointer (some ⟨sb,0,none⟩),.slice (some ⟨bb,ob,none⟩) xs.length c] w1 (XD r sb Wr Rd w1)) :
 Calls prog 21 #[.pointer (some ⟨sb,0,none⟩),.string (strOf L)] w (XD r sb Wr Rd w):=by
 refine (gI L x xs hL hsp n hn ⟨sb,0,none⟩ w hn0 en (fun t w'=>t=strOf r.1/\Step r.2 sb Wr Rd w w') fun w1 bb ob c hb hsl hc=>?_).mono ?_
 · obtain ⟨gs,vR,vQ,h⟩:=hs;refine (hcall w1 bb ob c gs vR vQ (h.below hb) (he.new hb) hsl hc).mono ?_;rintro e Y ⟨rfl,hst⟩;exact ⟨_,rfl,rfl,Step.before hb hst⟩
 · rintro e Y ⟨t,rfl,rfl,hst⟩;exact ⟨rfl,hst⟩
theorem sH{L x:List UInt8}{xs:List (List UInt8)}(hL:L.length<=1000000)(h:sp 32 L=x::xs):∀ y∈xs,y.length<=1000000:=fun y hy=>by
 have:=U9 32 L y (by rw [h];exact List.mem_cons_of_mem _ hy);omega
end
section
open Go.RowKit Go.Shelf
def OU(l:List (List UInt8))(σ:St):List UInt8 × St:=if l≠[] then (YW 11,σ) else if σ.1=[]\/σ.2=[] then (YW 6,σ) else (runT σ,σ)
theorem AZ:∀ args w,(callFunc 146 args).run prog w=.ok (.enter 146 args) w:=enters_of func146 (by kernel_rfl) rfl
section
variable {σ:St}{sb:Nat}{gs:List Gr}{vR vQ:Value}{Wr Rd:Nat->Prop}{w:World}
theorem rG(l:List (List UInt8))(A:Option Addr)(c:Nat)(h:Qz σ sb gs vR vQ Wr Rd w){B:Nat}(he:Env B w)(w1:World)(hw1:w1=w.alloc (.cells #[.pointer (some ⟨sb,0,none⟩)] 24)):
 Calls prog 145 #[.pointer (some ⟨sb,0,none⟩),.slice A l.length c,.func (.func 146) #[] #[.pointer (some ⟨w.heap.size,0,none⟩)]] w1 fun e w'=>∃ t,e=.returned (.string t)/\t=strOf (OU l σ).1/\Step (OU l σ).2 sb Wr Rd w w':=by
 have hb1:=bE hw1;have hbx:Z7 w1 w.heap.size 24 #[.pointer (some ⟨sb,0,none⟩)]:=by rw [hw1];exact Z7.new _ _ _
 have h1:=h.below hb1;have he1:=he.new hb1;have hst:∀ Y,Below w1.heap.size w1 Y->Step σ sb Wr Rd w Y:=fun Y hY=>Step.before hb1 (Step.same ⟨gs,vR,vQ,h1⟩ hY);unfold OU
 by_cases hl:l=[]
 · subst hl
   by_cases hs:σ.1=[]\/σ.2=[]
   · rw [if_neg (by simp),if_pos hs];exact JB A c h1 he1 _ _ (fun t w'=>t=strOf (YW 6)/\Step σ sb Wr Rd w w') hs fun Y hY=>⟨rfl,hst Y hY⟩
   · rw [if_neg (by simp),if_neg hs];refine JA A c h1 _ _ (fun t w'=>t=strOf (runT σ)/\Step σ sb Wr Rd w w') ⟨fun e=>hs (.inl e),fun e=>hs (.inr e)⟩ AZ ((lI h1 he1 w.heap.size hbx).mono ?_);rintro e Y ⟨rfl,hY⟩;exact ⟨_,rfl,rfl,hst Y hY⟩
 · rw [if_pos hl];exact Gj l A c he1 _ _ (fun t w'=>t=strOf (YW 11)/\Step σ sb Wr Rd w w') hl fun Y hY=>⟨rfl,hst Y hY⟩
theorem DK(l:List (List UInt8))(A:Option Addr)(c:Nat)(h:Qz σ sb gs vR vQ Wr Rd w){B:Nat}(he:Env B w):
 Calls prog 98 #[.pointer (some ⟨sb,0,none⟩),.slice A l.length c] w (XD (OU l σ) sb Wr Rd w):=by
 obtain ⟨w1,hw1⟩:=eE (w.alloc (.cells #[.pointer (some ⟨sb,0,none⟩)] 24));have HC:=hide (rG l A c h he w1 hw1);obtain ⟨q,hq⟩:=eE l.length;rw [<- hq] at HC ⊢;clear h he hq;go_enter func98,ntmps98;go_wp2_with fail;rw [<- hw1];refine HC.out.mono ?_;rintro e Y ⟨t,rfl,rfl,hst⟩;go_wp2;go_ret;exact ⟨rfl,hst⟩
end
end
section
open Go.RowKit Go.Shelf
def aS(σ:St):List Int × Int:=ZE 5 0 (σ.1.map uz) σ.2.length (σ.1.map cg) [] σ.2
def oK(σ:St):List UInt8:=WC (aS σ).1
def evT(σ:St):List UInt8:=txt ((Mi 5 0 (σ.1.map uz) σ.2.length).length:Nat)
def UL(t:List UInt8)(l:List (List UInt8))(σ:St):List UInt8 × St:=if l≠[] then (YW 11,σ) else if σ.1=[]\/σ.2=[] then (YW 6,σ) else (t,σ)
theorem Ep{f:Gr × Rg->Bool}(hf:∀ g r,g.1.n=g.2.length->f (TG g,r)=f (g,r)):∀ (gs:List Gr) (hrs:List Rg),(∀ g∈gs,g.1.n=g.2.length)->((gs.map TG).zip hrs).any f=(gs.zip hrs).any f
 | [],_,_=>rfl
 | g::gs,[],_=>by rw [List.zip_nil_right,List.zip_nil_right]
 | g::gs,r::hrs,h=>by
   rw [List.map_cons,List.zip_cons_cons,List.zip_cons_cons,List.any_cons,List.any_cons,hf g r (h g (List.mem_cons_self ..)),Ep hf gs hrs fun x hx=>h x (List.mem_cons_of_mem _ hx)]
theorem Av(op vs:Int)(hrs:List Rg)(ZY:Int){gs:List Gr}(ps:List (Int × Int))(qs:List ((Int × Int) × Int))(h:∀ g∈gs,g.1.n=g.2.length):ZE op vs hrs ZY (gs.map TG) ps qs=ZE op vs hrs ZY gs ps qs:=by
 unfold ZE;rw [List.length_map,Ep (f:=Vs) (fun g r hg=>by unfold Vs TG;dsimp only;rw [hg]) gs hrs h,Ep (f:=TM) (fun g r _=>rfl) gs hrs h];have e:Yu (gs.map TG)=Yu gs:=by unfold Yu;rw [List.flatMap_map];rfl
 rw [e]
section
variable {σ:St}{sb:Nat}{gs:List Gr}{vR vQ:Value}{Wr Rd:Nat->Prop}{w:World}(h:Qz σ sb gs vR vQ Wr Rd w){B:Nat}(he:Env B w)(bx:Nat)(hbx:Z7 w bx 24 #[.pointer (some ⟨sb,0,none⟩)])
include h hbx
omit he in
theorem AY:Calls prog 150 #[.pointer (some ⟨bx,0,none⟩)] w fun e w'=>e=.returned (.string (strOf (oK σ)))/\Below w.heap.size w w':=by
 obtain ⟨RA,rc,rfl,_⟩:=ZP h.rows;obtain ⟨QA,qc,rfl,_⟩:=ZP h.VW;have cb:=hbx.cell (i:=0) (v:=.pointer (some ⟨sb,0,none⟩)) rfl;have HQ:=hide (DJ h);have hh:∀ g∈gs,g.1.n=g.2.length:=fun g hg=>(h.ZY g hg).1;have hdl:σ.1.length=gs.length:=by rw [<- h.data,List.length_map]
 have eb:aS σ=ZE 5 0 (σ.1.map uz) σ.2.length gs [] σ.2:=by unfold aS;rw [<- Av _ _ _ _ _ _ hh,<- tO,h.data]
 obtain ⟨R,hR⟩:=eE (aS σ);have hby:=xJ (er:=R.2) (b:=R.1) (by rw [hR];exact eb.symm) hh;have hbb:R.1.length<=200000/\By R.1:=by
  by_cases h0:R.2=0
  · exact hby.2 h0
  · rw [hby.1 h0];exact ⟨Nat.zero_le _,fun x hx=>by cases hx⟩
 have HE:Hid (∀ (w1:World) (HA:Option Addr) (hc:Nat),Below w.heap.size w w1->Sl w1 w1.heap.size HA (rgCells (σ.1.map uz))->Calls prog 151 #[.agg #[.int .i64 5,.int .i64 0,.slice HA gs.length hc,.int .i64 σ.2.length,.slice RA gs.length rc,.slice none 0 0,.slice QA σ.2.length qc]] w1 (Xj R w1)):=hide fun w1 HA hc hb1 hs1=>by
  have S1:=h.below hb1;have hl:(σ.1.map uz).length=gs.length:=by rw [List.length_map,hdl]
  have hE:=Py 5 0 σ.2.length (σ.1.map uz) HA hc gs RA rc [] none 0 σ.2 QA qc w1 hs1 (Sl.Zv S1.rows) (fun g hg=>⟨(S1.ZY g hg).1,(S1.ZY g hg).2.sl S1.zV⟩) (Sl.nil _ _ _) (Sl.Zv S1.VW) (by rw [hl];have:=h.small.2.2.1;unfold maxLen;omega);rw [hl] at hE;rw [hR,eb];exact hE
 have HT:Hid (oK σ=WC R.1):=hide (by rw [hR];rfl);have Uq:=hide hbb;obtain ⟨n,hn⟩:=eE gs.length;obtain ⟨m,hm⟩:=eE σ.2.length;rw [<- hn,<- hm] at HQ HE;clear h hbx hh hdl eb hR hby hbb hn hm;go_enter func150,ntmps150;go_wp2_with fail;refine HQ.out.mono ?_;rintro e w1 ⟨HA,hc,rfl,-,hb1,hs1⟩;have RO:=hide (HE.out w1 HA hc hb1 hs1);have HB1:=hide hb1;clear HE HQ hb1 hs1 cb;go_wp2_with fail;refine RO.out.mono ?_;rintro e w2 ⟨v,rfl,ZT,hb2⟩;obtain ⟨VA,vc,rfl,-⟩:=ZP ZT;have HX:=hide (uo R.1 VA vc w2 (Sl.Zv ZT) Uq.out.2 (by have:=Uq.out.1;omega));have HB2:=hide (Z8 HB1.out hb2);clear RO ZT hb2;go_wp2_with fail;refine HX.out.mono ?_;rintro e w3 ⟨rfl,hb3⟩;go_wp2;go_ret;rw [HT.out];exact ⟨rfl,Z8 HB2.out hb3⟩
include he
theorem Bf(hq:σ.2.length<=100):Calls prog 154 #[.pointer (some ⟨bx,0,none⟩)] w fun e w'=>e=.returned (.string (strOf (evT σ)))/\Below w.heap.size w w':=by
 obtain ⟨RA,rc,rfl,_⟩:=ZP h.rows;obtain ⟨QA,qc,rfl,_⟩:=ZP h.VW;have cb:=hbx.cell (i:=0) (v:=.pointer (some ⟨sb,0,none⟩)) rfl;have HQ:=hide (DJ h);have hl:(σ.1.map uz).length=gs.length:=by rw [List.length_map,<- h.data,List.length_map]
 have iR:=h.small.2.2.1;have hlen:=mo (op:=5) (vs:=0) (rs:=σ.1.map uz) (ZY:=(σ.2.length:Int)) (fun _=>by omega)
 have HE:Hid (∀ (w1:World) (HA:Option Addr) (hc:Nat),Below w.heap.size w w1->Sl w1 w1.heap.size HA (rgCells (σ.1.map uz))->Calls prog 155 #[.agg #[.int .i64 5,.int .i64 0,.slice HA gs.length hc,.int .i64 σ.2.length]] w1 fun e w'=>∃ er,e=.returned (.tuple #[.int .i64 ((Mi 5 0 (σ.1.map uz) σ.2.length).length:Int),.int .i64 er])/\Below w1.heap.size w1 w'):=hide fun w1 HA hc _ hs1=>by
  have hE:=zx 5 0 σ.2.length (σ.1.map uz) HA hc w1 hs1 (by rw [hl];unfold maxLen;omega) (by omega);rw [hl] at hE;refine hE.mono ?_;rintro e w' ⟨rfl,hb⟩;exact ⟨_,rfl,hb⟩
 obtain ⟨L,hL⟩:=eE ((Mi 5 0 (σ.1.map uz) σ.2.length).length);have HT:Hid (evT σ=txt (L:Int)):=hide (by rw [hL];rfl);rw [<- hL] at HE hlen;have dV:=hide hlen;have Qs:=hide he;obtain ⟨n,hn⟩:=eE gs.length;obtain ⟨m,hm⟩:=eE σ.2.length;rw [<- hn,<- hm] at HQ HE;clear h hbx he hl iR hlen hL hn hm hq;go_enter func154,ntmps154;go_wp2_with fail;refine HQ.out.mono ?_;rintro e w1 ⟨HA,hc,rfl,-,hb1,hs1⟩;have RO:=hide (HE.out w1 HA hc hb1 hs1);have HB1:=hide hb1;have hfl:∀ W,(Instr.field 182 (.agg #[.int .i64 5,.int .i64 0,.slice HA n hc,.int .i64 (m:Int),.slice RA n rc,.slice none 0 0,.slice QA m qc]) 0).run prog W=.ok (.agg #[.int .i64 5,.int .i64 0,.slice HA n hc,.int .i64 (m:Int)]) W:=fun W=>by kernel_rfl
 clear HE HQ hb1 hs1 cb;go_wp2_with fail;refine RO.out.mono ?_;rintro e w2 ⟨er,rfl,hb2⟩;have HB2:=hide (Z8 HB1.out hb2);have HX:=hide (Ri (L:Int) (by unfold Zg;have:=dV.out;omega) w2 (Qs.out.new HB2.out).pt);clear RO hb2;go_wp2_with fail;refine HX.out.mono ?_;rintro e w3 ⟨rfl,hb3⟩;go_wp2;go_ret;rw [HT.out];exact ⟨rfl,Z8 HB2.out hb3⟩
end
section
variable {σ:St}{sb:Nat}{gs:List Gr}{vR vQ:Value}{Wr Rd:Nat->Prop}{w:World}
theorem JC (l:List (List UInt8)) (A:Option Addr) (c:Nat) (h:Qz σ sb gs vR vQ Wr Rd w) {B:Nat} (he:Env B w) (gf:Nat) (eg:∀ args w,(callFunc gf args).run prog w=.ok (.enter gf args) w) (t:List UInt8)
 (hc:∀ X,Below w.heap.size w X->Z7 X w.heap.size 24 #[.pointer (some ⟨sb,0,none⟩)]->Calls prog gf #[.pointer (some ⟨w.heap.size,0,none⟩)] X fun e w'=>e=.returned (.string (strOf t))/\Below X.heap.size X w')
 (w1:World) (hw1:w1=w.alloc (.cells #[.pointer (some ⟨sb,0,none⟩)] 24)) :
 Calls prog 145 #[.pointer (some ⟨sb,0,none⟩),.slice A l.length c,.func (.func gf) #[] #[.pointer (some ⟨w.heap.size,0,none⟩)]] w1 fun e w'=>∃ t',e=.returned (.string t')/\t'=strOf (UL t l σ).1/\Step (UL t l σ).2 sb Wr Rd w w':=by
 have hb1:=bE hw1;have hbx:Z7 w1 w.heap.size 24 #[.pointer (some ⟨sb,0,none⟩)]:=by rw [hw1];exact Z7.new _ _ _
 have h1:=h.below hb1;have he1:=he.new hb1;have hst:∀ Y,Below w1.heap.size w1 Y->Step σ sb Wr Rd w Y:=fun Y hY=>Step.before hb1 (Step.same ⟨gs,vR,vQ,h1⟩ hY);unfold UL
 by_cases hl:l=[]
 · subst hl
   by_cases hs:σ.1=[]\/σ.2=[]
   · rw [if_neg (by simp),if_pos hs];exact JB A c h1 he1 _ _ (fun t' w'=>t'=strOf (YW 6)/\Step σ sb Wr Rd w w') hs fun Y hY=>⟨rfl,hst Y hY⟩
   · rw [if_neg (by simp),if_neg hs];refine JA A c h1 _ _ (fun t' w'=>t'=strOf t/\Step σ sb Wr Rd w w') ⟨fun e=>hs (.inl e),fun e=>hs (.inr e)⟩ eg ((hc w1 hb1 hbx).mono ?_);rintro e Y ⟨rfl,hY⟩;exact ⟨_,rfl,rfl,hst Y hY⟩
 · rw [if_pos hl];exact Gj l A c he1 _ _ (fun t' w'=>t'=strOf (YW 11)/\Step σ sb Wr Rd w w') hl fun Y hY=>⟨rfl,hst Y hY⟩
theorem Dv(l:List (List UInt8))(A:Option Addr)(c:Nat)(h:Qz σ sb gs vR vQ Wr Rd w){B:Nat}(he:Env B w):
 Calls prog 99 #[.pointer (some ⟨sb,0,none⟩),.slice A l.length c] w (XD (UL (oK σ) l σ) sb Wr Rd w):=by
 obtain ⟨w1,hw1⟩:=eE (w.alloc (.cells #[.pointer (some ⟨sb,0,none⟩)] 24));have HC:=hide (JC l A c h he 150 (enters_of func150 (by kernel_rfl) rfl) (oK σ) (fun X hX hbx=>AY (h.below hX) _ hbx) w1 hw1);obtain ⟨q,hq⟩:=eE l.length;rw [<- hq] at HC ⊢;clear h he hq;go_enter func99,ntmps99;go_wp2_with fail;rw [<- hw1];refine HC.out.mono ?_;rintro e Y ⟨t,rfl,rfl,hst⟩;go_wp2;go_ret;exact ⟨rfl,hst⟩
theorem Dy(l:List (List UInt8))(A:Option Addr)(c:Nat)(h:Qz σ sb gs vR vQ Wr Rd w){B:Nat}(he:Env B w)(hq:σ.2.length<=100):
 Calls prog 100 #[.pointer (some ⟨sb,0,none⟩),.slice A l.length c] w (XD (UL (evT σ) l σ) sb Wr Rd w):=by
 obtain ⟨w1,hw1⟩:=eE (w.alloc (.cells #[.pointer (some ⟨sb,0,none⟩)] 24));have HC:=hide (JC l A c h he 154 (enters_of func154 (by kernel_rfl) rfl) (evT σ) (fun X hX hbx=>Bf (h.below hX) (he.new hX) _ hbx hq) w1 hw1);obtain ⟨q,hq'⟩:=eE l.length;rw [<- hq'] at HC ⊢;clear h he hq' hq;go_enter func100,ntmps100;go_wp2_with fail;rw [<- hw1];refine HC.out.mono ?_;rintro e Y ⟨t,rfl,rfl,hst⟩;go_wp2;go_ret;exact ⟨rfl,hst⟩
end
end
section
open Go.RowKit Go.Shelf
section
variable (bs:List Int)(hby:By bs)(hne:bs≠[])(hn:bs.length<=6000)(w:World)(hfix:Fixed w)(hg:9<w.heap.size)(hw:MW w)
include hby hne hn hfix hg hw
theorem Cx(sA:Addr)(A:Option Addr)(c:Nat)(hs:Sl w w.heap.size A (ZF [WC bs])):Calls prog 101 #[.pointer (some sA),.slice A 1 c] w fun e w'=>e=.returned (.string (strOf (WC (YE bs))))/\Below w.heap.size w w':=by
 obtain ⟨b,off,rfl,hb,hcell⟩:=hs.open_ (by simp [ZF]);have c0:=hcell 0 (.string (strOf (WC bs))) (Va rfl);rw [Nat.add_zero] at c0;have U:=hide (zI bs hby hne (by omega) w);have HSV:=hide (fun (w':World) (A:Option Addr) (hb:Below w.heap.size w w') (hs:Sl w' w'.heap.size A (ZU bs))=>rJ bs A bs.length w' hs (Nat.le_refl _) hby (by omega) (hfix.below hb hg) (Nat.lt_of_lt_of_le hg hb.size) (hw.step hb));obtain ⟨zqc,hl2⟩:=lN hby;obtain ⟨X,hX⟩:=eE (YE bs);rw [<- hX] at zqc hl2 HSV ⊢;have zaz:=hide zqc;have HL2:=hide hl2;obtain ⟨T,hT⟩:=eE (strOf (WC bs));obtain ⟨n,hnn⟩:=eE bs.length;rw [<- hT] at c0 U;rw [<- hnn] at U HSV;clear hs hcell hby hne hn hfix hg hw hX zqc hl2 hT hnn;go_enter func101,ntmps101;go_wp2_with fail;refine U.out.mono ?_;rintro e w1 ⟨A1,rfl,hs1,hb1⟩;have V:=hide (HSV.out w1 A1 hb1 hs1);clear HSV U hs1 c0;go_wp2_with fail;refine V.out.mono ?_;rintro e w2 ⟨A2,c2,rfl,hc2,hb2,hs2⟩;have HX:=hide (uo X A2 c2 w2 hs2 zaz.out (by have:=HL2.out;omega));have HB2:=Z8 hb1 hb2;clear V hs2 hb2 hb1 hc2;go_wp2_with fail;refine HX.out.mono ?_;rintro e w3 ⟨rfl,hb3⟩;go_wp2;go_ret;exact ⟨rfl,Z8 HB2 hb3⟩
end
def NK(l:List (List UInt8))(σ:St):List UInt8 × St :=
 match l with
 | [t]=>if Ea t=true then (WC (YE (YF t)),σ) else (YW 11,σ)
 | _=>(YW 11,σ)
section
variable {σ:St}{sb:Nat}{gs:List Gr}{vR vQ:Value}{Wr Rd:Nat->Prop}{w:World}(l:List (List UInt8))(A:Option Addr)(c:Nat)(h:Qz σ sb gs vR vQ Wr Rd w){B:Nat}(he:Env B w)
include h he
theorem zm(hl:∀ x∈l,x.length<=12000)(hs:Sl w w.heap.size A (ZF l)):Calls prog 101 #[.pointer (some ⟨sb,0,none⟩),.slice A l.length c] w (XD (NK l σ) sb Wr Rd w):=by
 have HST:=hide (fun X (hb:Below w.heap.size w X)=>Step.same (Wr:=Wr) (Rd:=Rd) (sb:=sb) ⟨gs,vR,vQ,h⟩ hb);have HF:=hide (fun X (hb:Below w.heap.size w X)=>Yj 11 (by unfold Zg;omega) X (he.new hb).pt)
 have hfin:∀ r:List UInt8,NK l σ=(r,σ)->Calls prog 101 #[.pointer (some ⟨sb,0,none⟩),.slice A l.length c] w (fun e w'=>e=.returned (.string (strOf r))/\Below w.heap.size w w')->Calls prog 101 #[.pointer (some ⟨sb,0,none⟩),.slice A l.length c] w (XD (NK l σ) sb Wr Rd w):=fun r hr hc=>by
  rw [hr];refine hc.mono ?_;rintro e w' ⟨rfl,hb⟩;exact ⟨rfl,HST.out _ hb⟩
 by_cases h1:l.length=1
 · obtain ⟨t,rfl⟩:∃ t,l=[t]:=List.length_eq_one_iff.1 h1;cases hok:Ea t with
   | true =>
     obtain ⟨bs,rfl,hby,hne,hbs⟩:=CB hok;have hr:NK [WC bs] σ=(WC (YE bs),σ):=(by unfold NK;dsimp only;rw [if_pos hok,<- hbs]);have hbl:bs.length<=6000:=(by have:=hl _ (List.mem_singleton.2 rfl);rw [Ki] at this;omega);exact hfin _ hr (Cx bs hby hne hbl w he.tabs.fx.1 he.tabs.fx.2 he.tabs.mw ⟨sb,0,none⟩ A c hs)
   | false =>
     have hr:NK [t] σ=(YW 11,σ):=(by unfold NK;dsimp only;rw [if_neg (by rw [hok];decide)]);refine hfin _ hr ?_;obtain ⟨b,off,rfl,hb,hcell⟩:=hs.open_ (by simp [ZF]);have c0:=hcell 0 (.string (strOf t)) (Va rfl);rw [Nat.add_zero] at c0;have U:=hide (sD t (by have:=hl t (List.mem_singleton.2 rfl);omega) hok w);obtain ⟨T,hT⟩:=eE (strOf t);rw [<- hT] at c0 U;clear hs hcell h he hl hr hT hfin hok h1 HST;go_enter func101,ntmps101;go_wp2_with fail;refine U.out.mono ?_;rintro e w1 ⟨rfl,hb1⟩;go_wp2_with fail;refine (HF.out w1 hb1).mono ?_;rintro e w2 ⟨rfl,hb2⟩;go_wp2;go_ret;exact ⟨rfl,Z8 hb1 hb2⟩
 · have hr:NK l σ=(YW 11,σ):=by
    unfold NK;split
    · exact absurd rfl h1
    · rfl
   refine hfin _ hr ?_;have HFC:=hide (HF.out w (Below.refl _ _));obtain ⟨q,hq⟩:=eE l.length;have hq1:¬ (q:Int)=1:=(by omega);rw [<- hq];clear hs h he hl hr hfin h1 HST hq HF;go_enter func101,ntmps101;go_wp2_with fail;refine HFC.out.mono ?_;rintro e w2 ⟨rfl,hb2⟩;go_wp2;go_ret;exact ⟨rfl,hb2⟩
end
end
section
open Go.RowKit Go.Shelf
def Qt(n:Nat)(xs:List (List UInt8))(σ:St):List UInt8 × St :=
 if n=91 then Vl xs σ else if n=92 then Vh xs σ else if n=93 then Wz xs σ
 else if n=94 then LX false xs σ else if n=95 then LX true xs σ else if n=96 then Xp xs σ
 else if n=97 then Ul xs σ else if n=98 then OU xs σ else if n=99 then UL (oK σ) xs σ
 else if n=100 then UL (evT σ) xs σ else if n=101 then NK xs σ else if n=102 then SL xs σ else (YW 11,σ)
def UN(σ:St)(L:List UInt8):List UInt8 × St :=
 match sp 32 L with
 | []=>(YW 11,σ)
 | x::xs=>Qt (Xa x) xs σ
theorem zpp(x:List UInt8):Xa x=0\/Xa x∈cmds.map (·.2):=by
 unfold Xa;cases h:cmds.find? (fun p=>p.1 == x) with
 | none=>exact .inl rfl
 | some p=>exact .inr (List.mem_map_of_mem (List.mem_of_find?_eq_some h))
theorem zmp(c:UInt8)(l:List UInt8):sp c l≠[]:=fun e=>by
 have:=zk c l;rw [e] at this;cases this
theorem zpr(L:List UInt8)(hL:L.length<=6000){σ:St}{sb:Nat}{Wr Rd:Nat->Prop}(w:World){B:Nat}(hs:UJ σ sb Wr Rd w)(he:Env B w)(Nr:∀ k,Wr k->B<=k)(hq:σ.2.length<=100):
 Calls prog 21 #[.pointer (some ⟨sb,0,none⟩),.string (strOf L)] w (XD (UN σ L) sb Wr Rd w):=by
 cases hsp:sp 32 L with
 | nil=>exact absurd hsp (zmp 32 L)
 | cons x xs =>
   have hd:UN σ L=Qt (Xa x) xs σ:=(by unfold UN;rw [hsp]);have hL1:L.length<=1000000:=(by omega);have hxl:∀ y∈xs,y.length<=1000000:=sH hL1 hsp
   have zdm:∀ y∈xs,y.length<=12000:=fun y hy=>by
    have:=U9 32 L y (by rw [hsp];exact List.mem_cons_of_mem _ hy);omega
   have hxn:xs.length<=1000000:=by
    have h1:=zk 32 L;have h2:=List.count_le_length (a:=(32:UInt8)) (l:=L);rw [hsp,List.length_cons] at h1;omega
   rw [hd];rcases zpp x with h0|hm
   · rw [h0];refine (gJ L x xs hL1 hsp h0 ⟨sb,0,none⟩ w he.pt).mono ?_;rintro e Y ⟨rfl,hb⟩;exact ⟨rfl,Step.same hs hb⟩
   · simp only [cmds,List.map_cons,List.map_nil,List.mem_cons,List.not_mem_nil,or_false] at hm;rcases hm with h|h|h|h|h|h|h|h|h|h|h|h
     · rw [h,show Qt 97 xs σ=Ul xs σ from rfl];exact XK L x xs hL1 hsp 97 h (by decide) (enters_of func97 (by kernel_rfl) rfl) _ w hs he fun w1 bb ob c gs vR vQ h hE hsl hc=>PZ xs bb ob c hc hxl w1 h hsl hE Nr
     · rw [h,show Qt 94 xs σ=LX false xs σ from rfl];exact XK L x xs hL1 hsp 94 h (by decide) (enters_of func94 (by kernel_rfl) rfl) _ w hs he fun w1 bb ob c gs vR vQ h hE hsl hc=>Gi xs bb ob c hc hxl hxn w1 h hsl hE Nr
     · rw [h,show Qt 92 xs σ=Vh xs σ from rfl];exact XK L x xs hL1 hsp 92 h (by decide) (enters_of func92 (by kernel_rfl) rfl) _ w hs he fun w1 bb ob c gs vR vQ h hE hsl hc=>Dt xs bb ob c hc hxl hxn w1 h hsl hE
     · rw [h,show Qt 102 xs σ=SL xs σ from rfl];exact XK L x xs hL1 hsp 102 h (by decide) (enters_of func102 (by kernel_rfl) rfl) _ w hs he fun w1 bb ob c gs vR vQ h hE hsl hc=>Gl xs (some ⟨bb,ob,none⟩) c h hE
     · rw [h,show Qt 93 xs σ=Wz xs σ from rfl];exact XK L x xs hL1 hsp 93 h (by decide) (enters_of func93 (by kernel_rfl) rfl) _ w hs he fun w1 bb ob c gs vR vQ h hE hsl hc=>Du xs bb ob c hc hxl hxn w1 h hsl hE
     · rw [h,show Qt 95 xs σ=LX true xs σ from rfl];exact XK L x xs hL1 hsp 95 h (by decide) (enters_of func95 (by kernel_rfl) rfl) _ w hs he fun w1 bb ob c gs vR vQ h hE hsl hc=>gF xs bb ob c hc hxl hxn w1 h hsl hE Nr
     · rw [h,show Qt 99 xs σ=UL (oK σ) xs σ from rfl];exact XK L x xs hL1 hsp 99 h (by decide) (enters_of func99 (by kernel_rfl) rfl) _ w hs he fun w1 bb ob c gs vR vQ h hE hsl hc=>Dv xs (some ⟨bb,ob,none⟩) c h hE
     · rw [h,show Qt 100 xs σ=UL (evT σ) xs σ from rfl];exact XK L x xs hL1 hsp 100 h (by decide) (enters_of func100 (by kernel_rfl) rfl) _ w hs he fun w1 bb ob c gs vR vQ h hE hsl hc=>Dy xs (some ⟨bb,ob,none⟩) c h hE hq
     · rw [h,show Qt 96 xs σ=Xp xs σ from rfl];exact XK L x xs hL1 hsp 96 h (by decide) (enters_of func96 (by kernel_rfl) rfl) _ w hs he fun w1 bb ob c gs vR vQ h hE hsl hc=>M5 xs bb ob c hc hxl hxn w1 h hsl hE
     · rw [h,show Qt 91 xs σ=Vl xs σ from rfl];exact XK L x xs hL1 hsp 91 h (by decide) (enters_of func91 (by kernel_rfl) rfl) _ w hs he fun w1 bb ob c gs vR vQ h hE hsl hc=>DC xs bb ob c hc hxl hxn w1 h hsl hE
     · rw [h,show Qt 101 xs σ=NK xs σ from rfl];exact XK L x xs hL1 hsp 101 h (by decide) (enters_of func101 (by kernel_rfl) rfl) _ w hs he fun w1 bb ob c gs vR vQ h hE hsl hc=>zm xs (some ⟨bb,ob,none⟩) c h hE zdm hsl
     · rw [h,show Qt 98 xs σ=OU xs σ from rfl];exact XK L x xs hL1 hsp 98 h (by decide) (enters_of func98 (by kernel_rfl) rfl) _ w hs he fun w1 bb ob c gs vR vQ h hE hsl hc=>DK xs (some ⟨bb,ob,none⟩) c h hE
def aL1:List UInt8:=[97,108,108,111,119,32,100,105,115,99,32,53,32,48,32,48,32,53,32,45,53,32,48]
def aL2:List UInt8:=[97,100,100,32,55,32,51,32,52]
def aL3:List UInt8:=[97,100,100,32,56,32,52,32,52]
def fA:List UInt8:=[114,117,110]
def aL5:List UInt8:=[109,101,109,98,101,114,32,49]
def aL6:List UInt8:=[99,108,101,97,114]
def Ae:List UInt8:=[97,108,108,111,119,32,100,105,115,99,32,53,32,48,32,48,32,53,32,45,53,32,48,10,97,100,100,32,55,32,51,32,52,10,97,100,100,32,56,32,52,32,52,10,114,117,110]
theorem V4:Yb Ae=[aL1,aL2,aL3,fA]:=by decide +kernel
theorem zpf:sp 32 aL1=[97,108,108,111,119]::[[100,105,115,99],[53],[48],[48],[53],[45,53],[48]]:=by decide +kernel
theorem zpg:sp 32 aL2=[97,100,100]::[[55],[51],[52]]:=by decide +kernel
theorem zph:sp 32 aL3=[97,100,100]::[[56],[52],[52]]:=by decide +kernel
theorem zpi:sp 32 fA=[114,117,110]::[]:=by decide +kernel
theorem zpj:sp 32 aL5=[109,101,109,98,101,114]::[[49]]:=by decide +kernel
theorem zpk:sp 32 aL6=[99,108,101,97,114]::[]:=by decide +kernel
def Gh(σ:St)(l:List UInt8):List UInt8 × St :=
 if l=aL1 then LX false [[100,105,115,99],[53],[48],[48],[53],[45,53],[48]] σ else if l=aL2 then Ul [[55],[51],[52]] σ else if l=aL3 then Ul [[56],[52],[52]] σ else if l=fA then OU [] σ else if l=aL5 then Xp [[49]] σ else SL [] σ
theorem zbv(σ:St):Gh σ aL1=LX false [[100,105,115,99],[53],[48],[48],[53],[45,53],[48]] σ:=rfl
theorem zbw(σ:St):Gh σ aL2=Ul [[55],[51],[52]] σ:=rfl
theorem zbx(σ:St):Gh σ aL3=Ul [[56],[52],[52]] σ:=rfl
theorem zfr(σ:St):Gh σ fA=OU [] σ:=rfl
theorem zby(σ:St):Gh σ aL5=Xp [[49]] σ:=rfl
theorem zbz(σ:St):Gh σ aL6=SL [] σ:=rfl
def aS1:St:=([(false,0,[(5,0),(0,5),(-5,0)])],[])
def aS2:St:=([(false,0,[(5,0),(0,5),(-5,0)])],[((3,4),7)])
def aS3:St:=([(false,0,[(5,0),(0,5),(-5,0)])],[((3,4),7),((4,4),8)])
theorem a1:Gh ([],[]) aL1=(txt 1,aS1):=by kernel_rfl
theorem a2:Gh aS1 aL2=(txt 1,aS2):=by kernel_rfl
theorem a3:Gh aS2 aL3=(txt 2,aS3):=by kernel_rfl
theorem a4r:Vy aS3=⟨1,1,[(1,7),(0,0)]⟩:=by kernel_rfl
theorem FX{n:Nat}(h:n<10):txt (n:Int)=[UInt8.ofNat (48+n)]:=by
 unfold txt NY;rw [if_neg (by omega),Int.natAbs_natCast,UQ h];rfl
theorem a4:Gh aS3 fA=([49,32,55],aS3):=by
 rw [zfr];unfold OU;rw [if_neg (by decide),if_neg (by decide)];unfold runT;rw [a4r,if_neg (by decide)];have e1:txt 1=[49]:=FX (n:=1) (by decide);have e2:NY 7=[55]:=by unfold NY;rw [UQ (by decide)];rfl
 show (Lib.join (txt 1::[NY 7]) [32],aS3)=_;rw [e1,e2];rfl
theorem a5:Gh aS3 aL5=(YW 11,aS3):=by kernel_rfl
theorem a6(σ:St):Gh σ aL6=([111,107],([],[])):=by kernel_rfl
def vV(s:List (List UInt8))(l:List UInt8):List UInt8:=(Gh (nC Gh ([],[]) s) l).1
theorem zca:nC Gh ([],[]) [aL1,aL2,aL3,fA]=aS3:=by
 unfold nC;simp only [List.foldl_cons,List.foldl_nil,a1,a2,a3,a4]
theorem zwu:Xf vV [] (Yb Ae)=[[49],[49],[50],[49,32,55]]:=by
 rw [V4];simp only [Xf,vV,nC,List.nil_append,List.cons_append,List.foldl_cons,List.foldl_nil,a1,a2,a3,a4];rw [show txt 1=[49] from FX (n:=1) (by decide),show txt 2=[50] from FX (n:=2) (by decide)]
theorem zfu:vV (Yb Ae) aL5=YW 11:=by
 unfold vV;rw [V4,zca,a5]
theorem zfs:vV (Yb Ae++[aL5]) aL6=[111,107]:=by
 unfold vV;rw [a6]
def aT(l:List UInt8):Prop:=l=aL1\/l=aL2\/l=aL3\/l=fA\/l=aL5\/l=aL6
theorem aC1:Xa [97,108,108,111,119]=94:=by decide +kernel
theorem aC2:Xa [97,100,100]=97:=by decide +kernel
theorem aC3:Xa [97,100,100]=97:=by decide +kernel
theorem aC4:Xa [114,117,110]=98:=by decide +kernel
theorem aC5:Xa [109,101,109,98,101,114]=96:=by decide +kernel
theorem aC6:Xa [99,108,101,97,114]=102:=by decide +kernel
theorem fq:∀ args w,(callFunc 94 args).run prog w=.ok (.enter 94 args) w:=enters_of func94 (by kernel_rfl) rfl
theorem fu:∀ args w,(callFunc 102 args).run prog w=.ok (.enter 102 args) w:=enters_of func102 (by kernel_rfl) rfl
theorem nP:∀ args w,(callFunc 96 args).run prog w=.ok (.enter 96 args) w:=enters_of func96 (by kernel_rfl) rfl
theorem Ad:∀ args w,(callFunc 97 args).run prog w=.ok (.enter 97 args) w:=enters_of func97 (by kernel_rfl) rfl
theorem zpe:∀ args w,(callFunc 98 args).run prog w=.ok (.enter 98 args) w:=enters_of func98 (by kernel_rfl) rfl
theorem zcb(B sb:Nat)(line:List UInt8)(ht:aT line)(σ:St)(Wr Rd:Nat->Prop)(X:World)(_:True)(hs:UJ σ sb Wr Rd X)(he:Env B X)(Nr:∀ k,Wr k->B<=k):
 Calls prog 21 #[.pointer (some ⟨sb,0,none⟩),.string (strOf line)] X (XD (Gh σ line) sb Wr Rd X):=by
 rcases ht with rfl|rfl|rfl|rfl|rfl|rfl
 · rw [zbv];exact XK aL1 _ _ (by decide) zpf _ aC1 (by decide) fq _ X hs he fun w1 bb ob c gs vR vQ h hE hsl hc=>Gi ([[100,105,115,99],[53],[48],[48],[53],[45,53],[48]]) bb ob c hc (by decide) (by decide) w1 h hsl hE Nr
 · rw [zbw];exact XK aL2 _ _ (by decide) zpg _ aC2 (by decide) Ad _ X hs he fun w1 bb ob c gs vR vQ h hE hsl hc=>PZ ([[55],[51],[52]]) bb ob c hc (by decide) w1 h hsl hE Nr
 · rw [zbx];exact XK aL3 _ _ (by decide) zph _ aC3 (by decide) Ad _ X hs he fun w1 bb ob c gs vR vQ h hE hsl hc=>PZ ([[56],[52],[52]]) bb ob c hc (by decide) w1 h hsl hE Nr
 · rw [zfr];exact XK fA _ _ (by decide) zpi _ aC4 (by decide) zpe _ X hs he fun w1 bb ob c gs vR vQ h hE hsl hc=>DK ([]) (some ⟨bb,ob,none⟩) c h hE
 · rw [zby];exact XK aL5 _ _ (by decide) zpj _ aC5 (by decide) nP _ X hs he fun w1 bb ob c gs vR vQ h hE hsl hc=>M5 ([[49]]) bb ob c hc (by decide) (by decide) w1 h hsl hE
 · rw [zbz];exact XK aL6 _ _ (by decide) zpk _ aC6 (by decide) fu _ X hs he fun w1 bb ob c gs vR vQ h hE hsl hc=>Gl ([]) (some ⟨bb,ob,none⟩) c h hE
theorem zft(B sb:Nat):zW B 100 aT (.pointer (some ⟨sb,0,none⟩)) vV (Y6 B Gh ([],[]) sb):=uW B 100 aT (fun _=>True) Gh ([],[]) sb (fun _ _=>trivial) (zcb B sb)
end
section
open Go.RowKit Go.Shelf
theorem bH(w:World):UJ ([],[]) w.heap.size (fun k=>k=w.heap.size) (fun _=>False) (w.alloc (.cells #[.slice none 0 0,.slice none 0 0] 70)) :=
 ⟨[],_,_,rfl,Z7.new _ _ _,World.ownsRow_nil _ _ _ _,World.ownsRow_nil _ _ _ _,rfl,fun k e=>(by cases e),fun k e=>(by cases e),fun k e=>(by cases e),fun g hg=>(by cases hg),fun k h=>h.elim,fun k hk=>by rw [hk];simp,fun k h=>h.elim,fun g hg=>(by cases hg),fun q hq=>(by cases hq),by decide,by decide⟩
theorem QL{B:Nat}{w:World}(he:Env B w)(f:St->List UInt8->List UInt8 × St):Y6 B f ([],[]) w.heap.size (fun k=>k=w.heap.size) (fun _=>False) [] (w.alloc (.cells #[.slice none 0 0,.slice none 0 0] 70)) :=
 ⟨bH w,he.new (bA),fun k hk=>by rw [hk];exact he.1,fun k hk=>by
   rcases hk with rfl|hk
   · exact ⟨_,Z7.new _ _ _,rfl⟩
   · exact hk.elim⟩
theorem VF(xs:List (List UInt8))(A A':Option Addr)(c c':Nat)(w:World)(hn:xs.length<=1000000)(hs:Sl w w.heap.size A (ZF xs))(hs':Sl w w.heap.size A' (ZF xs)):
 Calls prog 16 #[.slice A xs.length c,.slice A' xs.length c'] w fun e w'=>e=.returned (.bool true)/\Below w.heap.size w w':=by
 have zmr:∀ (b off:Nat),(∀ j u,(ZF xs)[j]?=some u->w.cell? ⟨b,off+j,none⟩=some u)->∀ j,j<(xs.map strOf).length->w.cell? ⟨b,off+j,none⟩=some (.string ((xs.map strOf).getD j ByteArray.empty)):=fun b off hc j hj=>by
  rw [List.length_map] at hj;have h2:xs[j]?=some xs[j]:=List.getElem?_eq_getElem hj;rw [hc j _ (Va h2),List.getD_eq_getElem?_getD,List.getElem?_map,h2];rfl
 by_cases h0:xs=[]
 · subst h0;refine (Any.slices_Equal_string_empty Tryz.lays193 A A' c 0 c' w (by omega)).mono ?_;rintro e w' ⟨rfl,rfl⟩;exact ⟨rfl,Below.refl _ _⟩
 · obtain ⟨b,off,rfl,hb,hc⟩:=hs.open_ (by unfold ZF;rw [List.length_map];exact List.length_pos_iff.2 h0);obtain ⟨b',off',rfl,hb',hc'⟩:=hs'.open_ (by unfold ZF;rw [List.length_map];exact List.length_pos_iff.2 h0);refine (Any.slices_Equal_string Tryz.lays193 b off xs.length c b' off' xs.length c' (xs.map strOf) (xs.map strOf) w (by simp) (by simp) (by omega) (by omega) (zmr b off hc) (zmr b' off' hc')).mono ?_;rintro e w' ⟨rfl,q,rfl⟩;refine ⟨?_,YB (Below.refl _ _) q⟩;rw [decide_eq_true rfl]
theorem zpt:strOf (YW 11)={ data:=#[101,114,114,111,114,32,49,49] }:=by
 unfold YW txt NY;rw [if_neg (by decide),show (11:Int).natAbs=11 from rfl,wK (by decide),UQ (by decide)];rfl
theorem zun:strOf [111,107]={ data:=#[111,107] }:=rfl
def fB:List (List UInt8):=[[49],[49],[50],[49,32,55]]
section
variable (w:World){B:Nat}(he:Env B w)
include he
theorem tF:Calls prog 11 #[] w fun e w'=>e=.returned (.bool true)/\Below w.heap.size w w':=by
 obtain ⟨w1,hw1⟩:=eE (w.alloc (.cells #[.slice none 0 0,.slice none 0 0] 70));have hb1:=bE hw1;obtain ⟨sb,hsb⟩:=eE w.heap.size;have D:=zft sb sb;have h1:Y6 sb Gh ([],[]) sb (fun k=>k=sb) (fun _=>False) [] w1:=by
  rw [hw1,hsb];exact QL (B:=w.heap.size) ⟨Nat.le_refl _,fun w' hb=>he.2 w' (Vu hb he.1)⟩ Gh
 have HR:=hide (Dr D Ae (by decide) (fun l hl=>by
  rw [V4] at hl;simp only [List.mem_cons,List.not_mem_nil,or_false] at hl;rcases hl with h|h|h|h
  · exact .inl h
  · exact .inr (.inl h)
  · exact .inr (.inr (.inl h))
  · exact .inr (.inr (.inr (.inl h)))) w1 _ _ [] h1 (by rw [V4];decide))
 have HD:=hide D;have HB1:Hid (Below sb w w1):=hide (by rw [hsb];exact hb1);have HSB:Hid (sb<w1.heap.size):=hide (by rw [hw1,hsb];simp);have HN:=hide (TU w);rw [<- hw1,<- hsb] at HN;rw [<- hsb];clear he D h1 hb1 hw1 hsb;go_enter func11,ntmps11;go_wp2_with fail;refine HN.out.mono ?_;rintro e w' ⟨rfl,hw'⟩;subst hw';go_wp2_with fail;refine HR.out.mono ?_;rintro e w2 ⟨W,R,v,rfl,hi2,hvd,hW,-,ZT,hk2⟩;rw [zwu,V4] at ZT;have ZT:w2.ownsRow w'.heap.size 9 1 v 4 (ZF fB):=ZT;obtain ⟨VA,vc,rfl,-⟩:=ZP ZT;obtain ⟨w3,hw3⟩:=eE (w2.alloc (.cells #[.string { data:=#[49] },.string { data:=#[49] },.string { data:=#[50] },.string { data:=#[49,32,55] }] 9));obtain ⟨g3,hg3⟩:=eE w2.heap.size;have hb3:=bE hw3;have N3:Z7 w3 g3 9 (ZF fB).toArray:=by rw [hw3,hg3];exact Z7.new _ _ _
 have hs3:Sl w3 w3.heap.size VA (ZF fB):=((Sl.Zv ZT).below hb3).more hb3.size;have ht3:Sl w3 w3.heap.size (some ⟨g3,0,none⟩) (ZF fB):=Sl.mk N3.lt fun j u hu=>by rw [Nat.zero_add];exact N3.cell (by simpa using hu)
 have HEQ:=hide (VF fB VA (some ⟨g3,0,none⟩) vc 4 w3 (by decide) hs3 ht3);have HI2:=hide hi2;have HW:=hide hW;have Ef:=hide hk2;have HB3:=hide hb3;clear hi2 hvd hW ZT hk2 hb3 N3 hs3 ht3 HR;go_wp2_with fail;rw [<- hw3,<- hg3];clear hw3 hg3;refine HEQ.out.mono ?_;rintro e w4 ⟨rfl,hb4⟩
 have hi4:=HD.out.keep HI2.out (Z9.of_below (Z8 HB3.out hb4) fun k hk=>by
  have h2:=Ef.out.size;have h3:=HSB.out;rcases hk with hk|hk
  · omega
  · exact Wy (HD.out.cell HI2.out k hk))
 have HDO:=hide (HD.out.step aL5 (.inr (.inr (.inr (.inr (.inl rfl))))) (by rw [V4];decide) hi4);rw [List.nil_append,zfu,zpt] at HDO;have LM:=hide (Z8 HB3.out hb4);clear hi4 hb4 HEQ;go_wp2_with fail;refine HDO.out.mono ?_;rintro e w5 ⟨rfl,W5,R5,hi5,D8,-,hk5⟩;have HD6:=hide (HD.out.step aL6 (.inr (.inr (.inr (.inr (.inr rfl))))) (by rw [V4];decide) hi5);rw [zfs,zun] at HD6;have HW5:=hide D8;have HK5:=hide hk5;clear hi5 D8 hk5 HDO;go_wp2_with fail;refine HD6.out.mono ?_;rintro e w6 ⟨rfl,-,-,-,-,-,Uh⟩;have HK6:=hide Uh;clear Uh HD6;go_wp2;go_ret;refine ⟨rfl,?_⟩;have h2:=Ef.out.size;have h4:=LM.out.size;have h5:=HK5.out.size;have h3:=HSB.out;have hWs:∀ k,W k->sb<=k:=fun k hk=>by rcases HW.out k hk with h|h <;> omega
 refine Zd HB1.out (Zd (Ef.out.below fun k hk=>⟨by omega,by omega⟩) (Zd (Vu LM.out (by omega)) (Zd (HK5.out.below fun k hk=>⟨by omega,fun h=>by have:=hWs k h;omega⟩) (HK6.out.below fun k hk=>⟨by omega,fun h=>?_⟩))));rcases HW5.out k h with h|h
 · have:=hWs k h;omega
 · omega
end
end
section
open Go.RowKit Go.Shelf
def AJ(n:Nat):Int:=if 48<=n/\n<=57 then (n:Int) - 48 else if 97<=n/\n<=102 then (n:Int) - 97+10 else -1
theorem gG(b:UInt8):(Jk b=true->AJ b.toNat=(R9 b:Int))/\(Jk b=false->AJ b.toNat=-1):=by
 have h:∀ i:Fin 256,(Jk (UInt8.ofNat i.val)=true->AJ (UInt8.ofNat i.val).toNat=(R9 (UInt8.ofNat i.val):Int))/\(Jk (UInt8.ofNat i.val)=false->AJ (UInt8.ofNat i.val).toNat=-1):=by decide +kernel
 have h2:=h ⟨b.toNat,b.toNat_lt⟩;rwa [UInt8.ofNat_toNat] at h2
theorem xI(n:Nat)(hn:n<=255)(w:World):Calls prog 70 #[.int .u8 (n:Int)] w fun e w'=>e=.returned (.int .i64 (AJ n))/\w'=w:=by
 unfold AJ
 by_cases h1:n<48
 · have k1:¬ (48:Int)<=(n:Int):=(by omega);have k2:¬ (97:Int)<=(n:Int):=(by omega);rw [if_neg (by omega),if_neg (by omega)];clear h1;go_enter func70,ntmps70;go_wp2;go_ret;exact ⟨rfl,rfl⟩
 · by_cases h2:n<=57
   · have k1:(48:Int)<=(n:Int):=(by omega);have k2:(n:Int)<=(57:Int):=(by omega);have e1:IntKind.u8.wrap ((n:Int) - 48)=(n:Int) - 48:=(by rw [IntKind.wrap_u8];omega);have e2:IntKind.i64.wrap ((n:Int) - 48)=(n:Int) - 48:=(by rw [IntKind.wrap_i64];omega);rw [if_pos (by omega)];clear h1 h2;go_enter func70,ntmps70;go_wp2;go_ret;exact ⟨rfl,rfl⟩
   · by_cases h3:n<97
     · have k1:(48:Int)<=(n:Int):=(by omega);have k2:¬ (n:Int)<=(57:Int):=(by omega);have k3:¬ (97:Int)<=(n:Int):=(by omega);rw [if_neg (by omega),if_neg (by omega)];clear h1 h2 h3;go_enter func70,ntmps70;go_wp2;go_ret;exact ⟨rfl,rfl⟩
     · by_cases h4:n<=102
       · have k1:(48:Int)<=(n:Int):=(by omega);have k2:¬ (n:Int)<=(57:Int):=(by omega);have k3:(97:Int)<=(n:Int):=(by omega);have k4:(n:Int)<=(102:Int):=(by omega);have e1:IntKind.u8.wrap ((n:Int) - 97)=(n:Int) - 97:=(by rw [IntKind.wrap_u8];omega);have e2:IntKind.i64.wrap ((n:Int) - 97)=(n:Int) - 97:=(by rw [IntKind.wrap_i64];omega);have e3:IntKind.i64.wrap ((n:Int) - 97+10)=(n:Int) - 97+10:=(by rw [IntKind.wrap_i64];omega);rw [if_neg (by omega),if_pos (by omega)];clear h1 h2 h3 h4;go_enter func70,ntmps70;go_wp2;go_ret;exact ⟨rfl,rfl⟩
       · have k1:(48:Int)<=(n:Int):=(by omega);have k2:¬ (n:Int)<=(57:Int):=(by omega);have k3:(97:Int)<=(n:Int):=(by omega);have k4:¬ (n:Int)<=(102:Int):=(by omega);rw [if_neg (by omega),if_neg (by omega)];clear h1 h2 h3 h4;go_enter func70,ntmps70;go_wp2;go_ret;exact ⟨rfl,rfl⟩
theorem KH:∀ (k:Nat) (t:List UInt8) (a b:UInt8),t[2*k]?=some a->t[2*k+1]?=some b->YF (t.take (2*k+2))=YF (t.take (2*k))++[((16*R9 a+R9 b:Nat):Int)]
 | 0,x::y::t,a,b,ha,hb=>by
   simp at ha hb;subst ha;subst hb;simp [YF]
 | 0,[],a,b,ha,hb=>by simp at ha
 | 0,[_],a,b,ha,hb=>by simp at hb
 | k+1,x::y::t,a,b,ha,hb=>by
   have e:2*(k+1)=2*k+1+1:=(by omega);rw [e] at ha hb ⊢;rw [List.getElem?_cons_succ,List.getElem?_cons_succ] at ha;rw [show 2*k+1+1+1=(2*k+1)+1+1 from rfl,List.getElem?_cons_succ,List.getElem?_cons_succ] at hb;have ih:=KH k t a b ha hb;rw [show 2*k+1+1+2=(2*k+2)+1+1 from rfl,List.take_succ_cons,List.take_succ_cons,List.take_succ_cons,List.take_succ_cons,YF,YF,ih];rfl
 | k+1,[],a,b,ha,hb=>by simp at ha
 | k+1,[_],a,b,ha,hb=>by
   rw [show 2*(k+1)=(2*k+1)+1 from by omega] at ha;simp at ha
def zfp(t:List UInt8)(w:World)(e:Ending)(w':World):Prop :=
 Below w.heap.size w w'/\((Ea t=true/\∃ v,e=.returned (.tuple #[v,.bool true])/\w'.ownsRow w.heap.size 5 1 v (YF t).length (ZU (YF t)))\/(Ea t=false/\e=.returned (.tuple #[.slice none 0 0,.bool false])))
theorem qZ(t:List UInt8)(hl:t.length<=1000000)(w:World):Calls prog 33 #[.string (strOf t)] w (zfp t w):=by
 obtain ⟨s,hs⟩:=eE (strOf t);obtain ⟨N,hN⟩:=eE t.length;have hz:(s.size:Int)=(N:Int):=by rw [hs,ZK,hN]
 obtain ⟨i0,hi,hi0,hi1,hi2⟩:=info_parts UE;have hem:s.toList.isEmpty=t.isEmpty:=by rw [hs,YL]
 have hNl:N<=1000000:=by omega
 rw [<- hs]
 by_cases h0:N=0
 · have hE:t.isEmpty=true:=(by rw [List.isEmpty_iff];exact List.length_eq_zero_iff.1 (by omega));rw [hE] at hem;have Ud:Hid (Ea t=false):=hide (by unfold Ea;rw [hE];rfl);clear hs hN hE hl;go_enter func33,ntmps33;go_wp2;go_ret2;exact ⟨Below.refl _ _,.inr ⟨Ud.out,rfl⟩⟩
 · have hE:t.isEmpty=false:=by
    cases t with
    | nil=>exact absurd hN h0
    | cons=>rfl
   rw [hE] at hem
   by_cases hp:N % 2=1
   · have Ud:Hid (Ea t=false):=hide (by unfold Ea;rw [<- hN,decide_eq_false (by omega)];simp);have hpm:(N:Int).tmod 2=1:=(by rw [Int.tmod_eq_emod_of_nonneg (by omega)];omega);have hpe:(N:Int) % 2=1:=(by omega);clear hs hN hE hl hp h0;go_enter func33,ntmps33;go_wp2;go_ret2;exact ⟨Below.refl _ _,.inr ⟨Ud.out,rfl⟩⟩
   · have hpm:¬ (N:Int).tmod 2=1:=(by rw [Int.tmod_eq_emod_of_nonneg (by omega)];omega);have hpe:¬ (N:Int) % 2=1:=(by omega);have hpb:((N:Int) % 2 == 1)=false:=beq_eq_false_iff_ne.2 hpe;have HS:=hide hs;have HN:=hide hN;have HP:=hide hp;have HE:=hide hE;have HD:=hide (fun (n:Nat) (hn:n<=255)=>xI n hn);clear hs hN hE hl hp;go_enter func33,ntmps33;go_wp2
     go_loopw [4,5] (fun v i wr=>∃ k j:Nat,j=2*k/\j<=N/\i=.int .i64 (j:Int)/\wr.ownsRow w.heap.size 5 1 v k (ZU (YF (t.take (2*k))))/\(t.take (2*k)).all Jk=true/\Below w.heap.size w wr)
      (fun _ i _=>N - (intOf i).toNat)
     case atStart=>exact ⟨0,0,rfl,Nat.zero_le _,rfl,World.ownsRow_nil _ _ _ _,rfl,Below.refl _ _⟩
     case round =>
      obtain ⟨k,j,hj,hjN,rfl,ZT,hall,hbr⟩:=hrel
      by_cases hlt:j<N
      · have hki:(j:Int)<(N:Int):=(by omega);have hj2:j+1<N:=(by have:=HP.out;omega);obtain ⟨a,ha⟩:∃ a,t[j]?=some a:=⟨_,List.getElem?_eq_getElem (by rw [<- HN.out];exact hlt)⟩;obtain ⟨b,hb⟩:∃ b,t[j+1]?=some b:=⟨_,List.getElem?_eq_getElem (by rw [<- HN.out];exact hj2)⟩;have ia:=fun W=>NQ HS.out ha W
        have ib:∀ W,(Instr.index 9 (.string s) (.int .i64 ((j:Int)+1))).run prog W=.ok (.int .u8 ((b.toNat:Nat):Int)) W:=fun W=>by
         have h:=NQ HS.out hb W;rw [Int.natCast_add] at h;exact h
        have DA:=hide (HD.out a.toNat (by have:=a.toNat_lt;omega));have DB:=hide (HD.out b.toNat (by have:=b.toNat_lt;omega));obtain ⟨an,han⟩:∃ n,n=a.toNat:=⟨_,rfl⟩;obtain ⟨bn,hbn⟩:∃ n,n=b.toNat:=⟨_,rfl⟩;rw [<- han] at ia DA;rw [<- hbn] at ib DB;have zN:=hide han;have HBN:=hide hbn;obtain ⟨va,hva⟩:∃ v,v=AJ an:=⟨_,rfl⟩;obtain ⟨vb,hvb⟩:∃ v,v=AJ bn:=⟨_,rfl⟩;rw [<- hva] at DA;rw [<- hvb] at DB;have hda:=gG a;have hdb:=gG b;rw [<- han,<- hva] at hda;rw [<- hbn,<- hvb] at hdb;have HJ:=hide hj;have nD:=hide (And.intro ha hb)
        have hbad:∀ c,c∈t->Jk c=false->Ea t=false:=fun c hc hh=>by
         unfold Ea;rw [List.all_eq_false.2 ⟨c,hc,by simp [hh]⟩];simp
        have sP:Hid (Jk a=false->Ea t=false):=hide (hbad a (List.mem_of_getElem? ha));have Ga:Hid (Jk b=false->Ea t=false):=hide (hbad b (List.mem_of_getElem? hb));clear ha hb han hbn hva hvb hj hbad;cases hia:Jk a with
        | false =>
          have va1:=hda.2 hia;subst va1;have Ud:=hide (sP.out hia);have RN:=hide hbr;clear hda hdb ZT hall hbr hia sP Ga;go_wp2_with fail;refine (DA.out wr).mono ?_;rintro e w1 ⟨rfl,rfl⟩;go_wp2_with fail;refine (DB.out _).mono ?_;rintro e w2 ⟨rfl,rfl⟩;go_wp2;go_ret2;exact ⟨RN.out,.inr ⟨Ud.out,rfl⟩⟩
        | true =>
          obtain ⟨xa,hxa⟩:∃ x,x=R9 a:=⟨_,rfl⟩;have va1:=hda.1 hia;rw [<- hxa] at va1;have hxl:xa<16:=(by rw [hxa];exact (EK hia).1);subst va1;have na:¬ (xa:Int)<0:=(by omega);cases hib:Jk b with
          | false =>
            have vb1:=hdb.2 hib;subst vb1;have Ud:=hide (Ga.out hib);have RN:=hide hbr;clear hda hdb ZT hall hbr hia hib sP Ga hxa;go_wp2_with fail;refine (DA.out wr).mono ?_;rintro e w1 ⟨rfl,rfl⟩;go_wp2_with fail;refine (DB.out _).mono ?_;rintro e w2 ⟨rfl,rfl⟩;go_wp2;go_ret2;exact ⟨RN.out,.inr ⟨Ud.out,rfl⟩⟩
          | true =>
            obtain ⟨xb,hxb⟩:∃ x,x=R9 b:=⟨_,rfl⟩;have vb1:=hdb.1 hib;rw [<- hxb] at vb1;have hyl:xb<16:=(by rw [hxb];exact (EK hib).1);subst vb1;have nb:¬ (xb:Int)<0:=(by omega);have e1:IntKind.i64.wrap (16*(xa:Int))=16*(xa:Int):=(by rw [IntKind.wrap_i64];omega);have e2:IntKind.i64.wrap (16*(xa:Int)+(xb:Int))=16*(xa:Int)+(xb:Int):=(by rw [IntKind.wrap_i64];omega);have e3:IntKind.u8.wrap (16*(xa:Int)+(xb:Int))=16*(xa:Int)+(xb:Int):=by rw [IntKind.wrap_u8];omega
            have Lg:Hid (ZU (YF (t.take (2*(k+1))))=ZU (YF (t.take (2*k)))++[.int .u8 (16*(xa:Int)+(xb:Int))]):=hide (by
             have h:=nD.out;rw [HJ.out] at h;rw [show 2*(k+1)=2*k+2 from by omega,KH k t a b h.1 h.2,Ww,<- hxa,<- hxb]
             rfl)
            have sM:Hid ((t.take (2*(k+1))).all Jk=true):=hide (by
             have h:=nD.out;rw [HJ.out] at h;rw [show 2*(k+1)=2*k+1+1 from by omega,List.take_add_one,List.take_add_one,h.1,h.2,List.all_append,List.all_append,hall]
             simp [hia,hib])
            obtain ⟨w4,hw4⟩:=eE (wr.alloc (.cells #[.int .u8 (16*(xa:Int)+(xb:Int))] 5));have hb4:=bE hw4;have N4:Z7 w4 wr.heap.size 5 #[.int .u8 (16*(xa:Int)+(xb:Int))]:=(by rw [hw4];exact Z7.new _ _ _);have Y1:=ZI ZT hb4;have zxq:=Z8 hbr hb4;obtain ⟨g7,c7,w7,hr7,XU,hg7,-,-⟩:=run_append_lies (P:=prog) w4 49 49 w.heap.size 5 i0 (.int .u8 0) 1 1 underlying49 hi hi0 hi1 hi2 rfl (by decide) _ k _ Y1 ⟨wr.heap.size,0,none⟩ 1 1 [.int .u8 (16*(xa:Int)+(xb:Int))] rfl (ZB N4) (by simp [Value.oneCell']) (by omega) (by unfold maxLen;have:=HJ.out;omega) (by have:=HJ.out;omega) zxq.size _ rfl;rw [<- Lg.out] at XU;have HO7:=hide XU;have dN:=hide (zxq.grown hg7 zxq.size (fun j hj=>ZN Y1 hj));clear hda hdb ZT hall hbr hia hib sP Ga hxa hxb hb4 N4 Y1 zxq XU hg7 Lg;go_wp2_with fail;refine (DA.out wr).mono ?_;rintro e w1 ⟨rfl,rfl⟩;go_wp2_with fail;refine (DB.out _).mono ?_;rintro e w2 ⟨rfl,rfl⟩;go_wp2_with (at_builtin;rw [<- hw4];refine QW (.tmp 37) (.tmp 43) 49 rfl rfl _ _ rfl rfl hr7 ?_);go_wp2;go_roundw
            case rel=>exact ⟨k+1,j+2,by have:=HJ.out;omega,by omega,by go_num,HO7.out,sM.out,dN.out⟩
            case measure=>simp [intOf];omega
      · obtain rfl:j=N:=(by omega);have hki:¬ (j:Int)<(j:Int):=(by omega);have hk2:2*k=t.length:=(by rw [<- hj,HN.out]);rw [hk2,List.take_length] at ZT hall
        have Ud:Hid (Ea t=true):=hide (by
         unfold Ea;rw [hall,HE.out,decide_eq_true (by have:=HP.out;have:=HN.out;omega)]
         rfl)
        have hpl:(YF t).length=k:=(PW k t hk2.symm hall).2.2;rw [<- hpl] at ZT;obtain ⟨VA,vc,rfl,-⟩:=ZP ZT;have HOW:=hide ZT;have RN:=hide hbr;obtain ⟨q,hq⟩:=eE ((YF t).length);rw [<- hq];have HQ:=hide hq;clear ZT hbr hall hpl hk2 hj hq;go_wp2;go_ret2;exact ⟨RN.out,.inl ⟨Ud.out,_,rfl,by rw [HQ.out];exact HOW.out⟩⟩
theorem PS:∀ (l cur:List UInt8),∀ x∈YT cur l,x.length<=cur.length+l.length
 | [],cur,x,h=>by
   unfold YT at h;split at h
   · cases h
   · rw [List.mem_singleton.1 h];exact Nat.le_add_right ..
 | c::r,cur,x,h=>by
   unfold YT at h;split at h
   · rcases List.mem_cons.1 h with h|h
     · rw [h];exact Nat.le_add_right ..
     · have:=PS r [] x h;rw [List.length_cons];rw [List.length_nil] at this;omega
   · have:=PS r _ x h;rw [List.length_append,List.length_cons,List.length_nil] at this;rw [List.length_cons];omega
theorem WG{l x:List UInt8}(h:x∈Yb l):x.length<=l.length:=by
 have:=PS l [] x h;rw [List.length_nil] at this;omega
def zbu(t:List UInt8)(w:World)(e:Ending)(w':World):Prop:=∃ z:Bool,e=.returned (.bool z)/\(z=false->t.length<=6000/\(Yb t).length<=30)/\Below w.heap.size w w'
theorem su(s p:List UInt8):(Lib.trimPrefix s p).length<=s.length:=by
 unfold Lib.trimPrefix;split
 · rw [List.length_drop];omega
 · exact Nat.le_refl _
theorem FT(t:List UInt8)(ht:t.length<=2000000)(w:World):Calls prog 10 #[.string (strOf t)] w (zbu t w):=by
 obtain ⟨s,hs⟩:=eE (strOf t);obtain ⟨N,hN⟩:=eE t.length;obtain ⟨n,hn⟩:=eE ((Yb t).length);have hz:(s.size:Int)=(N:Int):=by rw [hs,ZK,hN]
 have HL:=hide (KU t ht w);rw [<- hs,<- hn] at HL;rw [<- hs];have HN:=hide hN;have zO:=hide hn;clear hs ht hN hn;go_enter func10,ntmps10;go_wp2_with fail;refine HL.out.mono ?_;rintro e w1 ⟨v,rfl,ZT,hb1⟩;obtain ⟨VA,vc,rfl,-⟩:=ZP ZT;have HS:=hide (Sl.Zv ZT);have HB1:=hide hb1;clear ZT hb1 HL
 by_cases h1:(N:Int) > 6000
 · go_wp2;go_ret;exact ⟨true,rfl,fun h=>(by cases h),HB1.out⟩
 · by_cases h2:(n:Int) > 30
   · go_wp2;go_ret;exact ⟨true,rfl,fun h=>(by cases h),HB1.out⟩
   · have dV:Hid (t.length<=6000/\(Yb t).length<=30):=hide (by have:=HN.out;have:=zO.out;omega);go_wp2
     go_loopw [22] (fun i wr=>∃ k:Nat,k<=n/\i=.int .i64 (k:Int)/\Below w1.heap.size w1 wr) (fun i _=>n - (intOf i).toNat)
     case atStart=>exact ⟨0,Nat.zero_le _,rfl,Below.refl _ _⟩
     case round =>
      obtain ⟨k,hk,rfl,hbr⟩:=hrel
      by_cases hkn:k<n
      · have hki:(k:Int)<(n:Int):=(by omega);have zxv:n<=30:=(by omega);obtain ⟨x,hx⟩:∃ x,(Yb t)[k]?=some x:=⟨_,List.getElem?_eq_getElem (by rw [<- zO.out];exact hkn)⟩;obtain ⟨b,off,rfl,hbb,hc⟩:=HS.out.open_ (by unfold ZF;rw [List.length_map];have:=zO.out;omega);have c0:wr.cell? ⟨b,off+k,none⟩=some (.string (strOf x)):=(hbr.cell (p:=⟨b,off+k,none⟩) hbb).trans (hc k _ (Va hx));have hxl:x.length<=6000:=Nat.le_trans (WG (List.mem_of_getElem? hx)) dV.out.1;have CP:=hide (Qf (strOf x) { data:=#[114,101,113,117,101,115,116,32] } wr);obtain ⟨y,hy⟩:=eE (Lib.trimPrefix x [114,101,113,117,101,115,116,32]);have hyl:y.length<=6000:=(by rw [hy];exact Nat.le_trans (su _ _) hxl);obtain ⟨f,hf⟩:=eE (Lib.hasPrefix x [114,101,113,117,101,115,116,32]);have CP2:Hid (Calls prog 32 #[.string (strOf x),.string { data:=#[114,101,113,117,101,115,116,32] }] wr fun e w'=>e=.returned (.tuple #[.string (strOf y),.bool f])/\w'=wr):=hide (by rw [hy,hf];exact CP.out);have RD:=hide (qZ y (by omega) wr);have RN:=hide hbr;obtain ⟨X,hX⟩:=eE (strOf x);obtain ⟨Y,hY⟩:=eE (strOf y);rw [<- hX,<- hY] at CP2;rw [<- hX] at c0;rw [<- hY] at RD;clear hx hbb hc hxl CP hy hyl hf hbr hX hY;go_wp2_with fail;refine CP2.out.mono ?_;rintro e w2 ⟨rfl,rfl⟩;clear CP2 c0;cases f with
        | false =>
          have HB2:=RN;clear RD;go_wp2;go_roundw
          case rel=>exact ⟨k+1,by omega,by go_num,HB2.out⟩
          case measure=>simp [intOf];omega
        | true =>
          go_wp2_with fail;refine RD.out.mono ?_;rintro e w3 ⟨hb3,⟨hok,v3,rfl,Zt⟩|⟨hok,rfl⟩⟩
          · obtain ⟨VA3,vc3,rfl,-⟩:=ZP Zt;have hby:=(CB hok)
            have SK:Hid (Calls prog 30 #[.slice VA3 (YF y).length vc3] w3 (SkB (YF y) w3)):=hide (by
             obtain ⟨bs,-,hb,-,e⟩:=hby;rw [<- e];rw [<- e] at Zt
             exact bI bs VA3 vc3 w3 (Sl.Zv Zt) hb)
            have HB3:=hide (Z8 RN.out hb3);obtain ⟨q,hq⟩:=eE ((YF y).length);rw [<- hq] at SK ⊢;clear Zt hb3 hby RD hok hq;go_wp2_with fail;refine SK.out.mono ?_;rintro e w4 ⟨z,rfl,hz4,-,hb4⟩;have LM:=hide (Z8 HB3.out hb4);clear SK hb4;rcases hz4 with rfl|rfl
            · go_wp2;go_roundw
              case rel=>exact ⟨k+1,by omega,by go_num,LM.out⟩
              case measure=>simp [intOf];omega
            · go_wp2;go_ret;exact ⟨true,rfl,fun h=>(by cases h),Z8 HB1.out LM.out⟩
          · have HB3:=hide (Z8 RN.out hb3);clear hb3 RD hok;go_wp2;go_roundw
            case rel=>exact ⟨k+1,by omega,by go_num,HB3.out⟩
            case measure=>simp [intOf];omega
      · obtain rfl:k=n:=(by omega);have hki:¬ (k:Int)<(k:Int):=(by omega);have RN:=hide hbr;clear hbr;go_wp2;go_ret;exact ⟨false,rfl,fun _=>dV.out,Z8 HB1.out RN.out⟩
def Vi(s:List (List UInt8))(l:List UInt8):List UInt8:=(UN (nC UN ([],[]) s) l).1
theorem qF(l:List (List UInt8))(σ:St):(Vl l σ).2=σ:=by unfold Vl;split <;> rfl
theorem om(l:List (List UInt8))(σ:St):(Vh l σ).2=σ:=by unfold Vh;split <;> rfl
theorem oF(l:List (List UInt8))(σ:St):(Wz l σ).2=σ:=by
 unfold Wz;split
 · rfl
 · split <;> rfl
theorem tC(d k:Bool)(l:List (List UInt8))(σ:St):(QV d k l σ).2.2=σ.2:=by
 unfold QV;cases Yp l with
 | none=>rfl
 | some ps =>
   dsimp only;cases k <;> repeat' split
   all_goals rfl
theorem fE(d:Bool)(l:List (List UInt8))(σ:St):(LX d l σ).2.2=σ.2:=by
 unfold LX;split
 · rfl
 · split
   · exact tC ..
   · split
     · exact tC ..
     · rfl
theorem qz(l:List (List UInt8))(σ:St):(Xp l σ).2=σ:=by
 unfold Xp;split
 · split <;> rfl
 · rfl
theorem kS(l:List (List UInt8))(σ:St):(Ul l σ).2.2.length<=σ.2.length+1:=by
 unfold Ul;split
 · unfold WI;split
   · split
     · exact Nat.le_succ _
     · rw [List.length_append];exact Nat.le_refl _
   · exact Nat.le_succ _
 · exact Nat.le_succ _
theorem zvk(l:List (List UInt8))(σ:St):(OU l σ).2=σ:=by
 unfold OU;split
 · rfl
 · split <;> rfl
theorem Al(t:List UInt8)(l:List (List UInt8))(σ:St):(UL t l σ).2=σ:=by
 unfold UL;split
 · rfl
 · split <;> rfl
theorem zuv(l:List (List UInt8))(σ:St):(NK l σ).2=σ:=by
 unfold NK;split
 · split <;> rfl
 · rfl
theorem fV(l:List (List UInt8))(σ:St):(SL l σ).2.2.length<=σ.2.length+1:=by
 unfold SL;split
 · exact Nat.zero_le _
 · exact Nat.le_succ _
theorem XO{c:Prop}[Decidable c]{a b:List UInt8 × St}{m:Nat}(ha:a.2.2.length<=m)(hb:b.2.2.length<=m):(if c then a else b).2.2.length<=m:=by
 split <;> assumption
theorem gq(n:Nat)(xs:List (List UInt8))(σ:St):(Qt n xs σ).2.2.length<=σ.2.length+1:=by
 unfold Qt;exact XO (by rw [qF];exact Nat.le_succ _) (XO (by rw [om];exact Nat.le_succ _) (XO (by rw [oF];exact Nat.le_succ _) (XO (by rw [fE];exact Nat.le_succ _) (XO (by rw [fE];exact Nat.le_succ _) (XO (by rw [qz];exact Nat.le_succ _) (XO (kS ..) (XO (by rw [zvk];exact Nat.le_succ _) (XO (by rw [Al];exact Nat.le_succ _) (XO (by rw [Al];exact Nat.le_succ _) (XO (by rw [zuv];exact Nat.le_succ _) (XO (fV ..) (Nat.le_succ _))))))))))))
theorem zxh(σ:St)(L:List UInt8):(UN σ L).2.2.length<=σ.2.length+1:=by
 unfold UN;split
 · exact Nat.le_succ _
 · exact gq ..
theorem Bo:∀ (s:List (List UInt8)) (σ:St),(s.foldl (fun σ l=>(UN σ l).2) σ).2.length<=σ.2.length+s.length
 | [],σ=>Nat.le_refl _
 | l::s,σ=>by
   have h1:=Bo s (UN σ l).2;have h2:=zxh σ l;rw [List.foldl_cons,List.length_cons];omega
theorem bJ(s:List (List UInt8)):(nC UN ([],[]) s).2.length<=s.length:=by
 have:=Bo s ([],[]);unfold nC;simpa using this
theorem UO(B sb:Nat):zW B 100 (fun l=>l.length<=6000) (.pointer (some ⟨sb,0,none⟩)) Vi (Y6 B UN ([],[]) sb) :=
 uW B 100 _ (fun σ=>σ.2.length<=100) UN ([],[]) sb (fun s hs=>Nat.le_trans (bJ s) (by omega)) (fun line ht _ _ _ X hq hs he Nr=>zpr line ht X hs he Nr hq)
end
section
open Go.RowKit Go.Shelf
theorem Tz(s:ByteArray):strOf s.data.toList=s:=by
 apply ByteArray.ext;simp [strOf]
section
variable (s:ByteArray)(w:World){B:Nat}(he:Env B w)
include he
end
end
section
open Go.RowKit Go.Shelf
theorem YS{B sb:Nat}{W R W0:Nat->Prop}{s:List (List UInt8)}{X Y:World}(h:Y6 B UN ([],[]) sb W R s X)(hk:Z9 (fun k=>k<X.heap.size/\¬ W0 k) X Y)(hd:∀ k,W k\/R k->¬ W0 k)(hB:∀ k,W0 k->B<=k):Y6 B UN ([],[]) sb W R s Y :=
 (UO B sb).keep h (hk.mono fun k hk=>by
   rcases hk with hk|hk
   · exact ⟨Nat.lt_of_lt_of_le hk ((UO B sb).low h).1,fun h0=>by have:=hB k h0;omega⟩
   · exact ⟨Wy ((UO B sb).cell h k hk),hd k hk⟩)
theorem YR{B sb:Nat}{W R:Nat->Prop}{s:List (List UInt8)}{X Y:World}(h:Y6 B UN ([],[]) sb W R s X)(hb:Below X.heap.size X Y):Y6 B UN ([],[]) sb W R s Y :=
 YS (W0:=fun _=>False) h (Z9.of_below hb fun _ hk=>hk.1) (fun _ _ h=>h) fun _ h=>h.elim
theorem Xu{W0:Nat->Prop}{X Y:World}{base size n:Nat}{e:TypeId}{v:Value}{xs:List Value}(h:X.ownsRow base e size v n xs)(hk:Z9 (fun k=>k<X.heap.size/\¬ W0 k) X Y)(hd:∀ k,v.ownBlock=some k->¬ W0 k):Y.ownsRow base e size v n xs :=
 Rt h hk fun k e=>⟨Yk h e,hd k e⟩
theorem Tw(B sb:Nat)(V:ByteArray)(t:List UInt8)(hV:V=strOf t)(ht:t.length<=1000000)(hT:∀ l∈Yb t,l.length<=6000)(s0:List (List UInt8))(hM:s0.length+(Yb t).length<=100)(W R:Nat->Prop)(X:World)(hi:Y6 B UN ([],[]) sb W R s0 X):
 Calls prog 17 #[.pointer (some ⟨sb,0,none⟩),.string V] X (Pv s0 t Vi (Y6 B UN ([],[]) sb) W R X):=by
 subst hV;exact Dr (UO B sb) t ht hT X W R s0 hi hM
section
variable (s1 s2:ByteArray)(h1:s1.size<=1048576)(h2:s2.size<=1048576)(w:World){B:Nat}(he:Env B w)
include h1 h2 he
end
end
end Go.Proofs.YthnenedoblncjaaGreatDoor