/- Disc FenceValid FenceMember Engine ConvexMath -/
import Derived.Laws.CopyOwn
import Derived.Test.YthnenedoblncjaaGreatDoorPkA05
import Derived.Test.YthnenedoblncjaaGreatDoorPkA30
set_option maxRecDepth 1000000
set_option maxHeartbeats 8000000
namespace Go.Proofs.YthnenedoblncjaaGreatDoor
open Go.Proofs.Tryz
open List (getElem_toArray getElem_cons_succ getElem_cons_zero setIfInBounds_toArray set_cons_zero set_cons_succ)
section
open Go.RowKit Go.Shelf
theorem SX {P:Program} (w:World) (dT sT ty elem:TypeId) (s g o dLen dCap:Nat) (a:Addr) (sLen sCap:Nat) (cur:Array Value) (t:TypeId) (cs:List Value)
 (hu:P.underlying dT=some (.slice elem)) (hs:(P.info? elem).map (·.size)=some s)
 (hg:w.heap[g]?=some (.cells cur t (0,0))) (hn:cs.length=Nat.min sLen dLen*s)
 (hsrc:∀ j v,cs[j]?=some v->w.cell? (a.add j)=some v) (hfit:o+cs.length<=cur.size) (h1:∀ v∈cs,v.oneCell'=true) :
 (Builtin.copy_ #[dT,sT] ty #[.slice (some ⟨g,o,none⟩) dLen dCap,.slice (some a) sLen sCap]).run P w =
   .ok (goInt (Nat.min sLen dLen:Nat)) (w.setRow g (cur.toList.take o++cs++cur.toList.drop (o+cs.length)).toArray):=by
 have hl:=run_loadCells_list (P:=P) w a cs hsrc;have hst:=run_storeCells_at P g o t cs 0 cur w hg (by simpa using hfit) h1;cases hq:P.info? elem with
 | none=>simp [hq] at hs
 | some i =>
   have hi:i.size=s:=(by simpa [hq] using hs);simp [Builtin.copy_,run_underlying hu,Builtin.lenOf,Builtin.firstCells,sizeOf,typeInfo,hq,hi,<- hn,hl,hst]
def Yf(ps:List Pt):Array Value:=#[.int .i64 (Z5 ps 0).1,.int .i64 (Z5 ps 0).2,.int .i64 (Z5 ps 1).1,.int .i64 (Z5 ps 1).2,.int .i64 (Z5 ps 2).1,.int .i64 (Z5 ps 2).2]
theorem Ow {fn:Func} {tmps:Array Value} {w:World} {g:Nat} {v0 v1 v2 v3 v4 v5:Value} (h:fn.results=#[.cell 2 416,.tmp 3])
 (hp:tmps.getD 2 undef=.pointer (some ⟨g,0,none⟩)) (hb:Z6 w g 416 #[v0,v1,v2,v3,v4,v5]) :
 (results fn tmps).run prog w=.ok (.tuple #[.agg #[v0,v1,v2,v3,v4,v5],tmps.getD 3 undef]) w:=by
 have c0:=hb.q0 rfl;have c1:=hb.q1 rfl;have c2:=hb.q2 rfl;have c3:=hb.q3 rfl;have c4:=hb.q4 rfl;have c5:=hb.q5 rfl;have hp':tmps[2]?.getD undef=.pointer (some ⟨g,0,none⟩):=by rw [<- hp];simp
 simp [results,h,hp',go_sem,c0,c1,c2,c3,c4,c5]
theorem LJ(ps:List Pt)(hn:ps.length≠3)(A:Option Addr)(c:Nat)(w:World):
 Calls prog 375 #[.slice A ps.length c] w fun e w'=>e=.returned (.tuple #[.agg #[.int .i64 0,.int .i64 0,.int .i64 0,.int .i64 0,.int .i64 0,.int .i64 0],.bool false])/\Below w.heap.size w w':=by
 have hni:¬ ((ps.length:Nat):Int)=3:=by omega
 have B0:Z6 ((w.alloc (.cells #[.int .i64 0,.int .i64 0,.int .i64 0,.int .i64 0,.int .i64 0,.int .i64 0] 416)).alloc (.cells #[.int .i64 0,.int .i64 0,.int .i64 0,.int .i64 0,.int .i64 0,.int .i64 0] 416)) w.heap.size 416 #[.int .i64 0,.int .i64 0,.int .i64 0,.int .i64 0,.int .i64 0,.int .i64 0]:=(Z6.new _ _ _).alloc _;go_enter func375,ntmps375;go_wp2;refine bodyPost_ret (Ow rfl rfl B0) rfl ⟨rfl,?_⟩;exact Z7 (bA) _
theorem LK(ps:List Pt)(hn:ps.length=3)(A:Option Addr)(c:Nat)(w:World)(hs:Sl w w.heap.size A (Zg ps)):
 Calls prog 375 #[.slice A ps.length c] w fun e w'=>e=.returned (.tuple #[.agg (Yf ps),.bool true])/\Below w.heap.size w w':=by
 obtain ⟨b,off,rfl,hb⟩:=VL hs (by omega);have hc:∀ j u,(Zg ps)[j]?=some u->w.cell? ⟨b,off+j,none⟩=some u:=by
  rcases hs with h|⟨b',off',hA,_,h⟩
  · exfalso
    have h2:=YE (fun p:Int × Int=>[Value.int .i64 p.1,.int .i64 p.2]) 2 (fun _=>rfl) ps;have h3:(Zg ps).length=3*2:=(by rw [<- hn];exact h2);rw [h] at h3;simp at h3
  · cases hA;exact h
 have hcs:Zg ps=(Yf ps).toList:=by
  match ps,hn with
  | [p,q,r],_=>rfl
 rw [hcs] at hc
 have hc2:∀ j v,(Yf ps).toList[j]?=some v->((w.alloc (.cells #[.int .i64 0,.int .i64 0,.int .i64 0,.int .i64 0,.int .i64 0,.int .i64 0] 416)).alloc (.cells #[.int .i64 0,.int .i64 0,.int .i64 0,.int .i64 0,.int .i64 0,.int .i64 0] 416)).cell? ((⟨b,off,none⟩:Addr).add j)=some v:=fun j v hv=>by
  have h1:=hc j v hv;have h2:=(Z7 (Z7 (Below.refl w.heap.size w) (.cells #[.int .i64 0,.int .i64 0,.int .i64 0,.int .i64 0,.int .i64 0,.int .i64 0] 416)) (.cells #[.int .i64 0,.int .i64 0,.int .i64 0,.int .i64 0,.int .i64 0,.int .i64 0] 416)).cell (p:=⟨b,off+j,none⟩) hb;rw [h1] at h2;rw [show (⟨b,off,none⟩:Addr).add j=⟨b,off+j,none⟩ by simp [Addr.add]];exact h2
 have B1:Z6 ((w.alloc (.cells #[.int .i64 0,.int .i64 0,.int .i64 0,.int .i64 0,.int .i64 0,.int .i64 0] 416)).alloc (.cells #[.int .i64 0,.int .i64 0,.int .i64 0,.int .i64 0,.int .i64 0,.int .i64 0] 416)) (w.heap.size+1) 416 #[.int .i64 0,.int .i64 0,.int .i64 0,.int .i64 0,.int .i64 0,.int .i64 0]:=Z6.new2 _ _ _ _;have B0:Z6 ((w.alloc (.cells #[.int .i64 0,.int .i64 0,.int .i64 0,.int .i64 0,.int .i64 0,.int .i64 0] 416)).alloc (.cells #[.int .i64 0,.int .i64 0,.int .i64 0,.int .i64 0,.int .i64 0,.int .i64 0] 416)) w.heap.size 416 #[.int .i64 0,.int .i64 0,.int .i64 0,.int .i64 0,.int .i64 0,.int .i64 0]:=(Z6.new _ _ _).alloc _;rw [hn];have hrun:=SX (P:=prog) ((w.alloc (.cells #[.int .i64 0,.int .i64 0,.int .i64 0,.int .i64 0,.int .i64 0,.int .i64 0] 416)).alloc (.cells #[.int .i64 0,.int .i64 0,.int .i64 0,.int .i64 0,.int .i64 0,.int .i64 0] 416)) 36 36 3 41 2 (w.heap.size+1) 0 3 3 ⟨b,off,none⟩ 3 c #[.int .i64 0,.int .i64 0,.int .i64 0,.int .i64 0,.int .i64 0,.int .i64 0] 416 (Yf ps).toList underlying36 (by kernel_rfl) B1 rfl hc2 (by simp [Yf]) (by simp [Yf,Value.oneCell']);have hb2:Below (w.heap.size+1) ((w.alloc (.cells #[.int .i64 0,.int .i64 0,.int .i64 0,.int .i64 0,.int .i64 0,.int .i64 0] 416)).alloc (.cells #[.int .i64 0,.int .i64 0,.int .i64 0,.int .i64 0,.int .i64 0,.int .i64 0] 416)) (((w.alloc (.cells #[.int .i64 0,.int .i64 0,.int .i64 0,.int .i64 0,.int .i64 0,.int .i64 0] 416)).alloc (.cells #[.int .i64 0,.int .i64 0,.int .i64 0,.int .i64 0,.int .i64 0,.int .i64 0] 416)).setRow (w.heap.size+1) (((#[.int .i64 0,.int .i64 0,.int .i64 0,.int .i64 0,.int .i64 0,.int .i64 0]:Array Value).toList.take 0++(Yf ps).toList++(#[.int .i64 0,.int .i64 0,.int .i64 0,.int .i64 0,.int .i64 0,.int .i64 0]:Array Value).toList.drop (0+(Yf ps).toList.length)).toArray)):=below_setRow (Below.refl _ _) (Nat.le_refl _) _;have h2:=setRow_heap ((w.alloc (.cells #[.int .i64 0,.int .i64 0,.int .i64 0,.int .i64 0,.int .i64 0,.int .i64 0] 416)).alloc (.cells #[.int .i64 0,.int .i64 0,.int .i64 0,.int .i64 0,.int .i64 0,.int .i64 0] 416)) (w.heap.size+1) #[.int .i64 0,.int .i64 0,.int .i64 0,.int .i64 0,.int .i64 0,.int .i64 0] (((#[.int .i64 0,.int .i64 0,.int .i64 0,.int .i64 0,.int .i64 0,.int .i64 0]:Array Value).toList.take 0++(Yf ps).toList++(#[.int .i64 0,.int .i64 0,.int .i64 0,.int .i64 0,.int .i64 0,.int .i64 0]:Array Value).toList.drop (0+(Yf ps).toList.length)).toArray) 416 _ B1;generalize ((w.alloc (.cells #[.int .i64 0,.int .i64 0,.int .i64 0,.int .i64 0,.int .i64 0,.int .i64 0] 416)).alloc (.cells #[.int .i64 0,.int .i64 0,.int .i64 0,.int .i64 0,.int .i64 0,.int .i64 0] 416)).setRow (w.heap.size+1) (((#[.int .i64 0,.int .i64 0,.int .i64 0,.int .i64 0,.int .i64 0,.int .i64 0]:Array Value).toList.take 0++(Yf ps).toList++(#[.int .i64 0,.int .i64 0,.int .i64 0,.int .i64 0,.int .i64 0,.int .i64 0]:Array Value).toList.drop (0+(Yf ps).toList.length)).toArray)=w2 at hrun hb2 h2;have B2:Z6 w2 (w.heap.size+1) 416 (Yf ps):=h2;have C2:Z6 w2 w.heap.size 416 #[.int .i64 0,.int .i64 0,.int .i64 0,.int .i64 0,.int .i64 0,.int .i64 0]:=B0.below hb2 (by omega);have hbb:Below w.heap.size w w2:=(Z7 (bA) _).trans (hb2.mono (by omega));have HB:=hide hbb;have z0:=B2.q0 rfl;have z1:=B2.q1 rfl;have z2:=B2.q2 rfl;have z3:=B2.q3 rfl;have z4:=B2.q4 rfl;have z5:=B2.q5 rfl;unfold Yf at z0 z1 z2 z3 z4 z5;dsimp at z0 z1 z2 z3 z4 z5;have y0:=C2.frozen 0;have y1:=C2.frozen 1;have y2:=C2.frozen 2;have y3:=C2.frozen 3;have y4:=C2.frozen 4;have y5:=C2.frozen 5;have u0:=C2.q0 rfl;have u1:=C2.q1 rfl;have u2:=C2.q2 rfl;have u3:=C2.q3 rfl;have u4:=C2.q4 rfl;have u5:=C2.q5 rfl;dsimp at u0 u1 u2 u3 u4 u5;have OD:=hide C2;clear hc2 hc hcs B1 B0 hs h2 hb2 B2 C2 hbb;go_enter func375,ntmps375;go_wp2;have E:Z6 _ w.heap.size 416 (Yf ps):=((((((OD.out.set 0 (.int .i64 (Z5 ps 0).1)).set 1 (.int .i64 (Z5 ps 0).2)).set 2 (.int .i64 (Z5 ps 1).1)).set 3 (.int .i64 (Z5 ps 1).2)).set 4 (.int .i64 (Z5 ps 2).1)).set 5 (.int .i64 (Z5 ps 2).2));refine bodyPost_ret (Ow rfl rfl E) rfl ?_;refine ⟨rfl,?_⟩;exact (((((HB.out.setCell (Nat.le_refl _) _).setCell (Nat.le_refl _) _).setCell (Nat.le_refl _) _).setCell (Nat.le_refl _) _).setCell (Nat.le_refl _) _).setCell (Nat.le_refl _) _
def Xu(ps:List Pt):Bool:=decide (ps.length=3) && !decide ((ZM (Z5 ps 0) (Z5 ps 1) (Z5 ps 2)).sign=0)
def Ve(n:Nat):List Ev:=if n=3 then [(4,0,2)] else []
def VR(ps:List Pt)(p:Pt):Int:=if ps.length=3 then (YI (Z5 ps 0) (Z5 ps 1) (Z5 ps 2) p).sign*(ZM (Z5 ps 0) (Z5 ps 1) (Z5 ps 2)).sign else -1
def Vd(n:Nat):List Ev:=if n=3 then [(6,0,0)] else []
section
variable (P:Nat->Prop)(t:Option (Nat × Nat))(es:List Ev)(ps:List Pt)(hps:Ub ps)(A:Option Addr)(c:Nat)(w:World)(hP:∀ k,P k->k<w.heap.size)(hg0:P 8)(hs:UU w P A (Zg ps))(hw:MW w)(ht:Tp w P t es)(hl:es.length<=900000)
include hps hP hg0 hs hw ht hl
theorem KC:Calls prog 374 #[.pointer (Zz t),.slice A ps.length c] w fun e w'=>e=.returned (.int .u64 (ZE (Xu ps)))/\Z8 P w w'/\Tp w' P t (es++Ve ps.length):=by
 by_cases hn:ps.length=3
 · have Bh:=LK ps hn A c w (hs.sl hP);unfold Yf at Bh;have HF:=hide Bh;have HO:Xu ps=!decide ((ZM (Z5 ps 0) (Z5 ps 1) (Z5 ps 2)).sign=0):=(by unfold Xu;rw [decide_eq_true hn];rfl);have HE:Ve ps.length=[(4,0,2)]:=(by unfold Ve;rw [if_pos hn]);rw [HO,HE];obtain ⟨os,hos⟩:=eE ((ZM (Z5 ps 0) (Z5 ps 1) (Z5 ps 2)).sign);rw [<- hos];have zop:=hide hos;have HT:=hide ht;have HP:=hide hP;have HW:=hide hw;have Jv:=hide hps;have HG:=hide hg0;clear hos HO HE ht hP hw hps hs hn hg0 Bh;go_enter func374,ntmps374;go_wp2_with fail;refine HF.out.mono ?_;rintro e w1 ⟨rfl,hb1⟩;obtain ⟨w2,hw2⟩:=eE (w1.alloc (.cells #[.int .i64 (Z5 ps 0).1,.int .i64 (Z5 ps 0).2,.int .i64 (Z5 ps 1).1,.int .i64 (Z5 ps 1).2,.int .i64 (Z5 ps 2).1,.int .i64 (Z5 ps 2).2] 416));have hb2:Below w.heap.size w w2:=(by rw [hw2];exact Z7 hb1 _);have B2:Z6 w2 w1.heap.size 416 #[.int .i64 (Z5 ps 0).1,.int .i64 (Z5 ps 0).2,.int .i64 (Z5 ps 1).1,.int .i64 (Z5 ps 1).2,.int .i64 (Z5 ps 2).1,.int .i64 (Z5 ps 2).2]:=(by rw [hw2];exact Z6.new _ _ _);have hm:∀ k,More P w w2 k->k<w2.heap.size:=Yw HP.out hb2;have Td:=hide (Vy (More P w w2) t es 4 0 2 w2 hm (HT.out.more hb2) (by omega) (by unfold QB;omega));have HI:Hid (More P w w2 w1.heap.size):=.inr ⟨hb1.size,B2.lt⟩;have HB2:=hide hb2;clear hb2 hb1 hm HF;go_wp2_with fail;rw [<- hw2];clear hw2;refine Td.out.mono ?_;rintro e w3 ⟨rfl,hk3,_,ht3⟩;have B3:=B2.kept hk3 HI.out;have z0:=B3.q0 rfl;have z1:=B3.q1 rfl;have z2:=B3.q2 rfl;have z3:=B3.q3 rfl;have z4:=B3.q4 rfl;have z5:=B3.q5 rfl;dsimp at z0 z1 z2 z3 z4 z5;have KH:Z8 P w w3:=Z8.more HB2.out HP.out hk3;have Ua:=(U9 (Z5 ps 0) (Z5 ps 1) (Z5 ps 2) (Jv.out.at_ _) (Jv.out.at_ _) (Jv.out.at_ _) w3 (HW.out.kept KH HG.out));have Eu:=Xq (ZM (Z5 ps 0) (Z5 ps 1) (Z5 ps 2));rw [<- zop.out] at Ua Eu;have zY:=hide Ua;clear Ua;have HK:=hide KH;have HT3:=hide (ht3.mono (R:=P) fun k h=>.inl h);clear hk3 ht3 B2 B3 KH Td;go_wp2_with fail;refine zY.out.mono ?_;rintro e w4 ⟨rfl,hb4⟩;obtain ⟨hz1,hz2⟩:=VE (x:=os) (by rcases Eu with h|h|h <;> omega) (by rcases Eu with h|h|h <;> omega);have HZ:=Ut (IntKind.u64.wrap os) hz1.1 hz1.2 w4;rw [hz2] at HZ;have HZ:=hide HZ;have hnot:=RN (decide (os=0));clear z0 z1 z2 z3 z4 z5 hz1 hz2 Eu;go_wp2_with fail;refine HZ.out.mono ?_;rintro e w5 ⟨rfl,rfl⟩;go_wp2;go_ret;exact ⟨rfl,HK.out.trans (Z8.of_below hb4 (fun k hk=>Nat.lt_of_lt_of_le (HP.out k hk) HK.out.size)),HT3.out.step hb4⟩
 · have HF:=hide (LJ ps hn A c w);have HO:Xu ps=false:=(by unfold Xu;rw [decide_eq_false hn];rfl);have HE:Ve ps.length=[]:=(by unfold Ve;rw [if_neg hn]);rw [HO,HE,List.append_nil];have HT:=hide ht;have HP:=hide hP;clear HO HE ht hP hw hps hs hn hg0;go_enter func374,ntmps374;go_wp2_with fail;refine HF.out.mono ?_;rintro e w1 ⟨rfl,hb1⟩;go_wp2;go_ret;exact ⟨rfl,Z8.of_below (Z7 hb1 _) HP.out,HT.out.step (Z7 hb1 _)⟩
theorem Lp(p:Pt)(hp:PJ p):Calls prog 373 #[.pointer (Zz t),.slice A ps.length c,.agg #[.int .i64 p.1,.int .i64 p.2]] w fun e w'=>e=.returned (.int .i64 (VR ps p))/\Z8 P w w'/\Tp w' P t (es++Vd ps.length):=by
 obtain ⟨w0,hw0⟩:=eE (w.alloc (.cells #[.int .i64 p.1,.int .i64 p.2] 41));have hb0:=bE hw0;have B0:Z6 w0 w.heap.size 41 #[.int .i64 p.1,.int .i64 p.2]:=by rw [hw0];exact Z6.new _ _ _
 by_cases hn:ps.length=3
 · have Bh:=LK ps hn A c w0 (((hs.sl hP).below hb0).more hb0.size);unfold Yf at Bh;have HF:=hide Bh;have HO:VR ps p=(YI (Z5 ps 0) (Z5 ps 1) (Z5 ps 2) p).sign*(ZM (Z5 ps 0) (Z5 ps 1) (Z5 ps 2)).sign:=(by unfold VR;rw [if_pos hn]);have HE:Vd ps.length=[(6,0,0)]:=(by unfold Vd;rw [if_pos hn]);rw [HO,HE];have HT:=hide ht;have HP:=hide hP;have HW:=hide hw;have Jv:=hide hps;have HG:=hide hg0;have kZ:=hide hp;clear HO HE ht hP hw hps hs hn hg0 Bh hp;go_enter func373,ntmps373;go_wp2_with fail;rw [<- hw0];have HW0:=hide hw0;clear hw0;refine HF.out.mono ?_;rintro e w1 ⟨rfl,hb1⟩;obtain ⟨w2,hw2⟩:=eE (w1.alloc (.cells #[.int .i64 (Z5 ps 0).1,.int .i64 (Z5 ps 0).2,.int .i64 (Z5 ps 1).1,.int .i64 (Z5 ps 1).2,.int .i64 (Z5 ps 2).1,.int .i64 (Z5 ps 2).2] 416));have Nq:=bE hw2;have hb2:Below w.heap.size w w2:=Z9 (Z9 hb0 hb1) Nq;have B2:Z6 w2 w1.heap.size 416 #[.int .i64 (Z5 ps 0).1,.int .i64 (Z5 ps 0).2,.int .i64 (Z5 ps 1).1,.int .i64 (Z5 ps 1).2,.int .i64 (Z5 ps 2).1,.int .i64 (Z5 ps 2).2]:=(by rw [hw2];exact Z6.new _ _ _);have C2:Z6 w2 w.heap.size 41 #[.int .i64 p.1,.int .i64 p.2]:=(B0.step hb1).step Nq;have hm:∀ k,More P w w2 k->k<w2.heap.size:=Yw HP.out hb2;have Td:=hide (Vy (More P w w2) t es 6 0 0 w2 hm (HT.out.more hb2) (by omega) (by unfold QB;omega));have HI:Hid (More P w w2 w1.heap.size):=.inr ⟨(Z9 hb0 hb1).size,B2.lt⟩;have HI0:Hid (More P w w2 w.heap.size):=.inr ⟨Nat.le_refl _,C2.lt⟩;have HB2:=hide hb2;clear hb2 hb1 hm HF Nq B0 hb0;go_wp2_with fail;rw [<- hw2];clear hw2;refine Td.out.mono ?_;rintro e w3 ⟨rfl,hk3,_,ht3⟩;have B3:=B2.kept hk3 HI.out;have C3:=C2.kept hk3 HI0.out;have z0:=B3.q0 rfl;have z1:=B3.q1 rfl;have z2:=B3.q2 rfl;have z3:=B3.q3 rfl;have z4:=B3.q4 rfl;have z5:=B3.q5 rfl;have z6:=C3.q0 rfl;have z7:=C3.q1 rfl;dsimp at z0 z1 z2 z3 z4 z5 z6 z7;have KH:Z8 P w w3:=Z8.more HB2.out HP.out hk3;have xH:=hide (x9 (Z5 ps 0) (Z5 ps 1) (Z5 ps 2) p (Jv.out.at_ _) (Jv.out.at_ _) (Jv.out.at_ _) kZ.out w3 (HW.out.kept KH HG.out));have HK:=hide KH;have HT3:=hide (ht3.mono (R:=P) fun k h=>.inl h);clear hk3 ht3 B2 B3 KH Td C2 C3;go_wp2_with fail;refine xH.out.mono ?_;rintro e w4 ⟨rfl,hb4⟩;clear z0 z1 z2 z3 z4 z5 z6 z7;go_wp2;go_ret;exact ⟨rfl,HK.out.trans (Z8.of_below hb4 (fun k hk=>Nat.lt_of_lt_of_le (HP.out k hk) HK.out.size)),HT3.out.step hb4⟩
 · have HF:=hide (LJ ps hn A c w0);have HO:VR ps p=-1:=(by unfold VR;rw [if_neg hn]);have HE:Vd ps.length=[]:=(by unfold Vd;rw [if_neg hn]);rw [HO,HE,List.append_nil];have HT:=hide ht;have HP:=hide hP;clear HO HE ht hP hw hps hs hn hg0 hp;go_enter func373,ntmps373;go_wp2_with fail;rw [<- hw0];have HW0:=hide hw0;clear hw0;refine HF.out.mono ?_;rintro e w1 ⟨rfl,hb1⟩;go_wp2;go_ret;exact ⟨rfl,Z8.of_below (Z7 (Z9 hb0 hb1) _) HP.out,HT.out.step (Z7 (Z9 hb0 hb1) _)⟩
end
end
section
open Go.RowKit Go.Shelf
def KR(v:Int)(ps:List Pt):Bool:=if v=0 then Xu ps else YB ps
def SQ(v:Int)(n:Nat):List Ev:=if v=0 then Ve n else Qu n (List.range (Y6 n))
def Jd(v:Int)(ps:List Pt)(p:Pt):Int:=if v=0 then VR ps p else UL ps p
def Rh(v:Int)(n:Nat):List Ev:=if v=0 then Vd n else Xf (List.range (Y6 n))
theorem Fb(n:Nat):Y6 n<=n/\Y6 n<=64:=by unfold Y6;split <;> omega
theorem Qn(v:Int)(n:Nat):(SQ v n).length<=4096:=by
 unfold SQ;split
 · unfold Ve;split <;> simp
 · have h:=QW n (List.range (Y6 n));rw [List.length_range] at h;have he:=Fb n
   by_cases h64:n<=64
   · exact Nat.le_trans h (Nat.mul_le_mul he.2 h64)
   · have h0:Y6 n=0:=(by unfold Y6;rw [if_neg (by omega)]);rw [h0] at h ⊢;omega
theorem Je(v:Int)(n:Nat):(Rh v n).length<=64:=by
 unfold Rh;split
 · unfold Vd;split <;> simp
 · unfold Xf;rw [List.length_map,List.length_range];exact (Fb n).2
theorem FX(d : Bool)(v : Int)(A : Option Addr)(n c : Nat)(w : World): (method 519 379 (.agg #[.bool d, .int .i64 v, .slice A n c]) "geofence/fence.valid").run prog w = .ok (372, .agg #[.bool d, .int .i64 v, .slice A n c]) w := by kernel_rfl
theorem Iw(d : Bool)(v : Int)(A : Option Addr)(n c : Nat)(w : World): (method 519 380 (.agg #[.bool d, .int .i64 v, .slice A n c]) "geofence/fence.valid").run prog w = .ok (379, .agg #[.bool d, .int .i64 v, .slice A n c]) w := by kernel_rfl
theorem Oc(d : Bool)(v : Int)(A : Option Addr)(n c : Nat)(w : World): (method 519 379 (.agg #[.bool d, .int .i64 v, .slice A n c]) "geofence/fence.locate").run prog w = .ok (370, .agg #[.bool d, .int .i64 v, .slice A n c]) w := by kernel_rfl
theorem Qh(d : Bool)(v : Int)(A : Option Addr)(n c : Nat)(w : World): (method 519 380 (.agg #[.bool d, .int .i64 v, .slice A n c]) "geofence/fence.locate").run prog w = .ok (377, .agg #[.bool d, .int .i64 v, .slice A n c]) w := by kernel_rfl
section
variable (P:Nat->Prop)(t:Option (Nat × Nat))(es:List Ev)(d:Bool)(v:Int)(ps:List Pt)(hps:Ub ps)(hn:ps.length<=10000)(A:Option Addr)(c:Nat)(w:World)(hP:∀ k,P k->k<w.heap.size)(hg0:P 8)(hs:UU w P A (Zg ps))(hw:MW w)(ht:Tp w P t es)(hl:es.length<=900000)
include hps hn hP hg0 hs hw ht hl
omit hn in
theorem DL:Calls prog 372 #[.agg #[.bool d,.int .i64 v,.slice A ps.length c],.pointer (Zz t)] w fun e w'=>e=.returned (.int .u64 (ZE (Xu ps)))/\Z8 P w w'/\Tp w' P t (es++Ve ps.length):=by
 obtain ⟨w0,hw0⟩:=eE (w.alloc (.cells #[.bool d,.int .i64 v,.slice A ps.length c] 379));have hb0:=bE hw0;have hk0:Z8 P w w0:=Z8.of_below hb0 hP;have HC:=hide (KC P t es ps hps A c w0 (fun k hk=>Nat.lt_of_lt_of_le (hP k hk) hb0.size) hg0 (hs.kept hk0) (hw.step hb0) (ht.step hb0) hl);have HK:=hide hk0;clear hps hP hg0 hs hw ht hk0 hb0;go_enter func372,ntmps372;go_wp2_with fail;rw [<- hw0];clear hw0;refine HC.out.mono ?_;rintro e w1 ⟨rfl,hk1,ht1⟩;go_wp2;go_ret;exact ⟨rfl,HK.out.trans hk1,ht1⟩
theorem EZ:Calls prog 379 #[.agg #[.bool d,.int .i64 v,.slice A ps.length c],.pointer (Zz t)] w fun e w'=>e=.returned (.int .u64 (ZE (YB ps)))/\Z8 P w w'/\Tp w' P t (es++Qu ps.length (List.range (Y6 ps.length))):=by
 obtain ⟨w0,hw0⟩:=eE (w.alloc (.cells #[.bool d,.int .i64 v,.slice A ps.length c] 380));have hb0:=bE hw0;have hk0:Z8 P w w0:=Z8.of_below hb0 hP;have HC:=hide (Kv P t es ps hps hn A c w0 (fun k hk=>Nat.lt_of_lt_of_le (hP k hk) hb0.size) hg0 (hs.kept hk0) (hw.step hb0) (ht.step hb0) hl);have HK:=hide hk0;clear hps hP hg0 hs hw ht hk0 hb0;go_enter func379,ntmps379;go_wp2_with fail;rw [<- hw0];clear hw0;refine HC.out.mono ?_;rintro e w1 ⟨rfl,hk1,ht1⟩;go_wp2;go_ret;exact ⟨rfl,HK.out.trans hk1,ht1⟩
omit hn in
theorem Gw(p:Pt)(hp:PJ p):Calls prog 370 #[.agg #[.bool d,.int .i64 v,.slice A ps.length c],.pointer (Zz t),.agg #[.int .i64 p.1,.int .i64 p.2]] w fun e w'=>e=.returned (.int .i64 (VR ps p))/\Z8 P w w'/\Tp w' P t (es++Vd ps.length):=by
 obtain ⟨w0,hw0⟩:=eE ((w.alloc (.cells #[.bool d,.int .i64 v,.slice A ps.length c] 379)).alloc (.cells #[.int .i64 p.1,.int .i64 p.2] 41));have hb0:=bF hw0;have hk0:Z8 P w w0:=Z8.of_below hb0 hP;have HC:=hide (Lp P t es ps hps A c w0 (fun k hk=>Nat.lt_of_lt_of_le (hP k hk) hb0.size) hg0 (hs.kept hk0) (hw.step hb0) (ht.step hb0) hl p hp);have HK:=hide hk0;clear hps hP hg0 hs hw ht hk0 hb0 hp;go_enter func370,ntmps370;go_wp2_with fail;rw [<- hw0];clear hw0;refine HC.out.mono ?_;rintro e w1 ⟨rfl,hk1,ht1⟩;go_wp2;go_ret;exact ⟨rfl,HK.out.trans hk1,ht1⟩
theorem Ht(p:Pt)(hp:PJ p):Calls prog 377 #[.agg #[.bool d,.int .i64 v,.slice A ps.length c],.pointer (Zz t),.agg #[.int .i64 p.1,.int .i64 p.2]] w fun e w'=>e=.returned (.int .i64 (UL ps p))/\Z8 P w w'/\Tp w' P t (es++Xf (List.range (Y6 ps.length))):=by
 obtain ⟨w0,hw0⟩:=eE ((w.alloc (.cells #[.bool d,.int .i64 v,.slice A ps.length c] 380)).alloc (.cells #[.int .i64 p.1,.int .i64 p.2] 41));have hb0:=bF hw0;have hk0:Z8 P w w0:=Z8.of_below hb0 hP;have HC:=hide (L6 P t es ps hps hn A c p hp w0 (fun k hk=>Nat.lt_of_lt_of_le (hP k hk) hb0.size) hg0 (hs.kept hk0) (hw.step hb0) (ht.step hb0) hl);have HK:=hide hk0;clear hps hP hg0 hs hw ht hk0 hb0 hp;go_enter func377,ntmps377;go_wp2_with fail;rw [<- hw0];clear hw0;refine HC.out.mono ?_;rintro e w1 ⟨rfl,hk1,ht1⟩;go_wp2;go_ret;exact ⟨rfl,HK.out.trans hk1,ht1⟩
end
def zW(w:World)(P:Nat->Prop)(gs:List Gr):Prop:=∀ g∈gs,g.1.n=g.2.length/\UU w P g.1.A (Zg g.2)/\Ub g.2/\g.2.length<=10000
theorem zW.kept{w w':World}{P:Nat->Prop}{gs:List Gr}(h:zW w P gs)(hk:Z8 P w w'):zW w' P gs:=fun g hg=>⟨(h g hg).1,(h g hg).2.1.kept hk,(h g hg).2.2⟩
def V3:Nat->List Gr->List Ev
 | _,[]=>[]
 | i,g::gs=>(7,(i:Int),0)::(SQ g.1.v g.2.length++V3 (i+1) gs)
theorem JL:∀ (i:Nat) (l:List Gr) (g:Gr),V3 i (l++[g])=V3 i l++((7,((i+l.length:Nat):Int),0)::SQ g.1.v g.2.length)
 | i,[],g=>by simp [V3]
 | i,x::l,g=>by
   have h:=JL (i+1) l g;have e:i+1+l.length=i+(x::l).length:=(by simp;omega);rw [List.cons_append,V3,h,V3,e];simp
theorem yD{gs:List Gr}{k:Nat}{g:Gr}(h:gs[k]?=some g):V3 0 (gs.take (k+1))=V3 0 (gs.take k)++((7,(k:Int),0)::SQ g.1.v g.2.length):=by
 have hlt:k<gs.length:=(List.getElem?_eq_some_iff.1 h).1;rw [List.take_add_one,h];show V3 0 (gs.take k++[g])=_;rw [JL,List.length_take,Nat.min_eq_left (Nat.le_of_lt hlt),Nat.zero_add]
theorem Sj:∀ (i:Nat) (l:List Gr),(V3 i l).length<=4097*l.length
 | i,[]=>by simp [V3]
 | i,x::l=>by
   have h:=Sj (i+1) l;have h2:=Qn x.1.v x.2.length;simp only [V3,List.length_cons,List.length_append];omega
def Te(gs:List Gr):Bool:=gs.foldl (fun b g=>b && KR g.1.v g.2) true
theorem JM{gs:List Gr}{k:Nat}{g:Gr}(h:gs[k]?=some g):Te (gs.take (k+1))=(Te (gs.take k) && KR g.1.v g.2):=by
 unfold Te;rw [List.take_add_one,h];simp
def Zc(gs:List Gr):Bool:=decide (Zi (gs.map (·.1))=0) && Te gs
def Zf(gs:List Gr):List Ev:=if Zi (gs.map (·.1))=0 then V3 0 gs else []
theorem oK(w:World):Calls prog 262 #[.int .u64 1] w fun e w'=>e=.returned (.int .u64 (ZE true))/\w=w':=by
 have h:=QS 1 (by omega) (by omega) w;rw [show decide ((1:Int) % 2=1)=true from by decide] at h;exact h
theorem U2(P:Nat->Prop)(t:Option (Nat × Nat))(es:List Ev)(gs:List Gr)(GA:Option Addr)(gc:Nat)(w:World)(hP:∀ k,P k->k<w.heap.size)(hg0:P 8)(hs:UU w P GA (rgCells (gs.map (·.1))))(hgs:zW w P gs)(hw:MW w)(ht:Tp w P t es)(hl:es.length<=600000):
 Calls prog 195 #[.pointer (Zz t),.slice GA gs.length gc] w fun e w'=>e=.returned (.int .u64 (ZE (Zc gs)))/\Z8 P w w'/\Tp w' P t (es++Zf gs):=by
 have Qz:=QH (gs.map (·.1)) GA gc w (hs.sl hP);rw [List.length_map] at Qz;have HC:=hide Qz;clear Qz
 by_cases hf:Zi (gs.map (·.1))=0
 · have zph:gs.length<=64:=by
    unfold Zi at hf;split at hf
    · omega
    · rename_i h;rw [List.length_map] at h;omega
   have e1:Zc gs=Te gs:=(by unfold Zc;rw [decide_eq_true hf];rfl);have e2:Zf gs=V3 0 gs:=(by unfold Zf;rw [if_pos hf]);rw [e1,e2];rw [hf] at HC;have HP:=hide hP;have K6:=hide hg0;have HS:=hide hs;have QY:=hide hgs;have HW:=hide hw;have HT:=hide ht;have HO:=hide (fun w=>oK w);clear hf e1 e2 hP hg0 hs hgs hw ht;go_enter func195,ntmps195;go_wp2_with fail;refine HC.out.mono ?_;rintro e w1 ⟨rfl,hb1⟩;have HB1:=hide hb1;clear hb1 HC;go_wp2_with fail;refine (HO.out w1).mono ?_;rintro e w2 ⟨rfl,rfl⟩;go_wp2_with fail
   go_loopw [5,14] (fun m i wr=>∃ k:Nat,k<=gs.length/\m=.int .u64 (ZE (Te (gs.take k)))/\i=.int .i64 k/\Z8 P w wr/\Tp wr P t (es++V3 0 (gs.take k)))
    (fun _ i _=>gs.length - (intOf i).toNat)
   case atStart=>exact ⟨0,Nat.zero_le _,rfl,rfl,Z8.of_below HB1.out HP.out,by simpa [V3] using HT.out.step HB1.out⟩
   case round =>
    obtain ⟨k,hk,rfl,rfl,hkp,htp⟩:=hrel;have Tf:∀ j,P j->j<wr.heap.size:=fun j hj=>Nat.lt_of_lt_of_le (HP.out j hj) hkp.size
    by_cases hlt:k<gs.length
    · obtain ⟨g,hg⟩:∃ g,gs[k]?=some g:=⟨_,List.getElem?_eq_getElem hlt⟩;obtain ⟨hgn,tT,tV,hpn⟩:=QY.out g (List.mem_of_getElem? hg);have hr:(gs.map (·.1))[k]?=some g.1:=(by rw [List.getElem?_map,hg];rfl);obtain ⟨b,off,rfl,hB,c0,c1,c2⟩:=((HS.out.kept hkp).sl Tf).rg hr;have HE:=hide (yD hg);have HK:=hide (JM hg);have Sv:((k:Nat):Int)<((gs.length:Nat):Int):=(by omega);obtain ⟨⟨d,v,A,n,c⟩,ps⟩:=g;dsimp only at *;subst hgn;clear hg hr
      have Wu:Hid (∀ w8,Z8 P w w8->Tp w8 P t (es++V3 0 (gs.take k)++[(7,(k:Int),0)]++SQ v ps.length)->Z8 P w w8/\Tp w8 P t (es++V3 0 (gs.take (k+1)))):=hide fun w8 h1 h2=>⟨h1,by
       rw [HE.out];rw [show es++(V3 0 (gs.take k)++((7,(k:Int),0)::SQ v ps.length))=es++V3 0 (gs.take k)++[(7,(k:Int),0)]++SQ v ps.length by simp]
       exact h2⟩
      have hle0:(es++V3 0 (gs.take k)).length<=890000:=by
       have:=Sj 0 (gs.take k);rw [List.length_take] at this;rw [List.length_append];omega
      have hle:(es++V3 0 (gs.take k)++[(7,(k:Int),0)]).length<=900000:=by
       rw [List.length_append];simp only [List.length_singleton];omega
      obtain ⟨w3,hw3⟩:=eE (wr.alloc (.cells #[.bool d,.int .i64 v,.slice A ps.length c] 38));have hb3:=bE hw3;have B3:Z6 w3 wr.heap.size 38 #[.bool d,.int .i64 v,.slice A ps.length c]:=(by rw [hw3];exact Z6.new _ _ _);have HI:Hid (More P wr w3 wr.heap.size):=.inr ⟨Nat.le_refl _,B3.lt⟩;have Td:=hide (Vy (More P wr w3) t (es++V3 0 (gs.take k)) 7 (k:Int) 0 w3 (Yw Tf hb3) (htp.more hb3) (by omega) (by unfold QB;omega));have HB3:=hide hb3;have HKP:=hide hkp;have EC:=hide Tf;clear HE hle0 hb3 htp hkp Tf hB;go_wp2_with fail;rw [<- hw3];clear hw3;refine Td.out.mono ?_;rintro e w4 ⟨rfl,hk4,_,KL⟩;have B4:=B3.kept hk4 HI.out;have z0:w4.cell? ⟨wr.heap.size,0,none⟩=some (.bool d):=B4.q0 rfl;have z1:w4.cell? ⟨wr.heap.size,1,none⟩=some (.int .i64 v):=B4.q1 rfl;have z2:w4.cell? ⟨wr.heap.size,2,none⟩=some (.slice A ps.length c):=B4.q2 rfl;have Tj:Z8 P w w4:=HKP.out.trans (Z8.more HB3.out EC.out hk4);have Sz:=KL.mono (R:=P) fun k h=>.inl h;have Et:∀ j,P j->j<w4.heap.size:=fun j hj=>Nat.lt_of_lt_of_le (HP.out j hj) Tj.size;clear hk4 KL B3 B4 Td HI HB3 HKP EC c0 c1 c2
      by_cases hv:v=0
      · have UQ:Hid (KR v ps=Xu ps):=hide (if_pos hv);have Qx:SQ v ps.length=Ve ps.length:=if_pos hv;rw [Qx] at Wu;rw [UQ.out] at HK;subst hv;clear Qx UQ;go_wp2_with fail;refine (Vj d A ps.length c w4).mono ?_;rintro e w5 ⟨rfl,hb5⟩;have hk5:Z8 P w w5:=Tj.trans (Z8.of_below hb5 Et);have HV:=hide (DL P t (es++V3 0 (gs.take k)++[(7,(k:Int),0)]) d 0 ps tV A c w5 (fun j hj=>Nat.lt_of_lt_of_le (Et j hj) hb5.size) K6.out (tT.kept (hk5)) (HW.out.kept hk5 K6.out) (Sz.step hb5) hle);clear hb5 Tj Et Sz z0 z1 z2;have hmr:=FX;go_wp2_with fail;refine HV.out.mono ?_;rintro e w6 ⟨rfl,Tk,FJ⟩;have hand:=M5 (Te (gs.take k)) (Xu ps);rw [<- HK.out] at hand;have Uv:=hide (Wu.out w6 (hk5.trans Tk) FJ);clear hk5 Tk FJ HV hmr Wu;go_wp2;go_roundw
        case rel=>exact ⟨k+1,by omega,rfl,by go_num,Uv.out⟩
        case measure=>simp [intOf];omega
      · have UQ:Hid (KR v ps=YB ps):=hide (if_neg hv);have Qx:SQ v ps.length=Qu ps.length (List.range (Y6 ps.length)):=if_neg hv;rw [Qx] at Wu;rw [UQ.out] at HK;clear Qx UQ;go_wp2_with fail;refine (VD d v (by simpa using hv) A ps.length c w4).mono ?_;rintro e w5 ⟨rfl,hb5⟩;have hk5:Z8 P w w5:=Tj.trans (Z8.of_below hb5 Et);have HV:=hide (EZ P t (es++V3 0 (gs.take k)++[(7,(k:Int),0)]) d v ps tV hpn A c w5 (fun j hj=>Nat.lt_of_lt_of_le (Et j hj) hb5.size) K6.out (tT.kept (hk5)) (HW.out.kept hk5 K6.out) (Sz.step hb5) hle);clear hb5 Tj Et Sz z0 z1 z2;have hmr:=Iw;go_wp2_with fail;refine HV.out.mono ?_;rintro e w6 ⟨rfl,Tk,FJ⟩;have hand:=M5 (Te (gs.take k)) (YB ps);rw [<- HK.out] at hand;have Uv:=hide (Wu.out w6 (hk5.trans Tk) FJ);clear hk5 Tk FJ HV hmr Wu;go_wp2;go_roundw
        case rel=>exact ⟨k+1,by omega,rfl,by go_num,Uv.out⟩
        case measure=>simp [intOf];omega
    · obtain rfl:k=gs.length:=(by omega);rw [List.take_length] at htp ⊢;go_wp2;go_ret;exact ⟨rfl,hkp,htp⟩
 · have e1:Zc gs=false:=(by unfold Zc;rw [decide_eq_false hf];rfl);have e2:Zf gs=[]:=(by unfold Zf;rw [if_neg hf]);rw [e1,e2,List.append_nil];have HP:=hide hP;have HT:=hide ht;obtain ⟨z,hz⟩:=eE (Zi (gs.map (·.1)));rw [<- hz] at HC hf;clear e1 e2 hP hg0 hs hgs hw ht hz;go_enter func195,ntmps195;go_wp2_with fail;refine HC.out.mono ?_;rintro e w1 ⟨rfl,hb1⟩;go_wp2;go_ret;exact ⟨rfl,Z8.of_below hb1 HP.out,HT.out.step hb1⟩
end
section
open Go.RowKit Go.Shelf
def WK:Nat->List Gr->List Ev
 | _,[]=>[]
 | i,g::gs=>(7,(i:Int),1)::(Rh g.1.v g.2.length++WK (i+1) gs)
theorem JK:∀ (i:Nat) (l:List Gr) (g:Gr),WK i (l++[g])=WK i l++((7,((i+l.length:Nat):Int),1)::Rh g.1.v g.2.length)
 | i,[],g=>by simp [WK]
 | i,x::l,g=>by
   have h:=JK (i+1) l g;have e:i+1+l.length=i+(x::l).length:=(by simp;omega);rw [List.cons_append,WK,h,WK,e];simp
theorem yA{gs:List Gr}{k:Nat}{g:Gr}(h:gs[k]?=some g):WK 0 (gs.take (k+1))=WK 0 (gs.take k)++((7,(k:Int),1)::Rh g.1.v g.2.length):=by
 have hlt:k<gs.length:=(List.getElem?_eq_some_iff.1 h).1;rw [List.take_add_one,h];show WK 0 (gs.take k++[g])=_;rw [JK,List.length_take,Nat.min_eq_left (Nat.le_of_lt hlt),Nat.zero_add]
theorem Sg:∀ (i:Nat) (l:List Gr),(WK i l).length<=65*l.length
 | i,[]=>by simp [WK]
 | i,x::l=>by
   have h:=Sg (i+1) l;have h2:=Je x.1.v x.2.length;simp only [WK,List.length_cons,List.length_append];omega
def Wq(p:Pt)(gs:List Gr):Bool × Bool:=gs.foldl (fun s g=>bif g.1.d then (s.1,s.2 || !decide (Jd g.1.v g.2 p<0)) else (s.1 || !decide (Jd g.1.v g.2 p<0),s.2)) (false,false)
theorem Pk{gs:List Gr}{k:Nat}{g:Gr}(p:Pt)(h:gs[k]?=some g):Wq p (gs.take (k+1)) =
 (bif g.1.d then ((Wq p (gs.take k)).1,(Wq p (gs.take k)).2 || !decide (Jd g.1.v g.2 p<0)) else ((Wq p (gs.take k)).1 || !decide (Jd g.1.v g.2 p<0),(Wq p (gs.take k)).2)):=by
 unfold Wq;rw [List.take_add_one,h];simp
def XZ(gs:List Gr)(p:Pt):Bool:=decide (Zi (gs.map (·.1))=0) && ((Wq p gs).1 && !(Wq p gs).2)
def YD(gs:List Gr):List Ev:=if Zi (gs.map (·.1))=0 then WK 0 gs else []
theorem Ng(a b:Bool):-1<=KU a b/\KU a b<=1:=by cases a <;> cases b <;> decide
theorem iZ(v:Int)(ps:List Pt)(p:Pt):-1<=Jd v ps p/\Jd v ps p<=1:=by
 unfold Jd;split
 · unfold VR;split
   · rcases Xq (YI (Z5 ps 0) (Z5 ps 1) (Z5 ps 2) p) with h|h|h <;> rcases Xq (ZM (Z5 ps 0) (Z5 ps 1) (Z5 ps 2)) with h'|h'|h' <;> rw [h,h'] <;> decide
   · decide
 · exact Ng _ _
theorem Dc(a b:Bool):bits BinOp.andNot IntKind.u64 (ZE a) (ZE b)=ZE (a && !b):=by cases a <;> cases b <;> decide
theorem Z8.mono'{w0 wk:World}{P R:Nat->Prop}{b:Nat}(h:Z8 R w0 wk)(hPR:∀ k,P k->R k)(hb:¬ P b)(o:Nat)(u:Value):Z8 P w0 (wk.setCell ⟨b,o,none⟩ u) :=
 (h.mono hPR).trans (Z8.setCell hb o u wk)
theorem Vm(P:Nat->Prop)(t:Option (Nat × Nat))(es:List Ev)(gs:List Gr)(GA:Option Addr)(gc:Nat)(p:Pt)(hp:PJ p)(w:World)(hP:∀ k,P k->k<w.heap.size)(hg0:P 8)(hs:UU w P GA (rgCells (gs.map (·.1))))(hgs:zW w P gs)(hw:MW w)(ht:Tp w P t es)(hl:es.length<=890000):
 Calls prog 197 #[.pointer (Zz t),.slice GA gs.length gc,.agg #[.int .i64 p.1,.int .i64 p.2]] w fun e w'=>e=.returned (.int .u64 (ZE (XZ gs p)))/\Z8 P w w'/\Tp w' P t (es++YD gs):=by
 obtain ⟨w0,hw0⟩:=eE (w.alloc (.cells #[.int .i64 p.1,.int .i64 p.2] 41));obtain ⟨pb,hpb⟩:=eE w.heap.size;have hb0:=bE hw0;have P0:Z6 w0 pb 41 #[.int .i64 p.1,.int .i64 p.2]:=by rw [hw0,hpb];exact Z6.new _ _ _
 have Qz:=QH (gs.map (·.1)) GA gc w0 (((hs.sl hP).below hb0).more hb0.size);rw [List.length_map] at Qz;have HC:=hide Qz;clear Qz
 by_cases hf:Zi (gs.map (·.1))=0
 · have zph:gs.length<=64:=by
    unfold Zi at hf;split at hf
    · omega
    · rename_i h;rw [List.length_map] at h;omega
   have e1:XZ gs p=((Wq p gs).1 && !(Wq p gs).2):=(by unfold XZ;rw [decide_eq_true hf];rfl);have e2:YD gs=WK 0 gs:=(by unfold YD;rw [if_pos hf]);rw [e1,e2];rw [hf] at HC;have HP:=hide hP;have K6:=hide hg0;have HS:=hide hs;have QY:=hide hgs;have HW:=hide hw;have HT:=hide ht;have HPJ:=hide hp;clear hf e1 e2 hP hg0 hs hgs hw ht hp;refine (callsIn_wide (n:=6)).1 ?_;refine callsIn_of_wp func197 rfl trivial ?_ rfl;simp only [ntmps197,List.size_toArray,List.length_cons,List.length_nil,Nat.reduceAdd,Nat.reduceSub,Array.replicate_succ,Array.replicate_zero,List.push_toArray,List.append_toArray,List.nil_append,List.cons_append];gi_wp2_with fail;rw [<- hw0,<- hpb];have HW0:=hide hw0;clear hw0;refine ⟨trivial,?_⟩;refine (callsIn_wide.2 HC.out).mono ?_;rintro e w1 ⟨rfl,hb1⟩;have znw:=hide (Z9 hb0 hb1);have P1:=P0.step hb1;clear hb1 HC hb0;obtain ⟨W2,hW2⟩:=eE (w1.alloc (.cells #[.int .u64 0,.int .u64 0] 311));obtain ⟨ab,hab⟩:=eE w1.heap.size;have hB2:Below w.heap.size w W2:=(by rw [hW2];exact Z7 znw.out _);have A2:Z6 W2 ab 311 #[.int .u64 (ZE false),.int .u64 (ZE false)]:=(by rw [hW2,hab];exact Z6.new _ _ _);have P2:Z6 W2 pb 41 #[.int .i64 p.1,.int .i64 p.2]:=(by rw [hW2];exact P1.alloc _);have hpa:pb<ab:=(by rw [hab];exact P1.lt);have qp:Hid (More P w W2 pb):=.inr ⟨by omega,P2.lt⟩;have kX:Hid (More P w W2 ab):=.inr ⟨by omega,A2.lt⟩;have HNA:Hid (¬ P ab):=fun h=>by have:=HP.out _ h;omega
   have aJ:=hide (Yw HP.out hB2);have NI:=hide (Z8.of_below hB2 HP.out);have HT2:=hide (HT.out.more hB2);have hsz2:ab<W2.heap.size:=A2.lt;have V5:prog.follows .mixedOrders=true:=(by kernel_rfl);have HPB:=hide hpb;have kL:=hide hab;have HWW:=hide hW2;clear P1 hB2 hpb;gi_wp2_with fail;rw [<- hW2,<- hab];clear hW2 hab
   gi_loopw [16] (fun i wr=>∃ (k:Nat) (s0 s1:Bool),k<=gs.length/\i=.int .i64 k/\Hid (Wq p (gs.take k)=(s0,s1))/\Z6 wr ab 311 #[.int .u64 (ZE s0),.int .u64 (ZE s1)]/\Z6 wr pb 41 #[.int .i64 p.1,.int .i64 p.2]/\Z8 P W2 wr/\Tp wr (More P w W2) t (es++WK 0 (gs.take k)))
    (fun i _=>gs.length - (intOf i).toNat)
   case atStart=>exact ⟨0,false,false,Nat.zero_le _,rfl,hide rfl,A2,P2,Z8.refl _ _,by simpa [WK] using HT2.out⟩
   case round =>
    clear A2 P2;obtain ⟨k,s0,s1,hk,rfl,hst,Ar,Pr,hkp,htp⟩:=hrel
    by_cases hlt:k<gs.length
    · obtain ⟨g,hg⟩:∃ g,gs[k]?=some g:=⟨_,List.getElem?_eq_getElem hlt⟩;obtain ⟨hgn,tT,tV,hpn⟩:=QY.out g (List.mem_of_getElem? hg);have hr:(gs.map (·.1))[k]?=some g.1:=(by rw [List.getElem?_map,hg];rfl);obtain ⟨b,off,rfl,hB,c0,c1,c2⟩:=((HS.out.kept (NI.out.trans hkp)).sl (fun j hj=>Nat.lt_of_lt_of_le (HP.out j hj) (NI.out.trans hkp).size)).rg hr;have HE:=hide (yA hg);have HM:=Pk p hg;rw [hst.out] at HM;have HM:=hide HM;have Sv:((k:Nat):Int)<((gs.length:Nat):Int):=(by omega);obtain ⟨⟨d,v,A,n,c⟩,ps⟩:=g;dsimp only at *;subst hgn;clear hg hr;obtain ⟨L,hL⟩:=eE (Jd v ps p);have En:=hide (iZ v ps p);rw [<- hL] at En HM;have hrs:ab<wr.heap.size:=Ar.lt;have hle0:(es++WK 0 (gs.take k)).length<=899000:=by
       have:=Sg 0 (gs.take k);rw [List.length_take] at this;rw [List.length_append];omega
      have hle:(es++WK 0 (gs.take k)++[(7,(k:Int),1)]).length<=900000:=by
       rw [List.length_append];simp only [List.length_singleton];omega
      obtain ⟨w3,hw3⟩:=eE (wr.alloc (.cells #[.bool d,.int .i64 v,.slice A ps.length c] 38));have hb3:=bE hw3;have B3:Z6 w3 wr.heap.size 38 #[.bool d,.int .i64 v,.slice A ps.length c]:=(by rw [hw3];exact Z6.new _ _ _);have A3:=Ar.step hb3;have P3:=Pr.step hb3
      have Tf:∀ j,Also (More P w W2) wr.heap.size j->j<w3.heap.size:=fun j hj=>by
       have h1:=B3.lt;have h2:=A3.lt;rcases hj with hj|hj
       · have:=aJ.out j hj;have:=hkp.size;omega
       · subst hj;exact h1
      have ht3:Tp w3 (Also (More P w W2) wr.heap.size) t (es++WK 0 (gs.take k)):=(htp.add fun j hj=>by
       rcases hj with hj|hj
       · exact .inl hj
       · exact .inr (by omega)).step hb3
      have Td:=hide (Vy (Also (More P w W2) wr.heap.size) t (es++WK 0 (gs.take k)) 7 (k:Int) 1 w3 Tf ht3 (by omega) (by unfold QB;omega));have zsm:∀ j,P j->Also (More P w W2) wr.heap.size j:=fun j hj=>.inl (.inl hj);have OI:=hide zsm;have KH:Z8 P W2 w3:=hkp.trans (Z8.of_below hb3 fun j hj=>Nat.lt_of_lt_of_le (HP.out j hj) (NI.out.trans hkp).size);have zro:=hide KH;have EC:=hide Tf
      have Wu:Hid (∀ n0 n1:Bool,(bif d then (s0,s1 || !decide (L<0)) else (s0 || !decide (L<0),s1))=(n0,n1)->∀ w8,Z6 w8 ab 311 #[.int .u64 (ZE n0),.int .u64 (ZE n1)]->Z6 w8 pb 41 #[.int .i64 p.1,.int .i64 p.2]->Z8 P W2 w8->Tp w8 (More P w W2) t (es++WK 0 (gs.take k)++[(7,(k:Int),1)]++Rh v ps.length) ->
       Hid (Wq p (gs.take (k+1))=(n0,n1))/\Z6 w8 ab 311 #[.int .u64 (ZE n0),.int .u64 (ZE n1)]/\Z6 w8 pb 41 #[.int .i64 p.1,.int .i64 p.2]/\Z8 P W2 w8/\Tp w8 (More P w W2) t (es++WK 0 (gs.take (k+1)))):=hide fun n0 n1 hn w8 h1 h2 h3 h4=>⟨hide (HM.out.trans hn),h1,h2,h3,by
       rw [HE.out];rw [show es++(WK 0 (gs.take k)++((7,(k:Int),1)::Rh v ps.length))=es++WK 0 (gs.take k)++[(7,(k:Int),1)]++Rh v ps.length by simp]
       exact h4⟩
      have qQ:=hide hle;have zrv:=hide tT;have zrw:=hide tV;have HPN:=hide hpn;have xI:=hide hL;clear HE hle0 hle hb3 htp hkp Tf hB ht3 KH zsm Ar Pr HM hst tT tV hpn hL;gi_wp2_with fail;rw [<- hw3];clear hw3;refine ⟨trivial,?_⟩;refine (callsIn_wide.2 Td.out).mono ?_;rintro e w4 ⟨rfl,hk4,_,KL⟩;have B4:=B3.kept hk4 (.inr rfl);have A4:=A3.kept hk4 (.inl kX.out);have P4:=P3.kept hk4 (.inl qp.out);have Tj:Z8 P W2 w4:=zro.out.trans (hk4.mono OI.out);have xK:Hid (∀ j,Also (More P w W2) wr.heap.size j->j<w4.drew.heap.size):=fun j hj=>Nat.lt_of_lt_of_le (EC.out j hj) hk4.size;clear hk4 B3 A3 P3 Td zro EC c0 c1 c2
      by_cases hv:v=0
      · have hL2:L=VR ps p:=xI.out.trans (if_pos hv);have Qx:Rh v ps.length=Vd ps.length:=if_pos hv;rw [Qx] at Wu;have HLOC:=hide (fun (w5:World) (h1:Z8 P W2 w5) (h0:∀ j,Also (More P w W2) wr.heap.size j->j<w5.heap.size) (h2:Tp w5 (Also (More P w W2) wr.heap.size) t (es++WK 0 (gs.take k)++[(7,(k:Int),1)]))=>Gw (Also (More P w W2) wr.heap.size) t (es++WK 0 (gs.take k)++[(7,(k:Int),1)]) d 0 ps zrw.out A c w5 h0 (OI.out _ K6.out) ((zrv.out.kept (NI.out.trans h1)).mono OI.out) (HW.out.kept (NI.out.trans h1) K6.out) h2 qQ.out p HPJ.out);rw [<- hL2] at HLOC;subst hv;clear Qx hL2 xI;cases d with
        | false =>
          have z0:w4.cell? ⟨wr.heap.size,0,none⟩=some (.bool false):=B4.q0 rfl;gi_wp2_with fail;clear z0;refine Xy 12 (S:=fun w'=>Z6 w' ab 311 #[.int .u64 (ZE s0),.int .u64 (ZE s1)]/\Z6 w' wr.heap.size 38 #[.bool false,.int .i64 0,.slice A ps.length c]/\Z6 w' pb 41 #[.int .i64 p.1,.int .i64 p.2]) V5 ?_;have hS:Z6 w4.drew ab 311 #[.int .u64 (ZE s0),.int .u64 (ZE s1)]/\Z6 w4.drew wr.heap.size 38 #[.bool false,.int .i64 0,.slice A ps.length c]/\Z6 w4.drew pb 41 #[.int .i64 p.1,.int .i64 p.2]:=⟨A4.drew,B4.drew,P4.drew⟩;refine' ZV (i:=0) rfl ?P8 hS ?M8
          case P8 =>
           intro w' hSw;go_simp;rfl
          simp only [Act.put,getElem_toArray,getElem_cons_zero,setIfInBounds_toArray,set_cons_zero,set_cons_succ];refine' ZV (i:=1) rfl ?Qa hS ?M9
          case Qa =>
           intro w' hSw;go_simp;rfl
          simp only [Act.put,ZW];refine' ZV (i:=2) rfl ?Qb hS ?Na
          case Qb =>
           intro w' hSw;obtain ⟨r1,r2,r3⟩:=hSw;have z1:w'.cell? ⟨ab,0,none⟩=some (.int .u64 (ZE s0)):=r1.q0 rfl;go_simp;rfl
          simp only [Act.put,ZW];refine' ZV (i:=3) rfl ?Qc hS ?Nb
          case Qc =>
           intro w' hSw;obtain ⟨r1,r2,r3⟩:=hSw;have z1:=r2.q0 rfl;have z2:=r2.q1 rfl;have z3:=r2.q2 rfl;go_simp;rfl
          simp only [Act.put,ZW];refine' ZV (i:=5) rfl ?zuo hS ?zqv
          case zuo =>
           intro w' hSw;go_simp;rfl
          simp only [Act.put,ZW];refine' ZV (i:=6) rfl ?zup hS ?zqw
          case zup =>
           intro w' hSw;obtain ⟨r1,r2,r3⟩:=hSw;have z1:=r3.q0 rfl;have z2:=r3.q1 rfl;go_simp;rfl
          simp only [Act.put,ZW];refine Yj (i:=4) (by kernel_rfl) rfl ?_;intro K hK;rw [if_pos (by rfl)];go_simp;refine ⟨trivial,?_⟩;refine (callsIn_wide.2 (Vj _ A ps.length c _)).mono ?_;rintro e w5 ⟨rfl,hb5⟩;have hS5:Z6 w5 ab 311 #[.int .u64 (ZE s0),.int .u64 (ZE s1)]/\Z6 w5 wr.heap.size 38 #[.bool false,.int .i64 0,.slice A ps.length c]/\Z6 w5 pb 41 #[.int .i64 p.1,.int .i64 p.2]:=⟨A4.drew.step hb5,B4.drew.step hb5,P4.drew.step hb5⟩;refine hK.out _ _ (fun _=>hS5) ?_;clear hK K;have hk5:Z8 (Also (More P w W2) wr.heap.size) w4 w5:=(Z8.drew _ _).trans (Z8.of_below hb5 xK.out);have Sz:=KL.drew.step hb5
          (try simp only [Act.put,ZW])
          have HV:=hide (HLOC.out w5 (Tj.trans (hk5.mono OI.out)) (fun j hj=>Nat.lt_of_lt_of_le (xK.out j hj) hb5.size) Sz);have hmr:=Oc;refine Yj (i:=7) (by kernel_rfl) rfl ?_;intro K hK;rw [if_pos (by rfl)];go_simp;refine ⟨trivial,?_⟩;refine (callsIn_wide.2 HV.out).mono ?_;rintro e w6 ⟨rfl,Tk,FJ⟩;obtain ⟨a5,b5,p5⟩:=hS5;have Tg:Z6 w6 ab 311 #[.int .u64 (ZE s0),.int .u64 (ZE s1)]/\Z6 w6 wr.heap.size 38 #[.bool false,.int .i64 0,.slice A ps.length c]/\Z6 w6 pb 41 #[.int .i64 p.1,.int .i64 p.2]:=⟨a5.kept Tk (.inl kX.out),b5.kept Tk (.inr rfl),p5.kept Tk (.inl qp.out)⟩;refine hK.out _ _ (fun _=>Tg) ?_;clear hK K hmr HV;have OG:=hide (WY L (by have:=En.out;omega) (by have:=En.out;omega) w6)
          (try simp only [Act.put,ZW])
          refine Yj (i:=8) (by kernel_rfl) rfl ?_;intro K hK;rw [if_pos (by rfl)];go_simp;refine ⟨trivial,?_⟩;refine (callsIn_wide.2 OG.out).mono ?_;rintro e w7 ⟨rfl,rfl⟩;refine hK.out _ _ (fun _=>Tg) ?_;clear hK K OG;have hnt:=RN (decide (L<0));have Cz:bits BinOp.xor IntKind.u64 (if IntKind.u64.signed=true then -1 else IntKind.u64.max) (ZE (decide (L<0)))=ZE (!decide (L<0)):=hnt;have hor:=SE s0 (!decide (L<0))
          (try simp only [Act.put,ZW])
          refine' ZV (i:=9) rfl ?zuw Tg ?zrd
          case zuw =>
           intro w' hSw;go_simp;rfl
          simp only [Act.put,ZW];refine' ZV (i:=10) rfl ?dO Tg ?zvl
          case dO =>
           intro w' hSw;go_simp;rfl
          simp only [Act.put,ZW];refine' ZV (i:=11) rfl ?dP Tg ?zvm
          case dP =>
           intro w' hSw;go_simp;rfl
          simp only [Act.put,ZW];obtain ⟨a6,b6,p6⟩:=Tg;have c7:w6.cell? ⟨ab,0,none⟩=some (.int .u64 (ZE s0)):=a6.q0 rfl;have f7:=a6.frozen 0;refine Yj (i:=12) (by kernel_rfl) rfl ?_;intro K hK;rw [if_pos (by rfl)];go_simp;refine hK.out _ _ (fun h=>absurd rfl h) ?_;clear hK K;refine WI (by kernel_rfl) ?_ _;have a7:Z6 (w6.setCell ⟨ab,0,none⟩ (.int .u64 (ZE (s0 || !decide (L<0))))) ab 311 #[.int .u64 (ZE (s0 || !decide (L<0))),.int .u64 (ZE s1)]:=a6.set 0 (.int .u64 (ZE (s0 || !decide (L<0))));have p7:=p6.far (p:=⟨ab,0,none⟩) (by dsimp only;omega) (.int .u64 (ZE (s0 || !decide (L<0))));have t7:=(FJ.mono (R:=More P w W2) fun j h=>.inl h).set (b:=ab) kX.out 0 (.int .u64 (ZE (s0 || !decide (L<0))));have k7:Z8 P W2 (w6.setCell ⟨ab,0,none⟩ (.int .u64 (ZE (s0 || !decide (L<0))))):=(Tj.trans ((hk5.trans Tk).mono OI.out)).mono' (fun j h=>h) HNA.out 0 (.int .u64 (ZE (s0 || !decide (L<0))));have Uv:=hide (Wu.out _ _ rfl _ a7 p7 k7 t7);clear a7 p7 t7 k7 a6 b6 p6 c7 f7 hS a5 b5 p5 hk5 Sz hb5 Tk FJ Tj KL A4 B4 P4 Wu HLOC hnt Cz hor;gi_wp2;go_roundw
          case rel=>exact ⟨k+1,_,_,by omega,by go_num,Uv.out⟩
          case measure=>simp [intOf];omega
        | true =>
          have z0:w4.cell? ⟨wr.heap.size,0,none⟩=some (.bool true):=B4.q0 rfl;gi_wp2_with fail;clear z0;refine Xy 12 (S:=fun w'=>Z6 w' ab 311 #[.int .u64 (ZE s0),.int .u64 (ZE s1)]/\Z6 w' wr.heap.size 38 #[.bool true,.int .i64 0,.slice A ps.length c]/\Z6 w' pb 41 #[.int .i64 p.1,.int .i64 p.2]) V5 ?_;have hS:Z6 w4.drew ab 311 #[.int .u64 (ZE s0),.int .u64 (ZE s1)]/\Z6 w4.drew wr.heap.size 38 #[.bool true,.int .i64 0,.slice A ps.length c]/\Z6 w4.drew pb 41 #[.int .i64 p.1,.int .i64 p.2]:=⟨A4.drew,B4.drew,P4.drew⟩;refine' ZV (i:=0) rfl ?dG hS ?zvd
          case dG =>
           intro w' hSw;go_simp;rfl
          simp only [Act.put,getElem_toArray,getElem_cons_zero,setIfInBounds_toArray,set_cons_zero,set_cons_succ];refine' ZV (i:=1) rfl ?dR hS ?zvo
          case dR =>
           intro w' hSw;go_simp;rfl
          simp only [Act.put,ZW];refine' ZV (i:=2) rfl ?eu hS ?zvx
          case eu =>
           intro w' hSw;obtain ⟨r1,r2,r3⟩:=hSw;have z1:w'.cell? ⟨ab,1,none⟩=some (.int .u64 (ZE s1)):=r1.q1 rfl;go_simp;rfl
          simp only [Act.put,ZW];refine' ZV (i:=3) rfl ?eY hS ?zwh
          case eY =>
           intro w' hSw;obtain ⟨r1,r2,r3⟩:=hSw;have z1:=r2.q0 rfl;have z2:=r2.q1 rfl;have z3:=r2.q2 rfl;go_simp;rfl
          simp only [Act.put,ZW];refine' ZV (i:=5) rfl ?fJ hS ?zwu
          case fJ =>
           intro w' hSw;go_simp;rfl
          simp only [Act.put,ZW];refine' ZV (i:=6) rfl ?fU hS ?zxb
          case fU =>
           intro w' hSw;obtain ⟨r1,r2,r3⟩:=hSw;have z1:=r3.q0 rfl;have z2:=r3.q1 rfl;go_simp;rfl
          simp only [Act.put,ZW];refine Yj (i:=4) (by kernel_rfl) rfl ?_;intro K hK;rw [if_pos (by rfl)];go_simp;refine ⟨trivial,?_⟩;refine (callsIn_wide.2 (Vj _ A ps.length c _)).mono ?_;rintro e w5 ⟨rfl,hb5⟩;have hS5:Z6 w5 ab 311 #[.int .u64 (ZE s0),.int .u64 (ZE s1)]/\Z6 w5 wr.heap.size 38 #[.bool true,.int .i64 0,.slice A ps.length c]/\Z6 w5 pb 41 #[.int .i64 p.1,.int .i64 p.2]:=⟨A4.drew.step hb5,B4.drew.step hb5,P4.drew.step hb5⟩;refine hK.out _ _ (fun _=>hS5) ?_;clear hK K;have hk5:Z8 (Also (More P w W2) wr.heap.size) w4 w5:=(Z8.drew _ _).trans (Z8.of_below hb5 xK.out);have Sz:=KL.drew.step hb5
          (try simp only [Act.put,ZW])
          have HV:=hide (HLOC.out w5 (Tj.trans (hk5.mono OI.out)) (fun j hj=>Nat.lt_of_lt_of_le (xK.out j hj) hb5.size) Sz);have hmr:=Oc;refine Yj (i:=7) (by kernel_rfl) rfl ?_;intro K hK;rw [if_pos (by rfl)];go_simp;refine ⟨trivial,?_⟩;refine (callsIn_wide.2 HV.out).mono ?_;rintro e w6 ⟨rfl,Tk,FJ⟩;obtain ⟨a5,b5,p5⟩:=hS5;have Tg:Z6 w6 ab 311 #[.int .u64 (ZE s0),.int .u64 (ZE s1)]/\Z6 w6 wr.heap.size 38 #[.bool true,.int .i64 0,.slice A ps.length c]/\Z6 w6 pb 41 #[.int .i64 p.1,.int .i64 p.2]:=⟨a5.kept Tk (.inl kX.out),b5.kept Tk (.inr rfl),p5.kept Tk (.inl qp.out)⟩;refine hK.out _ _ (fun _=>Tg) ?_;clear hK K hmr HV;have OG:=hide (WY L (by have:=En.out;omega) (by have:=En.out;omega) w6)
          (try simp only [Act.put,ZW])
          refine Yj (i:=8) (by kernel_rfl) rfl ?_;intro K hK;rw [if_pos (by rfl)];go_simp;refine ⟨trivial,?_⟩;refine (callsIn_wide.2 OG.out).mono ?_;rintro e w7 ⟨rfl,rfl⟩;refine hK.out _ _ (fun _=>Tg) ?_;clear hK K OG;have hnt:=RN (decide (L<0));have Cz:bits BinOp.xor IntKind.u64 (if IntKind.u64.signed=true then -1 else IntKind.u64.max) (ZE (decide (L<0)))=ZE (!decide (L<0)):=hnt;have hor:=SE s1 (!decide (L<0))
          (try simp only [Act.put,ZW])
          refine' ZV (i:=9) rfl ?gM Tg ?zxp
          case gM =>
           intro w' hSw;go_simp;rfl
          simp only [Act.put,ZW];refine' ZV (i:=10) rfl ?mO Tg ?zyo
          case mO =>
           intro w' hSw;go_simp;rfl
          simp only [Act.put,ZW];refine' ZV (i:=11) rfl ?mW Tg ?zyu
          case mW =>
           intro w' hSw;go_simp;rfl
          simp only [Act.put,ZW];obtain ⟨a6,b6,p6⟩:=Tg;have c7:w6.cell? ⟨ab,1,none⟩=some (.int .u64 (ZE s1)):=a6.q1 rfl;have f7:=a6.frozen 1;refine Yj (i:=12) (by kernel_rfl) rfl ?_;intro K hK;rw [if_pos (by rfl)];go_simp;refine hK.out _ _ (fun h=>absurd rfl h) ?_;clear hK K;refine WI (by kernel_rfl) ?_ _;have a7:Z6 (w6.setCell ⟨ab,1,none⟩ (.int .u64 (ZE (s1 || !decide (L<0))))) ab 311 #[.int .u64 (ZE s0),.int .u64 (ZE (s1 || !decide (L<0)))]:=a6.set 1 (.int .u64 (ZE (s1 || !decide (L<0))));have p7:=p6.far (p:=⟨ab,1,none⟩) (by dsimp only;omega) (.int .u64 (ZE (s1 || !decide (L<0))));have t7:=(FJ.mono (R:=More P w W2) fun j h=>.inl h).set (b:=ab) kX.out 1 (.int .u64 (ZE (s1 || !decide (L<0))));have k7:Z8 P W2 (w6.setCell ⟨ab,1,none⟩ (.int .u64 (ZE (s1 || !decide (L<0))))):=(Tj.trans ((hk5.trans Tk).mono OI.out)).mono' (fun j h=>h) HNA.out 1 (.int .u64 (ZE (s1 || !decide (L<0))));have Uv:=hide (Wu.out _ _ rfl _ a7 p7 k7 t7);clear a7 p7 t7 k7 a6 b6 p6 c7 f7 hS a5 b5 p5 hk5 Sz hb5 Tk FJ Tj KL A4 B4 P4 Wu HLOC hnt Cz hor;gi_wp2;go_roundw
          case rel=>exact ⟨k+1,_,_,by omega,by go_num,Uv.out⟩
          case measure=>simp [intOf];omega
      · have hL2:L=UL ps p:=xI.out.trans (if_neg hv);have Qx:Rh v ps.length=Xf (List.range (Y6 ps.length)):=if_neg hv;rw [Qx] at Wu;have HLOC:=hide (fun (w5:World) (h1:Z8 P W2 w5) (h0:∀ j,Also (More P w W2) wr.heap.size j->j<w5.heap.size) (h2:Tp w5 (Also (More P w W2) wr.heap.size) t (es++WK 0 (gs.take k)++[(7,(k:Int),1)]))=>Ht (Also (More P w W2) wr.heap.size) t (es++WK 0 (gs.take k)++[(7,(k:Int),1)]) d v ps zrw.out HPN.out A c w5 h0 (OI.out _ K6.out) ((zrv.out.kept (NI.out.trans h1)).mono OI.out) (HW.out.kept (NI.out.trans h1) K6.out) h2 qQ.out p HPJ.out);rw [<- hL2] at HLOC;have hvb:(v == 0)=false:=(by simpa using hv);clear Qx hL2 xI;cases d with
        | false =>
          have z0:w4.cell? ⟨wr.heap.size,0,none⟩=some (.bool false):=B4.q0 rfl;gi_wp2_with fail;clear z0;refine Xy 12 (S:=fun w'=>Z6 w' ab 311 #[.int .u64 (ZE s0),.int .u64 (ZE s1)]/\Z6 w' wr.heap.size 38 #[.bool false,.int .i64 v,.slice A ps.length c]/\Z6 w' pb 41 #[.int .i64 p.1,.int .i64 p.2]) V5 ?_;have hS:Z6 w4.drew ab 311 #[.int .u64 (ZE s0),.int .u64 (ZE s1)]/\Z6 w4.drew wr.heap.size 38 #[.bool false,.int .i64 v,.slice A ps.length c]/\Z6 w4.drew pb 41 #[.int .i64 p.1,.int .i64 p.2]:=⟨A4.drew,B4.drew,P4.drew⟩;refine' ZV (i:=0) rfl ?dJ hS ?zvg
          case dJ =>
           intro w' hSw;go_simp;rfl
          simp only [Act.put,getElem_toArray,getElem_cons_zero,setIfInBounds_toArray,set_cons_zero,set_cons_succ];refine' ZV (i:=1) rfl ?dW hS ?zvs
          case dW =>
           intro w' hSw;go_simp;rfl
          simp only [Act.put,ZW];refine' ZV (i:=2) rfl ?eF hS ?zwa
          case eF =>
           intro w' hSw;obtain ⟨r1,r2,r3⟩:=hSw;have z1:w'.cell? ⟨ab,0,none⟩=some (.int .u64 (ZE s0)):=r1.q0 rfl;go_simp;rfl
          simp only [Act.put,ZW];refine' ZV (i:=3) rfl ?fq hS ?zwj
          case fq =>
           intro w' hSw;obtain ⟨r1,r2,r3⟩:=hSw;have z1:=r2.q0 rfl;have z2:=r2.q1 rfl;have z3:=r2.q2 rfl;go_simp;rfl
          simp only [Act.put,ZW];refine' ZV (i:=5) rfl ?fM hS ?zww
          case fM =>
           intro w' hSw;go_simp;rfl
          simp only [Act.put,ZW];refine' ZV (i:=6) rfl ?fZ hS ?zxd
          case fZ =>
           intro w' hSw;obtain ⟨r1,r2,r3⟩:=hSw;have z1:=r3.q0 rfl;have z2:=r3.q1 rfl;go_simp;rfl
          simp only [Act.put,ZW];refine Yj (i:=4) (by kernel_rfl) rfl ?_;intro K hK;rw [if_pos (by rfl)];go_simp;refine ⟨trivial,?_⟩;refine (callsIn_wide.2 (VD _ v hvb A ps.length c _)).mono ?_;rintro e w5 ⟨rfl,hb5⟩;have hS5:Z6 w5 ab 311 #[.int .u64 (ZE s0),.int .u64 (ZE s1)]/\Z6 w5 wr.heap.size 38 #[.bool false,.int .i64 v,.slice A ps.length c]/\Z6 w5 pb 41 #[.int .i64 p.1,.int .i64 p.2]:=⟨A4.drew.step hb5,B4.drew.step hb5,P4.drew.step hb5⟩;refine hK.out _ _ (fun _=>hS5) ?_;clear hK K;have hk5:Z8 (Also (More P w W2) wr.heap.size) w4 w5:=(Z8.drew _ _).trans (Z8.of_below hb5 xK.out);have Sz:=KL.drew.step hb5
          (try simp only [Act.put,ZW])
          have HV:=hide (HLOC.out w5 (Tj.trans (hk5.mono OI.out)) (fun j hj=>Nat.lt_of_lt_of_le (xK.out j hj) hb5.size) Sz);have hmr:=Qh;refine Yj (i:=7) (by kernel_rfl) rfl ?_;intro K hK;rw [if_pos (by rfl)];go_simp;refine ⟨trivial,?_⟩;refine (callsIn_wide.2 HV.out).mono ?_;rintro e w6 ⟨rfl,Tk,FJ⟩;obtain ⟨a5,b5,p5⟩:=hS5;have Tg:Z6 w6 ab 311 #[.int .u64 (ZE s0),.int .u64 (ZE s1)]/\Z6 w6 wr.heap.size 38 #[.bool false,.int .i64 v,.slice A ps.length c]/\Z6 w6 pb 41 #[.int .i64 p.1,.int .i64 p.2]:=⟨a5.kept Tk (.inl kX.out),b5.kept Tk (.inr rfl),p5.kept Tk (.inl qp.out)⟩;refine hK.out _ _ (fun _=>Tg) ?_;clear hK K hmr HV;have OG:=hide (WY L (by have:=En.out;omega) (by have:=En.out;omega) w6)
          (try simp only [Act.put,ZW])
          refine Yj (i:=8) (by kernel_rfl) rfl ?_;intro K hK;rw [if_pos (by rfl)];go_simp;refine ⟨trivial,?_⟩;refine (callsIn_wide.2 OG.out).mono ?_;rintro e w7 ⟨rfl,rfl⟩;refine hK.out _ _ (fun _=>Tg) ?_;clear hK K OG;have hnt:=RN (decide (L<0));have Cz:bits BinOp.xor IntKind.u64 (if IntKind.u64.signed=true then -1 else IntKind.u64.max) (ZE (decide (L<0)))=ZE (!decide (L<0)):=hnt;have hor:=SE s0 (!decide (L<0))
          (try simp only [Act.put,ZW])
          refine' ZV (i:=9) rfl ?gP Tg ?zxr
          case gP =>
           intro w' hSw;go_simp;rfl
          simp only [Act.put,ZW];refine' ZV (i:=10) rfl ?mQ Tg ?zyq
          case mQ =>
           intro w' hSw;go_simp;rfl
          simp only [Act.put,ZW];refine' ZV (i:=11) rfl ?mY Tg ?zyw
          case mY =>
           intro w' hSw;go_simp;rfl
          simp only [Act.put,ZW];obtain ⟨a6,b6,p6⟩:=Tg;have c7:w6.cell? ⟨ab,0,none⟩=some (.int .u64 (ZE s0)):=a6.q0 rfl;have f7:=a6.frozen 0;refine Yj (i:=12) (by kernel_rfl) rfl ?_;intro K hK;rw [if_pos (by rfl)];go_simp;refine hK.out _ _ (fun h=>absurd rfl h) ?_;clear hK K;refine WI (by kernel_rfl) ?_ _;have a7:Z6 (w6.setCell ⟨ab,0,none⟩ (.int .u64 (ZE (s0 || !decide (L<0))))) ab 311 #[.int .u64 (ZE (s0 || !decide (L<0))),.int .u64 (ZE s1)]:=a6.set 0 (.int .u64 (ZE (s0 || !decide (L<0))));have p7:=p6.far (p:=⟨ab,0,none⟩) (by dsimp only;omega) (.int .u64 (ZE (s0 || !decide (L<0))));have t7:=(FJ.mono (R:=More P w W2) fun j h=>.inl h).set (b:=ab) kX.out 0 (.int .u64 (ZE (s0 || !decide (L<0))));have k7:Z8 P W2 (w6.setCell ⟨ab,0,none⟩ (.int .u64 (ZE (s0 || !decide (L<0))))):=(Tj.trans ((hk5.trans Tk).mono OI.out)).mono' (fun j h=>h) HNA.out 0 (.int .u64 (ZE (s0 || !decide (L<0))));have Uv:=hide (Wu.out _ _ rfl _ a7 p7 k7 t7);clear a7 p7 t7 k7 a6 b6 p6 c7 f7 hS a5 b5 p5 hk5 Sz hb5 Tk FJ Tj KL A4 B4 P4 Wu HLOC hnt Cz hor;gi_wp2;go_roundw
          case rel=>exact ⟨k+1,_,_,by omega,by go_num,Uv.out⟩
          case measure=>simp [intOf];omega
        | true =>
          have z0:w4.cell? ⟨wr.heap.size,0,none⟩=some (.bool true):=B4.q0 rfl;gi_wp2_with fail;clear z0;refine Xy 12 (S:=fun w'=>Z6 w' ab 311 #[.int .u64 (ZE s0),.int .u64 (ZE s1)]/\Z6 w' wr.heap.size 38 #[.bool true,.int .i64 v,.slice A ps.length c]/\Z6 w' pb 41 #[.int .i64 p.1,.int .i64 p.2]) V5 ?_;have hS:Z6 w4.drew ab 311 #[.int .u64 (ZE s0),.int .u64 (ZE s1)]/\Z6 w4.drew wr.heap.size 38 #[.bool true,.int .i64 v,.slice A ps.length c]/\Z6 w4.drew pb 41 #[.int .i64 p.1,.int .i64 p.2]:=⟨A4.drew,B4.drew,P4.drew⟩;refine' ZV (i:=0) rfl ?dL hS ?zvi
          case dL =>
           intro w' hSw;go_simp;rfl
          simp only [Act.put,getElem_toArray,getElem_cons_zero,setIfInBounds_toArray,set_cons_zero,set_cons_succ];refine' ZV (i:=1) rfl ?dX hS ?zvt
          case dX =>
           intro w' hSw;go_simp;rfl
          simp only [Act.put,ZW];refine' ZV (i:=2) rfl ?eO hS ?zwc
          case eO =>
           intro w' hSw;obtain ⟨r1,r2,r3⟩:=hSw;have z1:w'.cell? ⟨ab,1,none⟩=some (.int .u64 (ZE s1)):=r1.q1 rfl;go_simp;rfl
          simp only [Act.put,ZW];refine' ZV (i:=3) rfl ?fu hS ?zwk
          case fu =>
           intro w' hSw;obtain ⟨r1,r2,r3⟩:=hSw;have z1:=r2.q0 rfl;have z2:=r2.q1 rfl;have z3:=r2.q2 rfl;go_simp;rfl
          simp only [Act.put,ZW];refine' ZV (i:=5) rfl ?fO hS ?zwx
          case fO =>
           intro w' hSw;go_simp;rfl
          simp only [Act.put,ZW];refine' ZV (i:=6) rfl ?gq hS ?zxe
          case gq =>
           intro w' hSw;obtain ⟨r1,r2,r3⟩:=hSw;have z1:=r3.q0 rfl;have z2:=r3.q1 rfl;go_simp;rfl
          simp only [Act.put,ZW];refine Yj (i:=4) (by kernel_rfl) rfl ?_;intro K hK;rw [if_pos (by rfl)];go_simp;refine ⟨trivial,?_⟩;refine (callsIn_wide.2 (VD _ v hvb A ps.length c _)).mono ?_;rintro e w5 ⟨rfl,hb5⟩;have hS5:Z6 w5 ab 311 #[.int .u64 (ZE s0),.int .u64 (ZE s1)]/\Z6 w5 wr.heap.size 38 #[.bool true,.int .i64 v,.slice A ps.length c]/\Z6 w5 pb 41 #[.int .i64 p.1,.int .i64 p.2]:=⟨A4.drew.step hb5,B4.drew.step hb5,P4.drew.step hb5⟩;refine hK.out _ _ (fun _=>hS5) ?_;clear hK K;have hk5:Z8 (Also (More P w W2) wr.heap.size) w4 w5:=(Z8.drew _ _).trans (Z8.of_below hb5 xK.out);have Sz:=KL.drew.step hb5
          (try simp only [Act.put,ZW])
          have HV:=hide (HLOC.out w5 (Tj.trans (hk5.mono OI.out)) (fun j hj=>Nat.lt_of_lt_of_le (xK.out j hj) hb5.size) Sz);have hmr:=Qh;refine Yj (i:=7) (by kernel_rfl) rfl ?_;intro K hK;rw [if_pos (by rfl)];go_simp;refine ⟨trivial,?_⟩;refine (callsIn_wide.2 HV.out).mono ?_;rintro e w6 ⟨rfl,Tk,FJ⟩;obtain ⟨a5,b5,p5⟩:=hS5;have Tg:Z6 w6 ab 311 #[.int .u64 (ZE s0),.int .u64 (ZE s1)]/\Z6 w6 wr.heap.size 38 #[.bool true,.int .i64 v,.slice A ps.length c]/\Z6 w6 pb 41 #[.int .i64 p.1,.int .i64 p.2]:=⟨a5.kept Tk (.inl kX.out),b5.kept Tk (.inr rfl),p5.kept Tk (.inl qp.out)⟩;refine hK.out _ _ (fun _=>Tg) ?_;clear hK K hmr HV;have OG:=hide (WY L (by have:=En.out;omega) (by have:=En.out;omega) w6)
          (try simp only [Act.put,ZW])
          refine Yj (i:=8) (by kernel_rfl) rfl ?_;intro K hK;rw [if_pos (by rfl)];go_simp;refine ⟨trivial,?_⟩;refine (callsIn_wide.2 OG.out).mono ?_;rintro e w7 ⟨rfl,rfl⟩;refine hK.out _ _ (fun _=>Tg) ?_;clear hK K OG;have hnt:=RN (decide (L<0));have Cz:bits BinOp.xor IntKind.u64 (if IntKind.u64.signed=true then -1 else IntKind.u64.max) (ZE (decide (L<0)))=ZE (!decide (L<0)):=hnt;have hor:=SE s1 (!decide (L<0))
          (try simp only [Act.put,ZW])
          refine' ZV (i:=9) rfl ?gQ Tg ?zxs
          case gQ =>
           intro w' hSw;go_simp;rfl
          simp only [Act.put,ZW];refine' ZV (i:=10) rfl ?mR Tg ?zyr
          case mR =>
           intro w' hSw;go_simp;rfl
          simp only [Act.put,ZW];refine' ZV (i:=11) rfl ?mZ Tg ?zyx
          case mZ =>
           intro w' hSw;go_simp;rfl
          simp only [Act.put,ZW];obtain ⟨a6,b6,p6⟩:=Tg;have c7:w6.cell? ⟨ab,1,none⟩=some (.int .u64 (ZE s1)):=a6.q1 rfl;have f7:=a6.frozen 1;refine Yj (i:=12) (by kernel_rfl) rfl ?_;intro K hK;rw [if_pos (by rfl)];go_simp;refine hK.out _ _ (fun h=>absurd rfl h) ?_;clear hK K;refine WI (by kernel_rfl) ?_ _;have a7:Z6 (w6.setCell ⟨ab,1,none⟩ (.int .u64 (ZE (s1 || !decide (L<0))))) ab 311 #[.int .u64 (ZE s0),.int .u64 (ZE (s1 || !decide (L<0)))]:=a6.set 1 (.int .u64 (ZE (s1 || !decide (L<0))));have p7:=p6.far (p:=⟨ab,1,none⟩) (by dsimp only;omega) (.int .u64 (ZE (s1 || !decide (L<0))));have t7:=(FJ.mono (R:=More P w W2) fun j h=>.inl h).set (b:=ab) kX.out 1 (.int .u64 (ZE (s1 || !decide (L<0))));have k7:Z8 P W2 (w6.setCell ⟨ab,1,none⟩ (.int .u64 (ZE (s1 || !decide (L<0))))):=(Tj.trans ((hk5.trans Tk).mono OI.out)).mono' (fun j h=>h) HNA.out 1 (.int .u64 (ZE (s1 || !decide (L<0))));have Uv:=hide (Wu.out _ _ rfl _ a7 p7 k7 t7);clear a7 p7 t7 k7 a6 b6 p6 c7 f7 hS a5 b5 p5 hk5 Sz hb5 Tk FJ Tj KL A4 B4 P4 Wu HLOC hnt Cz hor;gi_wp2;go_roundw
          case rel=>exact ⟨k+1,_,_,by omega,by go_num,Uv.out⟩
          case measure=>simp [intOf];omega
    · obtain rfl:k=gs.length:=(by omega);rw [List.take_length] at htp hst;have hand:=Dc s0 s1;have z0:wr.cell? ⟨ab,0,none⟩=some (.int .u64 (ZE s0)):=Ar.q0 rfl;have z1:wr.cell? ⟨ab,1,none⟩=some (.int .u64 (ZE s1)):=Ar.q1 rfl;have hfin:(s0 && !s1)=((Wq p gs).1 && !(Wq p gs).2):=(by rw [hst.out]);have HF:=hide hfin;clear hfin;gi_wp2;go_ret;refine ⟨?_,NI.out.trans hkp,htp.mono fun j h=>.inl h⟩;rw [<- HF.out];rfl
 · have e1:XZ gs p=false:=(by unfold XZ;rw [decide_eq_false hf];rfl);have e2:YD gs=[]:=(by unfold YD;rw [if_neg hf]);rw [e1,e2,List.append_nil];have HP:=hide hP;have HT:=hide ht;obtain ⟨z,hz⟩:=eE (Zi (gs.map (·.1)));rw [<- hz] at HC hf;clear e1 e2 hP hg0 hs hgs hw ht hz hpb P0;go_enter func197,ntmps197;go_wp2_with fail;rw [<- hw0];have HW0:=hide hw0;clear hw0;refine HC.out.mono ?_;rintro e w1 ⟨rfl,hb1⟩;go_wp2;go_ret;exact ⟨rfl,Z8.of_below (Z9 hb0 hb1) HP.out,HT.out.step (Z9 hb0 hb1)⟩
end
section
open Go.RowKit Go.Shelf
theorem Lh(b:Bool)(x o:Int)(h0:0<=x)(h1:x<=1000)(h2:0<=o)(h3:o<=1000)(w:World):Calls prog 193 #[.int .u64 (ZE b),.int .i64 x,.int .u64 o] w fun e w'=>e=.returned (.int .i64 (bif b then x else o))/\w=w':=by
 have hx:IntKind.u64.wrap x=x:=by rw [IntKind.wrap_u64];omega
 have hv:IntKind.i64.wrap (bif b then x else o)=(bif b then x else o):=by rw [IntKind.wrap_i64];cases b <;> simp <;> omega
 have HS:=hide (MC b x o h0 (by omega) h2 (by omega) w);obtain ⟨r,hr⟩:=eE ((bif b then x else o));rw [<- hr] at hv HS;rw [<- hr];clear hr;go_enter func193,ntmps193;go_wp2_with fail;refine HS.out.mono ?_;rintro e w' ⟨rfl,rfl⟩;go_wp2;go_ret;exact ⟨rfl,rfl⟩
theorem Ae(b:Bool)(w:World):Calls prog 196 #[.int .u64 (ZE b)] w fun e w'=>e=.returned (.int .u64 (bif b then 1 else 0))/\w=w':=by
 have h:bits BinOp.and IntKind.u64 (ZE b) 1=(bif b then 1 else 0):=by cases b <;> decide
 go_enter func196,ntmps196;go_wp2;go_ret;exact ⟨rfl,rfl⟩
def WV(ps:List Pt)(p:Pt):Int:=bif YB ps then UL ps p+1 else 3
def Ll(n:Nat):List Ev:=Qu n (List.range (Y6 n))++Xf (List.range (Y6 n))
def VZ(gs:List Gr)(p:Pt):Int:=bif Zc gs then (bif XZ gs p then 1 else 0) else 2
def MX(gs:List Gr):List Ev:=Zf gs++YD gs
theorem WH(gs:List Gr):(Zf gs).length<=262208:=by
 unfold Zf;split
 · rename_i h
   have h1:=Sj 0 gs;have h2:gs.length<=64:=by
    unfold Zi at h;split at h
    · omega
    · rename_i h2;rw [List.length_map] at h2;omega
   omega
 · simp
section
variable (P:Nat->Prop)(t:Option (Nat × Nat))(es:List Ev)(p:Pt)(hp:PJ p)(w:World)(hP:∀ k,P k->k<w.heap.size)(hg0:P 8)(hw:MW w)(ht:Tp w P t es)(hl:es.length<=600000)
include hp hP hg0 hw ht hl
theorem BO(ps:List Pt)(hps:Ub ps)(hn:ps.length<=10000)(A:Option Addr)(c:Nat)(hs:UU w P A (Zg ps)):
 Calls prog 141 #[.pointer (Zz t),.slice A ps.length c,.agg #[.int .i64 p.1,.int .i64 p.2]] w fun e w'=>e=.returned (.int .i64 (WV ps p))/\Z8 P w w'/\Tp w' P t (es++Ll ps.length):=by
 obtain ⟨w0,hw0⟩:=eE (w.alloc (.cells #[.int .i64 p.1,.int .i64 p.2] 41));have hb0:=bE hw0;have B0:Z6 w0 w.heap.size 41 #[.int .i64 p.1,.int .i64 p.2]:=by rw [hw0];exact Z6.new _ _ _
 have hm:=Yw hP hb0;have hk0:Z8 P w w0:=Z8.of_below hb0 hP;have HV:=hide (Kv (More P w w0) t es ps hps hn A c w0 hm (.inl hg0) ((hs.kept hk0).mono fun k h=>.inl h) (hw.step hb0) (ht.more hb0) (by omega));have HI:Hid (More P w w0 w.heap.size):=.inr ⟨Nat.le_refl _,B0.lt⟩;have HP:=hide hP;have HG:=hide hg0;have HS:=hide hs;have HW:=hide hw;have Jv:=hide hps;have HPJ:=hide hp;have HB0:=hide hb0;have HM:=hide hm;clear hP hg0 hs hw hps hp ht hb0 hm hk0;go_enter func141,ntmps141;go_wp2_with fail;rw [<- hw0];have HW0:=hide hw0;clear hw0;refine HV.out.mono ?_;rintro e w1 ⟨rfl,hk1,ht1⟩;have B1:=B0.kept hk1 HI.out;have z0:=B1.q0 rfl;have z1:=B1.q1 rfl;dsimp at z0 z1;have Nt:Z8 P w w1:=Z8.more HB0.out HP.out hk1;have hle:(es++Qu ps.length (List.range (Y6 ps.length))).length<=900000:=by
  have h1:=Qn 1 ps.length;have h2:SQ 1 ps.length=Qu ps.length (List.range (Y6 ps.length)):=rfl;rw [h2] at h1;rw [List.length_append];omega
 have HL:=hide (L6 P t _ ps Jv.out hn A c p HPJ.out w1 (fun k hk=>Nat.lt_of_lt_of_le (HP.out k hk) Nt.size) HG.out (HS.out.kept Nt) (HW.out.kept Nt HG.out) (ht1.mono fun k h=>.inl h) hle);have Bl:=hide Nt;have hlb:=Ng (Xh (Z4 ps) ps p (List.range (Y6 ps.length))).1 (Xh (Z4 ps) ps p (List.range (Y6 ps.length))).2;have hloc:UL ps p=KU (Xh (Z4 ps) ps p (List.range (Y6 ps.length))).1 (Xh (Z4 ps) ps p (List.range (Y6 ps.length))).2:=rfl;rw [<- hloc] at hlb;obtain ⟨L,hL⟩:=eE (UL ps p);rw [<- hL] at hlb HL;have hwr:IntKind.i64.wrap (L+1)=L+1:=by rw [IntKind.wrap_i64];omega
 have HA:Hid (WV ps p=bif YB ps then L+1 else 3):=by rw [hL];exact rfl
 clear hk1 ht1 B1 B0 Nt hle HV hloc hL;go_wp2_with fail;refine HL.out.mono ?_;rintro e w2 ⟨rfl,hk2,ht2⟩;have wV:=hide (fun w=>Lh (YB ps) (L+1) 3 (by omega) (by omega) (by omega) (by omega) w);clear z0 z1;go_wp2_with fail;refine (wV.out w2).mono ?_;rintro e w3 ⟨rfl,rfl⟩;go_wp2;go_ret;refine ⟨Y3 HA.out.symm,Bl.out.trans hk2,?_⟩;rw [List.append_assoc] at ht2;exact ht2
theorem Ca(gs:List Gr)(GA:Option Addr)(gc:Nat)(hs:UU w P GA (rgCells (gs.map (·.1))))(hgs:zW w P gs):
 Calls prog 143 #[.pointer (Zz t),.slice GA gs.length gc,.agg #[.int .i64 p.1,.int .i64 p.2]] w fun e w'=>e=.returned (.int .i64 (VZ gs p))/\Z8 P w w'/\Tp w' P t (es++MX gs):=by
 obtain ⟨w0,hw0⟩:=eE (w.alloc (.cells #[.int .i64 p.1,.int .i64 p.2] 41));have hb0:=bE hw0;have B0:Z6 w0 w.heap.size 41 #[.int .i64 p.1,.int .i64 p.2]:=by rw [hw0];exact Z6.new _ _ _
 have hm:=Yw hP hb0;have hk0:Z8 P w w0:=Z8.of_below hb0 hP;have HV:=hide (U2 (More P w w0) t es gs GA gc w0 hm (.inl hg0) ((hs.kept hk0).mono fun k h=>.inl h) (fun g hg=>⟨(hgs g hg).1,((hgs g hg).2.1.kept hk0).mono fun k h=>.inl h,(hgs g hg).2.2⟩) (hw.step hb0) (ht.more hb0) hl);have HI:Hid (More P w w0 w.heap.size):=.inr ⟨Nat.le_refl _,B0.lt⟩;have HP:=hide hP;have HG:=hide hg0;have HS:=hide hs;have HW:=hide hw;have QY:=hide hgs;have HPJ:=hide hp;have HB0:=hide hb0;have HM:=hide hm;clear hP hg0 hs hw hgs hp ht hb0 hm hk0;go_enter func143,ntmps143;go_wp2_with fail;rw [<- hw0];have HW0:=hide hw0;clear hw0;refine HV.out.mono ?_;rintro e w1 ⟨rfl,hk1,ht1⟩;have B1:=B0.kept hk1 HI.out;have z0:=B1.q0 rfl;have z1:=B1.q1 rfl;dsimp at z0 z1;have Nt:Z8 P w w1:=Z8.more HB0.out HP.out hk1;have hle:(es++Zf gs).length<=890000:=by
  have h1:=WH gs;rw [List.length_append];omega
 have HL:=hide (Vm P t _ gs GA gc p HPJ.out w1 (fun k hk=>Nat.lt_of_lt_of_le (HP.out k hk) Nt.size) HG.out (HS.out.kept Nt) (QY.out.kept Nt) (HW.out.kept Nt HG.out) (ht1.mono fun k h=>.inl h) hle);have Bl:=hide Nt;have HA:Hid (VZ gs p=bif Zc gs then (bif XZ gs p then 1 else 0) else 2):=rfl;obtain ⟨mb,hmb⟩:=eE (XZ gs p);rw [<- hmb] at HL HA;obtain ⟨bt,hbt⟩:∃ bt:Int,bt=(bif mb then 1 else 0):=⟨_,rfl⟩;have hbb:0<=bt/\bt<=1:=by rw [hbt];cases mb <;> decide
 have xE:=hide (fun w=>Ae mb w);rw [<- hbt] at xE HA;have hwr:IntKind.i64.wrap bt=bt:=by rw [IntKind.wrap_i64];omega
 clear hk1 ht1 B1 B0 Nt hle HV hmb hbt;go_wp2_with fail;refine HL.out.mono ?_;rintro e w2 ⟨rfl,hk2,ht2⟩;clear z0 z1;go_wp2_with fail;refine (xE.out w2).mono ?_;rintro e w2' ⟨rfl,rfl⟩;have wV:=hide (fun w=>Lh (Zc gs) bt 2 (by omega) (by omega) (by omega) (by omega) w);go_wp2_with fail;refine (wV.out w2).mono ?_;rintro e w3 ⟨rfl,rfl⟩;go_wp2;go_ret;refine ⟨Y3 HA.out.symm,Bl.out.trans hk2,?_⟩;rw [List.append_assoc] at ht2;exact ht2
end
end
section
open Go.RowKit
theorem md{a n:Nat}(h:a<2*n):(a<n/\a % n=a)\/(n<=a/\a % n=a - n):=by
 by_cases h1:a<n
 · exact .inl ⟨h1,Nat.mod_eq_of_lt h1⟩
 · refine .inr ⟨by omega,?_⟩;rw [Nat.mod_eq_sub_mod (by omega),Nat.mod_eq_of_lt (by omega)]
def Tn(ps ps':List Pt)(ep:Int):Prop:=ps'.length=ps.length/\(ep=1\/ep=-1)/\∃ f g:Nat->Nat,∀ i,i<ps.length ->
 f i<ps.length/\g i<ps.length/\(∀ c,ZM (Z5 ps' i) (Z5 ps' ((i+1) % ps.length)) c=ep*ZM (Z5 ps (f i)) (Z5 ps ((f i+1) % ps.length)) c)/\Z5 ps' i=Z5 ps (g i) /\
 ∀ j,j<ps.length->j≠i->j≠(i+1) % ps.length->g j≠f i/\g j≠(f i+1) % ps.length
end
end Go.Proofs.YthnenedoblncjaaGreatDoor