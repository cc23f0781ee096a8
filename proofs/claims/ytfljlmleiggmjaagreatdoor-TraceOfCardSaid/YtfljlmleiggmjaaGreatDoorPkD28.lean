/- Disc FenceValid FenceMember Engine -/
import Derived.Laws.CopyOwn
import Derived.Test.YtfljlmleiggmjaaGreatDoorPkD05
import Derived.Test.YtfljlmleiggmjaaGreatDoorPkD24
set_option maxRecDepth 1000000
set_option maxHeartbeats 8000000
namespace Go.Proofs.YtfljlmleiggmjaaGreatDoor
open Go.Proofs.Tryz
open List (getElem_toArray getElem_cons_succ getElem_cons_zero setIfInBounds_toArray set_cons_zero set_cons_succ)
section
open Go.RowKit Go.Shelf
theorem Rz {P:Program} (w:World) (dT sT ty elem:TypeId) (s g o dLen dCap:Nat) (a:Addr) (sLen sCap:Nat) (cur:Array Value) (t:TypeId) (cs:List Value)
 (hu:P.underlying dT=some (.slice elem)) (hs:(P.info? elem).map (·.size)=some s)
 (hg:w.heap[g]?=some (.cells cur t (0,0))) (hn:cs.length=Nat.min sLen dLen*s)
 (hsrc:∀ j v,cs[j]?=some v->w.cell? (a.add j)=some v) (hfit:o+cs.length<=cur.size) (h1:∀ v∈cs,v.oneCell'=true) :
 (Builtin.copy_ #[dT,sT] ty #[.slice (some ⟨g,o,none⟩) dLen dCap,.slice (some a) sLen sCap]).run P w =
   .ok (goInt (Nat.min sLen dLen:Nat)) (w.setRow g (cur.toList.take o++cs++cur.toList.drop (o+cs.length)).toArray):=by
 have hl:=run_loadCells_list (P:=P) w a cs hsrc;have hst:=run_storeCells_at P g o t cs 0 cur w hg (by simpa using hfit) h1;cases hq:P.info? elem with
 | none=>simp [hq] at hs
 | some i =>
   have hi:i.size=s:=(by simpa [hq] using hs);simp [Builtin.copy_,run_underlying hu,Builtin.lenOf,Builtin.firstCells,sizeOf,typeInfo,hq,hi,<- hn,hl,hst]
def XL(ps:List Pt):Array Value:=#[.int .i64 (Z4 ps 0).1,.int .i64 (Z4 ps 0).2,.int .i64 (Z4 ps 1).1,.int .i64 (Z4 ps 1).2,.int .i64 (Z4 ps 2).1,.int .i64 (Z4 ps 2).2]
theorem Nb {fn:Func} {tmps:Array Value} {w:World} {g:Nat} {v0 v1 v2 v3 v4 v5:Value} (h:fn.results=#[.cell 2 334,.tmp 3])
 (hp:tmps.getD 2 undef=.pointer (some ⟨g,0,none⟩)) (hb:Z6 w g 334 #[v0,v1,v2,v3,v4,v5]) :
 (results fn tmps).run prog w=.ok (.tuple #[.agg #[v0,v1,v2,v3,v4,v5],tmps.getD 3 undef]) w:=by
 have c0:=hb.q0 rfl;have c1:=hb.q1 rfl;have c2:=hb.q2 rfl;have c3:=hb.q3 rfl;have c4:=hb.q4 rfl;have c5:=hb.q5 rfl;have hp':tmps[2]?.getD undef=.pointer (some ⟨g,0,none⟩):=by rw [<- hp];simp
 simp [results,h,hp',go_sem,c0,c1,c2,c3,c4,c5]
theorem Kr(ps:List Pt)(hn:ps.length≠3)(A:Option Addr)(c:Nat)(w:World):
 Calls prog 295 #[.slice A ps.length c] w fun e w'=>e=.returned (.tuple #[.agg #[.int .i64 0,.int .i64 0,.int .i64 0,.int .i64 0,.int .i64 0,.int .i64 0],.bool false])/\Below w.heap.size w w':=by
 have hni:¬ ((ps.length:Nat):Int)=3:=by omega
 have B0:Z6 ((w.alloc (.cells #[.int .i64 0,.int .i64 0,.int .i64 0,.int .i64 0,.int .i64 0,.int .i64 0] 334)).alloc (.cells #[.int .i64 0,.int .i64 0,.int .i64 0,.int .i64 0,.int .i64 0,.int .i64 0] 334)) w.heap.size 334 #[.int .i64 0,.int .i64 0,.int .i64 0,.int .i64 0,.int .i64 0,.int .i64 0]:=(Z6.new _ _ _).alloc _;go_enter func295,ntmps295;go_wp2;refine bodyPost_ret (Nb rfl rfl B0) rfl ⟨rfl,?_⟩;exact Z7 (bA) _
theorem Kt(ps:List Pt)(hn:ps.length=3)(A:Option Addr)(c:Nat)(w:World)(hs:Sl w w.heap.size A (Zc ps)):
 Calls prog 295 #[.slice A ps.length c] w fun e w'=>e=.returned (.tuple #[.agg (XL ps),.bool true])/\Below w.heap.size w w':=by
 obtain ⟨b,off,rfl,hb⟩:=Vn hs (by omega);have hc:∀ j u,(Zc ps)[j]?=some u->w.cell? ⟨b,off+j,none⟩=some u:=by
  rcases hs with h|⟨b',off',hA,_,h⟩
  · exfalso
    have h2:=YK (fun p:Int × Int=>[Value.int .i64 p.1,.int .i64 p.2]) 2 (fun _=>rfl) ps;have h3:(Zc ps).length=3*2:=(by rw [<- hn];exact h2);rw [h] at h3;simp at h3
  · cases hA;exact h
 have hcs:Zc ps=(XL ps).toList:=by
  match ps,hn with
  | [p,q,r],_=>rfl
 rw [hcs] at hc
 have hc2:∀ j v,(XL ps).toList[j]?=some v->((w.alloc (.cells #[.int .i64 0,.int .i64 0,.int .i64 0,.int .i64 0,.int .i64 0,.int .i64 0] 334)).alloc (.cells #[.int .i64 0,.int .i64 0,.int .i64 0,.int .i64 0,.int .i64 0,.int .i64 0] 334)).cell? ((⟨b,off,none⟩:Addr).add j)=some v:=fun j v hv=>by
  have h1:=hc j v hv;have h2:=(Z7 (Z7 (Below.refl w.heap.size w) (.cells #[.int .i64 0,.int .i64 0,.int .i64 0,.int .i64 0,.int .i64 0,.int .i64 0] 334)) (.cells #[.int .i64 0,.int .i64 0,.int .i64 0,.int .i64 0,.int .i64 0,.int .i64 0] 334)).cell (p:=⟨b,off+j,none⟩) hb;rw [h1] at h2;rw [show (⟨b,off,none⟩:Addr).add j=⟨b,off+j,none⟩ by simp [Addr.add]];exact h2
 have B1:Z6 ((w.alloc (.cells #[.int .i64 0,.int .i64 0,.int .i64 0,.int .i64 0,.int .i64 0,.int .i64 0] 334)).alloc (.cells #[.int .i64 0,.int .i64 0,.int .i64 0,.int .i64 0,.int .i64 0,.int .i64 0] 334)) (w.heap.size+1) 334 #[.int .i64 0,.int .i64 0,.int .i64 0,.int .i64 0,.int .i64 0,.int .i64 0]:=Z6.new2 _ _ _ _;have B0:Z6 ((w.alloc (.cells #[.int .i64 0,.int .i64 0,.int .i64 0,.int .i64 0,.int .i64 0,.int .i64 0] 334)).alloc (.cells #[.int .i64 0,.int .i64 0,.int .i64 0,.int .i64 0,.int .i64 0,.int .i64 0] 334)) w.heap.size 334 #[.int .i64 0,.int .i64 0,.int .i64 0,.int .i64 0,.int .i64 0,.int .i64 0]:=(Z6.new _ _ _).alloc _;rw [hn];have hrun:=Rz (P:=prog) ((w.alloc (.cells #[.int .i64 0,.int .i64 0,.int .i64 0,.int .i64 0,.int .i64 0,.int .i64 0] 334)).alloc (.cells #[.int .i64 0,.int .i64 0,.int .i64 0,.int .i64 0,.int .i64 0,.int .i64 0] 334)) 59 59 3 123 2 (w.heap.size+1) 0 3 3 ⟨b,off,none⟩ 3 c #[.int .i64 0,.int .i64 0,.int .i64 0,.int .i64 0,.int .i64 0,.int .i64 0] 334 (XL ps).toList underlying59 (by kernel_rfl) B1 rfl hc2 (by simp [XL]) (by simp [XL,Value.oneCell']);have hb2:Below (w.heap.size+1) ((w.alloc (.cells #[.int .i64 0,.int .i64 0,.int .i64 0,.int .i64 0,.int .i64 0,.int .i64 0] 334)).alloc (.cells #[.int .i64 0,.int .i64 0,.int .i64 0,.int .i64 0,.int .i64 0,.int .i64 0] 334)) (((w.alloc (.cells #[.int .i64 0,.int .i64 0,.int .i64 0,.int .i64 0,.int .i64 0,.int .i64 0] 334)).alloc (.cells #[.int .i64 0,.int .i64 0,.int .i64 0,.int .i64 0,.int .i64 0,.int .i64 0] 334)).setRow (w.heap.size+1) (((#[.int .i64 0,.int .i64 0,.int .i64 0,.int .i64 0,.int .i64 0,.int .i64 0]:Array Value).toList.take 0++(XL ps).toList++(#[.int .i64 0,.int .i64 0,.int .i64 0,.int .i64 0,.int .i64 0,.int .i64 0]:Array Value).toList.drop (0+(XL ps).toList.length)).toArray)):=below_setRow (Below.refl _ _) (Nat.le_refl _) _;have h2:=setRow_heap ((w.alloc (.cells #[.int .i64 0,.int .i64 0,.int .i64 0,.int .i64 0,.int .i64 0,.int .i64 0] 334)).alloc (.cells #[.int .i64 0,.int .i64 0,.int .i64 0,.int .i64 0,.int .i64 0,.int .i64 0] 334)) (w.heap.size+1) #[.int .i64 0,.int .i64 0,.int .i64 0,.int .i64 0,.int .i64 0,.int .i64 0] (((#[.int .i64 0,.int .i64 0,.int .i64 0,.int .i64 0,.int .i64 0,.int .i64 0]:Array Value).toList.take 0++(XL ps).toList++(#[.int .i64 0,.int .i64 0,.int .i64 0,.int .i64 0,.int .i64 0,.int .i64 0]:Array Value).toList.drop (0+(XL ps).toList.length)).toArray) 334 _ B1;generalize ((w.alloc (.cells #[.int .i64 0,.int .i64 0,.int .i64 0,.int .i64 0,.int .i64 0,.int .i64 0] 334)).alloc (.cells #[.int .i64 0,.int .i64 0,.int .i64 0,.int .i64 0,.int .i64 0,.int .i64 0] 334)).setRow (w.heap.size+1) (((#[.int .i64 0,.int .i64 0,.int .i64 0,.int .i64 0,.int .i64 0,.int .i64 0]:Array Value).toList.take 0++(XL ps).toList++(#[.int .i64 0,.int .i64 0,.int .i64 0,.int .i64 0,.int .i64 0,.int .i64 0]:Array Value).toList.drop (0+(XL ps).toList.length)).toArray)=w2 at hrun hb2 h2;have B2:Z6 w2 (w.heap.size+1) 334 (XL ps):=h2;have C2:Z6 w2 w.heap.size 334 #[.int .i64 0,.int .i64 0,.int .i64 0,.int .i64 0,.int .i64 0,.int .i64 0]:=B0.below hb2 (by omega);have hbb:Below w.heap.size w w2:=(Z7 (bA) _).trans (hb2.mono (by omega));have HB:=hide hbb;have z0:=B2.q0 rfl;have z1:=B2.q1 rfl;have z2:=B2.q2 rfl;have z3:=B2.q3 rfl;have z4:=B2.q4 rfl;have z5:=B2.q5 rfl;unfold XL at z0 z1 z2 z3 z4 z5;dsimp at z0 z1 z2 z3 z4 z5;have y0:=C2.frozen 0;have y1:=C2.frozen 1;have y2:=C2.frozen 2;have y3:=C2.frozen 3;have y4:=C2.frozen 4;have y5:=C2.frozen 5;have u0:=C2.q0 rfl;have u1:=C2.q1 rfl;have u2:=C2.q2 rfl;have u3:=C2.q3 rfl;have u4:=C2.q4 rfl;have u5:=C2.q5 rfl;dsimp at u0 u1 u2 u3 u4 u5;have Qp:=hide C2;clear hc2 hc hcs B1 B0 hs h2 hb2 B2 C2 hbb;go_enter func295,ntmps295;go_wp2;have E:Z6 _ w.heap.size 334 (XL ps):=((((((Qp.out.set 0 (.int .i64 (Z4 ps 0).1)).set 1 (.int .i64 (Z4 ps 0).2)).set 2 (.int .i64 (Z4 ps 1).1)).set 3 (.int .i64 (Z4 ps 1).2)).set 4 (.int .i64 (Z4 ps 2).1)).set 5 (.int .i64 (Z4 ps 2).2));refine bodyPost_ret (Nb rfl rfl E) rfl ?_;refine ⟨rfl,?_⟩;exact (((((HB.out.setCell (Nat.le_refl _) _).setCell (Nat.le_refl _) _).setCell (Nat.le_refl _) _).setCell (Nat.le_refl _) _).setCell (Nat.le_refl _) _).setCell (Nat.le_refl _) _
def WY(ps:List Pt):Bool:=decide (ps.length=3) && !decide ((ZF (Z4 ps 0) (Z4 ps 1) (Z4 ps 2)).sign=0)
def UJ(n:Nat):List Ev:=if n=3 then [(4,0,2)] else []
def Vq(ps:List Pt)(p:Pt):Int:=if ps.length=3 then (Yq (Z4 ps 0) (Z4 ps 1) (Z4 ps 2) p).sign*(ZF (Z4 ps 0) (Z4 ps 1) (Z4 ps 2)).sign else -1
def UH(n:Nat):List Ev:=if n=3 then [(6,0,0)] else []
section
variable (P:Nat->Prop)(t:Option (Nat × Nat))(es:List Ev)(ps:List Pt)(hps:Tq ps)(A:Option Addr)(c:Nat)(w:World)(hP:∀ k,P k->k<w.heap.size)(hg0:P 3)(hs:U2 w P A (Zc ps))(hw:MW w)(ht:Tp w P t es)(hl:es.length<=900000)
include hps hP hg0 hs hw ht hl
theorem Jq:Calls prog 294 #[.pointer (Zu t),.slice A ps.length c] w fun e w'=>e=.returned (.int .u64 (Zy (WY ps)))/\Z8 P w w'/\Tp w' P t (es++UJ ps.length):=by
 by_cases hn:ps.length=3
 · have CO:=Kt ps hn A c w (hs.sl hP);unfold XL at CO;have HF:=hide CO;have HO:WY ps=!decide ((ZF (Z4 ps 0) (Z4 ps 1) (Z4 ps 2)).sign=0):=(by unfold WY;rw [decide_eq_true hn];rfl);have HE:UJ ps.length=[(4,0,2)]:=(by unfold UJ;rw [if_pos hn]);rw [HO,HE];obtain ⟨os,hos⟩:=eE ((ZF (Z4 ps 0) (Z4 ps 1) (Z4 ps 2)).sign);rw [<- hos];have zja:=hide hos;have HT:=hide ht;have HP:=hide hP;have HW:=hide hw;have G7:=hide hps;have HG:=hide hg0;clear hos HO HE ht hP hw hps hs hn hg0 CO;go_enter func294,ntmps294;go_wp2_with fail;refine HF.out.mono ?_;rintro e w1 ⟨rfl,hb1⟩;obtain ⟨w2,hw2⟩:=eE (w1.alloc (.cells #[.int .i64 (Z4 ps 0).1,.int .i64 (Z4 ps 0).2,.int .i64 (Z4 ps 1).1,.int .i64 (Z4 ps 1).2,.int .i64 (Z4 ps 2).1,.int .i64 (Z4 ps 2).2] 334));have hb2:Below w.heap.size w w2:=(by rw [hw2];exact Z7 hb1 _);have B2:Z6 w2 w1.heap.size 334 #[.int .i64 (Z4 ps 0).1,.int .i64 (Z4 ps 0).2,.int .i64 (Z4 ps 1).1,.int .i64 (Z4 ps 1).2,.int .i64 (Z4 ps 2).1,.int .i64 (Z4 ps 2).2]:=(by rw [hw2];exact Z6.new _ _ _);have hm:∀ k,More P w w2 k->k<w2.heap.size:=Yg HP.out hb2;have RU:=hide (Vb (More P w w2) t es 4 0 2 w2 hm (HT.out.more hb2) (by omega) (by unfold Yu;omega));have HI:Hid (More P w w2 w1.heap.size):=.inr ⟨hb1.size,B2.lt⟩;have HB2:=hide hb2;clear hb2 hb1 hm HF;go_wp2_with fail;rw [<- hw2];clear hw2;refine RU.out.mono ?_;rintro e w3 ⟨rfl,hk3,_,ht3⟩;have B3:=B2.kept hk3 HI.out;have z0:=B3.q0 rfl;have z1:=B3.q1 rfl;have z2:=B3.q2 rfl;have z3:=B3.q3 rfl;have z4:=B3.q4 rfl;have z5:=B3.q5 rfl;dsimp at z0 z1 z2 z3 z4 z5;have Jw:Z8 P w w3:=Z8.more HB2.out HP.out hk3;have Tv:=(UF (Z4 ps 0) (Z4 ps 1) (Z4 ps 2) (G7.out.at_ _) (G7.out.at_ _) (G7.out.at_ _) w3 (HW.out.kept Jw HG.out));have CF:=WW (ZF (Z4 ps 0) (Z4 ps 1) (Z4 ps 2));rw [<- zja.out] at Tv CF;have xO:=hide Tv;clear Tv;have HK:=hide Jw;have HT3:=hide (ht3.mono (R:=P) fun k h=>.inl h);clear hk3 ht3 B2 B3 Jw RU;go_wp2_with fail;refine xO.out.mono ?_;rintro e w4 ⟨rfl,hb4⟩;obtain ⟨hz1,hz2⟩:=Vf (x:=os) (by rcases CF with h|h|h <;> omega) (by rcases CF with h|h|h <;> omega);have HZ:=TR (IntKind.u64.wrap os) hz1.1 hz1.2 w4;rw [hz2] at HZ;have HZ:=hide HZ;have hnot:=QK (decide (os=0));clear z0 z1 z2 z3 z4 z5 hz1 hz2 CF;go_wp2_with fail;refine HZ.out.mono ?_;rintro e w5 ⟨rfl,rfl⟩;go_wp2;go_ret;exact ⟨rfl,HK.out.trans (Z8.of_below hb4 (fun k hk=>Nat.lt_of_lt_of_le (HP.out k hk) HK.out.size)),HT3.out.step hb4⟩
 · have HF:=hide (Kr ps hn A c w);have HO:WY ps=false:=(by unfold WY;rw [decide_eq_false hn];rfl);have HE:UJ ps.length=[]:=(by unfold UJ;rw [if_neg hn]);rw [HO,HE,List.append_nil];have HT:=hide ht;have HP:=hide hP;clear HO HE ht hP hw hps hs hn hg0;go_enter func294,ntmps294;go_wp2_with fail;refine HF.out.mono ?_;rintro e w1 ⟨rfl,hb1⟩;go_wp2;go_ret;exact ⟨rfl,Z8.of_below (Z7 hb1 _) HP.out,HT.out.step (Z7 hb1 _)⟩
theorem J9(p:Pt)(hp:PJ p):Calls prog 293 #[.pointer (Zu t),.slice A ps.length c,.agg #[.int .i64 p.1,.int .i64 p.2]] w fun e w'=>e=.returned (.int .i64 (Vq ps p))/\Z8 P w w'/\Tp w' P t (es++UH ps.length):=by
 obtain ⟨w0,hw0⟩:=eE (w.alloc (.cells #[.int .i64 p.1,.int .i64 p.2] 123));have hb0:=bE hw0;have B0:Z6 w0 w.heap.size 123 #[.int .i64 p.1,.int .i64 p.2]:=by rw [hw0];exact Z6.new _ _ _
 by_cases hn:ps.length=3
 · have CO:=Kt ps hn A c w0 (((hs.sl hP).below hb0).more hb0.size);unfold XL at CO;have HF:=hide CO;have HO:Vq ps p=(Yq (Z4 ps 0) (Z4 ps 1) (Z4 ps 2) p).sign*(ZF (Z4 ps 0) (Z4 ps 1) (Z4 ps 2)).sign:=(by unfold Vq;rw [if_pos hn]);have HE:UH ps.length=[(6,0,0)]:=(by unfold UH;rw [if_pos hn]);rw [HO,HE];have HT:=hide ht;have HP:=hide hP;have HW:=hide hw;have G7:=hide hps;have HG:=hide hg0;have mX:=hide hp;clear HO HE ht hP hw hps hs hn hg0 CO hp;go_enter func293,ntmps293;go_wp2_with fail;rw [<- hw0];have HW0:=hide hw0;clear hw0;refine HF.out.mono ?_;rintro e w1 ⟨rfl,hb1⟩;obtain ⟨w2,hw2⟩:=eE (w1.alloc (.cells #[.int .i64 (Z4 ps 0).1,.int .i64 (Z4 ps 0).2,.int .i64 (Z4 ps 1).1,.int .i64 (Z4 ps 1).2,.int .i64 (Z4 ps 2).1,.int .i64 (Z4 ps 2).2] 334));have NG:=bE hw2;have hb2:Below w.heap.size w w2:=Z9 (Z9 hb0 hb1) NG;have B2:Z6 w2 w1.heap.size 334 #[.int .i64 (Z4 ps 0).1,.int .i64 (Z4 ps 0).2,.int .i64 (Z4 ps 1).1,.int .i64 (Z4 ps 1).2,.int .i64 (Z4 ps 2).1,.int .i64 (Z4 ps 2).2]:=(by rw [hw2];exact Z6.new _ _ _);have C2:Z6 w2 w.heap.size 123 #[.int .i64 p.1,.int .i64 p.2]:=(B0.step hb1).step NG;have hm:∀ k,More P w w2 k->k<w2.heap.size:=Yg HP.out hb2;have RU:=hide (Vb (More P w w2) t es 6 0 0 w2 hm (HT.out.more hb2) (by omega) (by unfold Yu;omega));have HI:Hid (More P w w2 w1.heap.size):=.inr ⟨(Z9 hb0 hb1).size,B2.lt⟩;have HI0:Hid (More P w w2 w.heap.size):=.inr ⟨Nat.le_refl _,C2.lt⟩;have HB2:=hide hb2;clear hb2 hb1 hm HF NG B0 hb0;go_wp2_with fail;rw [<- hw2];clear hw2;refine RU.out.mono ?_;rintro e w3 ⟨rfl,hk3,_,ht3⟩;have B3:=B2.kept hk3 HI.out;have C3:=C2.kept hk3 HI0.out;have z0:=B3.q0 rfl;have z1:=B3.q1 rfl;have z2:=B3.q2 rfl;have z3:=B3.q3 rfl;have z4:=B3.q4 rfl;have z5:=B3.q5 rfl;have z6:=C3.q0 rfl;have z7:=C3.q1 rfl;dsimp at z0 z1 z2 z3 z4 z5 z6 z7;have Jw:Z8 P w w3:=Z8.more HB2.out HP.out hk3;have uz:=hide (uZ (Z4 ps 0) (Z4 ps 1) (Z4 ps 2) p (G7.out.at_ _) (G7.out.at_ _) (G7.out.at_ _) mX.out w3 (HW.out.kept Jw HG.out));have HK:=hide Jw;have HT3:=hide (ht3.mono (R:=P) fun k h=>.inl h);clear hk3 ht3 B2 B3 Jw RU C2 C3;go_wp2_with fail;refine uz.out.mono ?_;rintro e w4 ⟨rfl,hb4⟩;clear z0 z1 z2 z3 z4 z5 z6 z7;go_wp2;go_ret;exact ⟨rfl,HK.out.trans (Z8.of_below hb4 (fun k hk=>Nat.lt_of_lt_of_le (HP.out k hk) HK.out.size)),HT3.out.step hb4⟩
 · have HF:=hide (Kr ps hn A c w0);have HO:Vq ps p=-1:=(by unfold Vq;rw [if_neg hn]);have HE:UH ps.length=[]:=(by unfold UH;rw [if_neg hn]);rw [HO,HE,List.append_nil];have HT:=hide ht;have HP:=hide hP;clear HO HE ht hP hw hps hs hn hg0 hp;go_enter func293,ntmps293;go_wp2_with fail;rw [<- hw0];have HW0:=hide hw0;clear hw0;refine HF.out.mono ?_;rintro e w1 ⟨rfl,hb1⟩;go_wp2;go_ret;exact ⟨rfl,Z8.of_below (Z7 (Z9 hb0 hb1) _) HP.out,HT.out.step (Z7 (Z9 hb0 hb1) _)⟩
end
end
section
open Go.RowKit Go.Shelf
def JD(v:Int)(ps:List Pt):Bool:=if v=0 then WY ps else Yl ps
def TI(v:Int)(n:Nat):List Ev:=if v=0 then UJ n else UQ n (List.range (ZA n))
def Gx(v:Int)(ps:List Pt)(p:Pt):Int:=if v=0 then Vq ps p else Uk ps p
def Sm(v:Int)(n:Nat):List Ev:=if v=0 then UH n else YG (List.range (ZA n))
theorem Kh(n:Nat):ZA n<=n/\ZA n<=64:=by unfold ZA;split <;> omega
theorem O8(v:Int)(n:Nat):(TI v n).length<=4096:=by
 unfold TI;split
 · unfold UJ;split <;> simp
 · have h:=Tj n (List.range (ZA n));rw [List.length_range] at h;have he:=Kh n
   by_cases h64:n<=64
   · exact Nat.le_trans h (Nat.mul_le_mul he.2 h64)
   · have h0:ZA n=0:=(by unfold ZA;rw [if_neg (by omega)]);rw [h0] at h ⊢;omega
theorem Gy(v:Int)(n:Nat):(Sm v n).length<=64:=by
 unfold Sm;split
 · unfold UH;split <;> simp
 · unfold YG;rw [List.length_map,List.length_range];exact (Kh n).2
theorem D5(d : Bool)(v : Int)(A : Option Addr)(n c : Nat)(w : World): (method 437 218 (.agg #[.bool d, .int .i64 v, .slice A n c]) "geofence/fence.valid").run prog w = .ok (292, .agg #[.bool d, .int .i64 v, .slice A n c]) w := by kernel_rfl
theorem FY(d : Bool)(v : Int)(A : Option Addr)(n c : Nat)(w : World): (method 437 219 (.agg #[.bool d, .int .i64 v, .slice A n c]) "geofence/fence.valid").run prog w = .ok (299, .agg #[.bool d, .int .i64 v, .slice A n c]) w := by kernel_rfl
theorem MV(d : Bool)(v : Int)(A : Option Addr)(n c : Nat)(w : World): (method 437 218 (.agg #[.bool d, .int .i64 v, .slice A n c]) "geofence/fence.locate").run prog w = .ok (290, .agg #[.bool d, .int .i64 v, .slice A n c]) w := by kernel_rfl
theorem OP(d : Bool)(v : Int)(A : Option Addr)(n c : Nat)(w : World): (method 437 219 (.agg #[.bool d, .int .i64 v, .slice A n c]) "geofence/fence.locate").run prog w = .ok (297, .agg #[.bool d, .int .i64 v, .slice A n c]) w := by kernel_rfl
section
variable (P:Nat->Prop)(t:Option (Nat × Nat))(es:List Ev)(d:Bool)(v:Int)(ps:List Pt)(hps:Tq ps)(hn:ps.length<=10000)(A:Option Addr)(c:Nat)(w:World)(hP:∀ k,P k->k<w.heap.size)(hg0:P 3)(hs:U2 w P A (Zc ps))(hw:MW w)(ht:Tp w P t es)(hl:es.length<=900000)
include hps hn hP hg0 hs hw ht hl
omit hn in
theorem BH:Calls prog 292 #[.agg #[.bool d,.int .i64 v,.slice A ps.length c],.pointer (Zu t)] w fun e w'=>e=.returned (.int .u64 (Zy (WY ps)))/\Z8 P w w'/\Tp w' P t (es++UJ ps.length):=by
 obtain ⟨w0,hw0⟩:=eE (w.alloc (.cells #[.bool d,.int .i64 v,.slice A ps.length c] 218));have hb0:=bE hw0;have hk0:Z8 P w w0:=Z8.of_below hb0 hP;have HC:=hide (Jq P t es ps hps A c w0 (fun k hk=>Nat.lt_of_lt_of_le (hP k hk) hb0.size) hg0 (hs.kept hk0) (hw.step hb0) (ht.step hb0) hl);have HK:=hide hk0;clear hps hP hg0 hs hw ht hk0 hb0;go_enter func292,ntmps292;go_wp2_with fail;rw [<- hw0];clear hw0;refine HC.out.mono ?_;rintro e w1 ⟨rfl,hk1,ht1⟩;go_wp2;go_ret;exact ⟨rfl,HK.out.trans hk1,ht1⟩
theorem Dh:Calls prog 299 #[.agg #[.bool d,.int .i64 v,.slice A ps.length c],.pointer (Zu t)] w fun e w'=>e=.returned (.int .u64 (Zy (Yl ps)))/\Z8 P w w'/\Tp w' P t (es++UQ ps.length (List.range (ZA ps.length))):=by
 obtain ⟨w0,hw0⟩:=eE (w.alloc (.cells #[.bool d,.int .i64 v,.slice A ps.length c] 219));have hb0:=bE hw0;have hk0:Z8 P w w0:=Z8.of_below hb0 hP;have HC:=hide (Ji P t es ps hps hn A c w0 (fun k hk=>Nat.lt_of_lt_of_le (hP k hk) hb0.size) hg0 (hs.kept hk0) (hw.step hb0) (ht.step hb0) hl);have HK:=hide hk0;clear hps hP hg0 hs hw ht hk0 hb0;go_enter func299,ntmps299;go_wp2_with fail;rw [<- hw0];clear hw0;refine HC.out.mono ?_;rintro e w1 ⟨rfl,hk1,ht1⟩;go_wp2;go_ret;exact ⟨rfl,HK.out.trans hk1,ht1⟩
omit hn in
theorem ED(p:Pt)(hp:PJ p):Calls prog 290 #[.agg #[.bool d,.int .i64 v,.slice A ps.length c],.pointer (Zu t),.agg #[.int .i64 p.1,.int .i64 p.2]] w fun e w'=>e=.returned (.int .i64 (Vq ps p))/\Z8 P w w'/\Tp w' P t (es++UH ps.length):=by
 obtain ⟨w0,hw0⟩:=eE ((w.alloc (.cells #[.bool d,.int .i64 v,.slice A ps.length c] 218)).alloc (.cells #[.int .i64 p.1,.int .i64 p.2] 123));have hb0:=bF hw0;have hk0:Z8 P w w0:=Z8.of_below hb0 hP;have HC:=hide (J9 P t es ps hps A c w0 (fun k hk=>Nat.lt_of_lt_of_le (hP k hk) hb0.size) hg0 (hs.kept hk0) (hw.step hb0) (ht.step hb0) hl p hp);have HK:=hide hk0;clear hps hP hg0 hs hw ht hk0 hb0 hp;go_enter func290,ntmps290;go_wp2_with fail;rw [<- hw0];clear hw0;refine HC.out.mono ?_;rintro e w1 ⟨rfl,hk1,ht1⟩;go_wp2;go_ret;exact ⟨rfl,HK.out.trans hk1,ht1⟩
theorem Fx(p:Pt)(hp:PJ p):Calls prog 297 #[.agg #[.bool d,.int .i64 v,.slice A ps.length c],.pointer (Zu t),.agg #[.int .i64 p.1,.int .i64 p.2]] w fun e w'=>e=.returned (.int .i64 (Uk ps p))/\Z8 P w w'/\Tp w' P t (es++YG (List.range (ZA ps.length))):=by
 obtain ⟨w0,hw0⟩:=eE ((w.alloc (.cells #[.bool d,.int .i64 v,.slice A ps.length c] 219)).alloc (.cells #[.int .i64 p.1,.int .i64 p.2] 123));have hb0:=bF hw0;have hk0:Z8 P w w0:=Z8.of_below hb0 hP;have HC:=hide (KF P t es ps hps hn A c p hp w0 (fun k hk=>Nat.lt_of_lt_of_le (hP k hk) hb0.size) hg0 (hs.kept hk0) (hw.step hb0) (ht.step hb0) hl);have HK:=hide hk0;clear hps hP hg0 hs hw ht hk0 hb0 hp;go_enter func297,ntmps297;go_wp2_with fail;rw [<- hw0];clear hw0;refine HC.out.mono ?_;rintro e w1 ⟨rfl,hk1,ht1⟩;go_wp2;go_ret;exact ⟨rfl,HK.out.trans hk1,ht1⟩
end
def xK(w:World)(P:Nat->Prop)(gs:List Gr):Prop:=∀ g∈gs,g.1.n=g.2.length/\U2 w P g.1.A (Zc g.2)/\Tq g.2/\g.2.length<=10000
theorem xK.kept{w w':World}{P:Nat->Prop}{gs:List Gr}(h:xK w P gs)(hk:Z8 P w w'):xK w' P gs:=fun g hg=>⟨(h g hg).1,(h g hg).2.1.kept hk,(h g hg).2.2⟩
def VY:Nat->List Gr->List Ev
 | _,[]=>[]
 | i,g::gs=>(7,(i:Int),0)::(TI g.1.v g.2.length++VY (i+1) gs)
theorem Ib:∀ (i:Nat) (l:List Gr) (g:Gr),VY i (l++[g])=VY i l++((7,((i+l.length:Nat):Int),0)::TI g.1.v g.2.length)
 | i,[],g=>by simp [VY]
 | i,x::l,g=>by
   have h:=Ib (i+1) l g;have e:i+1+l.length=i+(x::l).length:=(by simp;omega);rw [List.cons_append,VY,h,VY,e];simp
theorem vH{gs:List Gr}{k:Nat}{g:Gr}(h:gs[k]?=some g):VY 0 (gs.take (k+1))=VY 0 (gs.take k)++((7,(k:Int),0)::TI g.1.v g.2.length):=by
 have hlt:k<gs.length:=(List.getElem?_eq_some_iff.1 h).1;rw [List.take_add_one,h];show VY 0 (gs.take k++[g])=_;rw [Ib,List.length_take,Nat.min_eq_left (Nat.le_of_lt hlt),Nat.zero_add]
theorem Q9:∀ (i:Nat) (l:List Gr),(VY i l).length<=4097*l.length
 | i,[]=>by simp [VY]
 | i,x::l=>by
   have h:=Q9 (i+1) l;have h2:=O8 x.1.v x.2.length;simp only [VY,List.length_cons,List.length_append];omega
def RX(gs:List Gr):Bool:=gs.foldl (fun b g=>b && JD g.1.v g.2) true
theorem Ic{gs:List Gr}{k:Nat}{g:Gr}(h:gs[k]?=some g):RX (gs.take (k+1))=(RX (gs.take k) && JD g.1.v g.2):=by
 unfold RX;rw [List.take_add_one,h];simp
def Y7(gs:List Gr):Bool:=decide (Zk (gs.map (·.1))=0) && RX gs
def Ze(gs:List Gr):List Ev:=if Zk (gs.map (·.1))=0 then VY 0 gs else []
theorem kJ(w:World):Calls prog 213 #[.int .u64 1] w fun e w'=>e=.returned (.int .u64 (Zy true))/\w=w':=by
 have h:=PY 1 (by omega) (by omega) w;rw [show decide ((1:Int) % 2=1)=true from by decide] at h;exact h
theorem Uu(P:Nat->Prop)(t:Option (Nat × Nat))(es:List Ev)(gs:List Gr)(GA:Option Addr)(gc:Nat)(w:World)(hP:∀ k,P k->k<w.heap.size)(hg0:P 3)(hs:U2 w P GA (rgCells (gs.map (·.1))))(hgs:xK w P gs)(hw:MW w)(ht:Tp w P t es)(hl:es.length<=600000):
 Calls prog 181 #[.pointer (Zu t),.slice GA gs.length gc] w fun e w'=>e=.returned (.int .u64 (Zy (Y7 gs)))/\Z8 P w w'/\Tp w' P t (es++Ze gs):=by
 have Qo:=PN (gs.map (·.1)) GA gc w (hs.sl hP);rw [List.length_map] at Qo;have HC:=hide Qo;clear Qo
 by_cases hf:Zk (gs.map (·.1))=0
 · have zju:gs.length<=64:=by
    unfold Zk at hf;split at hf
    · omega
    · rename_i h;rw [List.length_map] at h;omega
   have e1:Y7 gs=RX gs:=(by unfold Y7;rw [decide_eq_true hf];rfl);have e2:Ze gs=VY 0 gs:=(by unfold Ze;rw [if_pos hf]);rw [e1,e2];rw [hf] at HC;have HP:=hide hP;have JO:=hide hg0;have HS:=hide hs;have Qc:=hide hgs;have HW:=hide hw;have HT:=hide ht;have HO:=hide (fun w=>kJ w);clear hf e1 e2 hP hg0 hs hgs hw ht;go_enter func181,ntmps181;go_wp2_with fail;refine HC.out.mono ?_;rintro e w1 ⟨rfl,hb1⟩;have HB1:=hide hb1;clear hb1 HC;go_wp2_with fail;refine (HO.out w1).mono ?_;rintro e w2 ⟨rfl,rfl⟩;go_wp2_with fail
   go_loopw [5,14] (fun m i wr=>∃ k:Nat,k<=gs.length/\m=.int .u64 (Zy (RX (gs.take k)))/\i=.int .i64 k/\Z8 P w wr/\Tp wr P t (es++VY 0 (gs.take k)))
    (fun _ i _=>gs.length - (intOf i).toNat)
   case atStart=>exact ⟨0,Nat.zero_le _,rfl,rfl,Z8.of_below HB1.out HP.out,by simpa [VY] using HT.out.step HB1.out⟩
   case round =>
    obtain ⟨k,hk,rfl,rfl,hkp,htp⟩:=hrel;have RY:∀ j,P j->j<wr.heap.size:=fun j hj=>Nat.lt_of_lt_of_le (HP.out j hj) hkp.size
    by_cases hlt:k<gs.length
    · obtain ⟨g,hg⟩:∃ g,gs[k]?=some g:=⟨_,List.getElem?_eq_getElem hlt⟩;obtain ⟨hgn,pF,pG,hpn⟩:=Qc.out g (List.mem_of_getElem? hg);have hr:(gs.map (·.1))[k]?=some g.1:=(by rw [List.getElem?_map,hg];rfl);obtain ⟨b,off,rfl,hB,c0,c1,c2⟩:=((HS.out.kept hkp).sl RY).rg hr;have HE:=hide (vH hg);have HK:=hide (Ic hg);have Uj:((k:Nat):Int)<((gs.length:Nat):Int):=(by omega);obtain ⟨⟨d,v,A,n,c⟩,ps⟩:=g;dsimp only at *;subst hgn;clear hg hr
      have VR:Hid (∀ w8,Z8 P w w8->Tp w8 P t (es++VY 0 (gs.take k)++[(7,(k:Int),0)]++TI v ps.length)->Z8 P w w8/\Tp w8 P t (es++VY 0 (gs.take (k+1)))):=hide fun w8 h1 h2=>⟨h1,by
       rw [HE.out];rw [show es++(VY 0 (gs.take k)++((7,(k:Int),0)::TI v ps.length))=es++VY 0 (gs.take k)++[(7,(k:Int),0)]++TI v ps.length by simp]
       exact h2⟩
      have hle0:(es++VY 0 (gs.take k)).length<=890000:=by
       have:=Q9 0 (gs.take k);rw [List.length_take] at this;rw [List.length_append];omega
      have hle:(es++VY 0 (gs.take k)++[(7,(k:Int),0)]).length<=900000:=by
       rw [List.length_append];simp only [List.length_singleton];omega
      obtain ⟨w3,hw3⟩:=eE (wr.alloc (.cells #[.bool d,.int .i64 v,.slice A ps.length c] 61));have hb3:=bE hw3;have B3:Z6 w3 wr.heap.size 61 #[.bool d,.int .i64 v,.slice A ps.length c]:=(by rw [hw3];exact Z6.new _ _ _);have HI:Hid (More P wr w3 wr.heap.size):=.inr ⟨Nat.le_refl _,B3.lt⟩;have RU:=hide (Vb (More P wr w3) t (es++VY 0 (gs.take k)) 7 (k:Int) 0 w3 (Yg RY hb3) (htp.more hb3) (by omega) (by unfold Yu;omega));have HB3:=hide hb3;have fV:=hide hkp;have G6:=hide RY;clear HE hle0 hb3 htp hkp RY hB;go_wp2_with fail;rw [<- hw3];clear hw3;refine RU.out.mono ?_;rintro e w4 ⟨rfl,hk4,_,Jz⟩;have B4:=B3.kept hk4 HI.out;have z0:w4.cell? ⟨wr.heap.size,0,none⟩=some (.bool d):=B4.q0 rfl;have z1:w4.cell? ⟨wr.heap.size,1,none⟩=some (.int .i64 v):=B4.q1 rfl;have z2:w4.cell? ⟨wr.heap.size,2,none⟩=some (.slice A ps.length c):=B4.q2 rfl;have R6:Z8 P w w4:=fV.out.trans (Z8.more HB3.out G6.out hk4);have Rf:=Jz.mono (R:=P) fun k h=>.inl h;have CB:∀ j,P j->j<w4.heap.size:=fun j hj=>Nat.lt_of_lt_of_le (HP.out j hj) R6.size;clear hk4 Jz B3 B4 RU HI HB3 fV G6 c0 c1 c2
      by_cases hv:v=0
      · have Uo:Hid (JD v ps=WY ps):=hide (if_pos hv);have RO:TI v ps.length=UJ ps.length:=if_pos hv;rw [RO] at VR;rw [Uo.out] at HK;subst hv;clear RO Uo;go_wp2_with fail;refine (UO d A ps.length c w4).mono ?_;rintro e w5 ⟨rfl,hb5⟩;have hk5:Z8 P w w5:=R6.trans (Z8.of_below hb5 CB);have HV:=hide (BH P t (es++VY 0 (gs.take k)++[(7,(k:Int),0)]) d 0 ps pG A c w5 (fun j hj=>Nat.lt_of_lt_of_le (CB j hj) hb5.size) JO.out (pF.kept (hk5)) (HW.out.kept hk5 JO.out) (Rf.step hb5) hle);clear hb5 R6 CB Rf z0 z1 z2;have hmr:=D5;go_wp2_with fail;refine HV.out.mono ?_;rintro e w6 ⟨rfl,R7,DR⟩;have hand:=LM (RX (gs.take k)) (WY ps);rw [<- HK.out] at hand;have TT:=hide (VR.out w6 (hk5.trans R7) DR);clear hk5 R7 DR HV hmr VR;go_wp2;go_roundw
        case rel=>exact ⟨k+1,by omega,rfl,by go_num,TT.out⟩
        case measure=>simp [intOf];omega
      · have Uo:Hid (JD v ps=Yl ps):=hide (if_neg hv);have RO:TI v ps.length=UQ ps.length (List.range (ZA ps.length)):=if_neg hv;rw [RO] at VR;rw [Uo.out] at HK;clear RO Uo;go_wp2_with fail;refine (Ve d v (by simpa using hv) A ps.length c w4).mono ?_;rintro e w5 ⟨rfl,hb5⟩;have hk5:Z8 P w w5:=R6.trans (Z8.of_below hb5 CB);have HV:=hide (Dh P t (es++VY 0 (gs.take k)++[(7,(k:Int),0)]) d v ps pG hpn A c w5 (fun j hj=>Nat.lt_of_lt_of_le (CB j hj) hb5.size) JO.out (pF.kept (hk5)) (HW.out.kept hk5 JO.out) (Rf.step hb5) hle);clear hb5 R6 CB Rf z0 z1 z2;have hmr:=FY;go_wp2_with fail;refine HV.out.mono ?_;rintro e w6 ⟨rfl,R7,DR⟩;have hand:=LM (RX (gs.take k)) (Yl ps);rw [<- HK.out] at hand;have TT:=hide (VR.out w6 (hk5.trans R7) DR);clear hk5 R7 DR HV hmr VR;go_wp2;go_roundw
        case rel=>exact ⟨k+1,by omega,rfl,by go_num,TT.out⟩
        case measure=>simp [intOf];omega
    · obtain rfl:k=gs.length:=(by omega);rw [List.take_length] at htp ⊢;go_wp2;go_ret;exact ⟨rfl,hkp,htp⟩
 · have e1:Y7 gs=false:=(by unfold Y7;rw [decide_eq_false hf];rfl);have e2:Ze gs=[]:=(by unfold Ze;rw [if_neg hf]);rw [e1,e2,List.append_nil];have HP:=hide hP;have HT:=hide ht;obtain ⟨z,hz⟩:=eE (Zk (gs.map (·.1)));rw [<- hz] at HC hf;clear e1 e2 hP hg0 hs hgs hw ht hz;go_enter func181,ntmps181;go_wp2_with fail;refine HC.out.mono ?_;rintro e w1 ⟨rfl,hb1⟩;go_wp2;go_ret;exact ⟨rfl,Z8.of_below hb1 HP.out,HT.out.step hb1⟩
end
section
open Go.RowKit Go.Shelf
def Wu:Nat->List Gr->List Ev
 | _,[]=>[]
 | i,g::gs=>(7,(i:Int),1)::(Sm g.1.v g.2.length++Wu (i+1) gs)
theorem H9:∀ (i:Nat) (l:List Gr) (g:Gr),Wu i (l++[g])=Wu i l++((7,((i+l.length:Nat):Int),1)::Sm g.1.v g.2.length)
 | i,[],g=>by simp [Wu]
 | i,x::l,g=>by
   have h:=H9 (i+1) l g;have e:i+1+l.length=i+(x::l).length:=(by simp;omega);rw [List.cons_append,Wu,h,Wu,e];simp
theorem vD{gs:List Gr}{k:Nat}{g:Gr}(h:gs[k]?=some g):Wu 0 (gs.take (k+1))=Wu 0 (gs.take k)++((7,(k:Int),1)::Sm g.1.v g.2.length):=by
 have hlt:k<gs.length:=(List.getElem?_eq_some_iff.1 h).1;rw [List.take_add_one,h];show Wu 0 (gs.take k++[g])=_;rw [H9,List.length_take,Nat.min_eq_left (Nat.le_of_lt hlt),Nat.zero_add]
theorem Q5:∀ (i:Nat) (l:List Gr),(Wu i l).length<=65*l.length
 | i,[]=>by simp [Wu]
 | i,x::l=>by
   have h:=Q5 (i+1) l;have h2:=Gy x.1.v x.2.length;simp only [Wu,List.length_cons,List.length_append];omega
def VP(p:Pt)(gs:List Gr):Bool × Bool:=gs.foldl (fun s g=>bif g.1.d then (s.1,s.2 || !decide (Gx g.1.v g.2 p<0)) else (s.1 || !decide (Gx g.1.v g.2 p<0),s.2)) (false,false)
theorem NU{gs:List Gr}{k:Nat}{g:Gr}(p:Pt)(h:gs[k]?=some g):VP p (gs.take (k+1)) =
 (bif g.1.d then ((VP p (gs.take k)).1,(VP p (gs.take k)).2 || !decide (Gx g.1.v g.2 p<0)) else ((VP p (gs.take k)).1 || !decide (Gx g.1.v g.2 p<0),(VP p (gs.take k)).2)):=by
 unfold VP;rw [List.take_add_one,h];simp
def XD(gs:List Gr)(p:Pt):Bool:=decide (Zk (gs.map (·.1))=0) && ((VP p gs).1 && !(VP p gs).2)
def YC(gs:List Gr):List Ev:=if Zk (gs.map (·.1))=0 then Wu 0 gs else []
theorem LZ(a b:Bool):-1<=JH a b/\JH a b<=1:=by cases a <;> cases b <;> decide
theorem bL(v:Int)(ps:List Pt)(p:Pt):-1<=Gx v ps p/\Gx v ps p<=1:=by
 unfold Gx;split
 · unfold Vq;split
   · rcases WW (Yq (Z4 ps 0) (Z4 ps 1) (Z4 ps 2) p) with h|h|h <;> rcases WW (ZF (Z4 ps 0) (Z4 ps 1) (Z4 ps 2)) with h'|h'|h' <;> rw [h,h'] <;> decide
   · decide
 · exact LZ _ _
theorem AZ(a b:Bool):bits BinOp.andNot IntKind.u64 (Zy a) (Zy b)=Zy (a && !b):=by cases a <;> cases b <;> decide
theorem Z8.mono'{w0 wk:World}{P R:Nat->Prop}{b:Nat}(h:Z8 R w0 wk)(hPR:∀ k,P k->R k)(hb:¬ P b)(o:Nat)(u:Value):Z8 P w0 (wk.setCell ⟨b,o,none⟩ u) :=
 (h.mono hPR).trans (Z8.setCell hb o u wk)
theorem UY(P:Nat->Prop)(t:Option (Nat × Nat))(es:List Ev)(gs:List Gr)(GA:Option Addr)(gc:Nat)(p:Pt)(hp:PJ p)(w:World)(hP:∀ k,P k->k<w.heap.size)(hg0:P 3)(hs:U2 w P GA (rgCells (gs.map (·.1))))(hgs:xK w P gs)(hw:MW w)(ht:Tp w P t es)(hl:es.length<=890000):
 Calls prog 184 #[.pointer (Zu t),.slice GA gs.length gc,.agg #[.int .i64 p.1,.int .i64 p.2]] w fun e w'=>e=.returned (.int .u64 (Zy (XD gs p)))/\Z8 P w w'/\Tp w' P t (es++YC gs):=by
 obtain ⟨w0,hw0⟩:=eE (w.alloc (.cells #[.int .i64 p.1,.int .i64 p.2] 123));obtain ⟨pb,hpb⟩:=eE w.heap.size;have hb0:=bE hw0;have P0:Z6 w0 pb 123 #[.int .i64 p.1,.int .i64 p.2]:=by rw [hw0,hpb];exact Z6.new _ _ _
 have Qo:=PN (gs.map (·.1)) GA gc w0 (((hs.sl hP).below hb0).more hb0.size);rw [List.length_map] at Qo;have HC:=hide Qo;clear Qo
 by_cases hf:Zk (gs.map (·.1))=0
 · have zju:gs.length<=64:=by
    unfold Zk at hf;split at hf
    · omega
    · rename_i h;rw [List.length_map] at h;omega
   have e1:XD gs p=((VP p gs).1 && !(VP p gs).2):=(by unfold XD;rw [decide_eq_true hf];rfl);have e2:YC gs=Wu 0 gs:=(by unfold YC;rw [if_pos hf]);rw [e1,e2];rw [hf] at HC;have HP:=hide hP;have JO:=hide hg0;have HS:=hide hs;have Qc:=hide hgs;have HW:=hide hw;have HT:=hide ht;have HPJ:=hide hp;clear hf e1 e2 hP hg0 hs hgs hw ht hp;refine (callsIn_wide (n:=6)).1 ?_;refine callsIn_of_wp func184 rfl trivial ?_ rfl;simp only [ntmps184,List.size_toArray,List.length_cons,List.length_nil,Nat.reduceAdd,Nat.reduceSub,Array.replicate_succ,Array.replicate_zero,List.push_toArray,List.append_toArray,List.nil_append,List.cons_append];gi_wp2_with fail;rw [<- hw0,<- hpb];have HW0:=hide hw0;clear hw0;refine ⟨trivial,?_⟩;refine (callsIn_wide.2 HC.out).mono ?_;rintro e w1 ⟨rfl,hb1⟩;have zii:=hide (Z9 hb0 hb1);have P1:=P0.step hb1;clear hb1 HC hb0;obtain ⟨W2,hW2⟩:=eE (w1.alloc (.cells #[.int .u64 0,.int .u64 0] 263));obtain ⟨ab,hab⟩:=eE w1.heap.size;have hB2:Below w.heap.size w W2:=(by rw [hW2];exact Z7 zii.out _);have A2:Z6 W2 ab 263 #[.int .u64 (Zy false),.int .u64 (Zy false)]:=(by rw [hW2,hab];exact Z6.new _ _ _);have P2:Z6 W2 pb 123 #[.int .i64 p.1,.int .i64 p.2]:=(by rw [hW2];exact P1.alloc _);have hpa:pb<ab:=(by rw [hab];exact P1.lt);have l8:Hid (More P w W2 pb):=.inr ⟨by omega,P2.lt⟩;have gD:Hid (More P w W2 ab):=.inr ⟨by omega,A2.lt⟩;have HNA:Hid (¬ P ab):=fun h=>by have:=HP.out _ h;omega
   have HPM:=hide (Yg HP.out hB2);have Mv:=hide (Z8.of_below hB2 HP.out);have HT2:=hide (HT.out.more hB2);have hsz2:ab<W2.heap.size:=A2.lt;have Wj:prog.follows .mixedOrders=true:=(by kernel_rfl);have HPB:=hide hpb;have fJ:=hide hab;have HWW:=hide hW2;clear P1 hB2 hpb;gi_wp2_with fail;rw [<- hW2,<- hab];clear hW2 hab
   gi_loopw [16] (fun i wr=>∃ (k:Nat) (s0 s1:Bool),k<=gs.length/\i=.int .i64 k/\Hid (VP p (gs.take k)=(s0,s1))/\Z6 wr ab 263 #[.int .u64 (Zy s0),.int .u64 (Zy s1)]/\Z6 wr pb 123 #[.int .i64 p.1,.int .i64 p.2]/\Z8 P W2 wr/\Tp wr (More P w W2) t (es++Wu 0 (gs.take k)))
    (fun i _=>gs.length - (intOf i).toNat)
   case atStart=>exact ⟨0,false,false,Nat.zero_le _,rfl,hide rfl,A2,P2,Z8.refl _ _,by simpa [Wu] using HT2.out⟩
   case round =>
    clear A2 P2;obtain ⟨k,s0,s1,hk,rfl,hst,Ar,Pr,hkp,htp⟩:=hrel
    by_cases hlt:k<gs.length
    · obtain ⟨g,hg⟩:∃ g,gs[k]?=some g:=⟨_,List.getElem?_eq_getElem hlt⟩;obtain ⟨hgn,pF,pG,hpn⟩:=Qc.out g (List.mem_of_getElem? hg);have hr:(gs.map (·.1))[k]?=some g.1:=(by rw [List.getElem?_map,hg];rfl);obtain ⟨b,off,rfl,hB,c0,c1,c2⟩:=((HS.out.kept (Mv.out.trans hkp)).sl (fun j hj=>Nat.lt_of_lt_of_le (HP.out j hj) (Mv.out.trans hkp).size)).rg hr;have HE:=hide (vD hg);have HM:=NU p hg;rw [hst.out] at HM;have HM:=hide HM;have Uj:((k:Nat):Int)<((gs.length:Nat):Int):=(by omega);obtain ⟨⟨d,v,A,n,c⟩,ps⟩:=g;dsimp only at *;subst hgn;clear hg hr;obtain ⟨L,hL⟩:=eE (Gx v ps p);have Cx:=hide (bL v ps p);rw [<- hL] at Cx HM;have hrs:ab<wr.heap.size:=Ar.lt;have hle0:(es++Wu 0 (gs.take k)).length<=899000:=by
       have:=Q5 0 (gs.take k);rw [List.length_take] at this;rw [List.length_append];omega
      have hle:(es++Wu 0 (gs.take k)++[(7,(k:Int),1)]).length<=900000:=by
       rw [List.length_append];simp only [List.length_singleton];omega
      obtain ⟨w3,hw3⟩:=eE (wr.alloc (.cells #[.bool d,.int .i64 v,.slice A ps.length c] 61));have hb3:=bE hw3;have B3:Z6 w3 wr.heap.size 61 #[.bool d,.int .i64 v,.slice A ps.length c]:=(by rw [hw3];exact Z6.new _ _ _);have A3:=Ar.step hb3;have P3:=Pr.step hb3
      have RY:∀ j,Also (More P w W2) wr.heap.size j->j<w3.heap.size:=fun j hj=>by
       have h1:=B3.lt;have h2:=A3.lt;rcases hj with hj|hj
       · have:=HPM.out j hj;have:=hkp.size;omega
       · subst hj;exact h1
      have ht3:Tp w3 (Also (More P w W2) wr.heap.size) t (es++Wu 0 (gs.take k)):=(htp.add fun j hj=>by
       rcases hj with hj|hj
       · exact .inl hj
       · exact .inr (by omega)).step hb3
      have RU:=hide (Vb (Also (More P w W2) wr.heap.size) t (es++Wu 0 (gs.take k)) 7 (k:Int) 1 w3 RY ht3 (by omega) (by unfold Yu;omega));have znt:∀ j,P j->Also (More P w W2) wr.heap.size j:=fun j hj=>.inl (.inl hj);have Nr:=hide znt;have Jw:Z8 P W2 w3:=hkp.trans (Z8.of_below hb3 fun j hj=>Nat.lt_of_lt_of_le (HP.out j hj) (Mv.out.trans hkp).size);have zmr:=hide Jw;have G6:=hide RY
      have VR:Hid (∀ n0 n1:Bool,(bif d then (s0,s1 || !decide (L<0)) else (s0 || !decide (L<0),s1))=(n0,n1)->∀ w8,Z6 w8 ab 263 #[.int .u64 (Zy n0),.int .u64 (Zy n1)]->Z6 w8 pb 123 #[.int .i64 p.1,.int .i64 p.2]->Z8 P W2 w8->Tp w8 (More P w W2) t (es++Wu 0 (gs.take k)++[(7,(k:Int),1)]++Sm v ps.length) ->
       Hid (VP p (gs.take (k+1))=(n0,n1))/\Z6 w8 ab 263 #[.int .u64 (Zy n0),.int .u64 (Zy n1)]/\Z6 w8 pb 123 #[.int .i64 p.1,.int .i64 p.2]/\Z8 P W2 w8/\Tp w8 (More P w W2) t (es++Wu 0 (gs.take (k+1)))):=hide fun n0 n1 hn w8 h1 h2 h3 h4=>⟨hide (HM.out.trans hn),h1,h2,h3,by
       rw [HE.out];rw [show es++(Wu 0 (gs.take k)++((7,(k:Int),1)::Sm v ps.length))=es++Wu 0 (gs.take k)++[(7,(k:Int),1)]++Sm v ps.length by simp]
       exact h4⟩
      have mU:=hide hle;have zmz:=hide pF;have zna:=hide pG;have HPN:=hide hpn;have uE:=hide hL;clear HE hle0 hle hb3 htp hkp RY hB ht3 Jw znt Ar Pr HM hst pF pG hpn hL;gi_wp2_with fail;rw [<- hw3];clear hw3;refine ⟨trivial,?_⟩;refine (callsIn_wide.2 RU.out).mono ?_;rintro e w4 ⟨rfl,hk4,_,Jz⟩;have B4:=B3.kept hk4 (.inr rfl);have A4:=A3.kept hk4 (.inl gD.out);have P4:=P3.kept hk4 (.inl l8.out);have R6:Z8 P W2 w4:=zmr.out.trans (hk4.mono Nr.out);have uH:Hid (∀ j,Also (More P w W2) wr.heap.size j->j<w4.drew.heap.size):=fun j hj=>Nat.lt_of_lt_of_le (G6.out j hj) hk4.size;clear hk4 B3 A3 P3 RU zmr G6 c0 c1 c2
      by_cases hv:v=0
      · have hL2:L=Vq ps p:=uE.out.trans (if_pos hv);have RO:Sm v ps.length=UH ps.length:=if_pos hv;rw [RO] at VR;have HLOC:=hide (fun (w5:World) (h1:Z8 P W2 w5) (h0:∀ j,Also (More P w W2) wr.heap.size j->j<w5.heap.size) (h2:Tp w5 (Also (More P w W2) wr.heap.size) t (es++Wu 0 (gs.take k)++[(7,(k:Int),1)]))=>ED (Also (More P w W2) wr.heap.size) t (es++Wu 0 (gs.take k)++[(7,(k:Int),1)]) d 0 ps zna.out A c w5 h0 (Nr.out _ JO.out) ((zmz.out.kept (Mv.out.trans h1)).mono Nr.out) (HW.out.kept (Mv.out.trans h1) JO.out) h2 mU.out p HPJ.out);rw [<- hL2] at HLOC;subst hv;clear RO hL2 uE;cases d with
        | false =>
          have z0:w4.cell? ⟨wr.heap.size,0,none⟩=some (.bool false):=B4.q0 rfl;gi_wp2_with fail;clear z0;refine Xy 12 (S:=fun w'=>Z6 w' ab 263 #[.int .u64 (Zy s0),.int .u64 (Zy s1)]/\Z6 w' wr.heap.size 61 #[.bool false,.int .i64 0,.slice A ps.length c]/\Z6 w' pb 123 #[.int .i64 p.1,.int .i64 p.2]) Wj ?_;have hS:Z6 w4.drew ab 263 #[.int .u64 (Zy s0),.int .u64 (Zy s1)]/\Z6 w4.drew wr.heap.size 61 #[.bool false,.int .i64 0,.slice A ps.length c]/\Z6 w4.drew pb 123 #[.int .i64 p.1,.int .i64 p.2]:=⟨A4.drew,B4.drew,P4.drew⟩;refine' ZU (i:=0) rfl ?Rh hS ?OY
          case Rh =>
           intro w' hSw;go_simp;rfl
          simp only [Act.put,getElem_toArray,getElem_cons_zero,setIfInBounds_toArray,set_cons_zero,set_cons_succ];refine' ZU (i:=1) rfl ?Ri hS ?OZ
          case Ri =>
           intro w' hSw;go_simp;rfl
          simp only [Act.put,ZX];refine' ZU (i:=2) rfl ?OE hS ?LV
          case OE =>
           intro w' hSw;obtain ⟨r1,r2,r3⟩:=hSw;have z1:w'.cell? ⟨ab,0,none⟩=some (.int .u64 (Zy s0)):=r1.q0 rfl;go_simp;rfl
          simp only [Act.put,ZX];refine' ZU (i:=3) rfl ?OG hS ?LW
          case OG =>
           intro w' hSw;obtain ⟨r1,r2,r3⟩:=hSw;have z1:=r2.q0 rfl;have z2:=r2.q1 rfl;have z3:=r2.q2 rfl;go_simp;rfl
          simp only [Act.put,ZX];refine' ZU (i:=5) rfl ?zpz hS ?zlr
          case zpz =>
           intro w' hSw;go_simp;rfl
          simp only [Act.put,ZX];refine' ZU (i:=6) rfl ?zqa hS ?zls
          case zqa =>
           intro w' hSw;obtain ⟨r1,r2,r3⟩:=hSw;have z1:=r3.q0 rfl;have z2:=r3.q1 rfl;go_simp;rfl
          simp only [Act.put,ZX];refine Yi (i:=4) (by kernel_rfl) rfl ?_;intro K hK;rw [if_pos (by rfl)];go_simp;refine ⟨trivial,?_⟩;refine (callsIn_wide.2 (UO _ A ps.length c _)).mono ?_;rintro e w5 ⟨rfl,hb5⟩;have hS5:Z6 w5 ab 263 #[.int .u64 (Zy s0),.int .u64 (Zy s1)]/\Z6 w5 wr.heap.size 61 #[.bool false,.int .i64 0,.slice A ps.length c]/\Z6 w5 pb 123 #[.int .i64 p.1,.int .i64 p.2]:=⟨A4.drew.step hb5,B4.drew.step hb5,P4.drew.step hb5⟩;refine hK.out _ _ (fun _=>hS5) ?_;clear hK K;have hk5:Z8 (Also (More P w W2) wr.heap.size) w4 w5:=(Z8.drew _ _).trans (Z8.of_below hb5 uH.out);have Rf:=Jz.drew.step hb5
          (try simp only [Act.put,ZX])
          have HV:=hide (HLOC.out w5 (R6.trans (hk5.mono Nr.out)) (fun j hj=>Nat.lt_of_lt_of_le (uH.out j hj) hb5.size) Rf);have hmr:=MV;refine Yi (i:=7) (by kernel_rfl) rfl ?_;intro K hK;rw [if_pos (by rfl)];go_simp;refine ⟨trivial,?_⟩;refine (callsIn_wide.2 HV.out).mono ?_;rintro e w6 ⟨rfl,R7,DR⟩;obtain ⟨a5,b5,p5⟩:=hS5;have RZ:Z6 w6 ab 263 #[.int .u64 (Zy s0),.int .u64 (Zy s1)]/\Z6 w6 wr.heap.size 61 #[.bool false,.int .i64 0,.slice A ps.length c]/\Z6 w6 pb 123 #[.int .i64 p.1,.int .i64 p.2]:=⟨a5.kept R7 (.inl gD.out),b5.kept R7 (.inr rfl),p5.kept R7 (.inl l8.out)⟩;refine hK.out _ _ (fun _=>RZ) ?_;clear hK K hmr HV;have Od:=hide (Wx L (by have:=Cx.out;omega) (by have:=Cx.out;omega) w6)
          (try simp only [Act.put,ZX])
          refine Yi (i:=8) (by kernel_rfl) rfl ?_;intro K hK;rw [if_pos (by rfl)];go_simp;refine ⟨trivial,?_⟩;refine (callsIn_wide.2 Od.out).mono ?_;rintro e w7 ⟨rfl,rfl⟩;refine hK.out _ _ (fun _=>RZ) ?_;clear hK K Od;have hnt:=QK (decide (L<0));have Ak:bits BinOp.xor IntKind.u64 (if IntKind.u64.signed=true then -1 else IntKind.u64.max) (Zy (decide (L<0)))=Zy (!decide (L<0)):=hnt;have hor:=Rl s0 (!decide (L<0))
          (try simp only [Act.put,ZX])
          refine' ZU (i:=9) rfl ?zqi RZ ?zma
          case zqi =>
           intro w' hSw;go_simp;rfl
          simp only [Act.put,ZX];refine' ZU (i:=10) rfl ?zxu RZ ?zrb
          case zxu =>
           intro w' hSw;go_simp;rfl
          simp only [Act.put,ZX];refine' ZU (i:=11) rfl ?zxv RZ ?zrc
          case zxv =>
           intro w' hSw;go_simp;rfl
          simp only [Act.put,ZX];obtain ⟨a6,b6,p6⟩:=RZ;have c7:w6.cell? ⟨ab,0,none⟩=some (.int .u64 (Zy s0)):=a6.q0 rfl;have f7:=a6.frozen 0;refine Yi (i:=12) (by kernel_rfl) rfl ?_;intro K hK;rw [if_pos (by rfl)];go_simp;refine hK.out _ _ (fun h=>absurd rfl h) ?_;clear hK K;refine WG (by kernel_rfl) ?_ _;have a7:Z6 (w6.setCell ⟨ab,0,none⟩ (.int .u64 (Zy (s0 || !decide (L<0))))) ab 263 #[.int .u64 (Zy (s0 || !decide (L<0))),.int .u64 (Zy s1)]:=a6.set 0 (.int .u64 (Zy (s0 || !decide (L<0))));have p7:=p6.far (p:=⟨ab,0,none⟩) (by dsimp only;omega) (.int .u64 (Zy (s0 || !decide (L<0))));have t7:=(DR.mono (R:=More P w W2) fun j h=>.inl h).set (b:=ab) gD.out 0 (.int .u64 (Zy (s0 || !decide (L<0))));have k7:Z8 P W2 (w6.setCell ⟨ab,0,none⟩ (.int .u64 (Zy (s0 || !decide (L<0))))):=(R6.trans ((hk5.trans R7).mono Nr.out)).mono' (fun j h=>h) HNA.out 0 (.int .u64 (Zy (s0 || !decide (L<0))));have TT:=hide (VR.out _ _ rfl _ a7 p7 k7 t7);clear a7 p7 t7 k7 a6 b6 p6 c7 f7 hS a5 b5 p5 hk5 Rf hb5 R7 DR R6 Jz A4 B4 P4 VR HLOC hnt Ak hor;gi_wp2;go_roundw
          case rel=>exact ⟨k+1,_,_,by omega,by go_num,TT.out⟩
          case measure=>simp [intOf];omega
        | true =>
          have z0:w4.cell? ⟨wr.heap.size,0,none⟩=some (.bool true):=B4.q0 rfl;gi_wp2_with fail;clear z0;refine Xy 12 (S:=fun w'=>Z6 w' ab 263 #[.int .u64 (Zy s0),.int .u64 (Zy s1)]/\Z6 w' wr.heap.size 61 #[.bool true,.int .i64 0,.slice A ps.length c]/\Z6 w' pb 123 #[.int .i64 p.1,.int .i64 p.2]) Wj ?_;have hS:Z6 w4.drew ab 263 #[.int .u64 (Zy s0),.int .u64 (Zy s1)]/\Z6 w4.drew wr.heap.size 61 #[.bool true,.int .i64 0,.slice A ps.length c]/\Z6 w4.drew pb 123 #[.int .i64 p.1,.int .i64 p.2]:=⟨A4.drew,B4.drew,P4.drew⟩;refine' ZU (i:=0) rfl ?zxm hS ?zqt
          case zxm =>
           intro w' hSw;go_simp;rfl
          simp only [Act.put,getElem_toArray,getElem_cons_zero,setIfInBounds_toArray,set_cons_zero,set_cons_succ];refine' ZU (i:=1) rfl ?zxx hS ?zre
          case zxx =>
           intro w' hSw;go_simp;rfl
          simp only [Act.put,ZX];refine' ZU (i:=2) rfl ?zyg hS ?zrn
          case zyg =>
           intro w' hSw;obtain ⟨r1,r2,r3⟩:=hSw;have z1:w'.cell? ⟨ab,1,none⟩=some (.int .u64 (Zy s1)):=r1.q1 rfl;go_simp;rfl
          simp only [Act.put,ZX];refine' ZU (i:=3) rfl ?zyq hS ?zrx
          case zyq =>
           intro w' hSw;obtain ⟨r1,r2,r3⟩:=hSw;have z1:=r2.q0 rfl;have z2:=r2.q1 rfl;have z3:=r2.q2 rfl;go_simp;rfl
          simp only [Act.put,ZX];refine' ZU (i:=5) rfl ?zzd hS ?zsk
          case zzd =>
           intro w' hSw;go_simp;rfl
          simp only [Act.put,ZX];refine' ZU (i:=6) rfl ?zzk hS ?zsr
          case zzk =>
           intro w' hSw;obtain ⟨r1,r2,r3⟩:=hSw;have z1:=r3.q0 rfl;have z2:=r3.q1 rfl;go_simp;rfl
          simp only [Act.put,ZX];refine Yi (i:=4) (by kernel_rfl) rfl ?_;intro K hK;rw [if_pos (by rfl)];go_simp;refine ⟨trivial,?_⟩;refine (callsIn_wide.2 (UO _ A ps.length c _)).mono ?_;rintro e w5 ⟨rfl,hb5⟩;have hS5:Z6 w5 ab 263 #[.int .u64 (Zy s0),.int .u64 (Zy s1)]/\Z6 w5 wr.heap.size 61 #[.bool true,.int .i64 0,.slice A ps.length c]/\Z6 w5 pb 123 #[.int .i64 p.1,.int .i64 p.2]:=⟨A4.drew.step hb5,B4.drew.step hb5,P4.drew.step hb5⟩;refine hK.out _ _ (fun _=>hS5) ?_;clear hK K;have hk5:Z8 (Also (More P w W2) wr.heap.size) w4 w5:=(Z8.drew _ _).trans (Z8.of_below hb5 uH.out);have Rf:=Jz.drew.step hb5
          (try simp only [Act.put,ZX])
          have HV:=hide (HLOC.out w5 (R6.trans (hk5.mono Nr.out)) (fun j hj=>Nat.lt_of_lt_of_le (uH.out j hj) hb5.size) Rf);have hmr:=MV;refine Yi (i:=7) (by kernel_rfl) rfl ?_;intro K hK;rw [if_pos (by rfl)];go_simp;refine ⟨trivial,?_⟩;refine (callsIn_wide.2 HV.out).mono ?_;rintro e w6 ⟨rfl,R7,DR⟩;obtain ⟨a5,b5,p5⟩:=hS5;have RZ:Z6 w6 ab 263 #[.int .u64 (Zy s0),.int .u64 (Zy s1)]/\Z6 w6 wr.heap.size 61 #[.bool true,.int .i64 0,.slice A ps.length c]/\Z6 w6 pb 123 #[.int .i64 p.1,.int .i64 p.2]:=⟨a5.kept R7 (.inl gD.out),b5.kept R7 (.inr rfl),p5.kept R7 (.inl l8.out)⟩;refine hK.out _ _ (fun _=>RZ) ?_;clear hK K hmr HV;have Od:=hide (Wx L (by have:=Cx.out;omega) (by have:=Cx.out;omega) w6)
          (try simp only [Act.put,ZX])
          refine Yi (i:=8) (by kernel_rfl) rfl ?_;intro K hK;rw [if_pos (by rfl)];go_simp;refine ⟨trivial,?_⟩;refine (callsIn_wide.2 Od.out).mono ?_;rintro e w7 ⟨rfl,rfl⟩;refine hK.out _ _ (fun _=>RZ) ?_;clear hK K Od;have hnt:=QK (decide (L<0));have Ak:bits BinOp.xor IntKind.u64 (if IntKind.u64.signed=true then -1 else IntKind.u64.max) (Zy (decide (L<0)))=Zy (!decide (L<0)):=hnt;have hor:=Rl s1 (!decide (L<0))
          (try simp only [Act.put,ZX])
          refine' ZU (i:=9) rfl ?ah RZ ?ztg
          case ah =>
           intro w' hSw;go_simp;rfl
          simp only [Act.put,ZX];refine' ZU (i:=10) rfl ?jf RZ ?zui
          case jf =>
           intro w' hSw;go_simp;rfl
          simp only [Act.put,ZX];refine' ZU (i:=11) rfl ?jm RZ ?zuo
          case jm =>
           intro w' hSw;go_simp;rfl
          simp only [Act.put,ZX];obtain ⟨a6,b6,p6⟩:=RZ;have c7:w6.cell? ⟨ab,1,none⟩=some (.int .u64 (Zy s1)):=a6.q1 rfl;have f7:=a6.frozen 1;refine Yi (i:=12) (by kernel_rfl) rfl ?_;intro K hK;rw [if_pos (by rfl)];go_simp;refine hK.out _ _ (fun h=>absurd rfl h) ?_;clear hK K;refine WG (by kernel_rfl) ?_ _;have a7:Z6 (w6.setCell ⟨ab,1,none⟩ (.int .u64 (Zy (s1 || !decide (L<0))))) ab 263 #[.int .u64 (Zy s0),.int .u64 (Zy (s1 || !decide (L<0)))]:=a6.set 1 (.int .u64 (Zy (s1 || !decide (L<0))));have p7:=p6.far (p:=⟨ab,1,none⟩) (by dsimp only;omega) (.int .u64 (Zy (s1 || !decide (L<0))));have t7:=(DR.mono (R:=More P w W2) fun j h=>.inl h).set (b:=ab) gD.out 1 (.int .u64 (Zy (s1 || !decide (L<0))));have k7:Z8 P W2 (w6.setCell ⟨ab,1,none⟩ (.int .u64 (Zy (s1 || !decide (L<0))))):=(R6.trans ((hk5.trans R7).mono Nr.out)).mono' (fun j h=>h) HNA.out 1 (.int .u64 (Zy (s1 || !decide (L<0))));have TT:=hide (VR.out _ _ rfl _ a7 p7 k7 t7);clear a7 p7 t7 k7 a6 b6 p6 c7 f7 hS a5 b5 p5 hk5 Rf hb5 R7 DR R6 Jz A4 B4 P4 VR HLOC hnt Ak hor;gi_wp2;go_roundw
          case rel=>exact ⟨k+1,_,_,by omega,by go_num,TT.out⟩
          case measure=>simp [intOf];omega
      · have hL2:L=Uk ps p:=uE.out.trans (if_neg hv);have RO:Sm v ps.length=YG (List.range (ZA ps.length)):=if_neg hv;rw [RO] at VR;have HLOC:=hide (fun (w5:World) (h1:Z8 P W2 w5) (h0:∀ j,Also (More P w W2) wr.heap.size j->j<w5.heap.size) (h2:Tp w5 (Also (More P w W2) wr.heap.size) t (es++Wu 0 (gs.take k)++[(7,(k:Int),1)]))=>Fx (Also (More P w W2) wr.heap.size) t (es++Wu 0 (gs.take k)++[(7,(k:Int),1)]) d v ps zna.out HPN.out A c w5 h0 (Nr.out _ JO.out) ((zmz.out.kept (Mv.out.trans h1)).mono Nr.out) (HW.out.kept (Mv.out.trans h1) JO.out) h2 mU.out p HPJ.out);rw [<- hL2] at HLOC;have hvb:(v == 0)=false:=(by simpa using hv);clear RO hL2 uE;cases d with
        | false =>
          have z0:w4.cell? ⟨wr.heap.size,0,none⟩=some (.bool false):=B4.q0 rfl;gi_wp2_with fail;clear z0;refine Xy 12 (S:=fun w'=>Z6 w' ab 263 #[.int .u64 (Zy s0),.int .u64 (Zy s1)]/\Z6 w' wr.heap.size 61 #[.bool false,.int .i64 v,.slice A ps.length c]/\Z6 w' pb 123 #[.int .i64 p.1,.int .i64 p.2]) Wj ?_;have hS:Z6 w4.drew ab 263 #[.int .u64 (Zy s0),.int .u64 (Zy s1)]/\Z6 w4.drew wr.heap.size 61 #[.bool false,.int .i64 v,.slice A ps.length c]/\Z6 w4.drew pb 123 #[.int .i64 p.1,.int .i64 p.2]:=⟨A4.drew,B4.drew,P4.drew⟩;refine' ZU (i:=0) rfl ?zxp hS ?zqw
          case zxp =>
           intro w' hSw;go_simp;rfl
          simp only [Act.put,getElem_toArray,getElem_cons_zero,setIfInBounds_toArray,set_cons_zero,set_cons_succ];refine' ZU (i:=1) rfl ?zyb hS ?zri
          case zyb =>
           intro w' hSw;go_simp;rfl
          simp only [Act.put,ZX];refine' ZU (i:=2) rfl ?zyj hS ?zrq
          case zyj =>
           intro w' hSw;obtain ⟨r1,r2,r3⟩:=hSw;have z1:w'.cell? ⟨ab,0,none⟩=some (.int .u64 (Zy s0)):=r1.q0 rfl;go_simp;rfl
          simp only [Act.put,ZX];refine' ZU (i:=3) rfl ?zys hS ?zrz
          case zys =>
           intro w' hSw;obtain ⟨r1,r2,r3⟩:=hSw;have z1:=r2.q0 rfl;have z2:=r2.q1 rfl;have z3:=r2.q2 rfl;go_simp;rfl
          simp only [Act.put,ZX];refine' ZU (i:=5) rfl ?zzf hS ?zsm
          case zzf =>
           intro w' hSw;go_simp;rfl
          simp only [Act.put,ZX];refine' ZU (i:=6) rfl ?zzm hS ?zst
          case zzm =>
           intro w' hSw;obtain ⟨r1,r2,r3⟩:=hSw;have z1:=r3.q0 rfl;have z2:=r3.q1 rfl;go_simp;rfl
          simp only [Act.put,ZX];refine Yi (i:=4) (by kernel_rfl) rfl ?_;intro K hK;rw [if_pos (by rfl)];go_simp;refine ⟨trivial,?_⟩;refine (callsIn_wide.2 (Ve _ v hvb A ps.length c _)).mono ?_;rintro e w5 ⟨rfl,hb5⟩;have hS5:Z6 w5 ab 263 #[.int .u64 (Zy s0),.int .u64 (Zy s1)]/\Z6 w5 wr.heap.size 61 #[.bool false,.int .i64 v,.slice A ps.length c]/\Z6 w5 pb 123 #[.int .i64 p.1,.int .i64 p.2]:=⟨A4.drew.step hb5,B4.drew.step hb5,P4.drew.step hb5⟩;refine hK.out _ _ (fun _=>hS5) ?_;clear hK K;have hk5:Z8 (Also (More P w W2) wr.heap.size) w4 w5:=(Z8.drew _ _).trans (Z8.of_below hb5 uH.out);have Rf:=Jz.drew.step hb5
          (try simp only [Act.put,ZX])
          have HV:=hide (HLOC.out w5 (R6.trans (hk5.mono Nr.out)) (fun j hj=>Nat.lt_of_lt_of_le (uH.out j hj) hb5.size) Rf);have hmr:=OP;refine Yi (i:=7) (by kernel_rfl) rfl ?_;intro K hK;rw [if_pos (by rfl)];go_simp;refine ⟨trivial,?_⟩;refine (callsIn_wide.2 HV.out).mono ?_;rintro e w6 ⟨rfl,R7,DR⟩;obtain ⟨a5,b5,p5⟩:=hS5;have RZ:Z6 w6 ab 263 #[.int .u64 (Zy s0),.int .u64 (Zy s1)]/\Z6 w6 wr.heap.size 61 #[.bool false,.int .i64 v,.slice A ps.length c]/\Z6 w6 pb 123 #[.int .i64 p.1,.int .i64 p.2]:=⟨a5.kept R7 (.inl gD.out),b5.kept R7 (.inr rfl),p5.kept R7 (.inl l8.out)⟩;refine hK.out _ _ (fun _=>RZ) ?_;clear hK K hmr HV;have Od:=hide (Wx L (by have:=Cx.out;omega) (by have:=Cx.out;omega) w6)
          (try simp only [Act.put,ZX])
          refine Yi (i:=8) (by kernel_rfl) rfl ?_;intro K hK;rw [if_pos (by rfl)];go_simp;refine ⟨trivial,?_⟩;refine (callsIn_wide.2 Od.out).mono ?_;rintro e w7 ⟨rfl,rfl⟩;refine hK.out _ _ (fun _=>RZ) ?_;clear hK K Od;have hnt:=QK (decide (L<0));have Ak:bits BinOp.xor IntKind.u64 (if IntKind.u64.signed=true then -1 else IntKind.u64.max) (Zy (decide (L<0)))=Zy (!decide (L<0)):=hnt;have hor:=Rl s0 (!decide (L<0))
          (try simp only [Act.put,ZX])
          refine' ZU (i:=9) rfl ?ak RZ ?zti
          case ak =>
           intro w' hSw;go_simp;rfl
          simp only [Act.put,ZX];refine' ZU (i:=10) rfl ?jh RZ ?zuk
          case jh =>
           intro w' hSw;go_simp;rfl
          simp only [Act.put,ZX];refine' ZU (i:=11) rfl ?jq RZ ?zuq
          case jq =>
           intro w' hSw;go_simp;rfl
          simp only [Act.put,ZX];obtain ⟨a6,b6,p6⟩:=RZ;have c7:w6.cell? ⟨ab,0,none⟩=some (.int .u64 (Zy s0)):=a6.q0 rfl;have f7:=a6.frozen 0;refine Yi (i:=12) (by kernel_rfl) rfl ?_;intro K hK;rw [if_pos (by rfl)];go_simp;refine hK.out _ _ (fun h=>absurd rfl h) ?_;clear hK K;refine WG (by kernel_rfl) ?_ _;have a7:Z6 (w6.setCell ⟨ab,0,none⟩ (.int .u64 (Zy (s0 || !decide (L<0))))) ab 263 #[.int .u64 (Zy (s0 || !decide (L<0))),.int .u64 (Zy s1)]:=a6.set 0 (.int .u64 (Zy (s0 || !decide (L<0))));have p7:=p6.far (p:=⟨ab,0,none⟩) (by dsimp only;omega) (.int .u64 (Zy (s0 || !decide (L<0))));have t7:=(DR.mono (R:=More P w W2) fun j h=>.inl h).set (b:=ab) gD.out 0 (.int .u64 (Zy (s0 || !decide (L<0))));have k7:Z8 P W2 (w6.setCell ⟨ab,0,none⟩ (.int .u64 (Zy (s0 || !decide (L<0))))):=(R6.trans ((hk5.trans R7).mono Nr.out)).mono' (fun j h=>h) HNA.out 0 (.int .u64 (Zy (s0 || !decide (L<0))));have TT:=hide (VR.out _ _ rfl _ a7 p7 k7 t7);clear a7 p7 t7 k7 a6 b6 p6 c7 f7 hS a5 b5 p5 hk5 Rf hb5 R7 DR R6 Jz A4 B4 P4 VR HLOC hnt Ak hor;gi_wp2;go_roundw
          case rel=>exact ⟨k+1,_,_,by omega,by go_num,TT.out⟩
          case measure=>simp [intOf];omega
        | true =>
          have z0:w4.cell? ⟨wr.heap.size,0,none⟩=some (.bool true):=B4.q0 rfl;gi_wp2_with fail;clear z0;refine Xy 12 (S:=fun w'=>Z6 w' ab 263 #[.int .u64 (Zy s0),.int .u64 (Zy s1)]/\Z6 w' wr.heap.size 61 #[.bool true,.int .i64 v,.slice A ps.length c]/\Z6 w' pb 123 #[.int .i64 p.1,.int .i64 p.2]) Wj ?_;have hS:Z6 w4.drew ab 263 #[.int .u64 (Zy s0),.int .u64 (Zy s1)]/\Z6 w4.drew wr.heap.size 61 #[.bool true,.int .i64 v,.slice A ps.length c]/\Z6 w4.drew pb 123 #[.int .i64 p.1,.int .i64 p.2]:=⟨A4.drew,B4.drew,P4.drew⟩;refine' ZU (i:=0) rfl ?zxr hS ?zqy
          case zxr =>
           intro w' hSw;go_simp;rfl
          simp only [Act.put,getElem_toArray,getElem_cons_zero,setIfInBounds_toArray,set_cons_zero,set_cons_succ];refine' ZU (i:=1) rfl ?zyc hS ?zrj
          case zyc =>
           intro w' hSw;go_simp;rfl
          simp only [Act.put,ZX];refine' ZU (i:=2) rfl ?zyl hS ?zrs
          case zyl =>
           intro w' hSw;obtain ⟨r1,r2,r3⟩:=hSw;have z1:w'.cell? ⟨ab,1,none⟩=some (.int .u64 (Zy s1)):=r1.q1 rfl;go_simp;rfl
          simp only [Act.put,ZX];refine' ZU (i:=3) rfl ?zyt hS ?zsa
          case zyt =>
           intro w' hSw;obtain ⟨r1,r2,r3⟩:=hSw;have z1:=r2.q0 rfl;have z2:=r2.q1 rfl;have z3:=r2.q2 rfl;go_simp;rfl
          simp only [Act.put,ZX];refine' ZU (i:=5) rfl ?zzg hS ?zsn
          case zzg =>
           intro w' hSw;go_simp;rfl
          simp only [Act.put,ZX];refine' ZU (i:=6) rfl ?zzn hS ?zsu
          case zzn =>
           intro w' hSw;obtain ⟨r1,r2,r3⟩:=hSw;have z1:=r3.q0 rfl;have z2:=r3.q1 rfl;go_simp;rfl
          simp only [Act.put,ZX];refine Yi (i:=4) (by kernel_rfl) rfl ?_;intro K hK;rw [if_pos (by rfl)];go_simp;refine ⟨trivial,?_⟩;refine (callsIn_wide.2 (Ve _ v hvb A ps.length c _)).mono ?_;rintro e w5 ⟨rfl,hb5⟩;have hS5:Z6 w5 ab 263 #[.int .u64 (Zy s0),.int .u64 (Zy s1)]/\Z6 w5 wr.heap.size 61 #[.bool true,.int .i64 v,.slice A ps.length c]/\Z6 w5 pb 123 #[.int .i64 p.1,.int .i64 p.2]:=⟨A4.drew.step hb5,B4.drew.step hb5,P4.drew.step hb5⟩;refine hK.out _ _ (fun _=>hS5) ?_;clear hK K;have hk5:Z8 (Also (More P w W2) wr.heap.size) w4 w5:=(Z8.drew _ _).trans (Z8.of_below hb5 uH.out);have Rf:=Jz.drew.step hb5
          (try simp only [Act.put,ZX])
          have HV:=hide (HLOC.out w5 (R6.trans (hk5.mono Nr.out)) (fun j hj=>Nat.lt_of_lt_of_le (uH.out j hj) hb5.size) Rf);have hmr:=OP;refine Yi (i:=7) (by kernel_rfl) rfl ?_;intro K hK;rw [if_pos (by rfl)];go_simp;refine ⟨trivial,?_⟩;refine (callsIn_wide.2 HV.out).mono ?_;rintro e w6 ⟨rfl,R7,DR⟩;obtain ⟨a5,b5,p5⟩:=hS5;have RZ:Z6 w6 ab 263 #[.int .u64 (Zy s0),.int .u64 (Zy s1)]/\Z6 w6 wr.heap.size 61 #[.bool true,.int .i64 v,.slice A ps.length c]/\Z6 w6 pb 123 #[.int .i64 p.1,.int .i64 p.2]:=⟨a5.kept R7 (.inl gD.out),b5.kept R7 (.inr rfl),p5.kept R7 (.inl l8.out)⟩;refine hK.out _ _ (fun _=>RZ) ?_;clear hK K hmr HV;have Od:=hide (Wx L (by have:=Cx.out;omega) (by have:=Cx.out;omega) w6)
          (try simp only [Act.put,ZX])
          refine Yi (i:=8) (by kernel_rfl) rfl ?_;intro K hK;rw [if_pos (by rfl)];go_simp;refine ⟨trivial,?_⟩;refine (callsIn_wide.2 Od.out).mono ?_;rintro e w7 ⟨rfl,rfl⟩;refine hK.out _ _ (fun _=>RZ) ?_;clear hK K Od;have hnt:=QK (decide (L<0));have Ak:bits BinOp.xor IntKind.u64 (if IntKind.u64.signed=true then -1 else IntKind.u64.max) (Zy (decide (L<0)))=Zy (!decide (L<0)):=hnt;have hor:=Rl s1 (!decide (L<0))
          (try simp only [Act.put,ZX])
          refine' ZU (i:=9) rfl ?au RZ ?ztj
          case au =>
           intro w' hSw;go_simp;rfl
          simp only [Act.put,ZX];refine' ZU (i:=10) rfl ?ji RZ ?zul
          case ji =>
           intro w' hSw;go_simp;rfl
          simp only [Act.put,ZX];refine' ZU (i:=11) rfl ?jr RZ ?zur
          case jr =>
           intro w' hSw;go_simp;rfl
          simp only [Act.put,ZX];obtain ⟨a6,b6,p6⟩:=RZ;have c7:w6.cell? ⟨ab,1,none⟩=some (.int .u64 (Zy s1)):=a6.q1 rfl;have f7:=a6.frozen 1;refine Yi (i:=12) (by kernel_rfl) rfl ?_;intro K hK;rw [if_pos (by rfl)];go_simp;refine hK.out _ _ (fun h=>absurd rfl h) ?_;clear hK K;refine WG (by kernel_rfl) ?_ _;have a7:Z6 (w6.setCell ⟨ab,1,none⟩ (.int .u64 (Zy (s1 || !decide (L<0))))) ab 263 #[.int .u64 (Zy s0),.int .u64 (Zy (s1 || !decide (L<0)))]:=a6.set 1 (.int .u64 (Zy (s1 || !decide (L<0))));have p7:=p6.far (p:=⟨ab,1,none⟩) (by dsimp only;omega) (.int .u64 (Zy (s1 || !decide (L<0))));have t7:=(DR.mono (R:=More P w W2) fun j h=>.inl h).set (b:=ab) gD.out 1 (.int .u64 (Zy (s1 || !decide (L<0))));have k7:Z8 P W2 (w6.setCell ⟨ab,1,none⟩ (.int .u64 (Zy (s1 || !decide (L<0))))):=(R6.trans ((hk5.trans R7).mono Nr.out)).mono' (fun j h=>h) HNA.out 1 (.int .u64 (Zy (s1 || !decide (L<0))));have TT:=hide (VR.out _ _ rfl _ a7 p7 k7 t7);clear a7 p7 t7 k7 a6 b6 p6 c7 f7 hS a5 b5 p5 hk5 Rf hb5 R7 DR R6 Jz A4 B4 P4 VR HLOC hnt Ak hor;gi_wp2;go_roundw
          case rel=>exact ⟨k+1,_,_,by omega,by go_num,TT.out⟩
          case measure=>simp [intOf];omega
    · obtain rfl:k=gs.length:=(by omega);rw [List.take_length] at htp hst;have hand:=AZ s0 s1;have z0:wr.cell? ⟨ab,0,none⟩=some (.int .u64 (Zy s0)):=Ar.q0 rfl;have z1:wr.cell? ⟨ab,1,none⟩=some (.int .u64 (Zy s1)):=Ar.q1 rfl;have hfin:(s0 && !s1)=((VP p gs).1 && !(VP p gs).2):=(by rw [hst.out]);have HF:=hide hfin;clear hfin;gi_wp2;go_ret;refine ⟨?_,Mv.out.trans hkp,htp.mono fun j h=>.inl h⟩;rw [<- HF.out];rfl
 · have e1:XD gs p=false:=(by unfold XD;rw [decide_eq_false hf];rfl);have e2:YC gs=[]:=(by unfold YC;rw [if_neg hf]);rw [e1,e2,List.append_nil];have HP:=hide hP;have HT:=hide ht;obtain ⟨z,hz⟩:=eE (Zk (gs.map (·.1)));rw [<- hz] at HC hf;clear e1 e2 hP hg0 hs hgs hw ht hz hpb P0;go_enter func184,ntmps184;go_wp2_with fail;rw [<- hw0];have HW0:=hide hw0;clear hw0;refine HC.out.mono ?_;rintro e w1 ⟨rfl,hb1⟩;go_wp2;go_ret;exact ⟨rfl,Z8.of_below (Z9 hb0 hb1) HP.out,HT.out.step (Z9 hb0 hb1)⟩
end
section
open Go.RowKit Go.Shelf
theorem J3(b:Bool)(x o:Int)(h0:0<=x)(h1:x<=1000)(h2:0<=o)(h3:o<=1000)(w:World):Calls prog 221 #[.int .u64 (Zy b),.int .i64 x,.int .u64 o] w fun e w'=>e=.returned (.int .i64 (bif b then x else o))/\w=w':=by
 have hx:IntKind.u64.wrap x=x:=by rw [IntKind.wrap_u64];omega
 have hv:IntKind.i64.wrap (bif b then x else o)=(bif b then x else o):=by rw [IntKind.wrap_i64];cases b <;> simp <;> omega
 have HS:=hide (Lb b x o h0 (by omega) h2 (by omega) w);obtain ⟨r,hr⟩:=eE ((bif b then x else o));rw [<- hr] at hv HS;rw [<- hr];clear hr;go_enter func221,ntmps221;go_wp2_with fail;refine HS.out.mono ?_;rintro e w' ⟨rfl,rfl⟩;go_wp2;go_ret;exact ⟨rfl,rfl⟩
theorem xV(b:Bool)(w:World):Calls prog 153 #[.int .u64 (Zy b)] w fun e w'=>e=.returned (.int .u64 (bif b then 1 else 0))/\w=w':=by
 have h:bits BinOp.and IntKind.u64 (Zy b) 1=(bif b then 1 else 0):=by cases b <;> decide
 go_enter func153,ntmps153;go_wp2;go_ret;exact ⟨rfl,rfl⟩
def Wt(ps:List Pt)(p:Pt):Int:=bif Yl ps then Uk ps p+1 else 3
def J7(n:Nat):List Ev:=UQ n (List.range (ZA n))++YG (List.range (ZA n))
def Vy(gs:List Gr)(p:Pt):Int:=bif Y7 gs then (bif XD gs p then 1 else 0) else 2
def Oy(gs:List Gr):List Ev:=Ze gs++YC gs
theorem V9(gs:List Gr):(Ze gs).length<=262208:=by
 unfold Ze;split
 · rename_i h
   have h1:=Q9 0 gs;have h2:gs.length<=64:=by
    unfold Zk at h;split at h
    · omega
    · rename_i h2;rw [List.length_map] at h2;omega
   omega
 · simp
section
variable (P:Nat->Prop)(t:Option (Nat × Nat))(es:List Ev)(p:Pt)(hp:PJ p)(w:World)(hP:∀ k,P k->k<w.heap.size)(hg0:P 3)(hw:MW w)(ht:Tp w P t es)(hl:es.length<=600000)
include hp hP hg0 hw ht hl
theorem zF(ps:List Pt)(hps:Tq ps)(hn:ps.length<=10000)(A:Option Addr)(c:Nat)(hs:U2 w P A (Zc ps)):
 Calls prog 191 #[.pointer (Zu t),.slice A ps.length c,.agg #[.int .i64 p.1,.int .i64 p.2]] w fun e w'=>e=.returned (.int .i64 (Wt ps p))/\Z8 P w w'/\Tp w' P t (es++J7 ps.length):=by
 obtain ⟨w0,hw0⟩:=eE (w.alloc (.cells #[.int .i64 p.1,.int .i64 p.2] 123));have hb0:=bE hw0;have B0:Z6 w0 w.heap.size 123 #[.int .i64 p.1,.int .i64 p.2]:=by rw [hw0];exact Z6.new _ _ _
 have hm:=Yg hP hb0;have hk0:Z8 P w w0:=Z8.of_below hb0 hP;have HV:=hide (Ji (More P w w0) t es ps hps hn A c w0 hm (.inl hg0) ((hs.kept hk0).mono fun k h=>.inl h) (hw.step hb0) (ht.more hb0) (by omega));have HI:Hid (More P w w0 w.heap.size):=.inr ⟨Nat.le_refl _,B0.lt⟩;have HP:=hide hP;have HG:=hide hg0;have HS:=hide hs;have HW:=hide hw;have G7:=hide hps;have HPJ:=hide hp;have HB0:=hide hb0;have HM:=hide hm;clear hP hg0 hs hw hps hp ht hb0 hm hk0;go_enter func191,ntmps191;go_wp2_with fail;rw [<- hw0];have HW0:=hide hw0;clear hw0;refine HV.out.mono ?_;rintro e w1 ⟨rfl,hk1,ht1⟩;have B1:=B0.kept hk1 HI.out;have z0:=B1.q0 rfl;have z1:=B1.q1 rfl;dsimp at z0 z1;have Mh:Z8 P w w1:=Z8.more HB0.out HP.out hk1;have hle:(es++UQ ps.length (List.range (ZA ps.length))).length<=900000:=by
  have h1:=O8 1 ps.length;have h2:TI 1 ps.length=UQ ps.length (List.range (ZA ps.length)):=rfl;rw [h2] at h1;rw [List.length_append];omega
 have HL:=hide (KF P t _ ps G7.out hn A c p HPJ.out w1 (fun k hk=>Nat.lt_of_lt_of_le (HP.out k hk) Mh.size) HG.out (HS.out.kept Mh) (HW.out.kept Mh HG.out) (ht1.mono fun k h=>.inl h) hle);have Np:=hide Mh;have hlb:=LZ (WM (Z5 ps) ps p (List.range (ZA ps.length))).1 (WM (Z5 ps) ps p (List.range (ZA ps.length))).2;have hloc:Uk ps p=JH (WM (Z5 ps) ps p (List.range (ZA ps.length))).1 (WM (Z5 ps) ps p (List.range (ZA ps.length))).2:=rfl;rw [<- hloc] at hlb;obtain ⟨L,hL⟩:=eE (Uk ps p);rw [<- hL] at hlb HL;have hwr:IntKind.i64.wrap (L+1)=L+1:=by rw [IntKind.wrap_i64];omega
 have HA:Hid (Wt ps p=bif Yl ps then L+1 else 3):=by rw [hL];exact rfl
 clear hk1 ht1 B1 B0 Mh hle HV hloc hL;go_wp2_with fail;refine HL.out.mono ?_;rintro e w2 ⟨rfl,hk2,ht2⟩;have tK:=hide (fun w=>J3 (Yl ps) (L+1) 3 (by omega) (by omega) (by omega) (by omega) w);clear z0 z1;go_wp2_with fail;refine (tK.out w2).mono ?_;rintro e w3 ⟨rfl,rfl⟩;go_wp2;go_ret;refine ⟨YU HA.out.symm,Np.out.trans hk2,?_⟩;rw [List.append_assoc] at ht2;exact ht2
theorem zJ(gs:List Gr)(GA:Option Addr)(gc:Nat)(hs:U2 w P GA (rgCells (gs.map (·.1))))(hgs:xK w P gs):
 Calls prog 193 #[.pointer (Zu t),.slice GA gs.length gc,.agg #[.int .i64 p.1,.int .i64 p.2]] w fun e w'=>e=.returned (.int .i64 (Vy gs p))/\Z8 P w w'/\Tp w' P t (es++Oy gs):=by
 obtain ⟨w0,hw0⟩:=eE (w.alloc (.cells #[.int .i64 p.1,.int .i64 p.2] 123));have hb0:=bE hw0;have B0:Z6 w0 w.heap.size 123 #[.int .i64 p.1,.int .i64 p.2]:=by rw [hw0];exact Z6.new _ _ _
 have hm:=Yg hP hb0;have hk0:Z8 P w w0:=Z8.of_below hb0 hP;have HV:=hide (Uu (More P w w0) t es gs GA gc w0 hm (.inl hg0) ((hs.kept hk0).mono fun k h=>.inl h) (fun g hg=>⟨(hgs g hg).1,((hgs g hg).2.1.kept hk0).mono fun k h=>.inl h,(hgs g hg).2.2⟩) (hw.step hb0) (ht.more hb0) hl);have HI:Hid (More P w w0 w.heap.size):=.inr ⟨Nat.le_refl _,B0.lt⟩;have HP:=hide hP;have HG:=hide hg0;have HS:=hide hs;have HW:=hide hw;have Qc:=hide hgs;have HPJ:=hide hp;have HB0:=hide hb0;have HM:=hide hm;clear hP hg0 hs hw hgs hp ht hb0 hm hk0;go_enter func193,ntmps193;go_wp2_with fail;rw [<- hw0];have HW0:=hide hw0;clear hw0;refine HV.out.mono ?_;rintro e w1 ⟨rfl,hk1,ht1⟩;have B1:=B0.kept hk1 HI.out;have z0:=B1.q0 rfl;have z1:=B1.q1 rfl;dsimp at z0 z1;have Mh:Z8 P w w1:=Z8.more HB0.out HP.out hk1;have hle:(es++Ze gs).length<=890000:=by
  have h1:=V9 gs;rw [List.length_append];omega
 have HL:=hide (UY P t _ gs GA gc p HPJ.out w1 (fun k hk=>Nat.lt_of_lt_of_le (HP.out k hk) Mh.size) HG.out (HS.out.kept Mh) (Qc.out.kept Mh) (HW.out.kept Mh HG.out) (ht1.mono fun k h=>.inl h) hle);have Np:=hide Mh;have HA:Hid (Vy gs p=bif Y7 gs then (bif XD gs p then 1 else 0) else 2):=rfl;obtain ⟨mb,hmb⟩:=eE (XD gs p);rw [<- hmb] at HL HA;obtain ⟨bt,hbt⟩:∃ bt:Int,bt=(bif mb then 1 else 0):=⟨_,rfl⟩;have hbb:0<=bt/\bt<=1:=by rw [hbt];cases mb <;> decide
 have uq:=hide (fun w=>xV mb w);rw [<- hbt] at uq HA;have hwr:IntKind.i64.wrap bt=bt:=by rw [IntKind.wrap_i64];omega
 clear hk1 ht1 B1 B0 Mh hle HV hmb hbt;go_wp2_with fail;refine HL.out.mono ?_;rintro e w2 ⟨rfl,hk2,ht2⟩;clear z0 z1;go_wp2_with fail;refine (uq.out w2).mono ?_;rintro e w2' ⟨rfl,rfl⟩;have tK:=hide (fun w=>J3 (Y7 gs) bt 2 (by omega) (by omega) (by omega) (by omega) w);go_wp2_with fail;refine (tK.out w2).mono ?_;rintro e w3 ⟨rfl,rfl⟩;go_wp2;go_ret;refine ⟨YU HA.out.symm,Np.out.trans hk2,?_⟩;rw [List.append_assoc] at ht2;exact ht2
end
end
end Go.Proofs.YtfljlmleiggmjaaGreatDoor