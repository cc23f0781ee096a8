/- Disc FenceValid FenceMember Engine -/
import Derived.Laws.CopyOwn
import Derived.Test.YthnenedoblncjaaGreatDoorPkR04
import Derived.Test.YthnenedoblncjaaGreatDoorPkR23
set_option maxRecDepth 1000000
set_option maxHeartbeats 8000000
namespace Go.Proofs.YthnenedoblncjaaGreatDoor
open Go.Proofs.Tryz
open List (getElem_toArray getElem_cons_succ getElem_cons_zero setIfInBounds_toArray set_cons_zero set_cons_succ)
section
open Go.RowKit Go.Shelf
theorem Rz {P:Program} (w:World) (dT sT ty elem:TypeId) (s g o dLen dCap:Nat) (a:Addr) (sLen sCap:Nat) (cur:Array Value) (t:TypeId) (cs:List Value)
 (hu:P.underlying dT=some (.slice elem)) (hs:(P.info? elem).map (·.size)=some s)
 (hg:w.heap[g]?=some (.cells cur t (0,0))) (hn:cs.length=Nat.min sLen dLen*s)
 (hsrc:∀ j v,cs[j]?=some v->w.cell? (a.add j)=some v) (hfit:o+cs.length<=cur.size) (h1:∀ v∈cs,v.oneCell'=true) :
 (Builtin.copy_ #[dT,sT] ty #[.slice (some ⟨g,o,none⟩) dLen dCap,.slice (some a) sLen sCap]).run P w =
   .ok (goInt (Nat.min sLen dLen:Nat)) (w.setRow g (cur.toList.take o++cs++cur.toList.drop (o+cs.length)).toArray):=by
 have hl:=run_loadCells_list (P:=P) w a cs hsrc;have hst:=run_storeCells_at P g o t cs 0 cur w hg (by simpa using hfit) h1;cases hq:P.info? elem with
 | none=>simp [hq] at hs
 | some i =>
   have hi:i.size=s:=(by simpa [hq] using hs);simp [Builtin.copy_,run_underlying hu,Builtin.lenOf,Builtin.firstCells,sizeOf,typeInfo,hq,hi,<- hn,hl,hst]
def Yi(ps:List Pt):Array Value:=#[.int .i64 (ZX ps 0).1,.int .i64 (ZX ps 0).2,.int .i64 (ZX ps 1).1,.int .i64 (ZX ps 1).2,.int .i64 (ZX ps 2).1,.int .i64 (ZX ps 2).2]
theorem MX {fn:Func} {tmps:Array Value} {w:World} {g:Nat} {v0 v1 v2 v3 v4 v5:Value} (h:fn.results=#[.cell 2 416,.tmp 3])
 (hp:tmps.getD 2 undef=.pointer (some ⟨g,0,none⟩)) (hb:Z7 w g 416 #[v0,v1,v2,v3,v4,v5]) :
 (results fn tmps).run prog w=.ok (.tuple #[.agg #[v0,v1,v2,v3,v4,v5],tmps.getD 3 undef]) w:=by
 have c0:=hb.q0 rfl;have c1:=hb.q1 rfl;have c2:=hb.q2 rfl;have c3:=hb.q3 rfl;have c4:=hb.q4 rfl;have c5:=hb.q5 rfl;have hp':tmps[2]?.getD undef=.pointer (some ⟨g,0,none⟩):=by rw [<- hp];simp
 simp [results,h,hp',go_sem,c0,c1,c2,c3,c4,c5]
theorem J9(ps:List Pt)(hn:ps.length≠3)(A:Option Addr)(c:Nat)(w:World):
 Calls prog 375 #[.slice A ps.length c] w fun e w'=>e=.returned (.tuple #[.agg #[.int .i64 0,.int .i64 0,.int .i64 0,.int .i64 0,.int .i64 0,.int .i64 0],.bool false])/\Below w.heap.size w w':=by
 have hni:¬ ((ps.length:Nat):Int)=3:=by omega
 have B0:Z7 ((w.alloc (.cells #[.int .i64 0,.int .i64 0,.int .i64 0,.int .i64 0,.int .i64 0,.int .i64 0] 416)).alloc (.cells #[.int .i64 0,.int .i64 0,.int .i64 0,.int .i64 0,.int .i64 0,.int .i64 0] 416)) w.heap.size 416 #[.int .i64 0,.int .i64 0,.int .i64 0,.int .i64 0,.int .i64 0,.int .i64 0]:=(Z7.new _ _ _).alloc _;go_enter func375,ntmps375;go_wp2;refine bodyPost_ret (MX rfl rfl B0) rfl ⟨rfl,?_⟩;exact Z5 (bA) _
theorem Ka(ps:List Pt)(hn:ps.length=3)(A:Option Addr)(c:Nat)(w:World)(hs:Sl w w.heap.size A (Zl ps)):
 Calls prog 375 #[.slice A ps.length c] w fun e w'=>e=.returned (.tuple #[.agg (Yi ps),.bool true])/\Below w.heap.size w w':=by
 obtain ⟨b,off,rfl,hb⟩:=FU hs (by omega);have hc:∀ j u,(Zl ps)[j]?=some u->w.cell? ⟨b,off+j,none⟩=some u:=by
  rcases hs with h|⟨b',off',hA,_,h⟩
  · exfalso
    have h2:=Y5 (fun p:Int × Int=>[Value.int .i64 p.1,.int .i64 p.2]) 2 (fun _=>rfl) ps;have h3:(Zl ps).length=3*2:=(by rw [<- hn];exact h2);rw [h] at h3;simp at h3
  · cases hA;exact h
 have hcs:Zl ps=(Yi ps).toList:=by
  match ps,hn with
  | [p,q,r],_=>rfl
 rw [hcs] at hc
 have hc2:∀ j v,(Yi ps).toList[j]?=some v->((w.alloc (.cells #[.int .i64 0,.int .i64 0,.int .i64 0,.int .i64 0,.int .i64 0,.int .i64 0] 416)).alloc (.cells #[.int .i64 0,.int .i64 0,.int .i64 0,.int .i64 0,.int .i64 0,.int .i64 0] 416)).cell? ((⟨b,off,none⟩:Addr).add j)=some v:=fun j v hv=>by
  have h1:=hc j v hv;have h2:=(Z5 (Z5 (Below.refl w.heap.size w) (.cells #[.int .i64 0,.int .i64 0,.int .i64 0,.int .i64 0,.int .i64 0,.int .i64 0] 416)) (.cells #[.int .i64 0,.int .i64 0,.int .i64 0,.int .i64 0,.int .i64 0,.int .i64 0] 416)).cell (p:=⟨b,off+j,none⟩) hb;rw [h1] at h2;rw [show (⟨b,off,none⟩:Addr).add j=⟨b,off+j,none⟩ by simp [Addr.add]];exact h2
 have B1:Z7 ((w.alloc (.cells #[.int .i64 0,.int .i64 0,.int .i64 0,.int .i64 0,.int .i64 0,.int .i64 0] 416)).alloc (.cells #[.int .i64 0,.int .i64 0,.int .i64 0,.int .i64 0,.int .i64 0,.int .i64 0] 416)) (w.heap.size+1) 416 #[.int .i64 0,.int .i64 0,.int .i64 0,.int .i64 0,.int .i64 0,.int .i64 0]:=Z7.new2 _ _ _ _;have B0:Z7 ((w.alloc (.cells #[.int .i64 0,.int .i64 0,.int .i64 0,.int .i64 0,.int .i64 0,.int .i64 0] 416)).alloc (.cells #[.int .i64 0,.int .i64 0,.int .i64 0,.int .i64 0,.int .i64 0,.int .i64 0] 416)) w.heap.size 416 #[.int .i64 0,.int .i64 0,.int .i64 0,.int .i64 0,.int .i64 0,.int .i64 0]:=(Z7.new _ _ _).alloc _;rw [hn];have hrun:=Rz (P:=prog) ((w.alloc (.cells #[.int .i64 0,.int .i64 0,.int .i64 0,.int .i64 0,.int .i64 0,.int .i64 0] 416)).alloc (.cells #[.int .i64 0,.int .i64 0,.int .i64 0,.int .i64 0,.int .i64 0,.int .i64 0] 416)) 36 36 3 41 2 (w.heap.size+1) 0 3 3 ⟨b,off,none⟩ 3 c #[.int .i64 0,.int .i64 0,.int .i64 0,.int .i64 0,.int .i64 0,.int .i64 0] 416 (Yi ps).toList underlying36 (by kernel_rfl) B1 rfl hc2 (by simp [Yi]) (by simp [Yi,Value.oneCell']);have hb2:Below (w.heap.size+1) ((w.alloc (.cells #[.int .i64 0,.int .i64 0,.int .i64 0,.int .i64 0,.int .i64 0,.int .i64 0] 416)).alloc (.cells #[.int .i64 0,.int .i64 0,.int .i64 0,.int .i64 0,.int .i64 0,.int .i64 0] 416)) (((w.alloc (.cells #[.int .i64 0,.int .i64 0,.int .i64 0,.int .i64 0,.int .i64 0,.int .i64 0] 416)).alloc (.cells #[.int .i64 0,.int .i64 0,.int .i64 0,.int .i64 0,.int .i64 0,.int .i64 0] 416)).setRow (w.heap.size+1) (((#[.int .i64 0,.int .i64 0,.int .i64 0,.int .i64 0,.int .i64 0,.int .i64 0]:Array Value).toList.take 0++(Yi ps).toList++(#[.int .i64 0,.int .i64 0,.int .i64 0,.int .i64 0,.int .i64 0,.int .i64 0]:Array Value).toList.drop (0+(Yi ps).toList.length)).toArray)):=below_setRow (Below.refl _ _) (Nat.le_refl _) _;have h2:=setRow_heap ((w.alloc (.cells #[.int .i64 0,.int .i64 0,.int .i64 0,.int .i64 0,.int .i64 0,.int .i64 0] 416)).alloc (.cells #[.int .i64 0,.int .i64 0,.int .i64 0,.int .i64 0,.int .i64 0,.int .i64 0] 416)) (w.heap.size+1) #[.int .i64 0,.int .i64 0,.int .i64 0,.int .i64 0,.int .i64 0,.int .i64 0] (((#[.int .i64 0,.int .i64 0,.int .i64 0,.int .i64 0,.int .i64 0,.int .i64 0]:Array Value).toList.take 0++(Yi ps).toList++(#[.int .i64 0,.int .i64 0,.int .i64 0,.int .i64 0,.int .i64 0,.int .i64 0]:Array Value).toList.drop (0+(Yi ps).toList.length)).toArray) 416 _ B1;generalize ((w.alloc (.cells #[.int .i64 0,.int .i64 0,.int .i64 0,.int .i64 0,.int .i64 0,.int .i64 0] 416)).alloc (.cells #[.int .i64 0,.int .i64 0,.int .i64 0,.int .i64 0,.int .i64 0,.int .i64 0] 416)).setRow (w.heap.size+1) (((#[.int .i64 0,.int .i64 0,.int .i64 0,.int .i64 0,.int .i64 0,.int .i64 0]:Array Value).toList.take 0++(Yi ps).toList++(#[.int .i64 0,.int .i64 0,.int .i64 0,.int .i64 0,.int .i64 0,.int .i64 0]:Array Value).toList.drop (0+(Yi ps).toList.length)).toArray)=w2 at hrun hb2 h2;have B2:Z7 w2 (w.heap.size+1) 416 (Yi ps):=h2;have C2:Z7 w2 w.heap.size 416 #[.int .i64 0,.int .i64 0,.int .i64 0,.int .i64 0,.int .i64 0,.int .i64 0]:=B0.below hb2 (by omega);have hbb:Below w.heap.size w w2:=(Z5 (bA) _).trans (hb2.mono (by omega));have HB:=hide hbb;have z0:=B2.q0 rfl;have z1:=B2.q1 rfl;have z2:=B2.q2 rfl;have z3:=B2.q3 rfl;have z4:=B2.q4 rfl;have z5:=B2.q5 rfl;unfold Yi at z0 z1 z2 z3 z4 z5;dsimp at z0 z1 z2 z3 z4 z5;have y0:=C2.frozen 0;have y1:=C2.frozen 1;have y2:=C2.frozen 2;have y3:=C2.frozen 3;have y4:=C2.frozen 4;have y5:=C2.frozen 5;have u0:=C2.q0 rfl;have u1:=C2.q1 rfl;have u2:=C2.q2 rfl;have u3:=C2.q3 rfl;have u4:=C2.q4 rfl;have u5:=C2.q5 rfl;dsimp at u0 u1 u2 u3 u4 u5;have nK:=hide C2;clear hc2 hc hcs B1 B0 hs h2 hb2 B2 C2 hbb;go_enter func375,ntmps375;go_wp2;have E:Z7 _ w.heap.size 416 (Yi ps):=((((((nK.out.set 0 (.int .i64 (ZX ps 0).1)).set 1 (.int .i64 (ZX ps 0).2)).set 2 (.int .i64 (ZX ps 1).1)).set 3 (.int .i64 (ZX ps 1).2)).set 4 (.int .i64 (ZX ps 2).1)).set 5 (.int .i64 (ZX ps 2).2));refine bodyPost_ret (MX rfl rfl E) rfl ?_;refine ⟨rfl,?_⟩;exact (((((HB.out.setCell (Nat.le_refl _) _).setCell (Nat.le_refl _) _).setCell (Nat.le_refl _) _).setCell (Nat.le_refl _) _).setCell (Nat.le_refl _) _).setCell (Nat.le_refl _) _
def SN(ps:List Pt):Bool:=decide (ps.length=3) && !decide ((Zw (ZX ps 0) (ZX ps 1) (ZX ps 2)).sign=0)
def Vk(n:Nat):List Ev:=if n=3 then [(4,0,2)] else []
def Oo(ps:List Pt)(p:Pt):Int:=if ps.length=3 then (Yq (ZX ps 0) (ZX ps 1) (ZX ps 2) p).sign*(Zw (ZX ps 0) (ZX ps 1) (ZX ps 2)).sign else -1
def Vj(n:Nat):List Ev:=if n=3 then [(6,0,0)] else []
section
variable (P:Nat->Prop)(t:Option (Nat × Nat))(es:List Ev)(ps:List Pt)(hps:LW ps)(A:Option Addr)(c:Nat)(w:World)(hP:∀ k,P k->k<w.heap.size)(hg0:P 8)(hs:Wp w P A (Zl ps))(hw:MW w)(ht:Tp w P t es)(hl:es.length<=900000)
include hps hP hg0 hs hw ht hl
theorem IV:Calls prog 374 #[.pointer (ZG t),.slice A ps.length c] w fun e w'=>e=.returned (.int .u64 (ZH (SN ps)))/\Z9 P w w'/\Tp w' P t (es++Vk ps.length):=by
 by_cases hn:ps.length=3
 · have bW:=Ka ps hn A c w (hs.sl hP);unfold Yi at bW;have HF:=hide bW;have HO:SN ps=!decide ((Zw (ZX ps 0) (ZX ps 1) (ZX ps 2)).sign=0):=(by unfold SN;rw [decide_eq_true hn];rfl);have HE:Vk ps.length=[(4,0,2)]:=(by unfold Vk;rw [if_pos hn]);rw [HO,HE];obtain ⟨os,hos⟩:=eE ((Zw (ZX ps 0) (ZX ps 1) (ZX ps 2)).sign);rw [<- hos];have zbk:=hide hos;have HT:=hide ht;have HP:=hide hP;have HW:=hide hw;have Lg:=hide hps;have HG:=hide hg0;clear hos HO HE ht hP hw hps hs hn hg0 bW;go_enter func374,ntmps374;go_wp2_with fail;refine HF.out.mono ?_;rintro e w1 ⟨rfl,hb1⟩;obtain ⟨w2,hw2⟩:=eE (w1.alloc (.cells #[.int .i64 (ZX ps 0).1,.int .i64 (ZX ps 0).2,.int .i64 (ZX ps 1).1,.int .i64 (ZX ps 1).2,.int .i64 (ZX ps 2).1,.int .i64 (ZX ps 2).2] 416));have hb2:Below w.heap.size w w2:=(by rw [hw2];exact Z5 hb1 _);have B2:Z7 w2 w1.heap.size 416 #[.int .i64 (ZX ps 0).1,.int .i64 (ZX ps 0).2,.int .i64 (ZX ps 1).1,.int .i64 (ZX ps 1).2,.int .i64 (ZX ps 2).1,.int .i64 (ZX ps 2).2]:=(by rw [hw2];exact Z7.new _ _ _);have hm:∀ k,More P w w2 k->k<w2.heap.size:=Yr HP.out hb2;have RY:=hide (VR (More P w w2) t es 4 0 2 w2 hm (HT.out.more hb2) (by omega) (by unfold Zg;omega));have HI:Hid (More P w w2 w1.heap.size):=.inr ⟨hb1.size,B2.lt⟩;have HB2:=hide hb2;clear hb2 hb1 hm HF;go_wp2_with fail;rw [<- hw2];clear hw2;refine RY.out.mono ?_;rintro e w3 ⟨rfl,hk3,_,ht3⟩;have B3:=B2.kept hk3 HI.out;have z0:=B3.q0 rfl;have z1:=B3.q1 rfl;have z2:=B3.q2 rfl;have z3:=B3.q3 rfl;have z4:=B3.q4 rfl;have z5:=B3.q5 rfl;dsimp at z0 z1 z2 z3 z4 z5;have IZ:Z9 P w w3:=Z9.more HB2.out HP.out hk3;have TF:=(Wh (ZX ps 0) (ZX ps 1) (ZX ps 2) (Lg.out.at_ _) (Lg.out.at_ _) (Lg.out.at_ _) w3 (HW.out.kept IZ HG.out));have D9:=W9 (Zw (ZX ps 0) (ZX ps 1) (ZX ps 2));rw [<- zbk.out] at TF D9;have sQ:=hide TF;clear TF;have HK:=hide IZ;have HT3:=hide (ht3.mono (R:=P) fun k h=>.inl h);clear hk3 ht3 B2 B3 IZ RY;go_wp2_with fail;refine sQ.out.mono ?_;rintro e w4 ⟨rfl,hb4⟩;obtain ⟨hz1,hz2⟩:=V3 (x:=os) (by rcases D9 with h|h|h <;> omega) (by rcases D9 with h|h|h <;> omega);have HZ:=TY (IntKind.u64.wrap os) hz1.1 hz1.2 w4;rw [hz2] at HZ;have HZ:=hide HZ;have hnot:=QK (decide (os=0));clear z0 z1 z2 z3 z4 z5 hz1 hz2 D9;go_wp2_with fail;refine HZ.out.mono ?_;rintro e w5 ⟨rfl,rfl⟩;go_wp2;go_ret;exact ⟨rfl,HK.out.trans (Z9.of_below hb4 (fun k hk=>Nat.lt_of_lt_of_le (HP.out k hk) HK.out.size)),HT3.out.step hb4⟩
 · have HF:=hide (J9 ps hn A c w);have HO:SN ps=false:=(by unfold SN;rw [decide_eq_false hn];rfl);have HE:Vk ps.length=[]:=(by unfold Vk;rw [if_neg hn]);rw [HO,HE,List.append_nil];have HT:=hide ht;have HP:=hide hP;clear HO HE ht hP hw hps hs hn hg0;go_enter func374,ntmps374;go_wp2_with fail;refine HF.out.mono ?_;rintro e w1 ⟨rfl,hb1⟩;go_wp2;go_ret;exact ⟨rfl,Z9.of_below (Z5 hb1 _) HP.out,HT.out.step (Z5 hb1 _)⟩
theorem JR(p:Pt)(hp:PJ p):Calls prog 373 #[.pointer (ZG t),.slice A ps.length c,.agg #[.int .i64 p.1,.int .i64 p.2]] w fun e w'=>e=.returned (.int .i64 (Oo ps p))/\Z9 P w w'/\Tp w' P t (es++Vj ps.length):=by
 obtain ⟨w0,hw0⟩:=eE (w.alloc (.cells #[.int .i64 p.1,.int .i64 p.2] 41));have hb0:=bE hw0;have B0:Z7 w0 w.heap.size 41 #[.int .i64 p.1,.int .i64 p.2]:=by rw [hw0];exact Z7.new _ _ _
 by_cases hn:ps.length=3
 · have bW:=Ka ps hn A c w0 (((hs.sl hP).below hb0).more hb0.size);unfold Yi at bW;have HF:=hide bW;have HO:Oo ps p=(Yq (ZX ps 0) (ZX ps 1) (ZX ps 2) p).sign*(Zw (ZX ps 0) (ZX ps 1) (ZX ps 2)).sign:=(by unfold Oo;rw [if_pos hn]);have HE:Vj ps.length=[(6,0,0)]:=(by unfold Vj;rw [if_pos hn]);rw [HO,HE];have HT:=hide ht;have HP:=hide hP;have HW:=hide hw;have Lg:=hide hps;have HG:=hide hg0;have eD:=hide hp;clear HO HE ht hP hw hps hs hn hg0 bW hp;go_enter func373,ntmps373;go_wp2_with fail;rw [<- hw0];have HW0:=hide hw0;clear hw0;refine HF.out.mono ?_;rintro e w1 ⟨rfl,hb1⟩;obtain ⟨w2,hw2⟩:=eE (w1.alloc (.cells #[.int .i64 (ZX ps 0).1,.int .i64 (ZX ps 0).2,.int .i64 (ZX ps 1).1,.int .i64 (ZX ps 1).2,.int .i64 (ZX ps 2).1,.int .i64 (ZX ps 2).2] 416));have Vx:=bE hw2;have hb2:Below w.heap.size w w2:=Z8 (Z8 hb0 hb1) Vx;have B2:Z7 w2 w1.heap.size 416 #[.int .i64 (ZX ps 0).1,.int .i64 (ZX ps 0).2,.int .i64 (ZX ps 1).1,.int .i64 (ZX ps 1).2,.int .i64 (ZX ps 2).1,.int .i64 (ZX ps 2).2]:=(by rw [hw2];exact Z7.new _ _ _);have C2:Z7 w2 w.heap.size 41 #[.int .i64 p.1,.int .i64 p.2]:=(B0.step hb1).step Vx;have hm:∀ k,More P w w2 k->k<w2.heap.size:=Yr HP.out hb2;have RY:=hide (VR (More P w w2) t es 6 0 0 w2 hm (HT.out.more hb2) (by omega) (by unfold Zg;omega));have HI:Hid (More P w w2 w1.heap.size):=.inr ⟨(Z8 hb0 hb1).size,B2.lt⟩;have HI0:Hid (More P w w2 w.heap.size):=.inr ⟨Nat.le_refl _,C2.lt⟩;have HB2:=hide hb2;clear hb2 hb1 hm HF Vx B0 hb0;go_wp2_with fail;rw [<- hw2];clear hw2;refine RY.out.mono ?_;rintro e w3 ⟨rfl,hk3,_,ht3⟩;have B3:=B2.kept hk3 HI.out;have C3:=C2.kept hk3 HI0.out;have z0:=B3.q0 rfl;have z1:=B3.q1 rfl;have z2:=B3.q2 rfl;have z3:=B3.q3 rfl;have z4:=B3.q4 rfl;have z5:=B3.q5 rfl;have z6:=C3.q0 rfl;have z7:=C3.q1 rfl;dsimp at z0 z1 z2 z3 z4 z5 z6 z7;have IZ:Z9 P w w3:=Z9.more HB2.out HP.out hk3;have HCS:=hide (oH (ZX ps 0) (ZX ps 1) (ZX ps 2) p (Lg.out.at_ _) (Lg.out.at_ _) (Lg.out.at_ _) eD.out w3 (HW.out.kept IZ HG.out));have HK:=hide IZ;have HT3:=hide (ht3.mono (R:=P) fun k h=>.inl h);clear hk3 ht3 B2 B3 IZ RY C2 C3;go_wp2_with fail;refine HCS.out.mono ?_;rintro e w4 ⟨rfl,hb4⟩;clear z0 z1 z2 z3 z4 z5 z6 z7;go_wp2;go_ret;exact ⟨rfl,HK.out.trans (Z9.of_below hb4 (fun k hk=>Nat.lt_of_lt_of_le (HP.out k hk) HK.out.size)),HT3.out.step hb4⟩
 · have HF:=hide (J9 ps hn A c w0);have HO:Oo ps p=-1:=(by unfold Oo;rw [if_neg hn]);have HE:Vj ps.length=[]:=(by unfold Vj;rw [if_neg hn]);rw [HO,HE,List.append_nil];have HT:=hide ht;have HP:=hide hP;clear HO HE ht hP hw hps hs hn hg0 hp;go_enter func373,ntmps373;go_wp2_with fail;rw [<- hw0];have HW0:=hide hw0;clear hw0;refine HF.out.mono ?_;rintro e w1 ⟨rfl,hb1⟩;go_wp2;go_ret;exact ⟨rfl,Z9.of_below (Z5 (Z8 hb0 hb1) _) HP.out,HT.out.step (Z5 (Z8 hb0 hb1) _)⟩
end
end
section
open Go.RowKit Go.Shelf
def bg(v:Int)(ps:List Pt):Bool:=if v=0 then SN ps else Un ps
def Ry(v:Int)(n:Nat):List Ev:=if v=0 then Vk n else RX n (List.range (Zy n))
def rgL(v:Int)(ps:List Pt)(p:Pt):Int:=if v=0 then Oo ps p else Fx ps p
def Qm(v:Int)(n:Nat):List Ev:=if v=0 then Vj n else Yo (List.range (Zy n))
theorem JV(n:Nat):Zy n<=n/\Zy n<=64:=by unfold Zy;split <;> omega
theorem OT(v:Int)(n:Nat):(Ry v n).length<=4096:=by
 unfold Ry;split
 · unfold Vk;split <;> simp
 · have h:=TB n (List.range (Zy n));rw [List.length_range] at h;have he:=JV n
   by_cases h64:n<=64
   · exact Nat.le_trans h (Nat.mul_le_mul he.2 h64)
   · have h0:Zy n=0:=(by unfold Zy;rw [if_neg (by omega)]);rw [h0] at h ⊢;omega
theorem FK(v:Int)(n:Nat):(Qm v n).length<=64:=by
 unfold Qm;split
 · unfold Vj;split <;> simp
 · unfold Yo;rw [List.length_map,List.length_range];exact (JV n).2
theorem Cu(d : Bool)(v : Int)(A : Option Addr)(n c : Nat)(w : World): (method 519 379 (.agg #[.bool d, .int .i64 v, .slice A n c]) "geofence/fence.valid").run prog w = .ok (372, .agg #[.bool d, .int .i64 v, .slice A n c]) w := by kernel_rfl
theorem Fy(d : Bool)(v : Int)(A : Option Addr)(n c : Nat)(w : World): (method 519 380 (.agg #[.bool d, .int .i64 v, .slice A n c]) "geofence/fence.valid").run prog w = .ok (379, .agg #[.bool d, .int .i64 v, .slice A n c]) w := by kernel_rfl
theorem MK(d : Bool)(v : Int)(A : Option Addr)(n c : Nat)(w : World): (method 519 379 (.agg #[.bool d, .int .i64 v, .slice A n c]) "geofence/fence.locate").run prog w = .ok (370, .agg #[.bool d, .int .i64 v, .slice A n c]) w := by kernel_rfl
theorem OL(d : Bool)(v : Int)(A : Option Addr)(n c : Nat)(w : World): (method 519 380 (.agg #[.bool d, .int .i64 v, .slice A n c]) "geofence/fence.locate").run prog w = .ok (377, .agg #[.bool d, .int .i64 v, .slice A n c]) w := by kernel_rfl
section
variable (P:Nat->Prop)(t:Option (Nat × Nat))(es:List Ev)(d:Bool)(v:Int)(ps:List Pt)(hps:LW ps)(hn:ps.length<=10000)(A:Option Addr)(c:Nat)(w:World)(hP:∀ k,P k->k<w.heap.size)(hg0:P 8)(hs:Wp w P A (Zl ps))(hw:MW w)(ht:Tp w P t es)(hl:es.length<=900000)
include hps hn hP hg0 hs hw ht hl
omit hn in
theorem y8:Calls prog 372 #[.agg #[.bool d,.int .i64 v,.slice A ps.length c],.pointer (ZG t)] w fun e w'=>e=.returned (.int .u64 (ZH (SN ps)))/\Z9 P w w'/\Tp w' P t (es++Vk ps.length):=by
 obtain ⟨w0,hw0⟩:=eE (w.alloc (.cells #[.bool d,.int .i64 v,.slice A ps.length c] 379));have hb0:=bE hw0;have hk0:Z9 P w w0:=Z9.of_below hb0 hP;have HC:=hide (IV P t es ps hps A c w0 (fun k hk=>Nat.lt_of_lt_of_le (hP k hk) hb0.size) hg0 (hs.kept hk0) (hw.step hb0) (ht.step hb0) hl);have HK:=hide hk0;clear hps hP hg0 hs hw ht hk0 hb0;go_enter func372,ntmps372;go_wp2_with fail;rw [<- hw0];clear hw0;refine HC.out.mono ?_;rintro e w1 ⟨rfl,hk1,ht1⟩;go_wp2;go_ret;exact ⟨rfl,HK.out.trans hk1,ht1⟩
theorem AB:Calls prog 379 #[.agg #[.bool d,.int .i64 v,.slice A ps.length c],.pointer (ZG t)] w fun e w'=>e=.returned (.int .u64 (ZH (Un ps)))/\Z9 P w w'/\Tp w' P t (es++RX ps.length (List.range (Zy ps.length))):=by
 obtain ⟨w0,hw0⟩:=eE (w.alloc (.cells #[.bool d,.int .i64 v,.slice A ps.length c] 380));have hb0:=bE hw0;have hk0:Z9 P w w0:=Z9.of_below hb0 hP;have HC:=hide (Iz P t es ps hps hn A c w0 (fun k hk=>Nat.lt_of_lt_of_le (hP k hk) hb0.size) hg0 (hs.kept hk0) (hw.step hb0) (ht.step hb0) hl);have HK:=hide hk0;clear hps hP hg0 hs hw ht hk0 hb0;go_enter func379,ntmps379;go_wp2_with fail;rw [<- hw0];clear hw0;refine HC.out.mono ?_;rintro e w1 ⟨rfl,hk1,ht1⟩;go_wp2;go_ret;exact ⟨rfl,HK.out.trans hk1,ht1⟩
omit hn in
theorem Dl(p:Pt)(hp:PJ p):Calls prog 370 #[.agg #[.bool d,.int .i64 v,.slice A ps.length c],.pointer (ZG t),.agg #[.int .i64 p.1,.int .i64 p.2]] w fun e w'=>e=.returned (.int .i64 (Oo ps p))/\Z9 P w w'/\Tp w' P t (es++Vj ps.length):=by
 obtain ⟨w0,hw0⟩:=eE ((w.alloc (.cells #[.bool d,.int .i64 v,.slice A ps.length c] 379)).alloc (.cells #[.int .i64 p.1,.int .i64 p.2] 41));have hb0:=bF hw0;have hk0:Z9 P w w0:=Z9.of_below hb0 hP;have HC:=hide (JR P t es ps hps A c w0 (fun k hk=>Nat.lt_of_lt_of_le (hP k hk) hb0.size) hg0 (hs.kept hk0) (hw.step hb0) (ht.step hb0) hl p hp);have HK:=hide hk0;clear hps hP hg0 hs hw ht hk0 hb0 hp;go_enter func370,ntmps370;go_wp2_with fail;rw [<- hw0];clear hw0;refine HC.out.mono ?_;rintro e w1 ⟨rfl,hk1,ht1⟩;go_wp2;go_ret;exact ⟨rfl,HK.out.trans hk1,ht1⟩
theorem Et(p:Pt)(hp:PJ p):Calls prog 377 #[.agg #[.bool d,.int .i64 v,.slice A ps.length c],.pointer (ZG t),.agg #[.int .i64 p.1,.int .i64 p.2]] w fun e w'=>e=.returned (.int .i64 (Fx ps p))/\Z9 P w w'/\Tp w' P t (es++Yo (List.range (Zy ps.length))):=by
 obtain ⟨w0,hw0⟩:=eE ((w.alloc (.cells #[.bool d,.int .i64 v,.slice A ps.length c] 380)).alloc (.cells #[.int .i64 p.1,.int .i64 p.2] 41));have hb0:=bF hw0;have hk0:Z9 P w w0:=Z9.of_below hb0 hP;have HC:=hide (Ky P t es ps hps hn A c p hp w0 (fun k hk=>Nat.lt_of_lt_of_le (hP k hk) hb0.size) hg0 (hs.kept hk0) (hw.step hb0) (ht.step hb0) hl);have HK:=hide hk0;clear hps hP hg0 hs hw ht hk0 hb0 hp;go_enter func377,ntmps377;go_wp2_with fail;rw [<- hw0];clear hw0;refine HC.out.mono ?_;rintro e w1 ⟨rfl,hk1,ht1⟩;go_wp2;go_ret;exact ⟨rfl,HK.out.trans hk1,ht1⟩
end
def vC(w:World)(P:Nat->Prop)(gs:List Gr):Prop:=∀ g∈gs,g.1.n=g.2.length/\Wp w P g.1.A (Zl g.2)/\LW g.2/\g.2.length<=10000
theorem vC.kept{w w':World}{P:Nat->Prop}{gs:List Gr}(h:vC w P gs)(hk:Z9 P w w'):vC w' P gs:=fun g hg=>⟨(h g hg).1,(h g hg).2.1.kept hk,(h g hg).2.2⟩
def WA:Nat->List Gr->List Ev
 | _,[]=>[]
 | i,g::gs=>(7,(i:Int),0)::(Ry g.1.v g.2.length++WA (i+1) gs)
theorem GJ:∀ (i:Nat) (l:List Gr) (g:Gr),WA i (l++[g])=WA i l++((7,((i+l.length:Nat):Int),0)::Ry g.1.v g.2.length)
 | i,[],g=>by simp [WA]
 | i,x::l,g=>by
   have h:=GJ (i+1) l g;have e:i+1+l.length=i+(x::l).length:=(by simp;omega);rw [List.cons_append,WA,h,WA,e];simp
theorem oW{gs:List Gr}{k:Nat}{g:Gr}(h:gs[k]?=some g):WA 0 (gs.take (k+1))=WA 0 (gs.take k)++((7,(k:Int),0)::Ry g.1.v g.2.length):=by
 have hlt:k<gs.length:=(List.getElem?_eq_some_iff.1 h).1;rw [List.take_add_one,h];show WA 0 (gs.take k++[g])=_;rw [GJ,List.length_take,Nat.min_eq_left (Nat.le_of_lt hlt),Nat.zero_add]
theorem Q9:∀ (i:Nat) (l:List Gr),(WA i l).length<=4097*l.length
 | i,[]=>by simp [WA]
 | i,x::l=>by
   have h:=Q9 (i+1) l;have h2:=OT x.1.v x.2.length;simp only [WA,List.length_cons,List.length_append];omega
def ED(gs:List Gr):Bool:=gs.foldl (fun b g=>b && bg g.1.v g.2) true
theorem oZ{gs:List Gr}{k:Nat}{g:Gr}(h:gs[k]?=some g):ED (gs.take (k+1))=(ED (gs.take k) && bg g.1.v g.2):=by
 unfold ED;rw [List.take_add_one,h];simp
def YN(gs:List Gr):Bool:=decide (YD (gs.map (·.1))=0) && ED gs
def Zp(gs:List Gr):List Ev:=if YD (gs.map (·.1))=0 then WA 0 gs else []
theorem aC(w:World):Calls prog 262 #[.int .u64 1] w fun e w'=>e=.returned (.int .u64 (ZH true))/\w=w':=by
 have h:=PV 1 (by omega) (by omega) w;rw [show decide ((1:Int) % 2=1)=true from by decide] at h;exact h
theorem UU(P:Nat->Prop)(t:Option (Nat × Nat))(es:List Ev)(gs:List Gr)(GA:Option Addr)(gc:Nat)(w:World)(hP:∀ k,P k->k<w.heap.size)(hg0:P 8)(hs:Wp w P GA (rgCells (gs.map (·.1))))(hgs:vC w P gs)(hw:MW w)(ht:Tp w P t es)(hl:es.length<=600000):
 Calls prog 195 #[.pointer (ZG t),.slice GA gs.length gc] w fun e w'=>e=.returned (.int .u64 (ZH (YN gs)))/\Z9 P w w'/\Tp w' P t (es++Zp gs):=by
 have Jo:=PG (gs.map (·.1)) GA gc w (hs.sl hP);rw [List.length_map] at Jo;have HC:=hide Jo;clear Jo
 by_cases hf:YD (gs.map (·.1))=0
 · have zcn:gs.length<=64:=by
    unfold YD at hf;split at hf
    · omega
    · rename_i h;rw [List.length_map] at h;omega
   have e1:YN gs=ED gs:=(by unfold YN;rw [decide_eq_true hf];rfl);have e2:Zp gs=WA 0 gs:=(by unfold Zp;rw [if_pos hf]);rw [e1,e2];rw [hf] at HC;have HP:=hide hP;have Jp:=hide hg0;have HS:=hide hs;have NU:=hide hgs;have HW:=hide hw;have HT:=hide ht;have HO:=hide (fun w=>aC w);clear hf e1 e2 hP hg0 hs hgs hw ht;go_enter func195,ntmps195;go_wp2_with fail;refine HC.out.mono ?_;rintro e w1 ⟨rfl,hb1⟩;have HB1:=hide hb1;clear hb1 HC;go_wp2_with fail;refine (HO.out w1).mono ?_;rintro e w2 ⟨rfl,rfl⟩;go_wp2_with fail
   go_loopw [5,14] (fun m i wr=>∃ k:Nat,k<=gs.length/\m=.int .u64 (ZH (ED (gs.take k)))/\i=.int .i64 k/\Z9 P w wr/\Tp wr P t (es++WA 0 (gs.take k)))
    (fun _ i _=>gs.length - (intOf i).toNat)
   case atStart=>exact ⟨0,Nat.zero_le _,rfl,rfl,Z9.of_below HB1.out HP.out,by simpa [WA] using HT.out.step HB1.out⟩
   case round =>
    obtain ⟨k,hk,rfl,rfl,hkp,htp⟩:=hrel;have Ma:∀ j,P j->j<wr.heap.size:=fun j hj=>Nat.lt_of_lt_of_le (HP.out j hj) hkp.size
    by_cases hlt:k<gs.length
    · obtain ⟨g,hg⟩:∃ g,gs[k]?=some g:=⟨_,List.getElem?_eq_getElem hlt⟩;obtain ⟨hgn,iX,iY,hpn⟩:=NU.out g (List.mem_of_getElem? hg);have hr:(gs.map (·.1))[k]?=some g.1:=(by rw [List.getElem?_map,hg];rfl);obtain ⟨b,off,rfl,hB,c0,c1,c2⟩:=((HS.out.kept hkp).sl Ma).rg hr;have HE:=hide (oW hg);have HK:=hide (oZ hg);have Nv:((k:Nat):Int)<((gs.length:Nat):Int):=(by omega);obtain ⟨⟨d,v,A,n,c⟩,ps⟩:=g;dsimp only at *;subst hgn;clear hg hr
      have WL:Hid (∀ w8,Z9 P w w8->Tp w8 P t (es++WA 0 (gs.take k)++[(7,(k:Int),0)]++Ry v ps.length)->Z9 P w w8/\Tp w8 P t (es++WA 0 (gs.take (k+1)))):=hide fun w8 h1 h2=>⟨h1,by
       rw [HE.out];rw [show es++(WA 0 (gs.take k)++((7,(k:Int),0)::Ry v ps.length))=es++WA 0 (gs.take k)++[(7,(k:Int),0)]++Ry v ps.length by simp]
       exact h2⟩
      have hle0:(es++WA 0 (gs.take k)).length<=890000:=by
       have:=Q9 0 (gs.take k);rw [List.length_take] at this;rw [List.length_append];omega
      have hle:(es++WA 0 (gs.take k)++[(7,(k:Int),0)]).length<=900000:=by
       rw [List.length_append];simp only [List.length_singleton];omega
      obtain ⟨w3,hw3⟩:=eE (wr.alloc (.cells #[.bool d,.int .i64 v,.slice A ps.length c] 38));have hb3:=bE hw3;have B3:Z7 w3 wr.heap.size 38 #[.bool d,.int .i64 v,.slice A ps.length c]:=(by rw [hw3];exact Z7.new _ _ _);have HI:Hid (More P wr w3 wr.heap.size):=.inr ⟨Nat.le_refl _,B3.lt⟩;have RY:=hide (VR (More P wr w3) t (es++WA 0 (gs.take k)) 7 (k:Int) 0 w3 (Yr Ma hb3) (htp.more hb3) (by omega) (by unfold Zg;omega));have HB3:=hide hb3;have mP:=hide hkp;have sS:=hide Ma;clear HE hle0 hb3 htp hkp Ma hB;go_wp2_with fail;rw [<- hw3];clear hw3;refine RY.out.mono ?_;rintro e w4 ⟨rfl,hk4,_,I6⟩;have B4:=B3.kept hk4 HI.out;have z0:w4.cell? ⟨wr.heap.size,0,none⟩=some (.bool d):=B4.q0 rfl;have z1:w4.cell? ⟨wr.heap.size,1,none⟩=some (.int .i64 v):=B4.q1 rfl;have z2:w4.cell? ⟨wr.heap.size,2,none⟩=some (.slice A ps.length c):=B4.q2 rfl;have Sb:Z9 P w w4:=mP.out.trans (Z9.more HB3.out sS.out hk4);have Rf:=I6.mono (R:=P) fun k h=>.inl h;have zS:∀ j,P j->j<w4.heap.size:=fun j hj=>Nat.lt_of_lt_of_le (HP.out j hj) Sb.size;clear hk4 I6 B3 B4 RY HI HB3 mP sS c0 c1 c2
      by_cases hv:v=0
      · have Ud:Hid (bg v ps=SN ps):=hide (if_pos hv);have Qa:Ry v ps.length=Vk ps.length:=if_pos hv;rw [Qa] at WL;rw [Ud.out] at HK;subst hv;clear Qa Ud;go_wp2_with fail;refine (Vq d A ps.length c w4).mono ?_;rintro e w5 ⟨rfl,hb5⟩;have hk5:Z9 P w w5:=Sb.trans (Z9.of_below hb5 zS);have HV:=hide (y8 P t (es++WA 0 (gs.take k)++[(7,(k:Int),0)]) d 0 ps iY A c w5 (fun j hj=>Nat.lt_of_lt_of_le (zS j hj) hb5.size) Jp.out (iX.kept (hk5)) (HW.out.kept hk5 Jp.out) (Rf.step hb5) hle);clear hb5 Sb zS Rf z0 z1 z2;have hmr:=Cu;go_wp2_with fail;refine HV.out.mono ?_;rintro e w6 ⟨rfl,Uh,BM⟩;have hand:=Lx (ED (gs.take k)) (SN ps);rw [<- HK.out] at hand;have Ue:=hide (WL.out w6 (hk5.trans Uh) BM);clear hk5 Uh BM HV hmr WL;go_wp2;go_roundw
        case rel=>exact ⟨k+1,by omega,rfl,by go_num,Ue.out⟩
        case measure=>simp [intOf];omega
      · have Ud:Hid (bg v ps=Un ps):=hide (if_neg hv);have Qa:Ry v ps.length=RX ps.length (List.range (Zy ps.length)):=if_neg hv;rw [Qa] at WL;rw [Ud.out] at HK;clear Qa Ud;go_wp2_with fail;refine (VZ d v (by simpa using hv) A ps.length c w4).mono ?_;rintro e w5 ⟨rfl,hb5⟩;have hk5:Z9 P w w5:=Sb.trans (Z9.of_below hb5 zS);have HV:=hide (AB P t (es++WA 0 (gs.take k)++[(7,(k:Int),0)]) d v ps iY hpn A c w5 (fun j hj=>Nat.lt_of_lt_of_le (zS j hj) hb5.size) Jp.out (iX.kept (hk5)) (HW.out.kept hk5 Jp.out) (Rf.step hb5) hle);clear hb5 Sb zS Rf z0 z1 z2;have hmr:=Fy;go_wp2_with fail;refine HV.out.mono ?_;rintro e w6 ⟨rfl,Uh,BM⟩;have hand:=Lx (ED (gs.take k)) (Un ps);rw [<- HK.out] at hand;have Ue:=hide (WL.out w6 (hk5.trans Uh) BM);clear hk5 Uh BM HV hmr WL;go_wp2;go_roundw
        case rel=>exact ⟨k+1,by omega,rfl,by go_num,Ue.out⟩
        case measure=>simp [intOf];omega
    · obtain rfl:k=gs.length:=(by omega);rw [List.take_length] at htp ⊢;go_wp2;go_ret;exact ⟨rfl,hkp,htp⟩
 · have e1:YN gs=false:=(by unfold YN;rw [decide_eq_false hf];rfl);have e2:Zp gs=[]:=(by unfold Zp;rw [if_neg hf]);rw [e1,e2,List.append_nil];have HP:=hide hP;have HT:=hide ht;obtain ⟨z,hz⟩:=eE (YD (gs.map (·.1)));rw [<- hz] at HC hf;clear e1 e2 hP hg0 hs hgs hw ht hz;go_enter func195,ntmps195;go_wp2_with fail;refine HC.out.mono ?_;rintro e w1 ⟨rfl,hb1⟩;go_wp2;go_ret;exact ⟨rfl,Z9.of_below hb1 HP.out,HT.out.step hb1⟩
end
section
open Go.RowKit Go.Shelf
def Xd:Nat->List Gr->List Ev
 | _,[]=>[]
 | i,g::gs=>(7,(i:Int),1)::(Qm g.1.v g.2.length++Xd (i+1) gs)
theorem GI:∀ (i:Nat) (l:List Gr) (g:Gr),Xd i (l++[g])=Xd i l++((7,((i+l.length:Nat):Int),1)::Qm g.1.v g.2.length)
 | i,[],g=>by simp [Xd]
 | i,x::l,g=>by
   have h:=GI (i+1) l g;have e:i+1+l.length=i+(x::l).length:=(by simp;omega);rw [List.cons_append,Xd,h,Xd,e];simp
theorem oQ{gs:List Gr}{k:Nat}{g:Gr}(h:gs[k]?=some g):Xd 0 (gs.take (k+1))=Xd 0 (gs.take k)++((7,(k:Int),1)::Qm g.1.v g.2.length):=by
 have hlt:k<gs.length:=(List.getElem?_eq_some_iff.1 h).1;rw [List.take_add_one,h];show Xd 0 (gs.take k++[g])=_;rw [GI,List.length_take,Nat.min_eq_left (Nat.le_of_lt hlt),Nat.zero_add]
theorem Q5:∀ (i:Nat) (l:List Gr),(Xd i l).length<=65*l.length
 | i,[]=>by simp [Xd]
 | i,x::l=>by
   have h:=Q5 (i+1) l;have h2:=FK x.1.v x.2.length;simp only [Xd,List.length_cons,List.length_append];omega
def PU(p:Pt)(gs:List Gr):Bool × Bool:=gs.foldl (fun s g=>bif g.1.d then (s.1,s.2 || !decide (rgL g.1.v g.2 p<0)) else (s.1 || !decide (rgL g.1.v g.2 p<0),s.2)) (false,false)
theorem qy{gs:List Gr}{k:Nat}{g:Gr}(p:Pt)(h:gs[k]?=some g):PU p (gs.take (k+1)) =
 (bif g.1.d then ((PU p (gs.take k)).1,(PU p (gs.take k)).2 || !decide (rgL g.1.v g.2 p<0)) else ((PU p (gs.take k)).1 || !decide (rgL g.1.v g.2 p<0),(PU p (gs.take k)).2)):=by
 unfold PU;rw [List.take_add_one,h];simp
def WH(gs:List Gr)(p:Pt):Bool:=decide (YD (gs.map (·.1))=0) && ((PU p gs).1 && !(PU p gs).2)
def YI(gs:List Gr):List Ev:=if YD (gs.map (·.1))=0 then Xd 0 gs else []
theorem FR(a b:Bool):-1<=KY a b/\KY a b<=1:=by cases a <;> cases b <;> decide
theorem zvi(v:Int)(ps:List Pt)(p:Pt):-1<=rgL v ps p/\rgL v ps p<=1:=by
 unfold rgL;split
 · unfold Oo;split
   · rcases W9 (Yq (ZX ps 0) (ZX ps 1) (ZX ps 2) p) with h|h|h <;> rcases W9 (Zw (ZX ps 0) (ZX ps 1) (ZX ps 2)) with h'|h'|h' <;> rw [h,h'] <;> decide
   · decide
 · exact FR _ _
theorem yD(a b:Bool):bits BinOp.andNot IntKind.u64 (ZH a) (ZH b)=ZH (a && !b):=by cases a <;> cases b <;> decide
theorem Z9.mono'{w0 wk:World}{P R:Nat->Prop}{b:Nat}(h:Z9 R w0 wk)(hPR:∀ k,P k->R k)(hb:¬ P b)(o:Nat)(u:Value):Z9 P w0 (wk.setCell ⟨b,o,none⟩ u) :=
 (h.mono hPR).trans (Z9.setCell hb o u wk)
theorem Vw(P:Nat->Prop)(t:Option (Nat × Nat))(es:List Ev)(gs:List Gr)(GA:Option Addr)(gc:Nat)(p:Pt)(hp:PJ p)(w:World)(hP:∀ k,P k->k<w.heap.size)(hg0:P 8)(hs:Wp w P GA (rgCells (gs.map (·.1))))(hgs:vC w P gs)(hw:MW w)(ht:Tp w P t es)(hl:es.length<=890000):
 Calls prog 197 #[.pointer (ZG t),.slice GA gs.length gc,.agg #[.int .i64 p.1,.int .i64 p.2]] w fun e w'=>e=.returned (.int .u64 (ZH (WH gs p)))/\Z9 P w w'/\Tp w' P t (es++YI gs):=by
 obtain ⟨w0,hw0⟩:=eE (w.alloc (.cells #[.int .i64 p.1,.int .i64 p.2] 41));obtain ⟨pb,hpb⟩:=eE w.heap.size;have hb0:=bE hw0;have P0:Z7 w0 pb 41 #[.int .i64 p.1,.int .i64 p.2]:=by rw [hw0,hpb];exact Z7.new _ _ _
 have Jo:=PG (gs.map (·.1)) GA gc w0 (((hs.sl hP).below hb0).more hb0.size);rw [List.length_map] at Jo;have HC:=hide Jo;clear Jo
 by_cases hf:YD (gs.map (·.1))=0
 · have zcn:gs.length<=64:=by
    unfold YD at hf;split at hf
    · omega
    · rename_i h;rw [List.length_map] at h;omega
   have e1:WH gs p=((PU p gs).1 && !(PU p gs).2):=(by unfold WH;rw [decide_eq_true hf];rfl);have e2:YI gs=Xd 0 gs:=(by unfold YI;rw [if_pos hf]);rw [e1,e2];rw [hf] at HC;have HP:=hide hP;have Jp:=hide hg0;have HS:=hide hs;have NU:=hide hgs;have HW:=hide hw;have HT:=hide ht;have HPJ:=hide hp;clear hf e1 e2 hP hg0 hs hgs hw ht hp;refine (callsIn_wide (n:=6)).1 ?_;refine callsIn_of_wp func197 rfl trivial ?_ rfl;simp only [ntmps197,List.size_toArray,List.length_cons,List.length_nil,Nat.reduceAdd,Nat.reduceSub,Array.replicate_succ,Array.replicate_zero,List.push_toArray,List.append_toArray,List.nil_append,List.cons_append];gi_wp2_with fail;rw [<- hw0,<- hpb];have HW0:=hide hw0;clear hw0;refine ⟨trivial,?_⟩;refine (callsIn_wide.2 HC.out).mono ?_;rintro e w1 ⟨rfl,hb1⟩;have zas:=hide (Z8 hb0 hb1);have P1:=P0.step hb1;clear hb1 HC hb0;obtain ⟨W2,hW2⟩:=eE (w1.alloc (.cells #[.int .u64 0,.int .u64 0] 311));obtain ⟨ab,hab⟩:=eE w1.heap.size;have hB2:Below w.heap.size w W2:=(by rw [hW2];exact Z5 zas.out _);have A2:Z7 W2 ab 311 #[.int .u64 (ZH false),.int .u64 (ZH false)]:=(by rw [hW2,hab];exact Z7.new _ _ _);have P2:Z7 W2 pb 41 #[.int .i64 p.1,.int .i64 p.2]:=(by rw [hW2];exact P1.alloc _);have hpa:pb<ab:=(by rw [hab];exact P1.lt);have bY:Hid (More P w W2 pb):=.inr ⟨by omega,P2.lt⟩;have sP:Hid (More P w W2 ab):=.inr ⟨by omega,A2.lt⟩;have dX:Hid (¬ P ab):=fun h=>by have:=HP.out _ h;omega
   have HPM:=hide (Yr HP.out hB2);have NV:=hide (Z9.of_below hB2 HP.out);have HT2:=hide (HT.out.more hB2);have hsz2:ab<W2.heap.size:=A2.lt;have Yv:prog.follows .mixedOrders=true:=(by kernel_rfl);have HPB:=hide hpb;have nD:=hide hab;have HWW:=hide hW2;clear P1 hB2 hpb;gi_wp2_with fail;rw [<- hW2,<- hab];clear hW2 hab
   gi_loopw [16] (fun i wr=>∃ (k:Nat) (s0 s1:Bool),k<=gs.length/\i=.int .i64 k/\Hid (PU p (gs.take k)=(s0,s1))/\Z7 wr ab 311 #[.int .u64 (ZH s0),.int .u64 (ZH s1)]/\Z7 wr pb 41 #[.int .i64 p.1,.int .i64 p.2]/\Z9 P W2 wr/\Tp wr (More P w W2) t (es++Xd 0 (gs.take k)))
    (fun i _=>gs.length - (intOf i).toNat)
   case atStart=>exact ⟨0,false,false,Nat.zero_le _,rfl,hide rfl,A2,P2,Z9.refl _ _,by simpa [Xd] using HT2.out⟩
   case round =>
    clear A2 P2;obtain ⟨k,s0,s1,hk,rfl,hst,Ar,Pr,hkp,htp⟩:=hrel
    by_cases hlt:k<gs.length
    · obtain ⟨g,hg⟩:∃ g,gs[k]?=some g:=⟨_,List.getElem?_eq_getElem hlt⟩;obtain ⟨hgn,iX,iY,hpn⟩:=NU.out g (List.mem_of_getElem? hg);have hr:(gs.map (·.1))[k]?=some g.1:=(by rw [List.getElem?_map,hg];rfl);obtain ⟨b,off,rfl,hB,c0,c1,c2⟩:=((HS.out.kept (NV.out.trans hkp)).sl (fun j hj=>Nat.lt_of_lt_of_le (HP.out j hj) (NV.out.trans hkp).size)).rg hr;have HE:=hide (oQ hg);have HM:=qy p hg;rw [hst.out] at HM;have HM:=hide HM;have Nv:((k:Nat):Int)<((gs.length:Nat):Int):=(by omega);obtain ⟨⟨d,v,A,n,c⟩,ps⟩:=g;dsimp only at *;subst hgn;clear hg hr;obtain ⟨L,hL⟩:=eE (rgL v ps p);have HLB:=hide (zvi v ps p);rw [<- hL] at HLB HM;have hrs:ab<wr.heap.size:=Ar.lt;have hle0:(es++Xd 0 (gs.take k)).length<=899000:=by
       have:=Q5 0 (gs.take k);rw [List.length_take] at this;rw [List.length_append];omega
      have hle:(es++Xd 0 (gs.take k)++[(7,(k:Int),1)]).length<=900000:=by
       rw [List.length_append];simp only [List.length_singleton];omega
      obtain ⟨w3,hw3⟩:=eE (wr.alloc (.cells #[.bool d,.int .i64 v,.slice A ps.length c] 38));have hb3:=bE hw3;have B3:Z7 w3 wr.heap.size 38 #[.bool d,.int .i64 v,.slice A ps.length c]:=(by rw [hw3];exact Z7.new _ _ _);have A3:=Ar.step hb3;have P3:=Pr.step hb3
      have Ma:∀ j,Also (More P w W2) wr.heap.size j->j<w3.heap.size:=fun j hj=>by
       have h1:=B3.lt;have h2:=A3.lt;rcases hj with hj|hj
       · have:=HPM.out j hj;have:=hkp.size;omega
       · subst hj;exact h1
      have ht3:Tp w3 (Also (More P w W2) wr.heap.size) t (es++Xd 0 (gs.take k)):=(htp.add fun j hj=>by
       rcases hj with hj|hj
       · exact .inl hj
       · exact .inr (by omega)).step hb3
      have RY:=hide (VR (Also (More P w W2) wr.heap.size) t (es++Xd 0 (gs.take k)) 7 (k:Int) 1 w3 Ma ht3 (by omega) (by unfold Zg;omega));have zgd:∀ j,P j->Also (More P w W2) wr.heap.size j:=fun j hj=>.inl (.inl hj);have Nf:=hide zgd;have IZ:Z9 P W2 w3:=hkp.trans (Z9.of_below hb3 fun j hj=>Nat.lt_of_lt_of_le (HP.out j hj) (NV.out.trans hkp).size);have zey:=hide IZ;have sS:=hide Ma
      have WL:Hid (∀ n0 n1:Bool,(bif d then (s0,s1 || !decide (L<0)) else (s0 || !decide (L<0),s1))=(n0,n1)->∀ w8,Z7 w8 ab 311 #[.int .u64 (ZH n0),.int .u64 (ZH n1)]->Z7 w8 pb 41 #[.int .i64 p.1,.int .i64 p.2]->Z9 P W2 w8->Tp w8 (More P w W2) t (es++Xd 0 (gs.take k)++[(7,(k:Int),1)]++Qm v ps.length) ->
       Hid (PU p (gs.take (k+1))=(n0,n1))/\Z7 w8 ab 311 #[.int .u64 (ZH n0),.int .u64 (ZH n1)]/\Z7 w8 pb 41 #[.int .i64 p.1,.int .i64 p.2]/\Z9 P W2 w8/\Tp w8 (More P w W2) t (es++Xd 0 (gs.take (k+1)))):=hide fun n0 n1 hn w8 h1 h2 h3 h4=>⟨hide (HM.out.trans hn),h1,h2,h3,by
       rw [HE.out];rw [show es++(Xd 0 (gs.take k)++((7,(k:Int),1)::Qm v ps.length))=es++Xd 0 (gs.take k)++[(7,(k:Int),1)]++Qm v ps.length by simp]
       exact h4⟩
      have HLE:=hide hle;have zfe:=hide iX;have zff:=hide iY;have HPN:=hide hpn;have sO:=hide hL;clear HE hle0 hle hb3 htp hkp Ma hB ht3 IZ zgd Ar Pr HM hst iX iY hpn hL;gi_wp2_with fail;rw [<- hw3];clear hw3;refine ⟨trivial,?_⟩;refine (callsIn_wide.2 RY.out).mono ?_;rintro e w4 ⟨rfl,hk4,_,I6⟩;have B4:=B3.kept hk4 (.inr rfl);have A4:=A3.kept hk4 (.inl sP.out);have P4:=P3.kept hk4 (.inl bY.out);have Sb:Z9 P W2 w4:=zey.out.trans (hk4.mono Nf.out);have nM:Hid (∀ j,Also (More P w W2) wr.heap.size j->j<w4.drew.heap.size):=fun j hj=>Nat.lt_of_lt_of_le (sS.out j hj) hk4.size;clear hk4 B3 A3 P3 RY zey sS c0 c1 c2
      by_cases hv:v=0
      · have hL2:L=Oo ps p:=sO.out.trans (if_pos hv);have Qa:Qm v ps.length=Vj ps.length:=if_pos hv;rw [Qa] at WL;have HLOC:=hide (fun (w5:World) (h1:Z9 P W2 w5) (h0:∀ j,Also (More P w W2) wr.heap.size j->j<w5.heap.size) (h2:Tp w5 (Also (More P w W2) wr.heap.size) t (es++Xd 0 (gs.take k)++[(7,(k:Int),1)]))=>Dl (Also (More P w W2) wr.heap.size) t (es++Xd 0 (gs.take k)++[(7,(k:Int),1)]) d 0 ps zff.out A c w5 h0 (Nf.out _ Jp.out) ((zfe.out.kept (NV.out.trans h1)).mono Nf.out) (HW.out.kept (NV.out.trans h1) Jp.out) h2 HLE.out p HPJ.out);rw [<- hL2] at HLOC;subst hv;clear Qa hL2 sO;cases d with
        | false =>
          have z0:w4.cell? ⟨wr.heap.size,0,none⟩=some (.bool false):=B4.q0 rfl;gi_wp2_with fail;clear z0;refine Yz 12 (S:=fun w'=>Z7 w' ab 311 #[.int .u64 (ZH s0),.int .u64 (ZH s1)]/\Z7 w' wr.heap.size 38 #[.bool false,.int .i64 0,.slice A ps.length c]/\Z7 w' pb 41 #[.int .i64 p.1,.int .i64 p.2]) Yv ?_;have hS:Z7 w4.drew ab 311 #[.int .u64 (ZH s0),.int .u64 (ZH s1)]/\Z7 w4.drew wr.heap.size 38 #[.bool false,.int .i64 0,.slice A ps.length c]/\Z7 w4.drew pb 41 #[.int .i64 p.1,.int .i64 p.2]:=⟨A4.drew,B4.drew,P4.drew⟩;refine' Z0 (i:=0) rfl ?VK hS ?Uz
          case VK =>
           intro w' hSw;go_simp;rfl
          simp only [Act.put,getElem_toArray,getElem_cons_zero,setIfInBounds_toArray,set_cons_zero,set_cons_succ];refine' Z0 (i:=1) rfl ?VL hS ?UA
          case VL =>
           intro w' hSw;go_simp;rfl
          simp only [Act.put,Z6];refine' Z0 (i:=2) rfl ?VN hS ?UC
          case VN =>
           intro w' hSw;obtain ⟨r1,r2,r3⟩:=hSw;have z1:w'.cell? ⟨ab,0,none⟩=some (.int .u64 (ZH s0)):=r1.q0 rfl;go_simp;rfl
          simp only [Act.put,Z6];refine' Z0 (i:=3) rfl ?U1 hS ?Tm
          case U1 =>
           intro w' hSw;obtain ⟨r1,r2,r3⟩:=hSw;have z1:=r2.q0 rfl;have z2:=r2.q1 rfl;have z3:=r2.q2 rfl;go_simp;rfl
          simp only [Act.put,Z6];refine' Z0 (i:=5) rfl ?Kq hS ?FI
          case Kq =>
           intro w' hSw;go_simp;rfl
          simp only [Act.put,Z6];refine' Z0 (i:=6) rfl ?Kr hS ?FJ
          case Kr =>
           intro w' hSw;obtain ⟨r1,r2,r3⟩:=hSw;have z1:=r3.q0 rfl;have z2:=r3.q1 rfl;go_simp;rfl
          simp only [Act.put,Z6];refine Zc (i:=4) (by kernel_rfl) rfl ?_;intro K hK;rw [if_pos (by rfl)];go_simp;refine ⟨trivial,?_⟩;refine (callsIn_wide.2 (Vq _ A ps.length c _)).mono ?_;rintro e w5 ⟨rfl,hb5⟩;have hS5:Z7 w5 ab 311 #[.int .u64 (ZH s0),.int .u64 (ZH s1)]/\Z7 w5 wr.heap.size 38 #[.bool false,.int .i64 0,.slice A ps.length c]/\Z7 w5 pb 41 #[.int .i64 p.1,.int .i64 p.2]:=⟨A4.drew.step hb5,B4.drew.step hb5,P4.drew.step hb5⟩;refine hK.out _ _ (fun _=>hS5) ?_;clear hK K;have hk5:Z9 (Also (More P w W2) wr.heap.size) w4 w5:=(Z9.drew _ _).trans (Z9.of_below hb5 nM.out);have Rf:=I6.drew.step hb5
          (try simp only [Act.put,Z6])
          have HV:=hide (HLOC.out w5 (Sb.trans (hk5.mono Nf.out)) (fun j hj=>Nat.lt_of_lt_of_le (nM.out j hj) hb5.size) Rf);have hmr:=MK;refine Zc (i:=7) (by kernel_rfl) rfl ?_;intro K hK;rw [if_pos (by rfl)];go_simp;refine ⟨trivial,?_⟩;refine (callsIn_wide.2 HV.out).mono ?_;rintro e w6 ⟨rfl,Uh,BM⟩;obtain ⟨a5,b5,p5⟩:=hS5;have RZ:Z7 w6 ab 311 #[.int .u64 (ZH s0),.int .u64 (ZH s1)]/\Z7 w6 wr.heap.size 38 #[.bool false,.int .i64 0,.slice A ps.length c]/\Z7 w6 pb 41 #[.int .i64 p.1,.int .i64 p.2]:=⟨a5.kept Uh (.inl sP.out),b5.kept Uh (.inr rfl),p5.kept Uh (.inl bY.out)⟩;refine hK.out _ _ (fun _=>RZ) ?_;clear hK K hmr HV;have Oc:=hide (Xq L (by have:=HLB.out;omega) (by have:=HLB.out;omega) w6)
          (try simp only [Act.put,Z6])
          refine Zc (i:=8) (by kernel_rfl) rfl ?_;intro K hK;rw [if_pos (by rfl)];go_simp;refine ⟨trivial,?_⟩;refine (callsIn_wide.2 Oc.out).mono ?_;rintro e w7 ⟨rfl,rfl⟩;refine hK.out _ _ (fun _=>RZ) ?_;clear hK K Oc;have hnt:=QK (decide (L<0));have xL:bits BinOp.xor IntKind.u64 (if IntKind.u64.signed=true then -1 else IntKind.u64.max) (ZH (decide (L<0)))=ZH (!decide (L<0)):=hnt;have hor:=Ro s0 (!decide (L<0))
          (try simp only [Act.put,Z6])
          refine' Z0 (i:=9) rfl ?zix RZ ?zem
          case zix =>
           intro w' hSw;go_simp;rfl
          simp only [Act.put,Z6];refine' Z0 (i:=10) rfl ?zrf RZ ?zjo
          case zrf =>
           intro w' hSw;go_simp;rfl
          simp only [Act.put,Z6];refine' Z0 (i:=11) rfl ?zrg RZ ?zjq
          case zrg =>
           intro w' hSw;go_simp;rfl
          simp only [Act.put,Z6];obtain ⟨a6,b6,p6⟩:=RZ;have c7:w6.cell? ⟨ab,0,none⟩=some (.int .u64 (ZH s0)):=a6.q0 rfl;have f7:=a6.frozen 0;refine Zc (i:=12) (by kernel_rfl) rfl ?_;intro K hK;rw [if_pos (by rfl)];go_simp;refine hK.out _ _ (fun h=>absurd rfl h) ?_;clear hK K;refine Yc (by kernel_rfl) ?_ _;have a7:Z7 (w6.setCell ⟨ab,0,none⟩ (.int .u64 (ZH (s0 || !decide (L<0))))) ab 311 #[.int .u64 (ZH (s0 || !decide (L<0))),.int .u64 (ZH s1)]:=a6.set 0 (.int .u64 (ZH (s0 || !decide (L<0))));have p7:=p6.far (p:=⟨ab,0,none⟩) (by dsimp only;omega) (.int .u64 (ZH (s0 || !decide (L<0))));have t7:=(BM.mono (R:=More P w W2) fun j h=>.inl h).set (b:=ab) sP.out 0 (.int .u64 (ZH (s0 || !decide (L<0))));have k7:Z9 P W2 (w6.setCell ⟨ab,0,none⟩ (.int .u64 (ZH (s0 || !decide (L<0))))):=(Sb.trans ((hk5.trans Uh).mono Nf.out)).mono' (fun j h=>h) dX.out 0 (.int .u64 (ZH (s0 || !decide (L<0))));have Ue:=hide (WL.out _ _ rfl _ a7 p7 k7 t7);clear a7 p7 t7 k7 a6 b6 p6 c7 f7 hS a5 b5 p5 hk5 Rf hb5 Uh BM Sb I6 A4 B4 P4 WL HLOC hnt xL hor;gi_wp2;go_roundw
          case rel=>exact ⟨k+1,_,_,by omega,by go_num,Ue.out⟩
          case measure=>simp [intOf];omega
        | true =>
          have z0:w4.cell? ⟨wr.heap.size,0,none⟩=some (.bool true):=B4.q0 rfl;gi_wp2_with fail;clear z0;refine Yz 12 (S:=fun w'=>Z7 w' ab 311 #[.int .u64 (ZH s0),.int .u64 (ZH s1)]/\Z7 w' wr.heap.size 38 #[.bool true,.int .i64 0,.slice A ps.length c]/\Z7 w' pb 41 #[.int .i64 p.1,.int .i64 p.2]) Yv ?_;have hS:Z7 w4.drew ab 311 #[.int .u64 (ZH s0),.int .u64 (ZH s1)]/\Z7 w4.drew wr.heap.size 38 #[.bool true,.int .i64 0,.slice A ps.length c]/\Z7 w4.drew pb 41 #[.int .i64 p.1,.int .i64 p.2]:=⟨A4.drew,B4.drew,P4.drew⟩;refine' Z0 (i:=0) rfl ?zqx hS ?zjg
          case zqx =>
           intro w' hSw;go_simp;rfl
          simp only [Act.put,getElem_toArray,getElem_cons_zero,setIfInBounds_toArray,set_cons_zero,set_cons_succ];refine' Z0 (i:=1) rfl ?zri hS ?zjs
          case zri =>
           intro w' hSw;go_simp;rfl
          simp only [Act.put,Z6];refine' Z0 (i:=2) rfl ?zrr hS ?zkb
          case zrr =>
           intro w' hSw;obtain ⟨r1,r2,r3⟩:=hSw;have z1:w'.cell? ⟨ab,1,none⟩=some (.int .u64 (ZH s1)):=r1.q1 rfl;go_simp;rfl
          simp only [Act.put,Z6];refine' Z0 (i:=3) rfl ?zsb hS ?zkl
          case zsb =>
           intro w' hSw;obtain ⟨r1,r2,r3⟩:=hSw;have z1:=r2.q0 rfl;have z2:=r2.q1 rfl;have z3:=r2.q2 rfl;go_simp;rfl
          simp only [Act.put,Z6];refine' Z0 (i:=5) rfl ?zsp hS ?zkz
          case zsp =>
           intro w' hSw;go_simp;rfl
          simp only [Act.put,Z6];refine' Z0 (i:=6) rfl ?zsx hS ?zlh
          case zsx =>
           intro w' hSw;obtain ⟨r1,r2,r3⟩:=hSw;have z1:=r3.q0 rfl;have z2:=r3.q1 rfl;go_simp;rfl
          simp only [Act.put,Z6];refine Zc (i:=4) (by kernel_rfl) rfl ?_;intro K hK;rw [if_pos (by rfl)];go_simp;refine ⟨trivial,?_⟩;refine (callsIn_wide.2 (Vq _ A ps.length c _)).mono ?_;rintro e w5 ⟨rfl,hb5⟩;have hS5:Z7 w5 ab 311 #[.int .u64 (ZH s0),.int .u64 (ZH s1)]/\Z7 w5 wr.heap.size 38 #[.bool true,.int .i64 0,.slice A ps.length c]/\Z7 w5 pb 41 #[.int .i64 p.1,.int .i64 p.2]:=⟨A4.drew.step hb5,B4.drew.step hb5,P4.drew.step hb5⟩;refine hK.out _ _ (fun _=>hS5) ?_;clear hK K;have hk5:Z9 (Also (More P w W2) wr.heap.size) w4 w5:=(Z9.drew _ _).trans (Z9.of_below hb5 nM.out);have Rf:=I6.drew.step hb5
          (try simp only [Act.put,Z6])
          have HV:=hide (HLOC.out w5 (Sb.trans (hk5.mono Nf.out)) (fun j hj=>Nat.lt_of_lt_of_le (nM.out j hj) hb5.size) Rf);have hmr:=MK;refine Zc (i:=7) (by kernel_rfl) rfl ?_;intro K hK;rw [if_pos (by rfl)];go_simp;refine ⟨trivial,?_⟩;refine (callsIn_wide.2 HV.out).mono ?_;rintro e w6 ⟨rfl,Uh,BM⟩;obtain ⟨a5,b5,p5⟩:=hS5;have RZ:Z7 w6 ab 311 #[.int .u64 (ZH s0),.int .u64 (ZH s1)]/\Z7 w6 wr.heap.size 38 #[.bool true,.int .i64 0,.slice A ps.length c]/\Z7 w6 pb 41 #[.int .i64 p.1,.int .i64 p.2]:=⟨a5.kept Uh (.inl sP.out),b5.kept Uh (.inr rfl),p5.kept Uh (.inl bY.out)⟩;refine hK.out _ _ (fun _=>RZ) ?_;clear hK K hmr HV;have Oc:=hide (Xq L (by have:=HLB.out;omega) (by have:=HLB.out;omega) w6)
          (try simp only [Act.put,Z6])
          refine Zc (i:=8) (by kernel_rfl) rfl ?_;intro K hK;rw [if_pos (by rfl)];go_simp;refine ⟨trivial,?_⟩;refine (callsIn_wide.2 Oc.out).mono ?_;rintro e w7 ⟨rfl,rfl⟩;refine hK.out _ _ (fun _=>RZ) ?_;clear hK K Oc;have hnt:=QK (decide (L<0));have xL:bits BinOp.xor IntKind.u64 (if IntKind.u64.signed=true then -1 else IntKind.u64.max) (ZH (decide (L<0)))=ZH (!decide (L<0)):=hnt;have hor:=Ro s1 (!decide (L<0))
          (try simp only [Act.put,Z6])
          refine' Z0 (i:=9) rfl ?zto RZ ?zly
          case zto =>
           intro w' hSw;go_simp;rfl
          simp only [Act.put,Z6];refine' Z0 (i:=10) rfl ?zyc RZ ?zmz
          case zyc =>
           intro w' hSw;go_simp;rfl
          simp only [Act.put,Z6];refine' Z0 (i:=11) rfl ?zyi RZ ?znf
          case zyi =>
           intro w' hSw;go_simp;rfl
          simp only [Act.put,Z6];obtain ⟨a6,b6,p6⟩:=RZ;have c7:w6.cell? ⟨ab,1,none⟩=some (.int .u64 (ZH s1)):=a6.q1 rfl;have f7:=a6.frozen 1;refine Zc (i:=12) (by kernel_rfl) rfl ?_;intro K hK;rw [if_pos (by rfl)];go_simp;refine hK.out _ _ (fun h=>absurd rfl h) ?_;clear hK K;refine Yc (by kernel_rfl) ?_ _;have a7:Z7 (w6.setCell ⟨ab,1,none⟩ (.int .u64 (ZH (s1 || !decide (L<0))))) ab 311 #[.int .u64 (ZH s0),.int .u64 (ZH (s1 || !decide (L<0)))]:=a6.set 1 (.int .u64 (ZH (s1 || !decide (L<0))));have p7:=p6.far (p:=⟨ab,1,none⟩) (by dsimp only;omega) (.int .u64 (ZH (s1 || !decide (L<0))));have t7:=(BM.mono (R:=More P w W2) fun j h=>.inl h).set (b:=ab) sP.out 1 (.int .u64 (ZH (s1 || !decide (L<0))));have k7:Z9 P W2 (w6.setCell ⟨ab,1,none⟩ (.int .u64 (ZH (s1 || !decide (L<0))))):=(Sb.trans ((hk5.trans Uh).mono Nf.out)).mono' (fun j h=>h) dX.out 1 (.int .u64 (ZH (s1 || !decide (L<0))));have Ue:=hide (WL.out _ _ rfl _ a7 p7 k7 t7);clear a7 p7 t7 k7 a6 b6 p6 c7 f7 hS a5 b5 p5 hk5 Rf hb5 Uh BM Sb I6 A4 B4 P4 WL HLOC hnt xL hor;gi_wp2;go_roundw
          case rel=>exact ⟨k+1,_,_,by omega,by go_num,Ue.out⟩
          case measure=>simp [intOf];omega
      · have hL2:L=Fx ps p:=sO.out.trans (if_neg hv);have Qa:Qm v ps.length=Yo (List.range (Zy ps.length)):=if_neg hv;rw [Qa] at WL;have HLOC:=hide (fun (w5:World) (h1:Z9 P W2 w5) (h0:∀ j,Also (More P w W2) wr.heap.size j->j<w5.heap.size) (h2:Tp w5 (Also (More P w W2) wr.heap.size) t (es++Xd 0 (gs.take k)++[(7,(k:Int),1)]))=>Et (Also (More P w W2) wr.heap.size) t (es++Xd 0 (gs.take k)++[(7,(k:Int),1)]) d v ps zff.out HPN.out A c w5 h0 (Nf.out _ Jp.out) ((zfe.out.kept (NV.out.trans h1)).mono Nf.out) (HW.out.kept (NV.out.trans h1) Jp.out) h2 HLE.out p HPJ.out);rw [<- hL2] at HLOC;have hvb:(v == 0)=false:=(by simpa using hv);clear Qa hL2 sO;cases d with
        | false =>
          have z0:w4.cell? ⟨wr.heap.size,0,none⟩=some (.bool false):=B4.q0 rfl;gi_wp2_with fail;clear z0;refine Yz 12 (S:=fun w'=>Z7 w' ab 311 #[.int .u64 (ZH s0),.int .u64 (ZH s1)]/\Z7 w' wr.heap.size 38 #[.bool false,.int .i64 v,.slice A ps.length c]/\Z7 w' pb 41 #[.int .i64 p.1,.int .i64 p.2]) Yv ?_;have hS:Z7 w4.drew ab 311 #[.int .u64 (ZH s0),.int .u64 (ZH s1)]/\Z7 w4.drew wr.heap.size 38 #[.bool false,.int .i64 v,.slice A ps.length c]/\Z7 w4.drew pb 41 #[.int .i64 p.1,.int .i64 p.2]:=⟨A4.drew,B4.drew,P4.drew⟩;refine' Z0 (i:=0) rfl ?zra hS ?zjj
          case zra =>
           intro w' hSw;go_simp;rfl
          simp only [Act.put,getElem_toArray,getElem_cons_zero,setIfInBounds_toArray,set_cons_zero,set_cons_succ];refine' Z0 (i:=1) rfl ?zrm hS ?zjw
          case zrm =>
           intro w' hSw;go_simp;rfl
          simp only [Act.put,Z6];refine' Z0 (i:=2) rfl ?zru hS ?zke
          case zru =>
           intro w' hSw;obtain ⟨r1,r2,r3⟩:=hSw;have z1:w'.cell? ⟨ab,0,none⟩=some (.int .u64 (ZH s0)):=r1.q0 rfl;go_simp;rfl
          simp only [Act.put,Z6];refine' Z0 (i:=3) rfl ?zsd hS ?zkn
          case zsd =>
           intro w' hSw;obtain ⟨r1,r2,r3⟩:=hSw;have z1:=r2.q0 rfl;have z2:=r2.q1 rfl;have z3:=r2.q2 rfl;go_simp;rfl
          simp only [Act.put,Z6];refine' Z0 (i:=5) rfl ?zsr hS ?zlb
          case zsr =>
           intro w' hSw;go_simp;rfl
          simp only [Act.put,Z6];refine' Z0 (i:=6) rfl ?zsz hS ?zlj
          case zsz =>
           intro w' hSw;obtain ⟨r1,r2,r3⟩:=hSw;have z1:=r3.q0 rfl;have z2:=r3.q1 rfl;go_simp;rfl
          simp only [Act.put,Z6];refine Zc (i:=4) (by kernel_rfl) rfl ?_;intro K hK;rw [if_pos (by rfl)];go_simp;refine ⟨trivial,?_⟩;refine (callsIn_wide.2 (VZ _ v hvb A ps.length c _)).mono ?_;rintro e w5 ⟨rfl,hb5⟩;have hS5:Z7 w5 ab 311 #[.int .u64 (ZH s0),.int .u64 (ZH s1)]/\Z7 w5 wr.heap.size 38 #[.bool false,.int .i64 v,.slice A ps.length c]/\Z7 w5 pb 41 #[.int .i64 p.1,.int .i64 p.2]:=⟨A4.drew.step hb5,B4.drew.step hb5,P4.drew.step hb5⟩;refine hK.out _ _ (fun _=>hS5) ?_;clear hK K;have hk5:Z9 (Also (More P w W2) wr.heap.size) w4 w5:=(Z9.drew _ _).trans (Z9.of_below hb5 nM.out);have Rf:=I6.drew.step hb5
          (try simp only [Act.put,Z6])
          have HV:=hide (HLOC.out w5 (Sb.trans (hk5.mono Nf.out)) (fun j hj=>Nat.lt_of_lt_of_le (nM.out j hj) hb5.size) Rf);have hmr:=OL;refine Zc (i:=7) (by kernel_rfl) rfl ?_;intro K hK;rw [if_pos (by rfl)];go_simp;refine ⟨trivial,?_⟩;refine (callsIn_wide.2 HV.out).mono ?_;rintro e w6 ⟨rfl,Uh,BM⟩;obtain ⟨a5,b5,p5⟩:=hS5;have RZ:Z7 w6 ab 311 #[.int .u64 (ZH s0),.int .u64 (ZH s1)]/\Z7 w6 wr.heap.size 38 #[.bool false,.int .i64 v,.slice A ps.length c]/\Z7 w6 pb 41 #[.int .i64 p.1,.int .i64 p.2]:=⟨a5.kept Uh (.inl sP.out),b5.kept Uh (.inr rfl),p5.kept Uh (.inl bY.out)⟩;refine hK.out _ _ (fun _=>RZ) ?_;clear hK K hmr HV;have Oc:=hide (Xq L (by have:=HLB.out;omega) (by have:=HLB.out;omega) w6)
          (try simp only [Act.put,Z6])
          refine Zc (i:=8) (by kernel_rfl) rfl ?_;intro K hK;rw [if_pos (by rfl)];go_simp;refine ⟨trivial,?_⟩;refine (callsIn_wide.2 Oc.out).mono ?_;rintro e w7 ⟨rfl,rfl⟩;refine hK.out _ _ (fun _=>RZ) ?_;clear hK K Oc;have hnt:=QK (decide (L<0));have xL:bits BinOp.xor IntKind.u64 (if IntKind.u64.signed=true then -1 else IntKind.u64.max) (ZH (decide (L<0)))=ZH (!decide (L<0)):=hnt;have hor:=Ro s0 (!decide (L<0))
          (try simp only [Act.put,Z6])
          refine' Z0 (i:=9) rfl ?ztq RZ ?zma
          case ztq =>
           intro w' hSw;go_simp;rfl
          simp only [Act.put,Z6];refine' Z0 (i:=10) rfl ?zye RZ ?znb
          case zye =>
           intro w' hSw;go_simp;rfl
          simp only [Act.put,Z6];refine' Z0 (i:=11) rfl ?zyk RZ ?znh
          case zyk =>
           intro w' hSw;go_simp;rfl
          simp only [Act.put,Z6];obtain ⟨a6,b6,p6⟩:=RZ;have c7:w6.cell? ⟨ab,0,none⟩=some (.int .u64 (ZH s0)):=a6.q0 rfl;have f7:=a6.frozen 0;refine Zc (i:=12) (by kernel_rfl) rfl ?_;intro K hK;rw [if_pos (by rfl)];go_simp;refine hK.out _ _ (fun h=>absurd rfl h) ?_;clear hK K;refine Yc (by kernel_rfl) ?_ _;have a7:Z7 (w6.setCell ⟨ab,0,none⟩ (.int .u64 (ZH (s0 || !decide (L<0))))) ab 311 #[.int .u64 (ZH (s0 || !decide (L<0))),.int .u64 (ZH s1)]:=a6.set 0 (.int .u64 (ZH (s0 || !decide (L<0))));have p7:=p6.far (p:=⟨ab,0,none⟩) (by dsimp only;omega) (.int .u64 (ZH (s0 || !decide (L<0))));have t7:=(BM.mono (R:=More P w W2) fun j h=>.inl h).set (b:=ab) sP.out 0 (.int .u64 (ZH (s0 || !decide (L<0))));have k7:Z9 P W2 (w6.setCell ⟨ab,0,none⟩ (.int .u64 (ZH (s0 || !decide (L<0))))):=(Sb.trans ((hk5.trans Uh).mono Nf.out)).mono' (fun j h=>h) dX.out 0 (.int .u64 (ZH (s0 || !decide (L<0))));have Ue:=hide (WL.out _ _ rfl _ a7 p7 k7 t7);clear a7 p7 t7 k7 a6 b6 p6 c7 f7 hS a5 b5 p5 hk5 Rf hb5 Uh BM Sb I6 A4 B4 P4 WL HLOC hnt xL hor;gi_wp2;go_roundw
          case rel=>exact ⟨k+1,_,_,by omega,by go_num,Ue.out⟩
          case measure=>simp [intOf];omega
        | true =>
          have z0:w4.cell? ⟨wr.heap.size,0,none⟩=some (.bool true):=B4.q0 rfl;gi_wp2_with fail;clear z0;refine Yz 12 (S:=fun w'=>Z7 w' ab 311 #[.int .u64 (ZH s0),.int .u64 (ZH s1)]/\Z7 w' wr.heap.size 38 #[.bool true,.int .i64 v,.slice A ps.length c]/\Z7 w' pb 41 #[.int .i64 p.1,.int .i64 p.2]) Yv ?_;have hS:Z7 w4.drew ab 311 #[.int .u64 (ZH s0),.int .u64 (ZH s1)]/\Z7 w4.drew wr.heap.size 38 #[.bool true,.int .i64 v,.slice A ps.length c]/\Z7 w4.drew pb 41 #[.int .i64 p.1,.int .i64 p.2]:=⟨A4.drew,B4.drew,P4.drew⟩;refine' Z0 (i:=0) rfl ?zrc hS ?zjl
          case zrc =>
           intro w' hSw;go_simp;rfl
          simp only [Act.put,getElem_toArray,getElem_cons_zero,setIfInBounds_toArray,set_cons_zero,set_cons_succ];refine' Z0 (i:=1) rfl ?zrn hS ?zjx
          case zrn =>
           intro w' hSw;go_simp;rfl
          simp only [Act.put,Z6];refine' Z0 (i:=2) rfl ?zrw hS ?zkg
          case zrw =>
           intro w' hSw;obtain ⟨r1,r2,r3⟩:=hSw;have z1:w'.cell? ⟨ab,1,none⟩=some (.int .u64 (ZH s1)):=r1.q1 rfl;go_simp;rfl
          simp only [Act.put,Z6];refine' Z0 (i:=3) rfl ?zse hS ?zko
          case zse =>
           intro w' hSw;obtain ⟨r1,r2,r3⟩:=hSw;have z1:=r2.q0 rfl;have z2:=r2.q1 rfl;have z3:=r2.q2 rfl;go_simp;rfl
          simp only [Act.put,Z6];refine' Z0 (i:=5) rfl ?zss hS ?zlc
          case zss =>
           intro w' hSw;go_simp;rfl
          simp only [Act.put,Z6];refine' Z0 (i:=6) rfl ?zta hS ?zlk
          case zta =>
           intro w' hSw;obtain ⟨r1,r2,r3⟩:=hSw;have z1:=r3.q0 rfl;have z2:=r3.q1 rfl;go_simp;rfl
          simp only [Act.put,Z6];refine Zc (i:=4) (by kernel_rfl) rfl ?_;intro K hK;rw [if_pos (by rfl)];go_simp;refine ⟨trivial,?_⟩;refine (callsIn_wide.2 (VZ _ v hvb A ps.length c _)).mono ?_;rintro e w5 ⟨rfl,hb5⟩;have hS5:Z7 w5 ab 311 #[.int .u64 (ZH s0),.int .u64 (ZH s1)]/\Z7 w5 wr.heap.size 38 #[.bool true,.int .i64 v,.slice A ps.length c]/\Z7 w5 pb 41 #[.int .i64 p.1,.int .i64 p.2]:=⟨A4.drew.step hb5,B4.drew.step hb5,P4.drew.step hb5⟩;refine hK.out _ _ (fun _=>hS5) ?_;clear hK K;have hk5:Z9 (Also (More P w W2) wr.heap.size) w4 w5:=(Z9.drew _ _).trans (Z9.of_below hb5 nM.out);have Rf:=I6.drew.step hb5
          (try simp only [Act.put,Z6])
          have HV:=hide (HLOC.out w5 (Sb.trans (hk5.mono Nf.out)) (fun j hj=>Nat.lt_of_lt_of_le (nM.out j hj) hb5.size) Rf);have hmr:=OL;refine Zc (i:=7) (by kernel_rfl) rfl ?_;intro K hK;rw [if_pos (by rfl)];go_simp;refine ⟨trivial,?_⟩;refine (callsIn_wide.2 HV.out).mono ?_;rintro e w6 ⟨rfl,Uh,BM⟩;obtain ⟨a5,b5,p5⟩:=hS5;have RZ:Z7 w6 ab 311 #[.int .u64 (ZH s0),.int .u64 (ZH s1)]/\Z7 w6 wr.heap.size 38 #[.bool true,.int .i64 v,.slice A ps.length c]/\Z7 w6 pb 41 #[.int .i64 p.1,.int .i64 p.2]:=⟨a5.kept Uh (.inl sP.out),b5.kept Uh (.inr rfl),p5.kept Uh (.inl bY.out)⟩;refine hK.out _ _ (fun _=>RZ) ?_;clear hK K hmr HV;have Oc:=hide (Xq L (by have:=HLB.out;omega) (by have:=HLB.out;omega) w6)
          (try simp only [Act.put,Z6])
          refine Zc (i:=8) (by kernel_rfl) rfl ?_;intro K hK;rw [if_pos (by rfl)];go_simp;refine ⟨trivial,?_⟩;refine (callsIn_wide.2 Oc.out).mono ?_;rintro e w7 ⟨rfl,rfl⟩;refine hK.out _ _ (fun _=>RZ) ?_;clear hK K Oc;have hnt:=QK (decide (L<0));have xL:bits BinOp.xor IntKind.u64 (if IntKind.u64.signed=true then -1 else IntKind.u64.max) (ZH (decide (L<0)))=ZH (!decide (L<0)):=hnt;have hor:=Ro s1 (!decide (L<0))
          (try simp only [Act.put,Z6])
          refine' Z0 (i:=9) rfl ?ztr RZ ?zmb
          case ztr =>
           intro w' hSw;go_simp;rfl
          simp only [Act.put,Z6];refine' Z0 (i:=10) rfl ?zyf RZ ?znc
          case zyf =>
           intro w' hSw;go_simp;rfl
          simp only [Act.put,Z6];refine' Z0 (i:=11) rfl ?zyl RZ ?zni
          case zyl =>
           intro w' hSw;go_simp;rfl
          simp only [Act.put,Z6];obtain ⟨a6,b6,p6⟩:=RZ;have c7:w6.cell? ⟨ab,1,none⟩=some (.int .u64 (ZH s1)):=a6.q1 rfl;have f7:=a6.frozen 1;refine Zc (i:=12) (by kernel_rfl) rfl ?_;intro K hK;rw [if_pos (by rfl)];go_simp;refine hK.out _ _ (fun h=>absurd rfl h) ?_;clear hK K;refine Yc (by kernel_rfl) ?_ _;have a7:Z7 (w6.setCell ⟨ab,1,none⟩ (.int .u64 (ZH (s1 || !decide (L<0))))) ab 311 #[.int .u64 (ZH s0),.int .u64 (ZH (s1 || !decide (L<0)))]:=a6.set 1 (.int .u64 (ZH (s1 || !decide (L<0))));have p7:=p6.far (p:=⟨ab,1,none⟩) (by dsimp only;omega) (.int .u64 (ZH (s1 || !decide (L<0))));have t7:=(BM.mono (R:=More P w W2) fun j h=>.inl h).set (b:=ab) sP.out 1 (.int .u64 (ZH (s1 || !decide (L<0))));have k7:Z9 P W2 (w6.setCell ⟨ab,1,none⟩ (.int .u64 (ZH (s1 || !decide (L<0))))):=(Sb.trans ((hk5.trans Uh).mono Nf.out)).mono' (fun j h=>h) dX.out 1 (.int .u64 (ZH (s1 || !decide (L<0))));have Ue:=hide (WL.out _ _ rfl _ a7 p7 k7 t7);clear a7 p7 t7 k7 a6 b6 p6 c7 f7 hS a5 b5 p5 hk5 Rf hb5 Uh BM Sb I6 A4 B4 P4 WL HLOC hnt xL hor;gi_wp2;go_roundw
          case rel=>exact ⟨k+1,_,_,by omega,by go_num,Ue.out⟩
          case measure=>simp [intOf];omega
    · obtain rfl:k=gs.length:=(by omega);rw [List.take_length] at htp hst;have hand:=yD s0 s1;have z0:wr.cell? ⟨ab,0,none⟩=some (.int .u64 (ZH s0)):=Ar.q0 rfl;have z1:wr.cell? ⟨ab,1,none⟩=some (.int .u64 (ZH s1)):=Ar.q1 rfl;have hfin:(s0 && !s1)=((PU p gs).1 && !(PU p gs).2):=(by rw [hst.out]);have HF:=hide hfin;clear hfin;gi_wp2;go_ret;refine ⟨?_,NV.out.trans hkp,htp.mono fun j h=>.inl h⟩;rw [<- HF.out];rfl
 · have e1:WH gs p=false:=(by unfold WH;rw [decide_eq_false hf];rfl);have e2:YI gs=[]:=(by unfold YI;rw [if_neg hf]);rw [e1,e2,List.append_nil];have HP:=hide hP;have HT:=hide ht;obtain ⟨z,hz⟩:=eE (YD (gs.map (·.1)));rw [<- hz] at HC hf;clear e1 e2 hP hg0 hs hgs hw ht hz hpb P0;go_enter func197,ntmps197;go_wp2_with fail;rw [<- hw0];have HW0:=hide hw0;clear hw0;refine HC.out.mono ?_;rintro e w1 ⟨rfl,hb1⟩;go_wp2;go_ret;exact ⟨rfl,Z9.of_below (Z8 hb0 hb1) HP.out,HT.out.step (Z8 hb0 hb1)⟩
end
section
open Go.RowKit Go.Shelf
theorem JK(b:Bool)(x o:Int)(h0:0<=x)(h1:x<=1000)(h2:0<=o)(h3:o<=1000)(w:World):Calls prog 193 #[.int .u64 (ZH b),.int .i64 x,.int .u64 o] w fun e w'=>e=.returned (.int .i64 (bif b then x else o))/\w=w':=by
 have hx:IntKind.u64.wrap x=x:=by rw [IntKind.wrap_u64];omega
 have hv:IntKind.i64.wrap (bif b then x else o)=(bif b then x else o):=by rw [IntKind.wrap_i64];cases b <;> simp <;> omega
 have HS:=hide (KX b x o h0 (by omega) h2 (by omega) w);obtain ⟨r,hr⟩:=eE ((bif b then x else o));rw [<- hr] at hv HS;rw [<- hr];clear hr;go_enter func193,ntmps193;go_wp2_with fail;refine HS.out.mono ?_;rintro e w' ⟨rfl,rfl⟩;go_wp2;go_ret;exact ⟨rfl,rfl⟩
theorem tJ(b:Bool)(w:World):Calls prog 196 #[.int .u64 (ZH b)] w fun e w'=>e=.returned (.int .u64 (bif b then 1 else 0))/\w=w':=by
 have h:bits BinOp.and IntKind.u64 (ZH b) 1=(bif b then 1 else 0):=by cases b <;> decide
 go_enter func196,ntmps196;go_wp2;go_ret;exact ⟨rfl,rfl⟩
def XE(ps:List Pt)(p:Pt):Int:=bif Un ps then Fx ps p+1 else 3
def JN(n:Nat):List Ev:=RX n (List.range (Zy n))++Yo (List.range (Zy n))
def Xy(gs:List Gr)(p:Pt):Int:=bif YN gs then (bif WH gs p then 1 else 0) else 2
def Ll(gs:List Gr):List Ev:=Zp gs++YI gs
theorem WZ(gs:List Gr):(Zp gs).length<=262208:=by
 unfold Zp;split
 · rename_i h
   have h1:=Q9 0 gs;have h2:gs.length<=64:=by
    unfold YD at h;split at h
    · omega
    · rename_i h2;rw [List.length_map] at h2;omega
   omega
 · simp
section
variable (P:Nat->Prop)(t:Option (Nat × Nat))(es:List Ev)(p:Pt)(hp:PJ p)(w:World)(hP:∀ k,P k->k<w.heap.size)(hg0:P 8)(hw:MW w)(ht:Tp w P t es)(hl:es.length<=600000)
include hp hP hg0 hw ht hl
theorem JO(ps:List Pt)(hps:LW ps)(hn:ps.length<=10000)(A:Option Addr)(c:Nat)(hs:Wp w P A (Zl ps)):
 Calls prog 141 #[.pointer (ZG t),.slice A ps.length c,.agg #[.int .i64 p.1,.int .i64 p.2]] w fun e w'=>e=.returned (.int .i64 (XE ps p))/\Z9 P w w'/\Tp w' P t (es++JN ps.length):=by
 obtain ⟨w0,hw0⟩:=eE (w.alloc (.cells #[.int .i64 p.1,.int .i64 p.2] 41));have hb0:=bE hw0;have B0:Z7 w0 w.heap.size 41 #[.int .i64 p.1,.int .i64 p.2]:=by rw [hw0];exact Z7.new _ _ _
 have hm:=Yr hP hb0;have hk0:Z9 P w w0:=Z9.of_below hb0 hP;have HV:=hide (Iz (More P w w0) t es ps hps hn A c w0 hm (.inl hg0) ((hs.kept hk0).mono fun k h=>.inl h) (hw.step hb0) (ht.more hb0) (by omega));have HI:Hid (More P w w0 w.heap.size):=.inr ⟨Nat.le_refl _,B0.lt⟩;have HP:=hide hP;have HG:=hide hg0;have HS:=hide hs;have HW:=hide hw;have Lg:=hide hps;have HPJ:=hide hp;have HB0:=hide hb0;have HM:=hide hm;clear hP hg0 hs hw hps hp ht hb0 hm hk0;go_enter func141,ntmps141;go_wp2_with fail;rw [<- hw0];have HW0:=hide hw0;clear hw0;refine HV.out.mono ?_;rintro e w1 ⟨rfl,hk1,ht1⟩;have B1:=B0.kept hk1 HI.out;have z0:=B1.q0 rfl;have z1:=B1.q1 rfl;dsimp at z0 z1;have Mc:Z9 P w w1:=Z9.more HB0.out HP.out hk1;have hle:(es++RX ps.length (List.range (Zy ps.length))).length<=900000:=by
  have h1:=OT 1 ps.length;have h2:Ry 1 ps.length=RX ps.length (List.range (Zy ps.length)):=rfl;rw [h2] at h1;rw [List.length_append];omega
 have HL:=hide (Ky P t _ ps Lg.out hn A c p HPJ.out w1 (fun k hk=>Nat.lt_of_lt_of_le (HP.out k hk) Mc.size) HG.out (HS.out.kept Mc) (HW.out.kept Mc HG.out) (ht1.mono fun k h=>.inl h) hle);have Po:=hide Mc;have hlb:=FR (Xg (Z4 ps) ps p (List.range (Zy ps.length))).1 (Xg (Z4 ps) ps p (List.range (Zy ps.length))).2;have hloc:Fx ps p=KY (Xg (Z4 ps) ps p (List.range (Zy ps.length))).1 (Xg (Z4 ps) ps p (List.range (Zy ps.length))).2:=rfl;rw [<- hloc] at hlb;obtain ⟨L,hL⟩:=eE (Fx ps p);rw [<- hL] at hlb HL;have hwr:IntKind.i64.wrap (L+1)=L+1:=by rw [IntKind.wrap_i64];omega
 have HA:Hid (XE ps p=bif Un ps then L+1 else 3):=by rw [hL];exact rfl
 clear hk1 ht1 B1 B0 Mc hle HV hloc hL;go_wp2_with fail;refine HL.out.mono ?_;rintro e w2 ⟨rfl,hk2,ht2⟩;have HCH:=hide (fun w=>JK (Un ps) (L+1) 3 (by omega) (by omega) (by omega) (by omega) w);clear z0 z1;go_wp2_with fail;refine (HCH.out w2).mono ?_;rintro e w3 ⟨rfl,rfl⟩;go_wp2;go_ret;refine ⟨Zf HA.out.symm,Po.out.trans hk2,?_⟩;rw [List.append_assoc] at ht2;exact ht2
theorem JW(gs:List Gr)(GA:Option Addr)(gc:Nat)(hs:Wp w P GA (rgCells (gs.map (·.1))))(hgs:vC w P gs):
 Calls prog 143 #[.pointer (ZG t),.slice GA gs.length gc,.agg #[.int .i64 p.1,.int .i64 p.2]] w fun e w'=>e=.returned (.int .i64 (Xy gs p))/\Z9 P w w'/\Tp w' P t (es++Ll gs):=by
 obtain ⟨w0,hw0⟩:=eE (w.alloc (.cells #[.int .i64 p.1,.int .i64 p.2] 41));have hb0:=bE hw0;have B0:Z7 w0 w.heap.size 41 #[.int .i64 p.1,.int .i64 p.2]:=by rw [hw0];exact Z7.new _ _ _
 have hm:=Yr hP hb0;have hk0:Z9 P w w0:=Z9.of_below hb0 hP;have HV:=hide (UU (More P w w0) t es gs GA gc w0 hm (.inl hg0) ((hs.kept hk0).mono fun k h=>.inl h) (fun g hg=>⟨(hgs g hg).1,((hgs g hg).2.1.kept hk0).mono fun k h=>.inl h,(hgs g hg).2.2⟩) (hw.step hb0) (ht.more hb0) hl);have HI:Hid (More P w w0 w.heap.size):=.inr ⟨Nat.le_refl _,B0.lt⟩;have HP:=hide hP;have HG:=hide hg0;have HS:=hide hs;have HW:=hide hw;have NU:=hide hgs;have HPJ:=hide hp;have HB0:=hide hb0;have HM:=hide hm;clear hP hg0 hs hw hgs hp ht hb0 hm hk0;go_enter func143,ntmps143;go_wp2_with fail;rw [<- hw0];have HW0:=hide hw0;clear hw0;refine HV.out.mono ?_;rintro e w1 ⟨rfl,hk1,ht1⟩;have B1:=B0.kept hk1 HI.out;have z0:=B1.q0 rfl;have z1:=B1.q1 rfl;dsimp at z0 z1;have Mc:Z9 P w w1:=Z9.more HB0.out HP.out hk1;have hle:(es++Zp gs).length<=890000:=by
  have h1:=WZ gs;rw [List.length_append];omega
 have HL:=hide (Vw P t _ gs GA gc p HPJ.out w1 (fun k hk=>Nat.lt_of_lt_of_le (HP.out k hk) Mc.size) HG.out (HS.out.kept Mc) (NU.out.kept Mc) (HW.out.kept Mc HG.out) (ht1.mono fun k h=>.inl h) hle);have Po:=hide Mc;have HA:Hid (Xy gs p=bif YN gs then (bif WH gs p then 1 else 0) else 2):=rfl;obtain ⟨mb,hmb⟩:=eE (WH gs p);rw [<- hmb] at HL HA;obtain ⟨bt,hbt⟩:∃ bt:Int,bt=(bif mb then 1 else 0):=⟨_,rfl⟩;have hbb:0<=bt/\bt<=1:=by rw [hbt];cases mb <;> decide
 have nI:=hide (fun w=>tJ mb w);rw [<- hbt] at nI HA;have hwr:IntKind.i64.wrap bt=bt:=by rw [IntKind.wrap_i64];omega
 clear hk1 ht1 B1 B0 Mc hle HV hmb hbt;go_wp2_with fail;refine HL.out.mono ?_;rintro e w2 ⟨rfl,hk2,ht2⟩;clear z0 z1;go_wp2_with fail;refine (nI.out w2).mono ?_;rintro e w2' ⟨rfl,rfl⟩;have HCH:=hide (fun w=>JK (YN gs) bt 2 (by omega) (by omega) (by omega) (by omega) w);go_wp2_with fail;refine (HCH.out w2).mono ?_;rintro e w3 ⟨rfl,rfl⟩;go_wp2;go_ret;refine ⟨Zf HA.out.symm,Po.out.trans hk2,?_⟩;rw [List.append_assoc] at ht2;exact ht2
end
end
end Go.Proofs.YthnenedoblncjaaGreatDoor