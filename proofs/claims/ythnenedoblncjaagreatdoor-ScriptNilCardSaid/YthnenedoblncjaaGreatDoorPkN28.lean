/- Disc FenceValid -/
import Derived.BigQuiet
import Derived.ChangeAlike
import Derived.Deep.QuietTactic
import Derived.Laws.CopyOwn
import Derived.Test.YthnenedoblncjaaGreatDoorPkN26
set_option maxRecDepth 1000000
set_option maxHeartbeats 8000000
namespace Go.Proofs.YthnenedoblncjaaGreatDoor
open Go.Proofs.Tryz
section
open Go.RowKit Go.Shelf
theorem Wt {P:Program} (w:World) (dT sT ty elem:TypeId) (s g o dLen dCap:Nat) (a:Addr) (sLen sCap:Nat) (cur:Array Value) (t:TypeId) (cs:List Value)
 (hu:P.underlying dT=some (.slice elem)) (hs:(P.info? elem).map (·.size)=some s)
 (hg:w.heap[g]?=some (.cells cur t (0,0))) (hn:cs.length=Nat.min sLen dLen*s)
 (hsrc:∀ j v,cs[j]?=some v->w.cell? (a.add j)=some v) (hfit:o+cs.length<=cur.size) (h1:∀ v∈cs,v.oneCell'=true) :
 (Builtin.copy_ #[dT,sT] ty #[.slice (some ⟨g,o,none⟩) dLen dCap,.slice (some a) sLen sCap]).run P w =
   .ok (goInt (Nat.min sLen dLen:Nat)) (w.setRow g (cur.toList.take o++cs++cur.toList.drop (o+cs.length)).toArray):=by
 have hl:=run_loadCells_list (P:=P) w a cs hsrc;have hst:=run_storeCells_at P g o t cs 0 cur w hg (by simpa using hfit) h1;cases hq:P.info? elem with
 | none=>simp [hq] at hs
 | some i =>
   have hi:i.size=s:=(by simpa [hq] using hs);simp [Builtin.copy_,run_underlying hu,Builtin.lenOf,Builtin.firstCells,sizeOf,typeInfo,hq,hi,<- hn,hl,hst]
def Zk(ps:List Pt):Array Value:=#[.int .i64 (Z5 ps 0).1,.int .i64 (Z5 ps 0).2,.int .i64 (Z5 ps 1).1,.int .i64 (Z5 ps 1).2,.int .i64 (Z5 ps 2).1,.int .i64 (Z5 ps 2).2]
theorem Uv {fn:Func} {tmps:Array Value} {w:World} {g:Nat} {v0 v1 v2 v3 v4 v5:Value} (h:fn.results=#[.cell 2 416,.tmp 3])
 (hp:tmps.getD 2 undef=.pointer (some ⟨g,0,none⟩)) (hb:Z6 w g 416 #[v0,v1,v2,v3,v4,v5]) :
 (results fn tmps).run prog w=.ok (.tuple #[.agg #[v0,v1,v2,v3,v4,v5],tmps.getD 3 undef]) w:=by
 have c0:=hb.q0 rfl;have c1:=hb.q1 rfl;have c2:=hb.q2 rfl;have c3:=hb.q3 rfl;have c4:=hb.q4 rfl;have c5:=hb.q5 rfl;have hp':tmps[2]?.getD undef=.pointer (some ⟨g,0,none⟩):=by rw [<- hp];simp
 simp [results,h,hp',go_sem,c0,c1,c2,c3,c4,c5]
theorem SC(ps:List Pt)(hn:ps.length≠3)(A:Option Addr)(c:Nat)(w:World):
 Calls prog 375 #[.slice A ps.length c] w fun e w'=>e=.returned (.tuple #[.agg #[.int .i64 0,.int .i64 0,.int .i64 0,.int .i64 0,.int .i64 0,.int .i64 0],.bool false])/\Below w.heap.size w w':=by
 have hni:¬ ((ps.length:Nat):Int)=3:=by omega
 have B0:Z6 ((w.alloc (.cells #[.int .i64 0,.int .i64 0,.int .i64 0,.int .i64 0,.int .i64 0,.int .i64 0] 416)).alloc (.cells #[.int .i64 0,.int .i64 0,.int .i64 0,.int .i64 0,.int .i64 0,.int .i64 0] 416)) w.heap.size 416 #[.int .i64 0,.int .i64 0,.int .i64 0,.int .i64 0,.int .i64 0,.int .i64 0]:=(Z6.new _ _ _).alloc _;go_enter func375,ntmps375;go_wp2;refine bodyPost_ret (Uv rfl rfl B0) rfl ⟨rfl,?_⟩;exact ZY (bA) _
theorem SE(ps:List Pt)(hn:ps.length=3)(A:Option Addr)(c:Nat)(w:World)(hs:Sl w w.heap.size A (Y7 ps)):
 Calls prog 375 #[.slice A ps.length c] w fun e w'=>e=.returned (.tuple #[.agg (Zk ps),.bool true])/\Below w.heap.size w w':=by
 obtain ⟨b,off,rfl,hb⟩:=QN hs (by omega);have hc:∀ j u,(Y7 ps)[j]?=some u->w.cell? ⟨b,off+j,none⟩=some u:=by
  rcases hs with h|⟨b',off',hA,_,h⟩
  · exfalso
    have h2:=Zm (fun p:Int × Int=>[Value.int .i64 p.1,.int .i64 p.2]) 2 (fun _=>rfl) ps;have h3:(Y7 ps).length=3*2:=(by rw [<- hn];exact h2);rw [h] at h3;simp at h3
  · cases hA;exact h
 have hcs:Y7 ps=(Zk ps).toList:=by
  match ps,hn with
  | [p,q,r],_=>rfl
 rw [hcs] at hc
 have hc2:∀ j v,(Zk ps).toList[j]?=some v->((w.alloc (.cells #[.int .i64 0,.int .i64 0,.int .i64 0,.int .i64 0,.int .i64 0,.int .i64 0] 416)).alloc (.cells #[.int .i64 0,.int .i64 0,.int .i64 0,.int .i64 0,.int .i64 0,.int .i64 0] 416)).cell? ((⟨b,off,none⟩:Addr).add j)=some v:=fun j v hv=>by
  have h1:=hc j v hv;have h2:=(ZY (ZY (Below.refl w.heap.size w) (.cells #[.int .i64 0,.int .i64 0,.int .i64 0,.int .i64 0,.int .i64 0,.int .i64 0] 416)) (.cells #[.int .i64 0,.int .i64 0,.int .i64 0,.int .i64 0,.int .i64 0,.int .i64 0] 416)).cell (p:=⟨b,off+j,none⟩) hb;rw [h1] at h2;rw [show (⟨b,off,none⟩:Addr).add j=⟨b,off+j,none⟩ by simp [Addr.add]];exact h2
 have B1:Z6 ((w.alloc (.cells #[.int .i64 0,.int .i64 0,.int .i64 0,.int .i64 0,.int .i64 0,.int .i64 0] 416)).alloc (.cells #[.int .i64 0,.int .i64 0,.int .i64 0,.int .i64 0,.int .i64 0,.int .i64 0] 416)) (w.heap.size+1) 416 #[.int .i64 0,.int .i64 0,.int .i64 0,.int .i64 0,.int .i64 0,.int .i64 0]:=Z6.new2 _ _ _ _;have B0:Z6 ((w.alloc (.cells #[.int .i64 0,.int .i64 0,.int .i64 0,.int .i64 0,.int .i64 0,.int .i64 0] 416)).alloc (.cells #[.int .i64 0,.int .i64 0,.int .i64 0,.int .i64 0,.int .i64 0,.int .i64 0] 416)) w.heap.size 416 #[.int .i64 0,.int .i64 0,.int .i64 0,.int .i64 0,.int .i64 0,.int .i64 0]:=(Z6.new _ _ _).alloc _;rw [hn];have hrun:=Wt (P:=prog) ((w.alloc (.cells #[.int .i64 0,.int .i64 0,.int .i64 0,.int .i64 0,.int .i64 0,.int .i64 0] 416)).alloc (.cells #[.int .i64 0,.int .i64 0,.int .i64 0,.int .i64 0,.int .i64 0,.int .i64 0] 416)) 36 36 3 41 2 (w.heap.size+1) 0 3 3 ⟨b,off,none⟩ 3 c #[.int .i64 0,.int .i64 0,.int .i64 0,.int .i64 0,.int .i64 0,.int .i64 0] 416 (Zk ps).toList underlying36 (by kernel_rfl) B1 rfl hc2 (by simp [Zk]) (by simp [Zk,Value.oneCell']);have hb2:Below (w.heap.size+1) ((w.alloc (.cells #[.int .i64 0,.int .i64 0,.int .i64 0,.int .i64 0,.int .i64 0,.int .i64 0] 416)).alloc (.cells #[.int .i64 0,.int .i64 0,.int .i64 0,.int .i64 0,.int .i64 0,.int .i64 0] 416)) (((w.alloc (.cells #[.int .i64 0,.int .i64 0,.int .i64 0,.int .i64 0,.int .i64 0,.int .i64 0] 416)).alloc (.cells #[.int .i64 0,.int .i64 0,.int .i64 0,.int .i64 0,.int .i64 0,.int .i64 0] 416)).setRow (w.heap.size+1) (((#[.int .i64 0,.int .i64 0,.int .i64 0,.int .i64 0,.int .i64 0,.int .i64 0]:Array Value).toList.take 0++(Zk ps).toList++(#[.int .i64 0,.int .i64 0,.int .i64 0,.int .i64 0,.int .i64 0,.int .i64 0]:Array Value).toList.drop (0+(Zk ps).toList.length)).toArray)):=below_setRow (Below.refl _ _) (Nat.le_refl _) _;have h2:=setRow_heap ((w.alloc (.cells #[.int .i64 0,.int .i64 0,.int .i64 0,.int .i64 0,.int .i64 0,.int .i64 0] 416)).alloc (.cells #[.int .i64 0,.int .i64 0,.int .i64 0,.int .i64 0,.int .i64 0,.int .i64 0] 416)) (w.heap.size+1) #[.int .i64 0,.int .i64 0,.int .i64 0,.int .i64 0,.int .i64 0,.int .i64 0] (((#[.int .i64 0,.int .i64 0,.int .i64 0,.int .i64 0,.int .i64 0,.int .i64 0]:Array Value).toList.take 0++(Zk ps).toList++(#[.int .i64 0,.int .i64 0,.int .i64 0,.int .i64 0,.int .i64 0,.int .i64 0]:Array Value).toList.drop (0+(Zk ps).toList.length)).toArray) 416 _ B1;generalize ((w.alloc (.cells #[.int .i64 0,.int .i64 0,.int .i64 0,.int .i64 0,.int .i64 0,.int .i64 0] 416)).alloc (.cells #[.int .i64 0,.int .i64 0,.int .i64 0,.int .i64 0,.int .i64 0,.int .i64 0] 416)).setRow (w.heap.size+1) (((#[.int .i64 0,.int .i64 0,.int .i64 0,.int .i64 0,.int .i64 0,.int .i64 0]:Array Value).toList.take 0++(Zk ps).toList++(#[.int .i64 0,.int .i64 0,.int .i64 0,.int .i64 0,.int .i64 0,.int .i64 0]:Array Value).toList.drop (0+(Zk ps).toList.length)).toArray)=w2 at hrun hb2 h2;have B2:Z6 w2 (w.heap.size+1) 416 (Zk ps):=h2;have C2:Z6 w2 w.heap.size 416 #[.int .i64 0,.int .i64 0,.int .i64 0,.int .i64 0,.int .i64 0,.int .i64 0]:=B0.below hb2 (by omega);have hbb:Below w.heap.size w w2:=(ZY (bA) _).trans (hb2.mono (by omega));have HB:=hide hbb;have z0:=B2.q0 rfl;have z1:=B2.q1 rfl;have z2:=B2.q2 rfl;have z3:=B2.q3 rfl;have z4:=B2.q4 rfl;have z5:=B2.q5 rfl;unfold Zk at z0 z1 z2 z3 z4 z5;dsimp at z0 z1 z2 z3 z4 z5;have y0:=C2.frozen 0;have y1:=C2.frozen 1;have y2:=C2.frozen 2;have y3:=C2.frozen 3;have y4:=C2.frozen 4;have y5:=C2.frozen 5;have u0:=C2.q0 rfl;have u1:=C2.q1 rfl;have u2:=C2.q2 rfl;have u3:=C2.q3 rfl;have u4:=C2.q4 rfl;have u5:=C2.q5 rfl;dsimp at u0 u1 u2 u3 u4 u5;have Gb:=hide C2;clear hc2 hc hcs B1 B0 hs h2 hb2 B2 C2 hbb;go_enter func375,ntmps375;go_wp2;have E:Z6 _ w.heap.size 416 (Zk ps):=((((((Gb.out.set 0 (.int .i64 (Z5 ps 0).1)).set 1 (.int .i64 (Z5 ps 0).2)).set 2 (.int .i64 (Z5 ps 1).1)).set 3 (.int .i64 (Z5 ps 1).2)).set 4 (.int .i64 (Z5 ps 2).1)).set 5 (.int .i64 (Z5 ps 2).2));refine bodyPost_ret (Uv rfl rfl E) rfl ?_;refine ⟨rfl,?_⟩;exact (((((HB.out.setCell (Nat.le_refl _) _).setCell (Nat.le_refl _) _).setCell (Nat.le_refl _) _).setCell (Nat.le_refl _) _).setCell (Nat.le_refl _) _).setCell (Nat.le_refl _) _
def WV(ps:List Pt):Bool:=decide (ps.length=3) && !decide ((ZL (Z5 ps 0) (Z5 ps 1) (Z5 ps 2)).sign=0)
def XV(n:Nat):List Ev:=if n=3 then [(4,0,2)] else []
def U6(ps:List Pt)(p:Pt):Int:=if ps.length=3 then (YF (Z5 ps 0) (Z5 ps 1) (Z5 ps 2) p).sign*(ZL (Z5 ps 0) (Z5 ps 1) (Z5 ps 2)).sign else -1
def XU(n:Nat):List Ev:=if n=3 then [(6,0,0)] else []
section
variable (P:Nat->Prop)(t:Option (Nat × Nat))(es:List Ev)(ps:List Pt)(hps:Lj ps)(A:Option Addr)(c:Nat)(w:World)(hP:∀ k,P k->k<w.heap.size)(hg0:P 8)(hs:Wx w P A (Y7 ps))(hw:MW w)(ht:Tp w P t es)(hl:es.length<=900000)
include hps hP hg0 hs hw ht hl
theorem RU:Calls prog 374 #[.pointer (ZT t),.slice A ps.length c] w fun e w'=>e=.returned (.int .u64 (ZU (WV ps)))/\Z9 P w w'/\Tp w' P t (es++XV ps.length):=by
 by_cases hn:ps.length=3
 · have FW:=SE ps hn A c w (hs.sl hP);unfold Zk at FW;have HF:=hide FW;have HO:WV ps=!decide ((ZL (Z5 ps 0) (Z5 ps 1) (Z5 ps 2)).sign=0):=(by unfold WV;rw [decide_eq_true hn];rfl);have HE:XV ps.length=[(4,0,2)]:=(by unfold XV;rw [if_pos hn]);rw [HO,HE];obtain ⟨os,hos⟩:=eE ((ZL (Z5 ps 0) (Z5 ps 1) (Z5 ps 2)).sign);rw [<- hos];have mR:=hide hos;have HT:=hide ht;have HP:=hide hP;have HW:=hide hw;have Og:=hide hps;have HG:=hide hg0;clear hos HO HE ht hP hw hps hs hn hg0 FW;go_enter func374,ntmps374;go_wp2_with fail;refine HF.out.mono ?_;rintro e w1 ⟨rfl,hb1⟩;obtain ⟨w2,hw2⟩:=eE (w1.alloc (.cells #[.int .i64 (Z5 ps 0).1,.int .i64 (Z5 ps 0).2,.int .i64 (Z5 ps 1).1,.int .i64 (Z5 ps 1).2,.int .i64 (Z5 ps 2).1,.int .i64 (Z5 ps 2).2] 416));have hb2:Below w.heap.size w w2:=(by rw [hw2];exact ZY hb1 _);have B2:Z6 w2 w1.heap.size 416 #[.int .i64 (Z5 ps 0).1,.int .i64 (Z5 ps 0).2,.int .i64 (Z5 ps 1).1,.int .i64 (Z5 ps 1).2,.int .i64 (Z5 ps 2).1,.int .i64 (Z5 ps 2).2]:=(by rw [hw2];exact Z6.new _ _ _);have hm:∀ k,More P w w2 k->k<w2.heap.size:=XZ HP.out hb2;have Ww:=hide (Yl (More P w w2) t es 4 0 2 w2 hm (HT.out.more hb2) (by omega) (by unfold Zj;omega));have HI:Hid (More P w w2 w1.heap.size):=.inr ⟨hb1.size,B2.lt⟩;have HB2:=hide hb2;clear hb2 hb1 hm HF;go_wp2_with fail;rw [<- hw2];clear hw2;refine Ww.out.mono ?_;rintro e w3 ⟨rfl,hk3,_,ht3⟩;have B3:=B2.kept hk3 HI.out;have z0:=B3.q0 rfl;have z1:=B3.q1 rfl;have z2:=B3.q2 rfl;have z3:=B3.q3 rfl;have z4:=B3.q4 rfl;have z5:=B3.q5 rfl;dsimp at z0 z1 z2 z3 z4 z5;have RY:Z9 P w w3:=Z9.more HB2.out HP.out hk3;have TW:=(Xm (Z5 ps 0) (Z5 ps 1) (Z5 ps 2) (Og.out.at_ _) (Og.out.at_ _) (Og.out.at_ _) w3 (HW.out.kept RY HG.out));have F8:=Yd (ZL (Z5 ps 0) (Z5 ps 1) (Z5 ps 2));rw [<- mR.out] at TW F8;have F3:=hide TW;clear TW;have HK:=hide RY;have HT3:=hide (ht3.mono (R:=P) fun k h=>.inl h);clear hk3 ht3 B2 B3 RY Ww;go_wp2_with fail;refine F3.out.mono ?_;rintro e w4 ⟨rfl,hb4⟩;obtain ⟨hz1,hz2⟩:=Yo (x:=os) (by rcases F8 with h|h|h <;> omega) (by rcases F8 with h|h|h <;> omega);have HZ:=Xq (IntKind.u64.wrap os) hz1.1 hz1.2 w4;rw [hz2] at HZ;have HZ:=hide HZ;have hnot:=VU (decide (os=0));clear z0 z1 z2 z3 z4 z5 hz1 hz2 F8;go_wp2_with fail;refine HZ.out.mono ?_;rintro e w5 ⟨rfl,rfl⟩;go_wp2;go_ret;exact ⟨rfl,HK.out.trans (Z9.of_below hb4 (fun k hk=>Nat.lt_of_lt_of_le (HP.out k hk) HK.out.size)),HT3.out.step hb4⟩
 · have HF:=hide (SC ps hn A c w);have HO:WV ps=false:=(by unfold WV;rw [decide_eq_false hn];rfl);have HE:XV ps.length=[]:=(by unfold XV;rw [if_neg hn]);rw [HO,HE,List.append_nil];have HT:=hide ht;have HP:=hide hP;clear HO HE ht hP hw hps hs hn hg0;go_enter func374,ntmps374;go_wp2_with fail;refine HF.out.mono ?_;rintro e w1 ⟨rfl,hb1⟩;go_wp2;go_ret;exact ⟨rfl,Z9.of_below (ZY hb1 _) HP.out,HT.out.step (ZY hb1 _)⟩
theorem Sy(p:Pt)(hp:PJ p):Calls prog 373 #[.pointer (ZT t),.slice A ps.length c,.agg #[.int .i64 p.1,.int .i64 p.2]] w fun e w'=>e=.returned (.int .i64 (U6 ps p))/\Z9 P w w'/\Tp w' P t (es++XU ps.length):=by
 obtain ⟨w0,hw0⟩:=eE (w.alloc (.cells #[.int .i64 p.1,.int .i64 p.2] 41));have hb0:=bE hw0;have B0:Z6 w0 w.heap.size 41 #[.int .i64 p.1,.int .i64 p.2]:=by rw [hw0];exact Z6.new _ _ _
 by_cases hn:ps.length=3
 · have FW:=SE ps hn A c w0 (((hs.sl hP).below hb0).more hb0.size);unfold Zk at FW;have HF:=hide FW;have HO:U6 ps p=(YF (Z5 ps 0) (Z5 ps 1) (Z5 ps 2) p).sign*(ZL (Z5 ps 0) (Z5 ps 1) (Z5 ps 2)).sign:=(by unfold U6;rw [if_pos hn]);have HE:XU ps.length=[(6,0,0)]:=(by unfold XU;rw [if_pos hn]);rw [HO,HE];have HT:=hide ht;have HP:=hide hP;have HW:=hide hw;have Og:=hide hps;have HG:=hide hg0;have rO:=hide hp;clear HO HE ht hP hw hps hs hn hg0 FW hp;go_enter func373,ntmps373;go_wp2_with fail;rw [<- hw0];have HW0:=hide hw0;clear hw0;refine HF.out.mono ?_;rintro e w1 ⟨rfl,hb1⟩;obtain ⟨w2,hw2⟩:=eE (w1.alloc (.cells #[.int .i64 (Z5 ps 0).1,.int .i64 (Z5 ps 0).2,.int .i64 (Z5 ps 1).1,.int .i64 (Z5 ps 1).2,.int .i64 (Z5 ps 2).1,.int .i64 (Z5 ps 2).2] 416));have Xx:=bE hw2;have hb2:Below w.heap.size w w2:=Z8 (Z8 hb0 hb1) Xx;have B2:Z6 w2 w1.heap.size 416 #[.int .i64 (Z5 ps 0).1,.int .i64 (Z5 ps 0).2,.int .i64 (Z5 ps 1).1,.int .i64 (Z5 ps 1).2,.int .i64 (Z5 ps 2).1,.int .i64 (Z5 ps 2).2]:=(by rw [hw2];exact Z6.new _ _ _);have C2:Z6 w2 w.heap.size 41 #[.int .i64 p.1,.int .i64 p.2]:=(B0.step hb1).step Xx;have hm:∀ k,More P w w2 k->k<w2.heap.size:=XZ HP.out hb2;have Ww:=hide (Yl (More P w w2) t es 6 0 0 w2 hm (HT.out.more hb2) (by omega) (by unfold Zj;omega));have HI:Hid (More P w w2 w1.heap.size):=.inr ⟨(Z8 hb0 hb1).size,B2.lt⟩;have HI0:Hid (More P w w2 w.heap.size):=.inr ⟨Nat.le_refl _,C2.lt⟩;have HB2:=hide hb2;clear hb2 hb1 hm HF Xx B0 hb0;go_wp2_with fail;rw [<- hw2];clear hw2;refine Ww.out.mono ?_;rintro e w3 ⟨rfl,hk3,_,ht3⟩;have B3:=B2.kept hk3 HI.out;have C3:=C2.kept hk3 HI0.out;have z0:=B3.q0 rfl;have z1:=B3.q1 rfl;have z2:=B3.q2 rfl;have z3:=B3.q3 rfl;have z4:=B3.q4 rfl;have z5:=B3.q5 rfl;have z6:=C3.q0 rfl;have z7:=C3.q1 rfl;dsimp at z0 z1 z2 z3 z4 z5 z6 z7;have RY:Z9 P w w3:=Z9.more HB2.out HP.out hk3;have dS:=hide (J8 (Z5 ps 0) (Z5 ps 1) (Z5 ps 2) p (Og.out.at_ _) (Og.out.at_ _) (Og.out.at_ _) rO.out w3 (HW.out.kept RY HG.out));have HK:=hide RY;have HT3:=hide (ht3.mono (R:=P) fun k h=>.inl h);clear hk3 ht3 B2 B3 RY Ww C2 C3;go_wp2_with fail;refine dS.out.mono ?_;rintro e w4 ⟨rfl,hb4⟩;clear z0 z1 z2 z3 z4 z5 z6 z7;go_wp2;go_ret;exact ⟨rfl,HK.out.trans (Z9.of_below hb4 (fun k hk=>Nat.lt_of_lt_of_le (HP.out k hk) HK.out.size)),HT3.out.step hb4⟩
 · have HF:=hide (SC ps hn A c w0);have HO:U6 ps p=-1:=(by unfold U6;rw [if_neg hn]);have HE:XU ps.length=[]:=(by unfold XU;rw [if_neg hn]);rw [HO,HE,List.append_nil];have HT:=hide ht;have HP:=hide hP;clear HO HE ht hP hw hps hs hn hg0 hp;go_enter func373,ntmps373;go_wp2_with fail;rw [<- hw0];have HW0:=hide hw0;clear hw0;refine HF.out.mono ?_;rintro e w1 ⟨rfl,hb1⟩;go_wp2;go_ret;exact ⟨rfl,Z9.of_below (ZY (Z8 hb0 hb1) _) HP.out,HT.out.step (ZY (Z8 hb0 hb1) _)⟩
end
end
section
open Go.RowKit Go.Shelf
def Fu(v:Int)(ps:List Pt):Bool:=if v=0 then WV ps else TF ps
def VF(v:Int)(n:Nat):List Ev:=if v=0 then XV n else Uy n (List.range (Zw n))
def Dq(v:Int)(ps:List Pt)(p:Pt):Int:=if v=0 then U6 ps p else EI ps p
def VE(v:Int)(n:Nat):List Ev:=if v=0 then XU n else YV (List.range (Zw n))
theorem OD(n:Nat):Zw n<=n/\Zw n<=64:=by unfold Zw;split <;> omega
theorem QL(v:Int)(n:Nat):(VF v n).length<=4096:=by
 unfold VF;split
 · unfold XV;split <;> simp
 · have h:=Vv n (List.range (Zw n));rw [List.length_range] at h;have he:=OD n
   by_cases h64:n<=64
   · exact Nat.le_trans h (Nat.mul_le_mul he.2 h64)
   · have h0:Zw n=0:=(by unfold Zw;rw [if_neg (by omega)]);rw [h0] at h ⊢;omega
theorem QK(v:Int)(n:Nat):(VE v n).length<=64:=by
 unfold VE;split
 · unfold XU;split <;> simp
 · unfold YV;rw [List.length_map,List.length_range];exact (OD n).2
theorem Po(d : Bool)(v : Int)(A : Option Addr)(n c : Nat)(w : World): (method 519 379 (.agg #[.bool d, .int .i64 v, .slice A n c]) "geofence/fence.valid").run prog w = .ok (372, .agg #[.bool d, .int .i64 v, .slice A n c]) w := by kernel_rfl
theorem QE(d : Bool)(v : Int)(A : Option Addr)(n c : Nat)(w : World): (method 519 380 (.agg #[.bool d, .int .i64 v, .slice A n c]) "geofence/fence.valid").run prog w = .ok (379, .agg #[.bool d, .int .i64 v, .slice A n c]) w := by kernel_rfl
theorem Ut(d : Bool)(v : Int)(A : Option Addr)(n c : Nat)(w : World): (method 519 379 (.agg #[.bool d, .int .i64 v, .slice A n c]) "geofence/fence.locate").run prog w = .ok (370, .agg #[.bool d, .int .i64 v, .slice A n c]) w := by kernel_rfl
theorem Vb(d : Bool)(v : Int)(A : Option Addr)(n c : Nat)(w : World): (method 519 380 (.agg #[.bool d, .int .i64 v, .slice A n c]) "geofence/fence.locate").run prog w = .ok (377, .agg #[.bool d, .int .i64 v, .slice A n c]) w := by kernel_rfl
section
variable (P:Nat->Prop)(t:Option (Nat × Nat))(es:List Ev)(d:Bool)(v:Int)(ps:List Pt)(hps:Lj ps)(hn:ps.length<=10000)(A:Option Addr)(c:Nat)(w:World)(hP:∀ k,P k->k<w.heap.size)(hg0:P 8)(hs:Wx w P A (Y7 ps))(hw:MW w)(ht:Tp w P t es)(hl:es.length<=900000)
include hps hn hP hg0 hs hw ht hl
omit hn in
theorem NC:Calls prog 372 #[.agg #[.bool d,.int .i64 v,.slice A ps.length c],.pointer (ZT t)] w fun e w'=>e=.returned (.int .u64 (ZU (WV ps)))/\Z9 P w w'/\Tp w' P t (es++XV ps.length):=by
 obtain ⟨w0,hw0⟩:=eE (w.alloc (.cells #[.bool d,.int .i64 v,.slice A ps.length c] 379));have hb0:=bE hw0;have hk0:Z9 P w w0:=Z9.of_below hb0 hP;have HC:=hide (RU P t es ps hps A c w0 (fun k hk=>Nat.lt_of_lt_of_le (hP k hk) hb0.size) hg0 (hs.kept hk0) (hw.step hb0) (ht.step hb0) hl);have HK:=hide hk0;clear hps hP hg0 hs hw ht hk0 hb0;go_enter func372,ntmps372;go_wp2_with fail;rw [<- hw0];clear hw0;refine HC.out.mono ?_;rintro e w1 ⟨rfl,hk1,ht1⟩;go_wp2;go_ret;exact ⟨rfl,HK.out.trans hk1,ht1⟩
theorem Oy:Calls prog 379 #[.agg #[.bool d,.int .i64 v,.slice A ps.length c],.pointer (ZT t)] w fun e w'=>e=.returned (.int .u64 (ZU (TF ps)))/\Z9 P w w'/\Tp w' P t (es++Uy ps.length (List.range (Zw ps.length))):=by
 obtain ⟨w0,hw0⟩:=eE (w.alloc (.cells #[.bool d,.int .i64 v,.slice A ps.length c] 380));have hb0:=bE hw0;have hk0:Z9 P w w0:=Z9.of_below hb0 hP;have HC:=hide (Lf P t es ps hps hn A c w0 (fun k hk=>Nat.lt_of_lt_of_le (hP k hk) hb0.size) hg0 (hs.kept hk0) (hw.step hb0) (ht.step hb0) hl);have HK:=hide hk0;clear hps hP hg0 hs hw ht hk0 hb0;go_enter func379,ntmps379;go_wp2_with fail;rw [<- hw0];clear hw0;refine HC.out.mono ?_;rintro e w1 ⟨rfl,hk1,ht1⟩;go_wp2;go_ret;exact ⟨rfl,HK.out.trans hk1,ht1⟩
omit hn in
theorem PI(p:Pt)(hp:PJ p):Calls prog 370 #[.agg #[.bool d,.int .i64 v,.slice A ps.length c],.pointer (ZT t),.agg #[.int .i64 p.1,.int .i64 p.2]] w fun e w'=>e=.returned (.int .i64 (U6 ps p))/\Z9 P w w'/\Tp w' P t (es++XU ps.length):=by
 obtain ⟨w0,hw0⟩:=eE ((w.alloc (.cells #[.bool d,.int .i64 v,.slice A ps.length c] 379)).alloc (.cells #[.int .i64 p.1,.int .i64 p.2] 41));have hb0:=bF hw0;have hk0:Z9 P w w0:=Z9.of_below hb0 hP;have HC:=hide (Sy P t es ps hps A c w0 (fun k hk=>Nat.lt_of_lt_of_le (hP k hk) hb0.size) hg0 (hs.kept hk0) (hw.step hb0) (ht.step hb0) hl p hp);have HK:=hide hk0;clear hps hP hg0 hs hw ht hk0 hb0 hp;go_enter func370,ntmps370;go_wp2_with fail;rw [<- hw0];clear hw0;refine HC.out.mono ?_;rintro e w1 ⟨rfl,hk1,ht1⟩;go_wp2;go_ret;exact ⟨rfl,HK.out.trans hk1,ht1⟩
theorem Qm(p:Pt)(hp:PJ p):Calls prog 377 #[.agg #[.bool d,.int .i64 v,.slice A ps.length c],.pointer (ZT t),.agg #[.int .i64 p.1,.int .i64 p.2]] w fun e w'=>e=.returned (.int .i64 (EI ps p))/\Z9 P w w'/\Tp w' P t (es++YV (List.range (Zw ps.length))):=by
 obtain ⟨w0,hw0⟩:=eE ((w.alloc (.cells #[.bool d,.int .i64 v,.slice A ps.length c] 380)).alloc (.cells #[.int .i64 p.1,.int .i64 p.2] 41));have hb0:=bF hw0;have hk0:Z9 P w w0:=Z9.of_below hb0 hP;have HC:=hide (Nf P t es ps hps hn A c p hp w0 (fun k hk=>Nat.lt_of_lt_of_le (hP k hk) hb0.size) hg0 (hs.kept hk0) (hw.step hb0) (ht.step hb0) hl);have HK:=hide hk0;clear hps hP hg0 hs hw ht hk0 hb0 hp;go_enter func377,ntmps377;go_wp2_with fail;rw [<- hw0];clear hw0;refine HC.out.mono ?_;rintro e w1 ⟨rfl,hk1,ht1⟩;go_wp2;go_ret;exact ⟨rfl,HK.out.trans hk1,ht1⟩
end
def Jt(w:World)(P:Nat->Prop)(gs:List Gr):Prop:=∀ g∈gs,g.1.n=g.2.length/\Wx w P g.1.A (Y7 g.2)/\Lj g.2/\g.2.length<=10000
theorem Jt.kept{w w':World}{P:Nat->Prop}{gs:List Gr}(h:Jt w P gs)(hk:Z9 P w w'):Jt w' P gs:=fun g hg=>⟨(h g hg).1,(h g hg).2.1.kept hk,(h g hg).2.2⟩
def Yh:Nat->List Gr->List Ev
 | _,[]=>[]
 | i,g::gs=>(7,(i:Int),0)::(VF g.1.v g.2.length++Yh (i+1) gs)
theorem Rh:∀ (i:Nat) (l:List Gr) (g:Gr),Yh i (l++[g])=Yh i l++((7,((i+l.length:Nat):Int),0)::VF g.1.v g.2.length)
 | i,[],g=>by simp [Yh]
 | i,x::l,g=>by
   have h:=Rh (i+1) l g;have e:i+1+l.length=i+(x::l).length:=(by simp;omega);rw [List.cons_append,Yh,h,Yh,e];simp
theorem Km{gs:List Gr}{k:Nat}{g:Gr}(h:gs[k]?=some g):Yh 0 (gs.take (k+1))=Yh 0 (gs.take k)++((7,(k:Int),0)::VF g.1.v g.2.length):=by
 have hlt:k<gs.length:=(List.getElem?_eq_some_iff.1 h).1;rw [List.take_add_one,h];show Yh 0 (gs.take k++[g])=_;rw [Rh,List.length_take,Nat.min_eq_left (Nat.le_of_lt hlt),Nat.zero_add]
theorem Wh:∀ (i:Nat) (l:List Gr),(Yh i l).length<=4097*l.length
 | i,[]=>by simp [Yh]
 | i,x::l=>by
   have h:=Wh (i+1) l;have h2:=QL x.1.v x.2.length;simp only [Yh,List.length_cons,List.length_append];omega
def Qt(gs:List Gr):Bool:=gs.foldl (fun b g=>b && Fu g.1.v g.2) true
theorem Kn{gs:List Gr}{k:Nat}{g:Gr}(h:gs[k]?=some g):Qt (gs.take (k+1))=(Qt (gs.take k) && Fu g.1.v g.2):=by
 unfold Qt;rw [List.take_add_one,h];simp
def Zx(gs:List Gr):Bool:=decide (Zt (gs.map (·.1))=0) && Qt gs
def ZK(gs:List Gr):List Ev:=if Zt (gs.map (·.1))=0 then Yh 0 gs else []
theorem E9(w:World):Calls prog 262 #[.int .u64 1] w fun e w'=>e=.returned (.int .u64 (ZU true))/\w=w':=by
 have h:=Vs 1 (by omega) (by omega) w;rw [show decide ((1:Int) % 2=1)=true from by decide] at h;exact h
theorem XJ(P:Nat->Prop)(t:Option (Nat × Nat))(es:List Ev)(gs:List Gr)(GA:Option Addr)(gc:Nat)(w:World)(hP:∀ k,P k->k<w.heap.size)(hg0:P 8)(hs:Wx w P GA (rgCells (gs.map (·.1))))(hgs:Jt w P gs)(hw:MW w)(ht:Tp w P t es)(hl:es.length<=600000):
 Calls prog 195 #[.pointer (ZT t),.slice GA gs.length gc] w fun e w'=>e=.returned (.int .u64 (ZU (Zx gs)))/\Z9 P w w'/\Tp w' P t (es++ZK gs):=by
 have JK:=Vo (gs.map (·.1)) GA gc w (hs.sl hP);rw [List.length_map] at JK;have HC:=hide JK;clear JK
 by_cases hf:Zt (gs.map (·.1))=0
 · have ow:gs.length<=64:=by
    unfold Zt at hf;split at hf
    · omega
    · rename_i h;rw [List.length_map] at h;omega
   have e1:Zx gs=Qt gs:=(by unfold Zx;rw [decide_eq_true hf];rfl);have e2:ZK gs=Yh 0 gs:=(by unfold ZK;rw [if_pos hf]);rw [e1,e2];rw [hf] at HC;have HP:=hide hP;have Sj:=hide hg0;have HS:=hide hs;have JL:=hide hgs;have HW:=hide hw;have HT:=hide ht;have HO:=hide (fun w=>E9 w);clear hf e1 e2 hP hg0 hs hgs hw ht;go_enter func195,ntmps195;go_wp2_with fail;refine HC.out.mono ?_;rintro e w1 ⟨rfl,hb1⟩;have HB1:=hide hb1;clear hb1 HC;go_wp2_with fail;refine (HO.out w1).mono ?_;rintro e w2 ⟨rfl,rfl⟩;go_wp2_with fail
   go_loopw [5,14] (fun m i wr=>∃ k:Nat,k<=gs.length/\m=.int .u64 (ZU (Qt (gs.take k)))/\i=.int .i64 k/\Z9 P w wr/\Tp wr P t (es++Yh 0 (gs.take k)))
    (fun _ i _=>gs.length - (intOf i).toNat)
   case atStart=>exact ⟨0,Nat.zero_le _,rfl,rfl,Z9.of_below HB1.out HP.out,by simpa [Yh] using HT.out.step HB1.out⟩
   case round =>
    obtain ⟨k,hk,rfl,rfl,hkp,htp⟩:=hrel;have Qu:∀ j,P j->j<wr.heap.size:=fun j hj=>Nat.lt_of_lt_of_le (HP.out j hj) hkp.size
    by_cases hlt:k<gs.length
    · obtain ⟨g,hg⟩:∃ g,gs[k]?=some g:=⟨_,List.getElem?_eq_getElem hlt⟩;obtain ⟨hgn,Ic,Ie,hpn⟩:=JL.out g (List.mem_of_getElem? hg);have hr:(gs.map (·.1))[k]?=some g.1:=(by rw [List.getElem?_map,hg];rfl);obtain ⟨b,off,rfl,hB,c0,c1,c2⟩:=((HS.out.kept hkp).sl Qu).rg hr;have HE:=hide (Km hg);have HK:=hide (Kn hg);have RZ:((k:Nat):Int)<((gs.length:Nat):Int):=(by omega);obtain ⟨⟨d,v,A,n,c⟩,ps⟩:=g;dsimp only at *;subst hgn;clear hg hr
      have YG:Hid (∀ w8,Z9 P w w8->Tp w8 P t (es++Yh 0 (gs.take k)++[(7,(k:Int),0)]++VF v ps.length)->Z9 P w w8/\Tp w8 P t (es++Yh 0 (gs.take (k+1)))):=hide fun w8 h1 h2=>⟨h1,by
       rw [HE.out];rw [show es++(Yh 0 (gs.take k)++((7,(k:Int),0)::VF v ps.length))=es++Yh 0 (gs.take k)++[(7,(k:Int),0)]++VF v ps.length by simp]
       exact h2⟩
      have hle0:(es++Yh 0 (gs.take k)).length<=890000:=by
       have:=Wh 0 (gs.take k);rw [List.length_take] at this;rw [List.length_append];omega
      have hle:(es++Yh 0 (gs.take k)++[(7,(k:Int),0)]).length<=900000:=by
       rw [List.length_append];simp only [List.length_singleton];omega
      obtain ⟨w3,hw3⟩:=eE (wr.alloc (.cells #[.bool d,.int .i64 v,.slice A ps.length c] 38));have hb3:=bE hw3;have B3:Z6 w3 wr.heap.size 38 #[.bool d,.int .i64 v,.slice A ps.length c]:=(by rw [hw3];exact Z6.new _ _ _);have HI:Hid (More P wr w3 wr.heap.size):=.inr ⟨Nat.le_refl _,B3.lt⟩;have Ww:=hide (Yl (More P wr w3) t (es++Yh 0 (gs.take k)) 7 (k:Int) 0 w3 (XZ Qu hb3) (htp.more hb3) (by omega) (by unfold Zj;omega));have HB3:=hide hb3;have Ct:=hide hkp;have Gl:=hide Qu;clear HE hle0 hb3 htp hkp Qu hB;go_wp2_with fail;rw [<- hw3];clear hw3;refine Ww.out.mono ?_;rintro e w4 ⟨rfl,hk4,_,Qc⟩;have B4:=B3.kept hk4 HI.out;have z0:w4.cell? ⟨wr.heap.size,0,none⟩=some (.bool d):=B4.q0 rfl;have z1:w4.cell? ⟨wr.heap.size,1,none⟩=some (.int .i64 v):=B4.q1 rfl;have z2:w4.cell? ⟨wr.heap.size,2,none⟩=some (.slice A ps.length c):=B4.q2 rfl;have Wz:Z9 P w w4:=Ct.out.trans (Z9.more HB3.out Gl.out hk4);have VB:=Qc.mono (R:=P) fun k h=>.inl h;have F7:∀ j,P j->j<w4.heap.size:=fun j hj=>Nat.lt_of_lt_of_le (HP.out j hj) Wz.size;clear hk4 Qc B3 B4 Ww HI HB3 Ct Gl c0 c1 c2
      by_cases hv:v=0
      · have Oc:Hid (Fu v ps=WV ps):=hide (if_pos hv);have Ob:VF v ps.length=XV ps.length:=if_pos hv;rw [Ob] at YG;rw [Oc.out] at HK;subst hv;clear Ob Oc;go_wp2_with fail;refine (Yc d A ps.length c w4).mono ?_;rintro e w5 ⟨rfl,hb5⟩;have hk5:Z9 P w w5:=Wz.trans (Z9.of_below hb5 F7);have HV:=hide (NC P t (es++Yh 0 (gs.take k)++[(7,(k:Int),0)]) d 0 ps Ie A c w5 (fun j hj=>Nat.lt_of_lt_of_le (F7 j hj) hb5.size) Sj.out (Ic.kept (hk5)) (HW.out.kept hk5 Sj.out) (VB.step hb5) hle);clear hb5 Wz F7 VB z0 z1 z2;have hmr:=Po;go_wp2_with fail;refine HV.out.mono ?_;rintro e w6 ⟨rfl,Xe,OX⟩;have hand:=TP (Qt (gs.take k)) (WV ps);rw [<- HK.out] at hand;have Xt:=hide (YG.out w6 (hk5.trans Xe) OX);clear hk5 Xe OX HV hmr YG;go_wp2;go_roundw
        case rel=>exact ⟨k+1,by omega,rfl,by go_num,Xt.out⟩
        case measure=>simp [intOf];omega
      · have Oc:Hid (Fu v ps=TF ps):=hide (if_neg hv);have Ob:VF v ps.length=Uy ps.length (List.range (Zw ps.length)):=if_neg hv;rw [Ob] at YG;rw [Oc.out] at HK;clear Ob Oc;go_wp2_with fail;refine (Yn d v (by simpa using hv) A ps.length c w4).mono ?_;rintro e w5 ⟨rfl,hb5⟩;have hk5:Z9 P w w5:=Wz.trans (Z9.of_below hb5 F7);have HV:=hide (Oy P t (es++Yh 0 (gs.take k)++[(7,(k:Int),0)]) d v ps Ie hpn A c w5 (fun j hj=>Nat.lt_of_lt_of_le (F7 j hj) hb5.size) Sj.out (Ic.kept (hk5)) (HW.out.kept hk5 Sj.out) (VB.step hb5) hle);clear hb5 Wz F7 VB z0 z1 z2;have hmr:=QE;go_wp2_with fail;refine HV.out.mono ?_;rintro e w6 ⟨rfl,Xe,OX⟩;have hand:=TP (Qt (gs.take k)) (TF ps);rw [<- HK.out] at hand;have Xt:=hide (YG.out w6 (hk5.trans Xe) OX);clear hk5 Xe OX HV hmr YG;go_wp2;go_roundw
        case rel=>exact ⟨k+1,by omega,rfl,by go_num,Xt.out⟩
        case measure=>simp [intOf];omega
    · obtain rfl:k=gs.length:=(by omega);rw [List.take_length] at htp ⊢;go_wp2;go_ret;exact ⟨rfl,hkp,htp⟩
 · have e1:Zx gs=false:=(by unfold Zx;rw [decide_eq_false hf];rfl);have e2:ZK gs=[]:=(by unfold ZK;rw [if_neg hf]);rw [e1,e2,List.append_nil];have HP:=hide hP;have HT:=hide ht;obtain ⟨z,hz⟩:=eE (Zt (gs.map (·.1)));rw [<- hz] at HC hf;clear e1 e2 hP hg0 hs hgs hw ht hz;go_enter func195,ntmps195;go_wp2_with fail;refine HC.out.mono ?_;rintro e w1 ⟨rfl,hb1⟩;go_wp2;go_ret;exact ⟨rfl,Z9.of_below hb1 HP.out,HT.out.step hb1⟩
end
end Go.Proofs.YthnenedoblncjaaGreatDoor