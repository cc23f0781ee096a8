/- Disc FenceValid -/
import Derived.BigQuiet
import Derived.ChangeAlike
import Derived.Deep.QuietTactic
import Derived.Laws.CopyOwn
import Derived.Test.YthnenedoblncjaaGreatDoorPkP25
set_option maxRecDepth 1000000
set_option maxHeartbeats 8000000
namespace Go.Proofs.YthnenedoblncjaaGreatDoor
section
open Go.RowKit Go.Shelf
theorem run_copy_sized {P:Program} (w:World) (dT sT ty elem:TypeId) (s g o dLen dCap:Nat) (a:Addr) (sLen sCap:Nat) (cur:Array Value) (t:TypeId) (cs:List Value)
 (hu:P.underlying dT=some (.slice elem)) (hs:(P.info? elem).map (·.size)=some s)
 (hg:w.heap[g]?=some (.cells cur t (0,0))) (hn:cs.length=Nat.min sLen dLen*s)
 (hsrc:∀ j v,cs[j]?=some v→w.cell? (a.add j)=some v) (hfit:o+cs.length≤cur.size) (h1:∀ v∈cs,v.oneCell'=true) :
 (Builtin.copy_ #[dT,sT] ty #[.slice (some ⟨g,o,none⟩) dLen dCap,.slice (some a) sLen sCap]).run P w =
   .ok (goInt (Nat.min sLen dLen:Nat)) (w.setRow g (cur.toList.take o++cs++cur.toList.drop (o+cs.length)).toArray):=by
 have hl:=run_loadCells_list (P:=P) w a cs hsrc
 have hst:=run_storeCells_at P g o t cs 0 cur w hg (by simpa using hfit) h1
 cases hq:P.info? elem with
 | none=>simp [hq] at hs
 | some i =>
   have hi:i.size=s:=by simpa [hq] using hs
   simp [Builtin.copy_,run_underlying hu,Builtin.lenOf,Builtin.firstCells,sizeOf,typeInfo,hq,hi,← hn,hl,hst]
def corner3 (ps:List Pt):Array Value:=#[.int .i64 (ptAt ps 0).1,.int .i64 (ptAt ps 0).2,.int .i64 (ptAt ps 1).1,.int .i64 (ptAt ps 1).2,.int .i64 (ptAt ps 2).1,.int .i64 (ptAt ps 2).2]
theorem results_cor {fn:Func} {tmps:Array Value} {w:World} {g:Nat} {v0 v1 v2 v3 v4 v5:Value} (h:fn.results=#[.cell 2 416,.tmp 3])
 (hp:tmps.getD 2 undef=.pointer (some ⟨g,0,none⟩)) (hb:Blk w g 416 #[v0,v1,v2,v3,v4,v5]) :
 (results fn tmps).run Tryz.prog w=.ok (.tuple #[.agg #[v0,v1,v2,v3,v4,v5],tmps.getD 3 undef]) w:=by
 have c0:=hb.cell (i:=0) rfl
 have c1:=hb.cell (i:=1) rfl
 have c2:=hb.cell (i:=2) rfl
 have c3:=hb.cell (i:=3) rfl
 have c4:=hb.cell (i:=4) rfl
 have c5:=hb.cell (i:=5) rfl
 have hp':tmps[2]?.getD undef=.pointer (some ⟨g,0,none⟩):=by rw [← hp];simp
 simp [results,h,hp',go_sem,c0,c1,c2,c3,c4,c5]
theorem from_other (ps:List Pt) (hn:ps.length≠3) (A:Option Addr) (c:Nat) (w:World) :
 Calls Tryz.prog 375 #[.slice A ps.length c] w fun e w'=>e=.returned (.tuple #[.agg #[.int .i64 0,.int .i64 0,.int .i64 0,.int .i64 0,.int .i64 0,.int .i64 0],.bool false])∧Below w.heap.size w w':=by
 have hni:¬ ((ps.length:Nat):Int)=3:=by omega
 have B0:Blk ((w.alloc (.cells #[.int .i64 0,.int .i64 0,.int .i64 0,.int .i64 0,.int .i64 0,.int .i64 0] 416)).alloc (.cells #[.int .i64 0,.int .i64 0,.int .i64 0,.int .i64 0,.int .i64 0,.int .i64 0] 416)) w.heap.size 416 #[.int .i64 0,.int .i64 0,.int .i64 0,.int .i64 0,.int .i64 0,.int .i64 0]:=(Blk.new _ _ _).alloc _
 go_enter Tryz.func375,Tryz.ntmps375
 go_wp2
 refine bodyPost_ret (results_cor rfl rfl B0) rfl ⟨rfl,?_⟩
 exact bl_alloc (bA) _
theorem from_three (ps:List Pt) (hn:ps.length=3) (A:Option Addr) (c:Nat) (w:World) (hs:Sl w w.heap.size A (ptCs ps)) :
 Calls Tryz.prog 375 #[.slice A ps.length c] w fun e w'=>e=.returned (.tuple #[.agg (corner3 ps),.bool true])∧Below w.heap.size w w':=by
 obtain ⟨b,off,rfl,hb⟩:=sl_pts hs (by omega)
 have hc:∀ j u,(ptCs ps)[j]?=some u→w.cell? ⟨b,off+j,none⟩=some u:=by
  rcases hs with h | ⟨b',off',hA,_,h⟩
  · exfalso
    have h2:=flat_length (fun p:Int × Int=>[Value.int .i64 p.1,.int .i64 p.2]) 2 (fun _=>rfl) ps
    have h3:(ptCs ps).length=3*2:=by rw [← hn];exact h2
    rw [h] at h3;simp at h3
  · cases hA;exact h
 have hcs:ptCs ps=(corner3 ps).toList:=by
  match ps,hn with
  | [p,q,r],_=>rfl
 rw [hcs] at hc
 have hc2:∀ j v,(corner3 ps).toList[j]?=some v→((w.alloc (.cells #[.int .i64 0,.int .i64 0,.int .i64 0,.int .i64 0,.int .i64 0,.int .i64 0] 416)).alloc (.cells #[.int .i64 0,.int .i64 0,.int .i64 0,.int .i64 0,.int .i64 0,.int .i64 0] 416)).cell? ((⟨b,off,none⟩:Addr).add j)=some v:=fun j v hv=>by
  have h1:=hc j v hv
  have h2:=(bl_alloc (bl_alloc (Below.refl w.heap.size w) (.cells #[.int .i64 0,.int .i64 0,.int .i64 0,.int .i64 0,.int .i64 0,.int .i64 0] 416)) (.cells #[.int .i64 0,.int .i64 0,.int .i64 0,.int .i64 0,.int .i64 0,.int .i64 0] 416)).cell (p:=⟨b,off+j,none⟩) hb
  rw [h1] at h2
  rw [show (⟨b,off,none⟩:Addr).add j=⟨b,off+j,none⟩ by simp [Addr.add]]
  exact h2
 have B1:Blk ((w.alloc (.cells #[.int .i64 0,.int .i64 0,.int .i64 0,.int .i64 0,.int .i64 0,.int .i64 0] 416)).alloc (.cells #[.int .i64 0,.int .i64 0,.int .i64 0,.int .i64 0,.int .i64 0,.int .i64 0] 416)) (w.heap.size+1) 416 #[.int .i64 0,.int .i64 0,.int .i64 0,.int .i64 0,.int .i64 0,.int .i64 0]:=Blk.new2 _ _ _ _
 have B0:Blk ((w.alloc (.cells #[.int .i64 0,.int .i64 0,.int .i64 0,.int .i64 0,.int .i64 0,.int .i64 0] 416)).alloc (.cells #[.int .i64 0,.int .i64 0,.int .i64 0,.int .i64 0,.int .i64 0,.int .i64 0] 416)) w.heap.size 416 #[.int .i64 0,.int .i64 0,.int .i64 0,.int .i64 0,.int .i64 0,.int .i64 0]:=(Blk.new _ _ _).alloc _
 rw [hn]
 have hrun:=run_copy_sized (P:=Tryz.prog) ((w.alloc (.cells #[.int .i64 0,.int .i64 0,.int .i64 0,.int .i64 0,.int .i64 0,.int .i64 0] 416)).alloc (.cells #[.int .i64 0,.int .i64 0,.int .i64 0,.int .i64 0,.int .i64 0,.int .i64 0] 416)) 36 36 3 41 2 (w.heap.size+1) 0 3 3 ⟨b,off,none⟩ 3 c #[.int .i64 0,.int .i64 0,.int .i64 0,.int .i64 0,.int .i64 0,.int .i64 0] 416 (corner3 ps).toList Tryz.underlying36 (by kernel_rfl) B1 rfl hc2 (by simp [corner3]) (by simp [corner3,Value.oneCell'])
 have hb2:Below (w.heap.size+1) ((w.alloc (.cells #[.int .i64 0,.int .i64 0,.int .i64 0,.int .i64 0,.int .i64 0,.int .i64 0] 416)).alloc (.cells #[.int .i64 0,.int .i64 0,.int .i64 0,.int .i64 0,.int .i64 0,.int .i64 0] 416)) (((w.alloc (.cells #[.int .i64 0,.int .i64 0,.int .i64 0,.int .i64 0,.int .i64 0,.int .i64 0] 416)).alloc (.cells #[.int .i64 0,.int .i64 0,.int .i64 0,.int .i64 0,.int .i64 0,.int .i64 0] 416)).setRow (w.heap.size+1) (((#[.int .i64 0,.int .i64 0,.int .i64 0,.int .i64 0,.int .i64 0,.int .i64 0]:Array Value).toList.take 0++(corner3 ps).toList++(#[.int .i64 0,.int .i64 0,.int .i64 0,.int .i64 0,.int .i64 0,.int .i64 0]:Array Value).toList.drop (0+(corner3 ps).toList.length)).toArray)):=below_setRow (Below.refl _ _) (Nat.le_refl _) _
 have h2:=setRow_heap ((w.alloc (.cells #[.int .i64 0,.int .i64 0,.int .i64 0,.int .i64 0,.int .i64 0,.int .i64 0] 416)).alloc (.cells #[.int .i64 0,.int .i64 0,.int .i64 0,.int .i64 0,.int .i64 0,.int .i64 0] 416)) (w.heap.size+1) #[.int .i64 0,.int .i64 0,.int .i64 0,.int .i64 0,.int .i64 0,.int .i64 0] (((#[.int .i64 0,.int .i64 0,.int .i64 0,.int .i64 0,.int .i64 0,.int .i64 0]:Array Value).toList.take 0++(corner3 ps).toList++(#[.int .i64 0,.int .i64 0,.int .i64 0,.int .i64 0,.int .i64 0,.int .i64 0]:Array Value).toList.drop (0+(corner3 ps).toList.length)).toArray) 416 _ B1
 generalize ((w.alloc (.cells #[.int .i64 0,.int .i64 0,.int .i64 0,.int .i64 0,.int .i64 0,.int .i64 0] 416)).alloc (.cells #[.int .i64 0,.int .i64 0,.int .i64 0,.int .i64 0,.int .i64 0,.int .i64 0] 416)).setRow (w.heap.size+1) (((#[.int .i64 0,.int .i64 0,.int .i64 0,.int .i64 0,.int .i64 0,.int .i64 0]:Array Value).toList.take 0++(corner3 ps).toList++(#[.int .i64 0,.int .i64 0,.int .i64 0,.int .i64 0,.int .i64 0,.int .i64 0]:Array Value).toList.drop (0+(corner3 ps).toList.length)).toArray)=w2 at hrun hb2 h2
 have B2:Blk w2 (w.heap.size+1) 416 (corner3 ps):=h2
 have C2:Blk w2 w.heap.size 416 #[.int .i64 0,.int .i64 0,.int .i64 0,.int .i64 0,.int .i64 0,.int .i64 0]:=B0.below hb2 (by omega)
 have hbb:Below w.heap.size w w2:=(bl_alloc (bA) _).trans (hb2.mono (by omega))
 have HB:=hide hbb
 have z0:=B2.cell (i:=0) rfl
 have z1:=B2.cell (i:=1) rfl
 have z2:=B2.cell (i:=2) rfl
 have z3:=B2.cell (i:=3) rfl
 have z4:=B2.cell (i:=4) rfl
 have z5:=B2.cell (i:=5) rfl
 unfold corner3 at z0 z1 z2 z3 z4 z5
 dsimp at z0 z1 z2 z3 z4 z5
 have y0:=C2.frozen 0
 have y1:=C2.frozen 1
 have y2:=C2.frozen 2
 have y3:=C2.frozen 3
 have y4:=C2.frozen 4
 have y5:=C2.frozen 5
 have u0:=C2.cell (i:=0) rfl
 have u1:=C2.cell (i:=1) rfl
 have u2:=C2.cell (i:=2) rfl
 have u3:=C2.cell (i:=3) rfl
 have u4:=C2.cell (i:=4) rfl
 have u5:=C2.cell (i:=5) rfl
 dsimp at u0 u1 u2 u3 u4 u5
 have HC2:=hide C2
 clear hc2 hc hcs B1 B0 hs h2 hb2 B2 C2 hbb
 go_enter Tryz.func375,Tryz.ntmps375
 go_wp2
 have E:Blk _ w.heap.size 416 (corner3 ps):=((((((HC2.out.set 0 (.int .i64 (ptAt ps 0).1)).set 1 (.int .i64 (ptAt ps 0).2)).set 2 (.int .i64 (ptAt ps 1).1)).set 3 (.int .i64 (ptAt ps 1).2)).set 4 (.int .i64 (ptAt ps 2).1)).set 5 (.int .i64 (ptAt ps 2).2))
 refine bodyPost_ret (results_cor rfl rfl E) rfl ?_
 refine ⟨rfl,?_⟩
 exact (((((HB.out.setCell (Nat.le_refl _) _).setCell (Nat.le_refl _) _).setCell (Nat.le_refl _) _).setCell (Nat.le_refl _) _).setCell (Nat.le_refl _) _).setCell (Nat.le_refl _) _
def discOk (ps:List Pt):Bool:=decide (ps.length=3) && !decide ((orientD (ptAt ps 0) (ptAt ps 1) (ptAt ps 2)).sign=0)
def discVEv (n:Nat):List Ev:=if n=3 then [(4,0,2)] else []
def discL (ps:List Pt) (p:Pt):Int:=if ps.length=3 then (circleD (ptAt ps 0) (ptAt ps 1) (ptAt ps 2) p).sign*(orientD (ptAt ps 0) (ptAt ps 1) (ptAt ps 2)).sign else -1
def discLEv (n:Nat):List Ev:=if n=3 then [(6,0,0)] else []
section
variable (P:Nat→Prop) (t:Option (Nat × Nat)) (es:List Ev) (ps:List Pt) (hps:PsJ ps) (A:Option Addr) (c:Nat) (w:World) (hP:∀ k,P k→k<w.heap.size) (hg0:P 8) (hs:SlP w P A (ptCs ps)) (hw:MW w) (ht:Tp w P t es) (hl:es.length≤900000)
include hps hP hg0 hs hw ht hl
theorem discValid_any:Calls Tryz.prog 374 #[.pointer (tapeA t),.slice A ps.length c] w fun e w'=>e=.returned (.int .u64 (msk (discOk ps)))∧KeepP P w w'∧Tp w' P t (es++discVEv ps.length):=by
 by_cases hn:ps.length=3
 · have HF0:=from_three ps hn A c w (hs.sl hP)
   unfold corner3 at HF0
   have HF:=hide HF0
   have HO:discOk ps=!decide ((orientD (ptAt ps 0) (ptAt ps 1) (ptAt ps 2)).sign=0):=by unfold discOk;rw [decide_eq_true hn];rfl
   have HE:discVEv ps.length=[(4,0,2)]:=by unfold discVEv;rw [if_pos hn]
   rw [HO,HE]
   obtain ⟨os,hos⟩:∃ os,os=(orientD (ptAt ps 0) (ptAt ps 1) (ptAt ps 2)).sign:=⟨_,rfl⟩
   rw [← hos]
   have HOSN:=hide hos
   have HT:=hide ht;have HP:=hide hP;have HW:=hide hw;have HPS:=hide hps;have HG:=hide hg0
   clear hos HO HE ht hP hw hps hs hn hg0 HF0
   go_enter Tryz.func374,Tryz.ntmps374
   go_wp2_with fail
   refine HF.out.mono ?_
   rintro e w1 ⟨rfl,hb1⟩
   obtain ⟨w2,hw2⟩:∃ w2,w2=w1.alloc (.cells #[.int .i64 (ptAt ps 0).1,.int .i64 (ptAt ps 0).2,.int .i64 (ptAt ps 1).1,.int .i64 (ptAt ps 1).2,.int .i64 (ptAt ps 2).1,.int .i64 (ptAt ps 2).2] 416):=⟨_,rfl⟩
   have hb2:Below w.heap.size w w2:=by rw [hw2];exact bl_alloc hb1 _
   have B2:Blk w2 w1.heap.size 416 #[.int .i64 (ptAt ps 0).1,.int .i64 (ptAt ps 0).2,.int .i64 (ptAt ps 1).1,.int .i64 (ptAt ps 1).2,.int .i64 (ptAt ps 2).1,.int .i64 (ptAt ps 2).2]:=by rw [hw2];exact Blk.new _ _ _
   have hm:∀ k,More P w w2 k→k<w2.heap.size:=more_lt HP.out hb2
   have HNO:=hide (note_any (More P w w2) t es 4 0 2 w2 hm (HT.out.more hb2) (by omega) (by unfold I64w;omega))
   have HI:Hid (More P w w2 w1.heap.size):=.inr ⟨hb1.size,B2.lt⟩
   have HB2:=hide hb2
   clear hb2 hb1 hm HF
   go_wp2_with fail
   rw [← hw2]
   clear hw2
   refine HNO.out.mono ?_
   rintro e w3 ⟨rfl,hk3,_,ht3⟩
   have B3:=B2.kept hk3 HI.out
   have z0:=B3.cell (i:=0) rfl
   have z1:=B3.cell (i:=1) rfl
   have z2:=B3.cell (i:=2) rfl
   have z3:=B3.cell (i:=3) rfl
   have z4:=B3.cell (i:=4) rfl
   have z5:=B3.cell (i:=5) rfl
   dsimp at z0 z1 z2 z3 z4 z5
   have hk03:KeepP P w w3:=KeepP.more HB2.out HP.out hk3
   have HOS0:=(osign_any (ptAt ps 0) (ptAt ps 1) (ptAt ps 2) (HPS.out.at_ _) (HPS.out.at_ _) (HPS.out.at_ _) w3 (HW.out.kept hk03 HG.out))
   have hbo:=sign_bd (orientD (ptAt ps 0) (ptAt ps 1) (ptAt ps 2))
   rw [← HOSN.out] at HOS0 hbo
   have HOS:=hide HOS0
   clear HOS0
   have HK:=hide hk03;have HT3:=hide (ht3.mono (R:=P) fun k h=>.inl h)
   clear hk3 ht3 B2 B3 hk03 HNO
   go_wp2_with fail
   refine HOS.out.mono ?_
   rintro e w4 ⟨rfl,hb4⟩
   obtain ⟨hz1,hz2⟩:=wrap_u64_zero (x:=os) (by rcases hbo with h | h | h <;> omega) (by rcases hbo with h | h | h <;> omega)
   have HZ:=zero_any (IntKind.u64.wrap os) hz1.1 hz1.2 w4
   rw [hz2] at HZ
   have HZ:=hide HZ
   have hnot:=msk_not (decide (os=0))
   clear z0 z1 z2 z3 z4 z5 hz1 hz2 hbo
   go_wp2_with fail
   refine HZ.out.mono ?_
   rintro e w5 ⟨rfl,rfl⟩
   go_wp2
   go_ret
   exact ⟨rfl,HK.out.trans (KeepP.of_below hb4 (fun k hk=>Nat.lt_of_lt_of_le (HP.out k hk) HK.out.size)),HT3.out.step hb4⟩
 · have HF:=hide (from_other ps hn A c w)
   have HO:discOk ps=false:=by unfold discOk;rw [decide_eq_false hn];rfl
   have HE:discVEv ps.length=[]:=by unfold discVEv;rw [if_neg hn]
   rw [HO,HE,List.append_nil]
   have HT:=hide ht;have HP:=hide hP
   clear HO HE ht hP hw hps hs hn hg0
   go_enter Tryz.func374,Tryz.ntmps374
   go_wp2_with fail
   refine HF.out.mono ?_
   rintro e w1 ⟨rfl,hb1⟩
   go_wp2
   go_ret
   exact ⟨rfl,KeepP.of_below (bl_alloc hb1 _) HP.out,HT.out.step (bl_alloc hb1 _)⟩
theorem discLocate_any (p:Pt) (hp:PJ p):Calls Tryz.prog 373 #[.pointer (tapeA t),.slice A ps.length c,.agg #[.int .i64 p.1,.int .i64 p.2]] w fun e w'=>e=.returned (.int .i64 (discL ps p))∧KeepP P w w'∧Tp w' P t (es++discLEv ps.length):=by
 obtain ⟨w0,hw0⟩:∃ w0,w0=w.alloc (.cells #[.int .i64 p.1,.int .i64 p.2] 41):=⟨_,rfl⟩
 have hb0:Below w.heap.size w w0:=by rw [hw0];exact bA
 have B0:Blk w0 w.heap.size 41 #[.int .i64 p.1,.int .i64 p.2]:=by rw [hw0];exact Blk.new _ _ _
 by_cases hn:ps.length=3
 · have HF0:=from_three ps hn A c w0 (((hs.sl hP).below hb0).more hb0.size)
   unfold corner3 at HF0
   have HF:=hide HF0
   have HO:discL ps p=(circleD (ptAt ps 0) (ptAt ps 1) (ptAt ps 2) p).sign*(orientD (ptAt ps 0) (ptAt ps 1) (ptAt ps 2)).sign:=by unfold discL;rw [if_pos hn]
   have HE:discLEv ps.length=[(6,0,0)]:=by unfold discLEv;rw [if_pos hn]
   rw [HO,HE]
   have HT:=hide ht;have HP:=hide hP;have HW:=hide hw;have HPS:=hide hps;have HG:=hide hg0;have HPP:=hide hp
   clear HO HE ht hP hw hps hs hn hg0 HF0 hp
   go_enter Tryz.func373,Tryz.ntmps373
   go_wp2_with fail
   rw [← hw0]
   have HW0:=hide hw0
   clear hw0
   refine HF.out.mono ?_
   rintro e w1 ⟨rfl,hb1⟩
   obtain ⟨w2,hw2⟩:∃ w2,w2=w1.alloc (.cells #[.int .i64 (ptAt ps 0).1,.int .i64 (ptAt ps 0).2,.int .i64 (ptAt ps 1).1,.int .i64 (ptAt ps 1).2,.int .i64 (ptAt ps 2).1,.int .i64 (ptAt ps 2).2] 416):=⟨_,rfl⟩
   have hb12:Below w1.heap.size w1 w2:=by rw [hw2];exact bA
   have hb2:Below w.heap.size w w2:=bl_step (bl_step hb0 hb1) hb12
   have B2:Blk w2 w1.heap.size 416 #[.int .i64 (ptAt ps 0).1,.int .i64 (ptAt ps 0).2,.int .i64 (ptAt ps 1).1,.int .i64 (ptAt ps 1).2,.int .i64 (ptAt ps 2).1,.int .i64 (ptAt ps 2).2]:=by rw [hw2];exact Blk.new _ _ _
   have C2:Blk w2 w.heap.size 41 #[.int .i64 p.1,.int .i64 p.2]:=(B0.step hb1).step hb12
   have hm:∀ k,More P w w2 k→k<w2.heap.size:=more_lt HP.out hb2
   have HNO:=hide (note_any (More P w w2) t es 6 0 0 w2 hm (HT.out.more hb2) (by omega) (by unfold I64w;omega))
   have HI:Hid (More P w w2 w1.heap.size):=.inr ⟨(bl_step hb0 hb1).size,B2.lt⟩
   have HI0:Hid (More P w w2 w.heap.size):=.inr ⟨Nat.le_refl _,C2.lt⟩
   have HB2:=hide hb2
   clear hb2 hb1 hm HF hb12 B0 hb0
   go_wp2_with fail
   rw [← hw2]
   clear hw2
   refine HNO.out.mono ?_
   rintro e w3 ⟨rfl,hk3,_,ht3⟩
   have B3:=B2.kept hk3 HI.out
   have C3:=C2.kept hk3 HI0.out
   have z0:=B3.cell (i:=0) rfl
   have z1:=B3.cell (i:=1) rfl
   have z2:=B3.cell (i:=2) rfl
   have z3:=B3.cell (i:=3) rfl
   have z4:=B3.cell (i:=4) rfl
   have z5:=B3.cell (i:=5) rfl
   have z6:=C3.cell (i:=0) rfl
   have z7:=C3.cell (i:=1) rfl
   dsimp at z0 z1 z2 z3 z4 z5 z6 z7
   have hk03:KeepP P w w3:=KeepP.more HB2.out HP.out hk3
   have HCS:=hide (cside_any (ptAt ps 0) (ptAt ps 1) (ptAt ps 2) p (HPS.out.at_ _) (HPS.out.at_ _) (HPS.out.at_ _) HPP.out w3 (HW.out.kept hk03 HG.out))
   have HK:=hide hk03;have HT3:=hide (ht3.mono (R:=P) fun k h=>.inl h)
   clear hk3 ht3 B2 B3 hk03 HNO C2 C3
   go_wp2_with fail
   refine HCS.out.mono ?_
   rintro e w4 ⟨rfl,hb4⟩
   clear z0 z1 z2 z3 z4 z5 z6 z7
   go_wp2
   go_ret
   exact ⟨rfl,HK.out.trans (KeepP.of_below hb4 (fun k hk=>Nat.lt_of_lt_of_le (HP.out k hk) HK.out.size)),HT3.out.step hb4⟩
 · have HF:=hide (from_other ps hn A c w0)
   have HO:discL ps p=-1:=by unfold discL;rw [if_neg hn]
   have HE:discLEv ps.length=[]:=by unfold discLEv;rw [if_neg hn]
   rw [HO,HE,List.append_nil]
   have HT:=hide ht;have HP:=hide hP
   clear HO HE ht hP hw hps hs hn hg0 hp
   go_enter Tryz.func373,Tryz.ntmps373
   go_wp2_with fail
   rw [← hw0]
   have HW0:=hide hw0
   clear hw0
   refine HF.out.mono ?_
   rintro e w1 ⟨rfl,hb1⟩
   go_wp2
   go_ret
   exact ⟨rfl,KeepP.of_below (bl_alloc (bl_step hb0 hb1) _) HP.out,HT.out.step (bl_alloc (bl_step hb0 hb1) _)⟩
end
end
section
open Go.RowKit Go.Shelf
def rgOk (v:Int) (ps:List Pt):Bool:=if v=0 then discOk ps else validV ps
def rgVEv (v:Int) (n:Nat):List Ev:=if v=0 then discVEv n else vEv n (List.range (edgeN n))
def rgL (v:Int) (ps:List Pt) (p:Pt):Int:=if v=0 then discL ps p else locV ps p
def rgLEv (v:Int) (n:Nat):List Ev:=if v=0 then discLEv n else locEv (List.range (edgeN n))
theorem edgeN_le (n:Nat):edgeN n≤n∧edgeN n≤64:=by unfold edgeN;split <;> omega
theorem rgVEv_length (v:Int) (n:Nat):(rgVEv v n).length≤4096:=by
 unfold rgVEv
 split
 · unfold discVEv;split <;> simp
 · have h:=vEv_length n (List.range (edgeN n))
   rw [List.length_range] at h
   have he:=edgeN_le n
   by_cases h64:n≤64
   · exact Nat.le_trans h (Nat.mul_le_mul he.2 h64)
   · have h0:edgeN n=0:=by unfold edgeN;rw [if_neg (by omega)]
     rw [h0] at h ⊢
     omega
theorem rgLEv_length (v:Int) (n:Nat):(rgLEv v n).length≤64:=by
 unfold rgLEv
 split
 · unfold discLEv;split <;> simp
 · unfold locEv;rw [List.length_map,List.length_range];exact (edgeN_le n).2
theorem methV_round (d : Bool) (v : Int) (A : Option Addr) (n c : Nat) (w : World) : (method 519 379 (.agg #[.bool d, .int .i64 v, .slice A n c]) "geofence/fence.valid").run Tryz.prog w = .ok (372, .agg #[.bool d, .int .i64 v, .slice A n c]) w := by kernel_rfl
theorem methV_convex (d : Bool) (v : Int) (A : Option Addr) (n c : Nat) (w : World) : (method 519 380 (.agg #[.bool d, .int .i64 v, .slice A n c]) "geofence/fence.valid").run Tryz.prog w = .ok (379, .agg #[.bool d, .int .i64 v, .slice A n c]) w := by kernel_rfl
theorem methL_round (d : Bool) (v : Int) (A : Option Addr) (n c : Nat) (w : World) : (method 519 379 (.agg #[.bool d, .int .i64 v, .slice A n c]) "geofence/fence.locate").run Tryz.prog w = .ok (370, .agg #[.bool d, .int .i64 v, .slice A n c]) w := by kernel_rfl
theorem methL_convex (d : Bool) (v : Int) (A : Option Addr) (n c : Nat) (w : World) : (method 519 380 (.agg #[.bool d, .int .i64 v, .slice A n c]) "geofence/fence.locate").run Tryz.prog w = .ok (377, .agg #[.bool d, .int .i64 v, .slice A n c]) w := by kernel_rfl
section
variable (P:Nat→Prop) (t:Option (Nat × Nat)) (es:List Ev) (d:Bool) (v:Int) (ps:List Pt) (hps:PsJ ps) (hn:ps.length≤10000) (A:Option Addr) (c:Nat) (w:World) (hP:∀ k,P k→k<w.heap.size) (hg0:P 8) (hs:SlP w P A (ptCs ps)) (hw:MW w) (ht:Tp w P t es) (hl:es.length≤900000)
include hps hn hP hg0 hs hw ht hl
omit hn in
theorem roundValid:Calls Tryz.prog 372 #[.agg #[.bool d,.int .i64 v,.slice A ps.length c],.pointer (tapeA t)] w fun e w'=>e=.returned (.int .u64 (msk (discOk ps)))∧KeepP P w w'∧Tp w' P t (es++discVEv ps.length):=by
 obtain ⟨w0,hw0⟩:∃ w0,w0=w.alloc (.cells #[.bool d,.int .i64 v,.slice A ps.length c] 379):=⟨_,rfl⟩
 have hb0:Below w.heap.size w w0:=by rw [hw0];exact bA
 have hk0:KeepP P w w0:=KeepP.of_below hb0 hP
 have HC:=hide (discValid_any P t es ps hps A c w0 (fun k hk=>Nat.lt_of_lt_of_le (hP k hk) hb0.size) hg0 (hs.kept hk0) (hw.step hb0) (ht.step hb0) hl)
 have HK:=hide hk0
 clear hps hP hg0 hs hw ht hk0 hb0
 go_enter Tryz.func372,Tryz.ntmps372
 go_wp2_with fail
 rw [← hw0]
 clear hw0
 refine HC.out.mono ?_
 rintro e w1 ⟨rfl,hk1,ht1⟩
 go_wp2
 go_ret
 exact ⟨rfl,HK.out.trans hk1,ht1⟩
theorem convexValid:Calls Tryz.prog 379 #[.agg #[.bool d,.int .i64 v,.slice A ps.length c],.pointer (tapeA t)] w fun e w'=>e=.returned (.int .u64 (msk (validV ps)))∧KeepP P w w'∧Tp w' P t (es++vEv ps.length (List.range (edgeN ps.length))):=by
 obtain ⟨w0,hw0⟩:∃ w0,w0=w.alloc (.cells #[.bool d,.int .i64 v,.slice A ps.length c] 380):=⟨_,rfl⟩
 have hb0:Below w.heap.size w w0:=by rw [hw0];exact bA
 have hk0:KeepP P w w0:=KeepP.of_below hb0 hP
 have HC:=hide (valid_any P t es ps hps hn A c w0 (fun k hk=>Nat.lt_of_lt_of_le (hP k hk) hb0.size) hg0 (hs.kept hk0) (hw.step hb0) (ht.step hb0) hl)
 have HK:=hide hk0
 clear hps hP hg0 hs hw ht hk0 hb0
 go_enter Tryz.func379,Tryz.ntmps379
 go_wp2_with fail
 rw [← hw0]
 clear hw0
 refine HC.out.mono ?_
 rintro e w1 ⟨rfl,hk1,ht1⟩
 go_wp2
 go_ret
 exact ⟨rfl,HK.out.trans hk1,ht1⟩
omit hn in
theorem roundLocate (p:Pt) (hp:PJ p):Calls Tryz.prog 370 #[.agg #[.bool d,.int .i64 v,.slice A ps.length c],.pointer (tapeA t),.agg #[.int .i64 p.1,.int .i64 p.2]] w fun e w'=>e=.returned (.int .i64 (discL ps p))∧KeepP P w w'∧Tp w' P t (es++discLEv ps.length):=by
 obtain ⟨w0,hw0⟩:∃ w0,w0=(w.alloc (.cells #[.bool d,.int .i64 v,.slice A ps.length c] 379)).alloc (.cells #[.int .i64 p.1,.int .i64 p.2] 41):=⟨_,rfl⟩
 have hb0:Below w.heap.size w w0:=by rw [hw0];exact bl_alloc (bA) _
 have hk0:KeepP P w w0:=KeepP.of_below hb0 hP
 have HC:=hide (discLocate_any P t es ps hps A c w0 (fun k hk=>Nat.lt_of_lt_of_le (hP k hk) hb0.size) hg0 (hs.kept hk0) (hw.step hb0) (ht.step hb0) hl p hp)
 have HK:=hide hk0
 clear hps hP hg0 hs hw ht hk0 hb0 hp
 go_enter Tryz.func370,Tryz.ntmps370
 go_wp2_with fail
 rw [← hw0]
 clear hw0
 refine HC.out.mono ?_
 rintro e w1 ⟨rfl,hk1,ht1⟩
 go_wp2
 go_ret
 exact ⟨rfl,HK.out.trans hk1,ht1⟩
theorem convexLocate (p:Pt) (hp:PJ p):Calls Tryz.prog 377 #[.agg #[.bool d,.int .i64 v,.slice A ps.length c],.pointer (tapeA t),.agg #[.int .i64 p.1,.int .i64 p.2]] w fun e w'=>e=.returned (.int .i64 (locV ps p))∧KeepP P w w'∧Tp w' P t (es++locEv (List.range (edgeN ps.length))):=by
 obtain ⟨w0,hw0⟩:∃ w0,w0=(w.alloc (.cells #[.bool d,.int .i64 v,.slice A ps.length c] 380)).alloc (.cells #[.int .i64 p.1,.int .i64 p.2] 41):=⟨_,rfl⟩
 have hb0:Below w.heap.size w w0:=by rw [hw0];exact bl_alloc (bA) _
 have hk0:KeepP P w w0:=KeepP.of_below hb0 hP
 have HC:=hide (locate_any P t es ps hps hn A c p hp w0 (fun k hk=>Nat.lt_of_lt_of_le (hP k hk) hb0.size) hg0 (hs.kept hk0) (hw.step hb0) (ht.step hb0) hl)
 have HK:=hide hk0
 clear hps hP hg0 hs hw ht hk0 hb0 hp
 go_enter Tryz.func377,Tryz.ntmps377
 go_wp2_with fail
 rw [← hw0]
 clear hw0
 refine HC.out.mono ?_
 rintro e w1 ⟨rfl,hk1,ht1⟩
 go_wp2
 go_ret
 exact ⟨rfl,HK.out.trans hk1,ht1⟩
end
def GsP (w:World) (P:Nat→Prop) (gs:List Gr):Prop:=∀ g∈gs,g.1.n=g.2.length∧SlP w P g.1.A (ptCs g.2)∧PsJ g.2∧g.2.length≤10000
theorem GsP.kept {w w':World} {P:Nat→Prop} {gs:List Gr} (h:GsP w P gs) (hk:KeepP P w w'):GsP w' P gs:=fun g hg=>⟨(h g hg).1,(h g hg).2.1.kept hk,(h g hg).2.2⟩
def fvEv:Nat→List Gr→List Ev
 | _,[]=>[]
 | i,g::gs=>(7,(i:Int),0)::(rgVEv g.1.v g.2.length++fvEv (i+1) gs)
theorem fvEv_snoc:∀ (i:Nat) (l:List Gr) (g:Gr),fvEv i (l++[g])=fvEv i l++((7,((i+l.length:Nat):Int),0)::rgVEv g.1.v g.2.length)
 | i,[],g=>by simp [fvEv]
 | i,x::l,g=>by
   have h:=fvEv_snoc (i+1) l g
   have e:i+1+l.length=i+(x::l).length:=by simp;omega
   rw [List.cons_append,fvEv,h,fvEv,e]
   simp
theorem fvEv_take {gs:List Gr} {k:Nat} {g:Gr} (h:gs[k]?=some g):fvEv 0 (gs.take (k+1))=fvEv 0 (gs.take k)++((7,(k:Int),0)::rgVEv g.1.v g.2.length):=by
 have hlt:k<gs.length:=(List.getElem?_eq_some_iff.1 h).1
 rw [List.take_add_one,h]
 show fvEv 0 (gs.take k++[g])=_
 rw [fvEv_snoc,List.length_take,Nat.min_eq_left (Nat.le_of_lt hlt),Nat.zero_add]
theorem fvEv_length:∀ (i:Nat) (l:List Gr),(fvEv i l).length≤4097*l.length
 | i,[]=>by simp [fvEv]
 | i,x::l=>by
   have h:=fvEv_length (i+1) l
   have h2:=rgVEv_length x.1.v x.2.length
   simp only [fvEv,List.length_cons,List.length_append]
   omega
def fvOk (gs:List Gr):Bool:=gs.foldl (fun b g=>b && rgOk g.1.v g.2) true
theorem fvOk_take {gs:List Gr} {k:Nat} {g:Gr} (h:gs[k]?=some g):fvOk (gs.take (k+1))=(fvOk (gs.take k) && rgOk g.1.v g.2):=by
 unfold fvOk
 rw [List.take_add_one,h]
 simp
def fenceOk (gs:List Gr):Bool:=decide (fcheck (gs.map (·.1))=0) && fvOk gs
def fenceVEv (gs:List Gr):List Ev:=if fcheck (gs.map (·.1))=0 then fvEv 0 gs else []
theorem of_true (w:World):Calls Tryz.prog 262 #[.int .u64 1] w fun e w'=>e=.returned (.int .u64 (msk true))∧w=w':=by
 have h:=of_any 1 (by omega) (by omega) w
 rw [show decide ((1:Int) % 2=1)=true from by decide] at h
 exact h
theorem fenceValid_any (P:Nat→Prop) (t:Option (Nat × Nat)) (es:List Ev) (gs:List Gr) (GA:Option Addr) (gc:Nat) (w:World) (hP:∀ k,P k→k<w.heap.size) (hg0:P 8) (hs:SlP w P GA (rgCells (gs.map (·.1)))) (hgs:GsP w P gs) (hw:MW w) (ht:Tp w P t es) (hl:es.length≤600000) :
 Calls Tryz.prog 195 #[.pointer (tapeA t),.slice GA gs.length gc] w fun e w'=>e=.returned (.int .u64 (msk (fenceOk gs)))∧KeepP P w w'∧Tp w' P t (es++fenceVEv gs):=by
 have HC0:=fcheck_any (gs.map (·.1)) GA gc w (hs.sl hP)
 rw [List.length_map] at HC0
 have HC:=hide HC0
 clear HC0
 by_cases hf:fcheck (gs.map (·.1))=0
 · have hf64:gs.length≤64:=by
    unfold fcheck at hf
    split at hf
    · omega
    · rename_i h;rw [List.length_map] at h;omega
   have e1:fenceOk gs=fvOk gs:=by unfold fenceOk;rw [decide_eq_true hf];rfl
   have e2:fenceVEv gs=fvEv 0 gs:=by unfold fenceVEv;rw [if_pos hf]
   rw [e1,e2]
   rw [hf] at HC
   have HP:=hide hP;have HG0:=hide hg0;have HS:=hide hs;have HGS:=hide hgs;have HW:=hide hw;have HT:=hide ht
   have HO:=hide (fun w=>of_true w)
   clear hf e1 e2 hP hg0 hs hgs hw ht
   go_enter Tryz.func195,Tryz.ntmps195
   go_wp2_with fail
   refine HC.out.mono ?_
   rintro e w1 ⟨rfl,hb1⟩
   have HB1:=hide hb1
   clear hb1 HC
   go_wp2_with fail
   refine (HO.out w1).mono ?_
   rintro e w2 ⟨rfl,rfl⟩
   go_wp2_with fail
   go_loopw [5,14] (fun m i wr=>∃ k:Nat,k≤gs.length∧m=.int .u64 (msk (fvOk (gs.take k)))∧i=.int .i64 k∧KeepP P w wr∧Tp wr P t (es++fvEv 0 (gs.take k)))
    (fun _ i _=>gs.length - (intOf i).toNat)
   case atStart=>exact ⟨0,Nat.zero_le _,rfl,rfl,KeepP.of_below HB1.out HP.out,by simpa [fvEv] using HT.out.step HB1.out⟩
   case round =>
    obtain ⟨k,hk,rfl,rfl,hkp,htp⟩:=hrel
    have hPr:∀ j,P j→j<wr.heap.size:=fun j hj=>Nat.lt_of_lt_of_le (HP.out j hj) hkp.size
    by_cases hlt:k<gs.length
    · obtain ⟨g,hg⟩:∃ g,gs[k]?=some g:=⟨_,List.getElem?_eq_getElem hlt⟩
      obtain ⟨hgn,hps1,hps2,hpn⟩:=HGS.out g (List.mem_of_getElem? hg)
      have hr:(gs.map (·.1))[k]?=some g.1:=by rw [List.getElem?_map,hg];rfl
      obtain ⟨b,off,rfl,hB,c0,c1,c2⟩:=((HS.out.kept hkp).sl hPr).rg hr
      have HE:=hide (fvEv_take hg)
      have HK:=hide (fvOk_take hg)
      have hlti:((k:Nat):Int)<((gs.length:Nat):Int):=by omega
      obtain ⟨⟨d,v,A,n,c⟩,ps⟩:=g
      dsimp only at *
      subst hgn
      clear hg hr
      have HNEXT:Hid (∀ w8,KeepP P w w8→Tp w8 P t (es++fvEv 0 (gs.take k)++[(7,(k:Int),0)]++rgVEv v ps.length)→KeepP P w w8∧Tp w8 P t (es++fvEv 0 (gs.take (k+1)))):=hide fun w8 h1 h2=>⟨h1,by
       rw [HE.out]
       rw [show es++(fvEv 0 (gs.take k)++((7,(k:Int),0)::rgVEv v ps.length))=es++fvEv 0 (gs.take k)++[(7,(k:Int),0)]++rgVEv v ps.length by simp]
       exact h2⟩
      have hle0:(es++fvEv 0 (gs.take k)).length≤890000:=by
       have:=fvEv_length 0 (gs.take k)
       rw [List.length_take] at this
       rw [List.length_append];omega
      have hle:(es++fvEv 0 (gs.take k)++[(7,(k:Int),0)]).length≤900000:=by
       rw [List.length_append];simp only [List.length_singleton];omega
      obtain ⟨w3,hw3⟩:∃ w3,w3=wr.alloc (.cells #[.bool d,.int .i64 v,.slice A ps.length c] 38):=⟨_,rfl⟩
      have hb3:Below wr.heap.size wr w3:=by rw [hw3];exact bA
      have B3:Blk w3 wr.heap.size 38 #[.bool d,.int .i64 v,.slice A ps.length c]:=by rw [hw3];exact Blk.new _ _ _
      have HI:Hid (More P wr w3 wr.heap.size):=.inr ⟨Nat.le_refl _,B3.lt⟩
      have HNO:=hide (note_any (More P wr w3) t (es++fvEv 0 (gs.take k)) 7 (k:Int) 0 w3 (more_lt hPr hb3) (htp.more hb3) (by omega) (by unfold I64w;omega))
      have HB3:=hide hb3;have HKP:=hide hkp;have HPR:=hide hPr
      clear HE hle0 hb3 htp hkp hPr hB
      go_wp2_with fail
      rw [← hw3]
      clear hw3
      refine HNO.out.mono ?_
      rintro e w4 ⟨rfl,hk4,_,ht4⟩
      have B4:=B3.kept hk4 HI.out
      have z0:w4.cell? ⟨wr.heap.size,0,none⟩=some (.bool d):=B4.cell (i:=0) rfl
      have z1:w4.cell? ⟨wr.heap.size,1,none⟩=some (.int .i64 v):=B4.cell (i:=1) rfl
      have z2:w4.cell? ⟨wr.heap.size,2,none⟩=some (.slice A ps.length c):=B4.cell (i:=2) rfl
      have hk04:KeepP P w w4:=HKP.out.trans (KeepP.more HB3.out HPR.out hk4)
      have ht5:=ht4.mono (R:=P) fun k h=>.inl h
      have hP4:∀ j,P j→j<w4.heap.size:=fun j hj=>Nat.lt_of_lt_of_le (HP.out j hj) hk04.size
      clear hk4 ht4 B3 B4 HNO HI HB3 HKP HPR c0 c1 c2
      by_cases hv:v=0
      · have HOK:Hid (rgOk v ps=discOk ps):=hide (if_pos hv)
        have HEV:rgVEv v ps.length=discVEv ps.length:=if_pos hv
        rw [HEV] at HNEXT
        rw [HOK.out] at HK
        subst hv
        clear HEV HOK
        go_wp2_with fail
        refine (shapeOf_zero d A ps.length c w4).mono ?_
        rintro e w5 ⟨rfl,hb5⟩
        have hk5:KeepP P w w5:=hk04.trans (KeepP.of_below hb5 hP4)
        have HV:=hide (roundValid P t (es++fvEv 0 (gs.take k)++[(7,(k:Int),0)]) d 0 ps hps2 A c w5 (fun j hj=>Nat.lt_of_lt_of_le (hP4 j hj) hb5.size) HG0.out (hps1.kept (hk5)) (HW.out.kept hk5 HG0.out) (ht5.step hb5) hle)
        clear hb5 hk04 hP4 ht5 z0 z1 z2
        have hmr:=methV_round
        go_wp2_with fail
        refine HV.out.mono ?_
        rintro e w6 ⟨rfl,hk6,ht6⟩
        have hand:=msk_and (fvOk (gs.take k)) (discOk ps)
        rw [← HK.out] at hand
        have HREL:=hide (HNEXT.out w6 (hk5.trans hk6) ht6)
        clear hk5 hk6 ht6 HV hmr HNEXT
        go_wp2
        go_roundw
        case rel=>exact ⟨k+1,by omega,rfl,by go_num,HREL.out⟩
        case measure=>simp [intOf];omega
      · have HOK:Hid (rgOk v ps=validV ps):=hide (if_neg hv)
        have HEV:rgVEv v ps.length=vEv ps.length (List.range (edgeN ps.length)):=if_neg hv
        rw [HEV] at HNEXT
        rw [HOK.out] at HK
        clear HEV HOK
        go_wp2_with fail
        refine (shapeOf_other d v (by simpa using hv) A ps.length c w4).mono ?_
        rintro e w5 ⟨rfl,hb5⟩
        have hk5:KeepP P w w5:=hk04.trans (KeepP.of_below hb5 hP4)
        have HV:=hide (convexValid P t (es++fvEv 0 (gs.take k)++[(7,(k:Int),0)]) d v ps hps2 hpn A c w5 (fun j hj=>Nat.lt_of_lt_of_le (hP4 j hj) hb5.size) HG0.out (hps1.kept (hk5)) (HW.out.kept hk5 HG0.out) (ht5.step hb5) hle)
        clear hb5 hk04 hP4 ht5 z0 z1 z2
        have hmr:=methV_convex
        go_wp2_with fail
        refine HV.out.mono ?_
        rintro e w6 ⟨rfl,hk6,ht6⟩
        have hand:=msk_and (fvOk (gs.take k)) (validV ps)
        rw [← HK.out] at hand
        have HREL:=hide (HNEXT.out w6 (hk5.trans hk6) ht6)
        clear hk5 hk6 ht6 HV hmr HNEXT
        go_wp2
        go_roundw
        case rel=>exact ⟨k+1,by omega,rfl,by go_num,HREL.out⟩
        case measure=>simp [intOf];omega
    · obtain rfl:k=gs.length:=by omega
      rw [List.take_length] at htp ⊢
      go_wp2
      go_ret
      exact ⟨rfl,hkp,htp⟩
 · have e1:fenceOk gs=false:=by unfold fenceOk;rw [decide_eq_false hf];rfl
   have e2:fenceVEv gs=[]:=by unfold fenceVEv;rw [if_neg hf]
   rw [e1,e2,List.append_nil]
   have HP:=hide hP;have HT:=hide ht
   obtain ⟨z,hz⟩:∃ z,z=fcheck (gs.map (·.1)):=⟨_,rfl⟩
   rw [← hz] at HC hf
   clear e1 e2 hP hg0 hs hgs hw ht hz
   go_enter Tryz.func195,Tryz.ntmps195
   go_wp2_with fail
   refine HC.out.mono ?_
   rintro e w1 ⟨rfl,hb1⟩
   go_wp2
   go_ret
   exact ⟨rfl,KeepP.of_below hb1 HP.out,HT.out.step hb1⟩
end
end Go.Proofs.YthnenedoblncjaaGreatDoor
