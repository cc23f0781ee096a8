/- Disc -/
import Derived.Laws.CopyOwn
import Derived.Test.YtfljlmleiggmjaaGreatDoorPkC27
set_option maxRecDepth 1000000
set_option maxHeartbeats 8000000
namespace Go.Proofs.YtfljlmleiggmjaaGreatDoor
section
open Go.RowKit Go.Shelf
theorem run_copy_sized {P:Program} (w:World) (dT sT ty elem:TypeId) (s g o dLen dCap:Nat) (a:Addr) (sLen sCap:Nat) (cur:Array Value) (t:TypeId) (cs:List Value)
 (hu:P.underlying dT=some (.slice elem)) (hs:(P.info? elem).map (·.size)=some s)
 (hg:w.heap[g]?=some (.cells cur t (0,0))) (hn:cs.length=Nat.min sLen dLen*s)
 (hsrc:∀ j v,cs[j]?=some v→w.cell? (a.add j)=some v) (hfit:o+cs.length≤cur.size) (h1:∀ v∈cs,v.oneCell'=true) :
 (Builtin.copy_ #[dT,sT] ty #[.slice (some ⟨g,o,none⟩) dLen dCap,.slice (some a) sLen sCap]).run P w =
   .ok (goInt (Nat.min sLen dLen:Nat)) (w.setRow g (cur.toList.take o++cs++cur.toList.drop (o+cs.length)).toArray):=by
 have hl:=run_loadCells_list (P:=P) w a cs hsrc
 have hst:=run_storeCells_at P g o t cs 0 cur w hg (by simpa using hfit) h1
 cases hq:P.info? elem with
 | none=>simp [hq] at hs
 | some i =>
   have hi:i.size=s:=by simpa [hq] using hs
   simp [Builtin.copy_,run_underlying hu,Builtin.lenOf,Builtin.firstCells,sizeOf,typeInfo,hq,hi,← hn,hl,hst]
def corner3 (ps:List Pt):Array Value:=#[.int .i64 (ptAt ps 0).1,.int .i64 (ptAt ps 0).2,.int .i64 (ptAt ps 1).1,.int .i64 (ptAt ps 1).2,.int .i64 (ptAt ps 2).1,.int .i64 (ptAt ps 2).2]
theorem results_cor {fn:Func} {tmps:Array Value} {w:World} {g:Nat} {v0 v1 v2 v3 v4 v5:Value} (h:fn.results=#[.cell 2 334,.tmp 3])
 (hp:tmps.getD 2 undef=.pointer (some ⟨g,0,none⟩)) (hb:Blk w g 334 #[v0,v1,v2,v3,v4,v5]) :
 (results fn tmps).run Tryz.prog w=.ok (.tuple #[.agg #[v0,v1,v2,v3,v4,v5],tmps.getD 3 undef]) w:=by
 have c0:=hb.cell (i:=0) rfl
 have c1:=hb.cell (i:=1) rfl
 have c2:=hb.cell (i:=2) rfl
 have c3:=hb.cell (i:=3) rfl
 have c4:=hb.cell (i:=4) rfl
 have c5:=hb.cell (i:=5) rfl
 have hp':tmps[2]?.getD undef=.pointer (some ⟨g,0,none⟩):=by rw [← hp];simp
 simp [results,h,hp',go_sem,c0,c1,c2,c3,c4,c5]
theorem from_other (ps:List Pt) (hn:ps.length≠3) (A:Option Addr) (c:Nat) (w:World) :
 Calls Tryz.prog 295 #[.slice A ps.length c] w fun e w'=>e=.returned (.tuple #[.agg #[.int .i64 0,.int .i64 0,.int .i64 0,.int .i64 0,.int .i64 0,.int .i64 0],.bool false])∧Below w.heap.size w w':=by
 have hni:¬ ((ps.length:Nat):Int)=3:=by omega
 have B0:Blk ((w.alloc (.cells #[.int .i64 0,.int .i64 0,.int .i64 0,.int .i64 0,.int .i64 0,.int .i64 0] 334)).alloc (.cells #[.int .i64 0,.int .i64 0,.int .i64 0,.int .i64 0,.int .i64 0,.int .i64 0] 334)) w.heap.size 334 #[.int .i64 0,.int .i64 0,.int .i64 0,.int .i64 0,.int .i64 0,.int .i64 0]:=(Blk.new _ _ _).alloc _
 go_enter Tryz.func295,Tryz.ntmps295
 go_wp2
 refine bodyPost_ret (results_cor rfl rfl B0) rfl ⟨rfl,?_⟩
 exact bl_alloc (bA) _
theorem from_three (ps:List Pt) (hn:ps.length=3) (A:Option Addr) (c:Nat) (w:World) (hs:Sl w w.heap.size A (ptCs ps)) :
 Calls Tryz.prog 295 #[.slice A ps.length c] w fun e w'=>e=.returned (.tuple #[.agg (corner3 ps),.bool true])∧Below w.heap.size w w':=by
 obtain ⟨b,off,rfl,hb⟩:=sl_pts hs (by omega)
 have hc:∀ j u,(ptCs ps)[j]?=some u→w.cell? ⟨b,off+j,none⟩=some u:=by
  rcases hs with h | ⟨b',off',hA,_,h⟩
  · exfalso
    have h2:=flat_length (fun p:Int × Int=>[Value.int .i64 p.1,.int .i64 p.2]) 2 (fun _=>rfl) ps
    have h3:(ptCs ps).length=3*2:=by rw [← hn];exact h2
    rw [h] at h3;simp at h3
  · cases hA;exact h
 have hcs:ptCs ps=(corner3 ps).toList:=by
  match ps,hn with
  | [p,q,r],_=>rfl
 rw [hcs] at hc
 have hc2:∀ j v,(corner3 ps).toList[j]?=some v→((w.alloc (.cells #[.int .i64 0,.int .i64 0,.int .i64 0,.int .i64 0,.int .i64 0,.int .i64 0] 334)).alloc (.cells #[.int .i64 0,.int .i64 0,.int .i64 0,.int .i64 0,.int .i64 0,.int .i64 0] 334)).cell? ((⟨b,off,none⟩:Addr).add j)=some v:=fun j v hv=>by
  have h1:=hc j v hv
  have h2:=(bl_alloc (bl_alloc (Below.refl w.heap.size w) (.cells #[.int .i64 0,.int .i64 0,.int .i64 0,.int .i64 0,.int .i64 0,.int .i64 0] 334)) (.cells #[.int .i64 0,.int .i64 0,.int .i64 0,.int .i64 0,.int .i64 0,.int .i64 0] 334)).cell (p:=⟨b,off+j,none⟩) hb
  rw [h1] at h2
  rw [show (⟨b,off,none⟩:Addr).add j=⟨b,off+j,none⟩ by simp [Addr.add]]
  exact h2
 have B1:Blk ((w.alloc (.cells #[.int .i64 0,.int .i64 0,.int .i64 0,.int .i64 0,.int .i64 0,.int .i64 0] 334)).alloc (.cells #[.int .i64 0,.int .i64 0,.int .i64 0,.int .i64 0,.int .i64 0,.int .i64 0] 334)) (w.heap.size+1) 334 #[.int .i64 0,.int .i64 0,.int .i64 0,.int .i64 0,.int .i64 0,.int .i64 0]:=Blk.new2 _ _ _ _
 have B0:Blk ((w.alloc (.cells #[.int .i64 0,.int .i64 0,.int .i64 0,.int .i64 0,.int .i64 0,.int .i64 0] 334)).alloc (.cells #[.int .i64 0,.int .i64 0,.int .i64 0,.int .i64 0,.int .i64 0,.int .i64 0] 334)) w.heap.size 334 #[.int .i64 0,.int .i64 0,.int .i64 0,.int .i64 0,.int .i64 0,.int .i64 0]:=(Blk.new _ _ _).alloc _
 rw [hn]
 have hrun:=run_copy_sized (P:=Tryz.prog) ((w.alloc (.cells #[.int .i64 0,.int .i64 0,.int .i64 0,.int .i64 0,.int .i64 0,.int .i64 0] 334)).alloc (.cells #[.int .i64 0,.int .i64 0,.int .i64 0,.int .i64 0,.int .i64 0,.int .i64 0] 334)) 59 59 3 123 2 (w.heap.size+1) 0 3 3 ⟨b,off,none⟩ 3 c #[.int .i64 0,.int .i64 0,.int .i64 0,.int .i64 0,.int .i64 0,.int .i64 0] 334 (corner3 ps).toList Tryz.underlying59 (by kernel_rfl) B1 rfl hc2 (by simp [corner3]) (by simp [corner3,Value.oneCell'])
 have hb2:Below (w.heap.size+1) ((w.alloc (.cells #[.int .i64 0,.int .i64 0,.int .i64 0,.int .i64 0,.int .i64 0,.int .i64 0] 334)).alloc (.cells #[.int .i64 0,.int .i64 0,.int .i64 0,.int .i64 0,.int .i64 0,.int .i64 0] 334)) (((w.alloc (.cells #[.int .i64 0,.int .i64 0,.int .i64 0,.int .i64 0,.int .i64 0,.int .i64 0] 334)).alloc (.cells #[.int .i64 0,.int .i64 0,.int .i64 0,.int .i64 0,.int .i64 0,.int .i64 0] 334)).setRow (w.heap.size+1) (((#[.int .i64 0,.int .i64 0,.int .i64 0,.int .i64 0,.int .i64 0,.int .i64 0]:Array Value).toList.take 0++(corner3 ps).toList++(#[.int .i64 0,.int .i64 0,.int .i64 0,.int .i64 0,.int .i64 0,.int .i64 0]:Array Value).toList.drop (0+(corner3 ps).toList.length)).toArray)):=below_setRow (Below.refl _ _) (Nat.le_refl _) _
 have h2:=setRow_heap ((w.alloc (.cells #[.int .i64 0,.int .i64 0,.int .i64 0,.int .i64 0,.int .i64 0,.int .i64 0] 334)).alloc (.cells #[.int .i64 0,.int .i64 0,.int .i64 0,.int .i64 0,.int .i64 0,.int .i64 0] 334)) (w.heap.size+1) #[.int .i64 0,.int .i64 0,.int .i64 0,.int .i64 0,.int .i64 0,.int .i64 0] (((#[.int .i64 0,.int .i64 0,.int .i64 0,.int .i64 0,.int .i64 0,.int .i64 0]:Array Value).toList.take 0++(corner3 ps).toList++(#[.int .i64 0,.int .i64 0,.int .i64 0,.int .i64 0,.int .i64 0,.int .i64 0]:Array Value).toList.drop (0+(corner3 ps).toList.length)).toArray) 334 _ B1
 generalize ((w.alloc (.cells #[.int .i64 0,.int .i64 0,.int .i64 0,.int .i64 0,.int .i64 0,.int .i64 0] 334)).alloc (.cells #[.int .i64 0,.int .i64 0,.int .i64 0,.int .i64 0,.int .i64 0,.int .i64 0] 334)).setRow (w.heap.size+1) (((#[.int .i64 0,.int .i64 0,.int .i64 0,.int .i64 0,.int .i64 0,.int .i64 0]:Array Value).toList.take 0++(corner3 ps).toList++(#[.int .i64 0,.int .i64 0,.int .i64 0,.int .i64 0,.int .i64 0,.int .i64 0]:Array Value).toList.drop (0+(corner3 ps).toList.length)).toArray)=w2 at hrun hb2 h2
 have B2:Blk w2 (w.heap.size+1) 334 (corner3 ps):=h2
 have C2:Blk w2 w.heap.size 334 #[.int .i64 0,.int .i64 0,.int .i64 0,.int .i64 0,.int .i64 0,.int .i64 0]:=B0.below hb2 (by omega)
 have hbb:Below w.heap.size w w2:=(bl_alloc (bA) _).trans (hb2.mono (by omega))
 have HB:=hide hbb
 have z0:=B2.cell (i:=0) rfl
 have z1:=B2.cell (i:=1) rfl
 have z2:=B2.cell (i:=2) rfl
 have z3:=B2.cell (i:=3) rfl
 have z4:=B2.cell (i:=4) rfl
 have z5:=B2.cell (i:=5) rfl
 unfold corner3 at z0 z1 z2 z3 z4 z5
 dsimp at z0 z1 z2 z3 z4 z5
 have y0:=C2.frozen 0
 have y1:=C2.frozen 1
 have y2:=C2.frozen 2
 have y3:=C2.frozen 3
 have y4:=C2.frozen 4
 have y5:=C2.frozen 5
 have u0:=C2.cell (i:=0) rfl
 have u1:=C2.cell (i:=1) rfl
 have u2:=C2.cell (i:=2) rfl
 have u3:=C2.cell (i:=3) rfl
 have u4:=C2.cell (i:=4) rfl
 have u5:=C2.cell (i:=5) rfl
 dsimp at u0 u1 u2 u3 u4 u5
 have HC2:=hide C2
 clear hc2 hc hcs B1 B0 hs h2 hb2 B2 C2 hbb
 go_enter Tryz.func295,Tryz.ntmps295
 go_wp2
 have E:Blk _ w.heap.size 334 (corner3 ps):=((((((HC2.out.set 0 (.int .i64 (ptAt ps 0).1)).set 1 (.int .i64 (ptAt ps 0).2)).set 2 (.int .i64 (ptAt ps 1).1)).set 3 (.int .i64 (ptAt ps 1).2)).set 4 (.int .i64 (ptAt ps 2).1)).set 5 (.int .i64 (ptAt ps 2).2))
 refine bodyPost_ret (results_cor rfl rfl E) rfl ?_
 refine ⟨rfl,?_⟩
 exact (((((HB.out.setCell (Nat.le_refl _) _).setCell (Nat.le_refl _) _).setCell (Nat.le_refl _) _).setCell (Nat.le_refl _) _).setCell (Nat.le_refl _) _).setCell (Nat.le_refl _) _
def discOk (ps:List Pt):Bool:=decide (ps.length=3) && !decide ((orientD (ptAt ps 0) (ptAt ps 1) (ptAt ps 2)).sign=0)
def discVEv (n:Nat):List Ev:=if n=3 then [(4,0,2)] else []
def discL (ps:List Pt) (p:Pt):Int:=if ps.length=3 then (circleD (ptAt ps 0) (ptAt ps 1) (ptAt ps 2) p).sign*(orientD (ptAt ps 0) (ptAt ps 1) (ptAt ps 2)).sign else -1
def discLEv (n:Nat):List Ev:=if n=3 then [(6,0,0)] else []
section
variable (P:Nat→Prop) (t:Option (Nat × Nat)) (es:List Ev) (ps:List Pt) (hps:PsJ ps) (A:Option Addr) (c:Nat) (w:World) (hP:∀ k,P k→k<w.heap.size) (hg0:P 3) (hs:SlP w P A (ptCs ps)) (hw:MW w) (ht:Tp w P t es) (hl:es.length≤900000)
include hps hP hg0 hs hw ht hl
theorem discValid_any:Calls Tryz.prog 294 #[.pointer (tapeA t),.slice A ps.length c] w fun e w'=>e=.returned (.int .u64 (msk (discOk ps)))∧KeepP P w w'∧Tp w' P t (es++discVEv ps.length):=by
 by_cases hn:ps.length=3
 · have HF0:=from_three ps hn A c w (hs.sl hP)
   unfold corner3 at HF0
   have HF:=hide HF0
   have HO:discOk ps=!decide ((orientD (ptAt ps 0) (ptAt ps 1) (ptAt ps 2)).sign=0):=by unfold discOk;rw [decide_eq_true hn];rfl
   have HE:discVEv ps.length=[(4,0,2)]:=by unfold discVEv;rw [if_pos hn]
   rw [HO,HE]
   obtain ⟨os,hos⟩:∃ os,os=(orientD (ptAt ps 0) (ptAt ps 1) (ptAt ps 2)).sign:=⟨_,rfl⟩
   rw [← hos]
   have HOSN:=hide hos
   have HT:=hide ht;have HP:=hide hP;have HW:=hide hw;have HPS:=hide hps;have HG:=hide hg0
   clear hos HO HE ht hP hw hps hs hn hg0 HF0
   go_enter Tryz.func294,Tryz.ntmps294
   go_wp2_with fail
   refine HF.out.mono ?_
   rintro e w1 ⟨rfl,hb1⟩
   obtain ⟨w2,hw2⟩:∃ w2,w2=w1.alloc (.cells #[.int .i64 (ptAt ps 0).1,.int .i64 (ptAt ps 0).2,.int .i64 (ptAt ps 1).1,.int .i64 (ptAt ps 1).2,.int .i64 (ptAt ps 2).1,.int .i64 (ptAt ps 2).2] 334):=⟨_,rfl⟩
   have hb2:Below w.heap.size w w2:=by rw [hw2];exact bl_alloc hb1 _
   have B2:Blk w2 w1.heap.size 334 #[.int .i64 (ptAt ps 0).1,.int .i64 (ptAt ps 0).2,.int .i64 (ptAt ps 1).1,.int .i64 (ptAt ps 1).2,.int .i64 (ptAt ps 2).1,.int .i64 (ptAt ps 2).2]:=by rw [hw2];exact Blk.new _ _ _
   have hm:∀ k,More P w w2 k→k<w2.heap.size:=more_lt HP.out hb2
   have HNO:=hide (note_any (More P w w2) t es 4 0 2 w2 hm (HT.out.more hb2) (by omega) (by unfold I64w;omega))
   have HI:Hid (More P w w2 w1.heap.size):=.inr ⟨hb1.size,B2.lt⟩
   have HB2:=hide hb2
   clear hb2 hb1 hm HF
   go_wp2_with fail
   rw [← hw2]
   clear hw2
   refine HNO.out.mono ?_
   rintro e w3 ⟨rfl,hk3,_,ht3⟩
   have B3:=B2.kept hk3 HI.out
   have z0:=B3.cell (i:=0) rfl
   have z1:=B3.cell (i:=1) rfl
   have z2:=B3.cell (i:=2) rfl
   have z3:=B3.cell (i:=3) rfl
   have z4:=B3.cell (i:=4) rfl
   have z5:=B3.cell (i:=5) rfl
   dsimp at z0 z1 z2 z3 z4 z5
   have hk03:KeepP P w w3:=KeepP.more HB2.out HP.out hk3
   have HOS0:=(osign_any (ptAt ps 0) (ptAt ps 1) (ptAt ps 2) (HPS.out.at_ _) (HPS.out.at_ _) (HPS.out.at_ _) w3 (HW.out.kept hk03 HG.out))
   have hbo:=sign_bd (orientD (ptAt ps 0) (ptAt ps 1) (ptAt ps 2))
   rw [← HOSN.out] at HOS0 hbo
   have HOS:=hide HOS0
   clear HOS0
   have HK:=hide hk03;have HT3:=hide (ht3.mono (R:=P) fun k h=>.inl h)
   clear hk3 ht3 B2 B3 hk03 HNO
   go_wp2_with fail
   refine HOS.out.mono ?_
   rintro e w4 ⟨rfl,hb4⟩
   obtain ⟨hz1,hz2⟩:=wrap_u64_zero (x:=os) (by rcases hbo with h | h | h <;> omega) (by rcases hbo with h | h | h <;> omega)
   have HZ:=zero_any (IntKind.u64.wrap os) hz1.1 hz1.2 w4
   rw [hz2] at HZ
   have HZ:=hide HZ
   have hnot:=msk_not (decide (os=0))
   clear z0 z1 z2 z3 z4 z5 hz1 hz2 hbo
   go_wp2_with fail
   refine HZ.out.mono ?_
   rintro e w5 ⟨rfl,rfl⟩
   go_wp2
   go_ret
   exact ⟨rfl,HK.out.trans (KeepP.of_below hb4 (fun k hk=>Nat.lt_of_lt_of_le (HP.out k hk) HK.out.size)),HT3.out.step hb4⟩
 · have HF:=hide (from_other ps hn A c w)
   have HO:discOk ps=false:=by unfold discOk;rw [decide_eq_false hn];rfl
   have HE:discVEv ps.length=[]:=by unfold discVEv;rw [if_neg hn]
   rw [HO,HE,List.append_nil]
   have HT:=hide ht;have HP:=hide hP
   clear HO HE ht hP hw hps hs hn hg0
   go_enter Tryz.func294,Tryz.ntmps294
   go_wp2_with fail
   refine HF.out.mono ?_
   rintro e w1 ⟨rfl,hb1⟩
   go_wp2
   go_ret
   exact ⟨rfl,KeepP.of_below (bl_alloc hb1 _) HP.out,HT.out.step (bl_alloc hb1 _)⟩
theorem discLocate_any (p:Pt) (hp:PJ p):Calls Tryz.prog 293 #[.pointer (tapeA t),.slice A ps.length c,.agg #[.int .i64 p.1,.int .i64 p.2]] w fun e w'=>e=.returned (.int .i64 (discL ps p))∧KeepP P w w'∧Tp w' P t (es++discLEv ps.length):=by
 obtain ⟨w0,hw0⟩:∃ w0,w0=w.alloc (.cells #[.int .i64 p.1,.int .i64 p.2] 123):=⟨_,rfl⟩
 have hb0:Below w.heap.size w w0:=by rw [hw0];exact bA
 have B0:Blk w0 w.heap.size 123 #[.int .i64 p.1,.int .i64 p.2]:=by rw [hw0];exact Blk.new _ _ _
 by_cases hn:ps.length=3
 · have HF0:=from_three ps hn A c w0 (((hs.sl hP).below hb0).more hb0.size)
   unfold corner3 at HF0
   have HF:=hide HF0
   have HO:discL ps p=(circleD (ptAt ps 0) (ptAt ps 1) (ptAt ps 2) p).sign*(orientD (ptAt ps 0) (ptAt ps 1) (ptAt ps 2)).sign:=by unfold discL;rw [if_pos hn]
   have HE:discLEv ps.length=[(6,0,0)]:=by unfold discLEv;rw [if_pos hn]
   rw [HO,HE]
   have HT:=hide ht;have HP:=hide hP;have HW:=hide hw;have HPS:=hide hps;have HG:=hide hg0;have HPP:=hide hp
   clear HO HE ht hP hw hps hs hn hg0 HF0 hp
   go_enter Tryz.func293,Tryz.ntmps293
   go_wp2_with fail
   rw [← hw0]
   have HW0:=hide hw0
   clear hw0
   refine HF.out.mono ?_
   rintro e w1 ⟨rfl,hb1⟩
   obtain ⟨w2,hw2⟩:∃ w2,w2=w1.alloc (.cells #[.int .i64 (ptAt ps 0).1,.int .i64 (ptAt ps 0).2,.int .i64 (ptAt ps 1).1,.int .i64 (ptAt ps 1).2,.int .i64 (ptAt ps 2).1,.int .i64 (ptAt ps 2).2] 334):=⟨_,rfl⟩
   have hb12:Below w1.heap.size w1 w2:=by rw [hw2];exact bA
   have hb2:Below w.heap.size w w2:=bl_step (bl_step hb0 hb1) hb12
   have B2:Blk w2 w1.heap.size 334 #[.int .i64 (ptAt ps 0).1,.int .i64 (ptAt ps 0).2,.int .i64 (ptAt ps 1).1,.int .i64 (ptAt ps 1).2,.int .i64 (ptAt ps 2).1,.int .i64 (ptAt ps 2).2]:=by rw [hw2];exact Blk.new _ _ _
   have C2:Blk w2 w.heap.size 123 #[.int .i64 p.1,.int .i64 p.2]:=(B0.step hb1).step hb12
   have hm:∀ k,More P w w2 k→k<w2.heap.size:=more_lt HP.out hb2
   have HNO:=hide (note_any (More P w w2) t es 6 0 0 w2 hm (HT.out.more hb2) (by omega) (by unfold I64w;omega))
   have HI:Hid (More P w w2 w1.heap.size):=.inr ⟨(bl_step hb0 hb1).size,B2.lt⟩
   have HI0:Hid (More P w w2 w.heap.size):=.inr ⟨Nat.le_refl _,C2.lt⟩
   have HB2:=hide hb2
   clear hb2 hb1 hm HF hb12 B0 hb0
   go_wp2_with fail
   rw [← hw2]
   clear hw2
   refine HNO.out.mono ?_
   rintro e w3 ⟨rfl,hk3,_,ht3⟩
   have B3:=B2.kept hk3 HI.out
   have C3:=C2.kept hk3 HI0.out
   have z0:=B3.cell (i:=0) rfl
   have z1:=B3.cell (i:=1) rfl
   have z2:=B3.cell (i:=2) rfl
   have z3:=B3.cell (i:=3) rfl
   have z4:=B3.cell (i:=4) rfl
   have z5:=B3.cell (i:=5) rfl
   have z6:=C3.cell (i:=0) rfl
   have z7:=C3.cell (i:=1) rfl
   dsimp at z0 z1 z2 z3 z4 z5 z6 z7
   have hk03:KeepP P w w3:=KeepP.more HB2.out HP.out hk3
   have HCS:=hide (cside_any (ptAt ps 0) (ptAt ps 1) (ptAt ps 2) p (HPS.out.at_ _) (HPS.out.at_ _) (HPS.out.at_ _) HPP.out w3 (HW.out.kept hk03 HG.out))
   have HK:=hide hk03;have HT3:=hide (ht3.mono (R:=P) fun k h=>.inl h)
   clear hk3 ht3 B2 B3 hk03 HNO C2 C3
   go_wp2_with fail
   refine HCS.out.mono ?_
   rintro e w4 ⟨rfl,hb4⟩
   clear z0 z1 z2 z3 z4 z5 z6 z7
   go_wp2
   go_ret
   exact ⟨rfl,HK.out.trans (KeepP.of_below hb4 (fun k hk=>Nat.lt_of_lt_of_le (HP.out k hk) HK.out.size)),HT3.out.step hb4⟩
 · have HF:=hide (from_other ps hn A c w0)
   have HO:discL ps p=-1:=by unfold discL;rw [if_neg hn]
   have HE:discLEv ps.length=[]:=by unfold discLEv;rw [if_neg hn]
   rw [HO,HE,List.append_nil]
   have HT:=hide ht;have HP:=hide hP
   clear HO HE ht hP hw hps hs hn hg0 hp
   go_enter Tryz.func293,Tryz.ntmps293
   go_wp2_with fail
   rw [← hw0]
   have HW0:=hide hw0
   clear hw0
   refine HF.out.mono ?_
   rintro e w1 ⟨rfl,hb1⟩
   go_wp2
   go_ret
   exact ⟨rfl,KeepP.of_below (bl_alloc (bl_step hb0 hb1) _) HP.out,HT.out.step (bl_alloc (bl_step hb0 hb1) _)⟩
end
end
end Go.Proofs.YtfljlmleiggmjaaGreatDoor
