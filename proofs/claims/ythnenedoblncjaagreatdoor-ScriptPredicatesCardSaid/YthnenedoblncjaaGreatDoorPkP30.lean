/- ScrPts Exactly -/
import Derived.BigQuiet
import Derived.ChangeAlike
import Derived.Deep.QuietTactic
import Derived.Test.YthnenedoblncjaaGreatDoorPkP15
import Derived.Test.YthnenedoblncjaaGreatDoorPkP21
import Derived.Test.YthnenedoblncjaaGreatDoorPkP29
set_option maxRecDepth 1000000
set_option maxHeartbeats 8000000
namespace Go.Proofs.YthnenedoblncjaaGreatDoor
open List (getElem_toArray getElem_cons_succ getElem_cons_zero setIfInBounds_toArray set_cons_zero set_cons_succ)
section
open Go.RowKit Go.Shelf
attribute [local go_sem] Oper.semAt_some
theorem app_opIn {F:Fence} {n:Nat} {P:Program} {o:Oper} {a:Act} {K:Act→World→Prop} {Q:Exit→Act→World→Prop} {w:World} (s x:Operand) (t:TypeId)
 (hop:o.op=Op.call { callee:=Callee.builtin Builtin.append,args:=#[s,x],argTypes:=#[t,t] }) (v xv:Value) (hs:a.eval s=v) (hx:a.eval x=xv) {v':Value} {w':World}
 (hrun:(Builtin.append_ #[t,t] o.type #[v,xv]).run P w=.ok v' w') (h:K (a.put o.dst v') w'):Oper.wpIn F n P o a w K Q:=by
 unfold Oper.wpIn
 refine ⟨?_,?_⟩
 · simp [Oper.about,hop,resolve,Target.leads,Sem.run_pure]
 · rw [Oper.semAt_plain F _ _ (by rw [hop];intro c hc';cases hc')]
   simp [execOp,hop,resolve,invoke,builtin,hs,hx,hrun,Result.andThen]
   exact h
theorem results_2c {fn:Func} {p q:Tmp} {t1 t2:TypeId} {tmps:Array Value} {w:World} {g k:Nat} {v u:Value} (h:fn.results=#[.cell p t1,.cell q t2])
 (h1:∀ w,(isAgg t1).run Tryz.prog w=.ok false w) (h2:∀ w,(isAgg t2).run Tryz.prog w=.ok false w)
 (hp:tmps.getD p undef=.pointer (some ⟨g,0,none⟩)) (hq:tmps.getD q undef=.pointer (some ⟨k,0,none⟩)) (hb:w.cell? ⟨g,0,none⟩=some v) (hk:w.cell? ⟨k,0,none⟩=some u) :
 (results fn tmps).run Tryz.prog w=.ok (.tuple #[v,u]) w:=by
 have hp':tmps[p]?.getD undef=.pointer (some ⟨g,0,none⟩):=by rw [← hp];simp
 have hq':tmps[q]?.getD undef=.pointer (some ⟨k,0,none⟩):=by rw [← hq];simp
 simp [results,h,hp',hq',go_sem,hb,hk,h1,h2]
theorem pt_infoS:(Tryz.prog.info? 41).map (fun i=>(i.zero,i.size,i.bytes))=some (some (.agg #[.int .i64 0,.int .i64 0]),2,16):=by kernel_rfl
theorem ptCs_snoc (ps:List Pt) (p:Pt):ptCs (ps++[p])=ptCs ps++[.int .i64 p.1,.int .i64 p.2]:=by
 simp [ptCs]
structure PtsAt (w:World) (l:List (List UInt8)) (b2 b3 b4 lo:Nat) (R:Nat→Prop) (pre:List Nat) (X:World):Prop where
 box:∃ v ps,optL (ptAtW l) pre=some ps∧(ps=[]→v=.slice none 0 0)∧Blk X b4 36 #[v]∧X.ownsRow lo 41 2 v ps.length (ptCs ps)∧∀ b,v.ownBlock=some b→¬ R b
 r2:Blk X b2 36 #[.slice none 0 0]
 r3:Blk X b3 4 #[.bool false]
 nR:¬ R b2∧¬ R b3∧¬ R b4
 bl:Below w.heap.size w X
structure PtsBad (w:World) (l:List (List UInt8)) (b2 b3:Nat) (R:Nat→Prop) (X:World):Prop where
 bad:ptsOk l=none
 r2:Blk X b2 36 #[.slice none 0 0]
 r3:Blk X b3 4 #[.bool false]
 nR:¬ R b2∧¬ R b3
 bl:Below w.heap.size w X
theorem own_stirsX {X Y:World} {base:Nat} {e:TypeId} {size:Nat} {v:Value} {k B:Nat} {xs:List Value} {R Z:Nat→Prop} (h:X.ownsRow base e size v k xs) (hst:StirsX B Z R X Y) (hz:∀ b,v.ownBlock=some b→¬ Z b) (hn:∀ b,v.ownBlock=some b→¬ R b):Y.ownsRow base e size v k xs:=by
 refine ⟨h.1,?_⟩
 rcases h.2 with h0 | ⟨g',cap,cur,hv,hb1,hh,r⟩
 · exact .inl h0
 · exact .inr ⟨g',cap,cur,hv,hb1,(hst.block g' (Blk.lt hh) (hz g' (by rw [hv];simp [Value.ownBlock])) (.inr ⟨hn g' (by rw [hv];simp [Value.ownBlock]),_,hh,rfl⟩)).trans hh,r⟩
theorem below_stirsX {w X Y:World} {B:Nat} {Z R:Nat→Prop} (hbl:Below w.heap.size w X) (hst:StirsX B Z R X Y) (hB:w.heap.size≤B) (hz:∀ k,Z k→w.heap.size≤k):Below w.heap.size w Y :=
 ⟨hst.os.trans hbl.os,hst.tape.trans hbl.tape,hst.output.trans hbl.output,Nat.le_trans hbl.size hst.size,fun k hk=>(hst.block k (Nat.lt_of_lt_of_le hk hbl.size) (fun h=>by have:=hz k h;omega) (.inl (by omega))).trans (hbl.block k hk)⟩
theorem pts_rests (w:World) (l:List (List UInt8)) (b2 b3 b4 lo B:Nat) (h1:w.heap.size≤B) (h2:b2<B∧b3<B∧b4<B):RestsX B (fun _=>False) (PtsAt w l b2 b3 b4 lo):=by
 rintro R R' es X Y ⟨⟨v,ps,hps,h0,hb,hown,hv⟩,r2,r3,hn,hbl⟩ hst hR
 have hnR:∀ k,k<X.heap.size→¬ R k→¬ R' k:=fun k hk hr h=>by
  rcases (hR k h).1 with h | h
  · exact hr h
  · omega
 exact ⟨⟨v,ps,hps,h0,(hst.block b4 hb.lt (fun h=>h) (.inl h2.2.2)).trans hb,own_stirsX hown hst (fun _ _ h=>h) hv,fun b e=>hnR b (own_lt' hown e) (hv b e)⟩,
  (hst.block b2 r2.lt (fun h=>h) (.inl h2.1)).trans r2,(hst.block b3 r3.lt (fun h=>h) (.inl h2.2.1)).trans r3,⟨hnR b2 r2.lt hn.1,hnR b3 r3.lt hn.2.1,hnR b4 hb.lt hn.2.2⟩,below_stirsX hbl hst h1 (fun _ h=>h.elim)⟩
theorem bad_rests (w:World) (l:List (List UInt8)) (b2 b3 B:Nat) (h1:w.heap.size≤B) (h2:b2<B∧b3<B) (c:Code):RestsX B (fun _=>False) (fun R (_:List Nat) X=>c=.ret∧PtsBad w l b2 b3 R X):=by
 rintro R R' es X Y ⟨hc,hbad,r2,r3,hn,hbl⟩ hst hR
 have hnR:∀ k,k<X.heap.size→¬ R k→¬ R' k:=fun k hk hr h=>by
  rcases (hR k h).1 with h | h
  · exact hr h
  · omega
 exact ⟨hc,hbad,(hst.block b2 r2.lt (fun h=>h) (.inl h2.1)).trans r2,(hst.block b3 r3.lt (fun h=>h) (.inl h2.2)).trans r3,⟨hnR b2 r2.lt hn.1,hnR b3 r3.lt hn.2⟩,below_stirsX hbl hst h1 (fun _ h=>h.elim)⟩
theorem parse_u (a:List UInt8) (ha:a.length≤1000000) (X:World) (hw:MW X):Calls Tryz.prog 144 #[.string (strOf a),.int .i64 1] X fun e X'=>Below X.heap.size X X' ∧
 ∃ A n c,e=.returned (.tuple #[.slice A n c,.int .i64 (pErr a 1)])∧(pErr a 1=0→n=1∧∃ bx ox z,A=some ⟨bx,ox,none⟩∧X'.cell? ⟨bx,ox,none⟩=some (.int .u64 z)∧bx<X'.heap.size∧IntKind.i64.wrap z=pVal a):=by
 refine (parse_dec (strOf a) 1 (by rw [strOf_size];unfold maxLen;omega) X hw.1 hw.2).mono ?_
 rintro e X' ⟨hb,h⟩
 have e0:(strOf a).data.toList=a:=rfl
 rw [e0] at h
 refine ⟨hb,?_⟩
 rcases h with ⟨h0,A,c,rfl,hs⟩ | ⟨h0,rfl⟩
 · refine ⟨A,_,c,by rw [h0];rfl,fun _=>⟨rfl,?_⟩⟩
   obtain ⟨bx,ox,rfl,hbx,hcx⟩:=hs.u (by rw [lims_length];decide)
   have hf:=fits1w (pErr_fits h0)
   refine ⟨bx,ox,_,rfl,hcx 0 _ (lims_get _ (by decide)),hbx,?_⟩
   unfold lim
   rw [IntKind.wrap_i64]
   simp only [Int.pow_zero,Int.ediv_one]
   omega
 · exact ⟨none,0,0,rfl,fun h=>absurd h h0⟩
theorem ptsOk_none {l:List (List UInt8)} {x:Nat} (hx:x<chunkN l.length) (h:ptAtW l x=none):ptsOk l=none:=by
 have:ptsW l=none:=optL_none (ptAtW l) h (List.mem_range.2 hx)
 unfold ptsOk
 rw [this]
theorem str_cell {l:List (List UInt8)} {b off k B:Nat} {a:List UInt8} {Y:World} (h:Sl Y B (some ⟨b,off,none⟩) (strCs l)) (ha:l[k]?=some a):Y.cell? ⟨b,off+k,none⟩=some (.string (strOf a)):=by
 rcases h with h | ⟨b',off',hA,_,hc⟩
 · have h2:=strCs_at ha
   rw [h] at h2;cases h2
 · injection hA with hA
   injection hA with h1 h2 _
   subst h1;subst h2
   exact hc k _ (strCs_at ha)
theorem pts_store {w:World} {l:List (List UInt8)} {b2 b3 s:Nat} {R:Nat→Prop} {X2 X3:World} (hb:Below X2.heap.size X2 X3) (hbad:ptsOk l=none) (r2:Blk X2 b2 36 #[.slice none 0 0]) (r3:Blk X2 b3 4 #[.bool false])
 (h2:¬ R b2∧b2≠s∧b2≠s+1) (h3:¬ R b3∧b3≠s∧b3≠s+1) (h23:b2≠b3) (hw:w.heap.size≤b2∧w.heap.size≤b3) (hR:∀ k,Bk R s k→k<X2.heap.size) (hbl:Below w.heap.size w X2) :
 KeepP (Bk R s) X2 ((X3.setCell ⟨b2,0,none⟩ (.slice none 0 0)).setCell ⟨b3,0,none⟩ (.bool false))∧PtsBad w l b2 b3 R ((X3.setCell ⟨b2,0,none⟩ (.slice none 0 0)).setCell ⟨b3,0,none⟩ (.bool false)):=by
 have n2:¬ Bk R s b2:=fun h=>by rcases h with h | h | h;exact h2.1 h;exact h2.2.1 h;exact h2.2.2 h
 have n3:¬ Bk R s b3:=fun h=>by rcases h with h | h | h;exact h3.1 h;exact h3.2.1 h;exact h3.2.2 h
 refine ⟨((KeepP.of_below hb hR).trans (KeepP.setCell n2 _ _ _)).trans (KeepP.setCell n3 _ _ _),hbad,?_,?_,⟨h2.1,h3.1⟩,?_⟩
 · exact (((r2.step hb).set 0 (.slice none 0 0))).far (p:=⟨b3,0,none⟩) h23 _
 · exact (((r3.step hb).far (p:=⟨b2,0,none⟩) (Ne.symm h23) _).set 0 (.bool false))
 · exact ((bl_step hbl hb).setCell hw.1 _).setCell hw.2 _
def PtsOut (l:List (List UInt8)) (w:World) (e:Ending) (w':World):Prop :=
 Below w.heap.size w w'∧((∃ ps v,ptsOk l=some ps∧e=.returned (.tuple #[v,.bool true])∧w'.ownsRow w.heap.size 41 2 v ps.length (ptCs ps))∨(ptsOk l=none∧e=.returned (.tuple #[.slice none 0 0,.bool false])))
section
variable (l:List (List UInt8)) (b off c:Nat) (hc:l.length≤c) (hl:∀ x∈l,x.length≤1000000) (hn:l.length≤1000000) (w:World) (hs:Sl w w.heap.size (some ⟨b,off,none⟩) (strCs l)) (hw:MW w)
include hc hl hn hs hw
theorem points_any:Calls Tryz.prog 139 #[.slice (some ⟨b,off,none⟩) l.length c] w (PtsOut l w):=by
 have hmix:Tryz.prog.follows .mixedOrders=true:=by kernel_rfl
 obtain ⟨b2,hb2⟩:∃ z,z=w.heap.size:=⟨_,rfl⟩
 obtain ⟨b3,hb3⟩:∃ z,z=w.heap.size+1:=⟨_,rfl⟩
 obtain ⟨b4,hb4⟩:∃ z,z=w.heap.size+1+1:=⟨_,rfl⟩
 obtain ⟨s1,hs1⟩:∃ z,z=w.heap.size+1+1+1:=⟨_,rfl⟩
 obtain ⟨s2,hs2⟩:∃ z,z=s1+1:=⟨_,rfl⟩
 obtain ⟨w1,hw1⟩:∃ w1,w1=((w.alloc (.cells #[.slice none 0 0] 36)).alloc (.cells #[.bool false] 4)).alloc (.cells #[.slice none 0 0] 36):=⟨_,rfl⟩
 have hbl1:Below w.heap.size w w1:=by rw [hw1];exact bl_alloc (bl_alloc (bA) _) _
 have hz1:w1.heap.size=s1:=by rw [hw1,hs1];simp
 have R2:Blk w1 b2 36 #[.slice none 0 0]:=by rw [hw1,hb2];exact ((Blk.new _ _ _).alloc _).alloc _
 have R3:Blk w1 b3 4 #[.bool false]:=by rw [hw1,hb3];exact (Blk.new2 _ _ _ _).alloc _
 have R4:Blk w1 b4 36 #[.slice none 0 0]:=by
  rw [hw1,hb4]
  have h:=Blk.new ((w.alloc (.cells #[.slice none 0 0] 36)).alloc (.cells #[.bool false] 4)) 36 #[.slice none 0 0]
  simp only [World.size_alloc] at h
  exact h
 obtain ⟨w2,hw2⟩:∃ w2,w2=(w1.alloc (.cells #[.slice (some ⟨b,off,none⟩) l.length c] 28)).alloc (.cells #[.int .i64 2] 3):=⟨_,rfl⟩
 have hbl12:Below w1.heap.size w1 w2:=by rw [hw2];exact bl_alloc (bA) _
 have S1:Blk w2 s1 28 #[.slice (some ⟨b,off,none⟩) l.length c]:=by rw [hw2,← hz1];exact (Blk.new _ _ _).alloc _
 have S2:Blk w2 s2 3 #[.int .i64 2]:=by rw [hw2,hs2,← hz1];exact Blk.new2 _ _ _ _
 have hz2:w2.heap.size=b2+5:=by rw [hw2];simp [hz1];omega
 have hbl2:=bl_step hbl1 hbl12
 have CK:=hide (chunk_raw (some ⟨b,off,none⟩) l.length c w1)
 rw [← hw2,hz1,← hs2] at CK
 have HSEQ:Hid (SeqX Tryz.prog (fun x=>x<chunkN l.length) (encK b off l.length) (fun k=>k<b2∨k=s1∨k=s2) (fun _=>False) 255 #[.pointer (some ⟨s1,0,none⟩),.pointer (some ⟨s2,0,none⟩)] (fun ys=>ys=List.range (chunkN l.length)) (chunkN l.length) w2) :=
  hide (chunk1_at _ s1 s2 b off l.length c hc hn (.inr (.inl rfl)) (.inr (.inr rfl)) w2 S1 S2)
 have HP0:Hid (PtsAt w l b2 b3 b4 (b2+7) (fun k=>k<b2∨k=s1∨k=s2) [] w2):=hide
  ⟨⟨_,[],rfl,fun _=>rfl,R4.step hbl12,World.ownsRow_nil _ _ _ _,fun _ h=>(by cases h)⟩,R2.step hbl12,R3.step hbl12,⟨by omega,by omega,by omega⟩,hbl2⟩
 have HS:=hide hs;have HMW:=hide hw;have HLL:=hide hl
 have HZ:Hid (b2=w.heap.size∧b3=b2+1∧b4=b2+2∧s1=b2+3∧s2=b2+4∧w2.heap.size=b2+5):=hide (by omega)
 have HBL2:=hide hbl2
 have heg:∀ args w,(callFunc 255 args).run Tryz.prog w=.ok (.enter 255 args) w:=enters_of Tryz.func255 (by kernel_rfl) rfl
 have HEG:=hide heg
 obtain ⟨n,hnn⟩:∃ n,n=l.length:=⟨_,rfl⟩
 have HN:=hide hnn
 have HLN:=hide hn
 rw [← hnn] at HSEQ CK ⊢
 have hb4':=hide hb4;have hb3':=hide hb3;have hb2':=hide hb2
 clear hc hl hn hs hw hbl1 hz1 R2 R3 R4 hw2 hbl12 S1 S2 hz2 hbl2 heg hnn hb2 hb3 hb4 hs1 hs2
 refine (callsIn_wide (n:=6)).1 ?_
 refine callsIn_of_wp_marks Tryz.func139 rfl trivial ?_ rfl
 simp only [Tryz.ntmps139,List.size_toArray,List.length_cons,List.length_nil,Nat.reduceAdd,Nat.reduceSub,Array.replicate_succ,Array.replicate_zero,List.push_toArray,List.append_toArray,List.nil_append,List.cons_append]
 gi_wp2_with fail
 rw [← hw1,← hb4'.out,← hb3'.out,← hb2'.out]
 clear hw1 hb4' hb3' hb2'
 refine ⟨trivial,?_⟩
 refine (callsIn_wide.2 CK.out).mono ?_
 rintro e w' ⟨rfl,rfl⟩
 clear CK
 gi_wp2_with fail
 refine wpIn_range_seqX (K:=fun k=>k<b2∨k=s1∨k=s2) rfl HEG.out HSEQ.out (fun _ h=>h.elim) (fun k h=>by have:=HZ.out;omega) (fun _=>rfl) (PtsAt w l b2 b3 b4 (b2+7)) (fun c R X=>c=.ret∧PtsBad w l b2 b3 R X) ?h1 ?h2 HP0.out ?round ?done ?stop
 case h1=>exact pts_rests w l b2 b3 b4 (b2+7) _ HBL2.out.size (by have:=HZ.out;omega)
 case h2=>exact bad_rests w l b2 b3 _ HBL2.out.size (by have:=HZ.out;omega)
 case stop =>
  rintro cc X ⟨rfl,hbad,r2,r3,-,hbl⟩ hD -
  have c2:=r2.cell (i:=0) rfl
  have c3:=r3.cell (i:=0) rfl
  have HBL:=hide hbl;have HD:=hide hD;have HBAD:=hide hbad
  have H2:Hid (Blk (X.putObj w'.heap.size (.deferred none)) b2 36 #[.slice none 0 0]):=hide ((World.putObj_heap_other (by have:=HZ.out;omega)).trans r2)
  have H3:Hid (Blk (X.putObj w'.heap.size (.deferred none)) b3 4 #[.bool false]):=hide ((World.putObj_heap_other (by have:=HZ.out;omega)).trans r3)
  clear r2 r3 hbl hD hbad
  gi_wp2
  refine ⟨by simp,.inl ⟨_,_,rfl,run_takeDeferred HD.out,?_⟩⟩
  have g:=grownBy_putObj' X w'.heap.size (.deferred none)
  refine ⟨_,results_2c rfl (fun w=>by kernel_rfl) (fun w=>by kernel_rfl) rfl rfl (H2.out.cell (i:=0) rfl) (H3.out.cell (i:=0) rfl),?_⟩
  exact ⟨HBL.out.grown g HBL.out.size (fun k e=>by cases e;have:=HZ.out;omega),.inr ⟨HBAD.out,rfl⟩⟩
 case done =>
  rintro ys X rfl ⟨⟨v,ps,hps,h0,hb,hown,hv⟩,r2,r3,-,hbl⟩ hD -
  obtain ⟨VA,vc,rfl,hvc⟩:=own_slice hown
  have c4:=hb.cell (i:=0) rfl
  have c2:=r2.cell (i:=0) rfl
  have c3:=r3.cell (i:=0) rfl
  have f2:=r2.frozen 0
  have f3:=r3.frozen 0
  obtain ⟨m,hm⟩:∃ m,m=ps.length:=⟨_,rfl⟩
  obtain ⟨ok,hok⟩:∃ ok,ok=decide (0<m):=⟨_,rfl⟩
  have hfin:∃ v',((ptsOk l=some ps∧ok=true)∨(ptsOk l=none∧ok=false∧VA=none∧m=0∧vc=0))∧v'=Value.slice VA m vc:=by
   refine ⟨_,?_,rfl⟩
   have hw:ptsW l=some ps:=by unfold ptsW;rw [← HN.out];exact hps
   cases ps with
   | nil =>
     right
     have hm0:m=0:=hm
     refine ⟨by unfold ptsOk;rw [hw],by rw [hok,hm0];rfl,?_⟩
     have h:=h0 rfl
     injection h with h1 h2 h3
     exact ⟨h1,hm0,h3⟩
   | cons p r =>
     left
     refine ⟨by unfold ptsOk;rw [hw],by rw [hok,hm];simp⟩
  obtain ⟨v',hfin,hv'⟩:=hfin
  have hok':decide (0<m)=ok:=hok.symm
  rw [← hm] at c4
  have HOWN:Hid (X.ownsRow (b2+7) 41 2 v' ps.length (ptCs ps)):=hide (by rw [hv',hm];exact hown)
  have HF:=hide hfin;have HV:=hide hv';have HD:=hide hD;have HBL:=hide hbl;have HR2:=hide r2;have HR3:=hide r3
  clear hps h0 hb hown hv hm hok hfin hv' hD hbl r2 r3 hvc
  gi_wp2
  have hS0:X.drew.cell? ⟨b4,0,none⟩=some (.slice VA m vc):=c4
  have c2d:X.drew.cell? ⟨b2,0,none⟩=some (.slice none 0 0):=c2
  have f2d:X.drew.frozen? ⟨b2,0,none⟩=false:=f2
  have h32:b3≠b2∧b4≠b2∧b4≠b3:=by have:=HZ.out;omega
  obtain ⟨X4,hX4⟩:∃ X4,X4=X.drew.setCell ⟨b2,0,none⟩ (.slice VA m vc):=⟨_,rfl⟩
  obtain ⟨X5,hX5⟩:∃ X5,X5=X4.setCell ⟨b3,0,none⟩ (.bool ok):=⟨_,rfl⟩
  have Q2:Blk X4 b2 36 #[.slice VA m vc]:=by rw [hX4];exact HR2.out.drew.set 0 _
  have Q3:Blk X4 b3 4 #[.bool false]:=by rw [hX4];exact HR3.out.drew.far (p:=⟨b2,0,none⟩) h32.1 _
  have c3d:=Q3.cell (i:=0) rfl
  have f3d:=Q3.frozen 0
  have hS4:X4.cell? ⟨b4,0,none⟩=some (.slice VA m vc):=by rw [hX4];exact (World.cell?_setCell_other _ _ _ _ (fun e=>by injection e with e;exact h32.2.1 e.symm)).trans hS0
  have hS5:X5.cell? ⟨b4,0,none⟩=some (.slice VA m vc):=by rw [hX5];exact (World.cell?_setCell_other _ _ _ _ (fun e=>by injection e with e;exact h32.2.2 e.symm)).trans hS4
  have HQ2:Hid (Blk X5 b2 36 #[.slice VA m vc]):=hide (by rw [hX5];exact Q2.far (p:=⟨b3,0,none⟩) (Ne.symm h32.1) _)
  have HQ3:Hid (Blk X5 b3 4 #[.bool ok]):=hide (by rw [hX5];exact Q3.set 0 _)
  have HB5:Hid (Below w.heap.size w X5):=hide (by
   rw [hX5,hX4]
   exact ((bl_drew HBL.out).setCell (by have:=HZ.out;dsimp only;omega) _).setCell (by have:=HZ.out;dsimp only;omega) _)
  have HO5:Hid (X5.ownsRow (b2+7) 41 2 v' ps.length (ptCs ps)):=hide (by
   rw [hX5,hX4]
   refine own_set (own_set (own_step HOWN.out (bl_drew (Below.refl _ _))) (fun e=>?_) _) (fun e=>?_) _
   · have h:=own_base HOWN.out e;dsimp only at h;omega
   · have h:=own_base HOWN.out e;have:=HZ.out;dsimp only at h;omega)
  have HD5:Hid (X5.heap[w'.heap.size]?=some (.deferred (some []))):=hide (by
   rw [hX5,hX4]
   exact (Below.heap_setCell _ ⟨b3,0,none⟩ _ _ (by have:=HZ.out;dsimp only;omega)).trans ((Below.heap_setCell _ ⟨b2,0,none⟩ _ _ (by have:=HZ.out;dsimp only;omega)).trans HD.out))
  have hX4s:=hX4.symm
  have hX5s:=hX5.symm
  clear hX4 hX5 Q2 Q3 c2 c3 f2 f3 c4
  refine startN 1000 (S:=fun w'=>w'.cell? ⟨b4,0,none⟩=some (.slice VA m vc)) hmix ?_
  generalize X.drew=u0 at *
  refine' takeH (i:=0) (v:=_) (noDefer_of (by kernel_rfl)) rfl (by kernel_rfl) (by kernel_rfl) (by kernel_rfl) (fun _ _ _ h=>h) (by kernel_rfl) ⟨Or.inl ⟨by rfl,?hy0k1⟩,fun _=>rfl⟩ hS0 ?rest0k1
  case hy0k1 =>
   intro w' hSw
   go_simp
   rfl
  simp only [Act.put,getElem_toArray,getElem_cons_zero,setIfInBounds_toArray,set_cons_zero,set_cons_succ]
  refine' takeH (i:=1) (v:=_) (noDefer_of (by kernel_rfl)) rfl (by kernel_rfl) (by kernel_rfl) (by kernel_rfl) (fun _ _ _ h=>h) (by kernel_rfl) ⟨Or.inl ⟨by rfl,?hy1k2⟩,fun _=>rfl⟩ hS0 ?rest1k2
  case hy1k2 =>
   intro w' hSw
   go_simp
   rfl
  simp only [Act.put,getElem_toArray,getElem_cons_succ,getElem_cons_zero,setIfInBounds_toArray,set_cons_zero,set_cons_succ]
  refine' takeH (i:=2) (v:=_) (noDefer_of (by kernel_rfl)) rfl (by kernel_rfl) (by kernel_rfl) (by kernel_rfl) (fun _ _ _ h=>h) (by kernel_rfl) ⟨Or.inl ⟨by rfl,?hy2k3⟩,fun _=>rfl⟩ hS0 ?rest2k3
  case hy2k3 =>
   intro w' hSw
   go_simp
   rfl
  simp only [Act.put,getElem_toArray,getElem_cons_succ,getElem_cons_zero,setIfInBounds_toArray,set_cons_zero,set_cons_succ]
  refine' takeH (i:=3) (v:=_) (noDefer_of (by kernel_rfl)) rfl (by kernel_rfl) (by kernel_rfl) (by kernel_rfl) (fun _ _ _ h=>h) (by kernel_rfl) ⟨Or.inl ⟨by rfl,?hy3k4⟩,fun _=>rfl⟩ hS0 ?rest3k4
  case hy3k4 =>
   intro w' hSw
   go_simp
   rfl
  simp only [Act.put,getElem_toArray,getElem_cons_succ,getElem_cons_zero,setIfInBounds_toArray,set_cons_zero,set_cons_succ]
  refine oneH (i:=4) (by kernel_rfl) rfl ?_
  intro K hK
  rw [if_pos (by rfl)]
  go_simp
  refine hK.out _ _ (fun _=>hS4) ?_
  clear hK K
  (try simp only [Act.put,getElem_toArray,getElem_cons_succ,getElem_cons_zero,setIfInBounds_toArray,set_cons_zero,set_cons_succ])
  refine oneH (i:=5) (by kernel_rfl) rfl ?_
  intro K hK
  rw [if_pos (by rfl)]
  go_simp
  refine hK.out _ _ (fun _=>hS5) ?_
  clear hK K
  (try simp only [Act.put,getElem_toArray,getElem_cons_succ,getElem_cons_zero,setIfInBounds_toArray,set_cons_zero,set_cons_succ])
  refine doneH (by kernel_rfl) ?_ _
  refine OnlyN.intro ?_
  gi_wp2
  refine ⟨by simp,.inl ⟨_,_,rfl,run_takeDeferred HD5.out,?_⟩⟩
  have g:=grownBy_putObj' X5 w'.heap.size (.deferred none)
  have e2:Blk (X5.putObj w'.heap.size (.deferred none)) b2 36 #[.slice VA m vc]:=(World.putObj_heap_other (by have:=HZ.out;omega)).trans HQ2.out
  have e3:Blk (X5.putObj w'.heap.size (.deferred none)) b3 4 #[.bool ok]:=(World.putObj_heap_other (by have:=HZ.out;omega)).trans HQ3.out
  refine ⟨_,results_2c rfl (fun w=>by kernel_rfl) (fun w=>by kernel_rfl) rfl rfl (e2.cell (i:=0) rfl) (e3.cell (i:=0) rfl),?_⟩
  refine ⟨HB5.out.grown g HB5.out.size (fun k e=>by cases e;have:=HZ.out;omega),?_⟩
  have hvn:v'.ownBlock≠some w'.heap.size:=fun e=>by have h:=own_base HO5.out e;have:=HZ.out;omega
  have hown5:=HO5.out.kept g (.inr hvn)
  rcases HF.out with ⟨h1,rfl⟩ | ⟨h1,rfl,rfl,rfl,rfl⟩
  · refine .inl ⟨ps,v',h1,by rw [HV.out];rfl,hown5.1,?_⟩
    rcases hown5.2 with h0 | ⟨g',cap,cur,q1,q2,r⟩
    · exact .inl h0
    · exact .inr ⟨g',cap,cur,q1,by have:=HZ.out;omega,r⟩
  · exact .inr ⟨h1,rfl⟩
 case round =>
  rintro R pre x X hR hnl hs1' ⟨rec,hrec⟩ ⟨⟨v,ps,hps,h0,hb,hown,hv⟩,r2,r3,⟨n2,n3,n4⟩,hbl⟩ hpre hx
  have hz:=HZ.out
  unfold encK
  obtain ⟨q,hq⟩:∃ q,q=if 2*x+1<n then 2 else 1:=⟨_,rfl⟩
  obtain ⟨m,hm⟩:∃ m,m=off+2*x:=⟨_,rfl⟩
  rw [← hq,← hm]
  have hvn:v.ownBlock≠some (w'.heap.size+1):=fun e=>by have h:=own_base hown e;omega
  have HALL:=hide (And.intro hR (And.intro hnl (And.intro hs1' (And.intro hrec (And.intro hps (And.intro h0 (And.intro hb (And.intro hown (And.intro hv (And.intro r2 (And.intro r3 (And.intro n2 (And.intro n3 (And.intro n4 hbl))))))))))))))
  have HSZ:Hid (b2+7≤X.heap.size):=hide (by omega)
  have HQ:=hide hq;have HM:=hide hm;have HX:=hide hx;have HPRE:=hide hpre;have HVN:=hide hvn
  clear hR hnl hs1' hrec hps h0 hb hown hv r2 r3 n2 n3 n4 hbl hz hq hm hx hpre hvn
  gi_wp2
  refine ⟨KeepP.refl _ _,fun o=>?_⟩
  obtain ⟨hR,hnl,hs1',hrec,hps,h0,hb,hown,hv,r2,r3,n2,n3,n4,hbl⟩:=HALL.out
  clear HALL
  have hz:=HZ.out
  obtain ⟨X2,hX2⟩:∃ X2,X2=X.putObj (w'.heap.size+1) (.loop o):=⟨_,rfl⟩
  have hgp:X.grownBy X2 (some (w'.heap.size+1)):=by rw [hX2];exact grownBy_putObj' _ _ _
  have HSZ2:Hid (b2+7≤X2.heap.size):=hide (Nat.le_trans HSZ.out hgp.size)
  have hb':Blk X2 b4 36 #[v]:=by rw [hX2];exact (World.putObj_heap_other (by omega)).trans hb
  have r2':Blk X2 b2 36 #[.slice none 0 0]:=by rw [hX2];exact (World.putObj_heap_other (by omega)).trans r2
  have r3':Blk X2 b3 4 #[.bool false]:=by rw [hX2];exact (World.putObj_heap_other (by omega)).trans r3
  have hown':=hown.kept hgp (.inr HVN.out)
  have hbl':Below w.heap.size w X2:=hbl.grown hgp hbl.size (fun j e=>by cases e;omega)
  have hR':∀ k,Bk R w'.heap.size k→k<X2.heap.size:=fun k hk=>by
   have:=hgp.size
   rcases hk with hk | hk | hk
   · have:=hR k hk;omega
   · omega
   · omega
  rw [← hX2]
  have HBAD:Hid (∀ X3,Below X2.heap.size X2 X3→ptsOk l=none→KeepP (Bk R w'.heap.size) X2 ((X3.setCell ⟨b2,0,none⟩ (.slice none 0 0)).setCell ⟨b3,0,none⟩ (.bool false))∧PtsBad w l b2 b3 R ((X3.setCell ⟨b2,0,none⟩ (.slice none 0 0)).setCell ⟨b3,0,none⟩ (.bool false))) :=
   hide fun X3 h1 h2=>pts_store h1 h2 r2' r3' ⟨n2,by omega,by omega⟩ ⟨n3,by omega,by omega⟩ (by omega) (by omega) hR' hbl'
  have h23:b2≠b3:=by omega
  have HST:Hid (∀ X3,Below X2.heap.size X2 X3→X3.cell? ⟨b2,0,none⟩=some (.slice none 0 0)∧X3.frozen? ⟨b2,0,none⟩=false∧(X3.setCell ⟨b2,0,none⟩ (.slice none 0 0)).cell? ⟨b3,0,none⟩=some (.bool false)∧(X3.setCell ⟨b2,0,none⟩ (.slice none 0 0)).frozen? ⟨b3,0,none⟩=false) :=
   hide fun X3 h1=>⟨(r2'.step h1).cell (i:=0) rfl,(r2'.step h1).frozen 0,((r3'.step h1).far (p:=⟨b2,0,none⟩) (Ne.symm h23) _).cell (i:=0) rfl,((r3'.step h1).far (p:=⟨b2,0,none⟩) (Ne.symm h23) _).frozen 0⟩
  have HOWN:=hide hown';have HB4:=hide hb';have HBL:=hide hbl';have HRR:=hide hR';have HPS:=hide hps;have H0:=hide h0;have HV:=hide hv;have HNR:=hide (And.intro n2 (And.intro n3 n4));have HRL:=hide (And.intro r2' r3')
  clear hR hnl hs1' hrec hps h0 hb hown hv r2 r3 n2 n3 n4 hbl hz hX2 hgp hb' r2' r3' hown' hbl' hR' h23
  by_cases hq1:2*x+1<n
  · obtain rfl:q=2:=by rw [HQ.out,if_pos hq1]
    obtain ⟨a,ha⟩:∃ a,l[2*x]?=some a:=⟨_,List.getElem?_eq_getElem (by rw [← HN.out];omega)⟩
    obtain ⟨d,hd⟩:∃ d,l[2*x+1]?=some d:=⟨_,List.getElem?_eq_getElem (by rw [← HN.out];omega)⟩
    have hat:=ptAtW_of ha hd
    have hSX:Sl X2 X2.heap.size (some ⟨b,off,none⟩) (strCs l):=(HS.out.below HBL.out).more HBL.out.size
    have ca:=str_cell hSX ha
    rw [← HM.out] at ca
    have P1:=hide (parse_u a (HLL.out a (List.mem_of_getElem? ha)) X2 (HMW.out.step HBL.out))
    have P2:=hide (fun X3 (h:Below X2.heap.size X2 X3)=>parse_u d (HLL.out d (List.mem_of_getElem? hd)) X3 (HMW.out.step (bl_step HBL.out h)))
    have CD:Hid (∀ X3,Below X2.heap.size X2 X3→X3.cell? ⟨b,m+1,none⟩=some (.string (strOf d))):=hide fun X3 h=>by
     have:=str_cell ((hSX.below h).more h.size) hd
     rw [show off+(2*x+1)=m+1 from by rw [HM.out];omega] at this
     exact this
    obtain ⟨E1,hE1⟩:∃ E,E=pErr a 1:=⟨_,rfl⟩
    obtain ⟨E2,hE2⟩:∃ E,E=pErr d 1:=⟨_,rfl⟩
    obtain ⟨V1,hV1⟩:∃ E,E=pVal a:=⟨_,rfl⟩
    obtain ⟨V2,hV2⟩:∃ E,E=pVal d:=⟨_,rfl⟩
    obtain ⟨T1,hT1⟩:∃ T,T=strOf a:=⟨_,rfl⟩
    obtain ⟨T2,hT2⟩:∃ T,T=strOf d:=⟨_,rfl⟩
    rw [← hE1,← hE2,← hV1,← hV2] at hat
    rw [← hT1] at ca P1
    rw [← hE1,← hV1] at P1
    rw [← hT2] at P2 CD
    rw [← hE2,← hV2] at P2
    have HAT:=hide hat
    clear hq1 ha hd hat hSX hE1 hE2 hV1 hV2 hT1 hT2
    gi_wp2_with fail
    refine ⟨trivial,?_⟩
    refine (CallsIn.inRound _ (callsIn_wide.2 P1.out)).mono ?_
    rintro e X3 ⟨hb3,A1,n1,c1,rfl,h1⟩
    have HB3:=hide hb3;have HH1:=hide h1
    have cd:=CD.out X3 hb3
    clear hb3 h1 ca P1 CD
    gi_wp2_with fail
    refine ⟨trivial,?_⟩
    refine (CallsIn.inRound _ (callsIn_wide.2 (P2.out X3 HB3.out))).mono ?_
    rintro e X4 ⟨hb4,A2,n2,c2,rfl,h2⟩
    have HB34:=hide hb4
    have HBB:=hide (bl_step HB3.out hb4);have HH2:=hide h2
    clear hb4 h2 cd P2
    by_cases e1:E1=0
    · subst e1
      by_cases e2:E2=0
      · subst e2
        obtain ⟨rfl,bx,ox,z1,rfl,cx,hbx,wx⟩:=HH1.out rfl
        obtain ⟨rfl,by_,oy,z2,rfl,cy,hby,wy⟩:=HH2.out rfl
        have cx4:X4.cell? ⟨bx,ox,none⟩=some (.int .u64 z1):=(World.cell?_of_block (HB34.out.block bx hbx)).trans cx
        have hz:=HZ.out
        have c4:X4.cell? ⟨b4,0,none⟩=some v:=(HB4.out.step HBB.out).cell (i:=0) rfl
        obtain ⟨X5,hX5⟩:∃ X5,X5=X4.drew.alloc (.cells #[.int .i64 V1,.int .i64 V2] 41):=⟨_,rfl⟩
        obtain ⟨g5,hg5⟩:∃ g5,g5=X4.drew.heap.size:=⟨_,rfl⟩
        have hb45:Below X4.heap.size X4 X5:=by rw [hX5];exact bl_alloc (bl_drew (Below.refl _ _)) _
        have N5:Blk X5 g5 41 #[.int .i64 V1,.int .i64 V2]:=by rw [hX5,hg5];exact Blk.new _ _ _
        have hb25:=bl_step HBB.out hb45
        have hown5:=own_step HOWN.out hb25
        have hpl:ps.length=pre.length:=optL_len _ HPS.out
        have hpn:ps.length≤1000000:=by have:=HPRE.out;have:=HLN.out;have:=HN.out;unfold chunkN at *;omega
        obtain ⟨i0,hi,hz0,hz1,hz2⟩:=info_parts pt_infoS
        obtain ⟨g6,c6,X6,hr6,hown6,hg6,hloc6,hlt6⟩:=run_append_lies (P:=Tryz.prog) X5 36 36 (b2+7) 41 i0 (.agg #[.int .i64 0,.int .i64 0]) 2 16 Tryz.underlying36 hi hz0 hz1 hz2 rfl (by decide) v ps.length (ptCs ps) hown5 ⟨g5,0,none⟩ 1 1 [.int .i64 V1,.int .i64 V2] rfl (blk_cells N5) (by simp [Value.oneCell']) (by omega) (by unfold maxLen;omega) (by omega) (Nat.le_trans HSZ2.out hb25.size) _ rfl
        have hvB:v.ownBlock≠some b4:=fun e=>by have h:=own_base HOWN.out e;omega
        have hB5:=HB4.out.step hb25
        have hB6:Blk X6 b4 36 #[v]:=hB5.grown hg6 (Ne.symm hvB)
        obtain ⟨nR2,nR3,nR4⟩:=HNR.out
        have hg6n:¬ R g6∧b2+7≤g6:=by
         have hs2:=hb25.size
         rcases hloc6 with h | h
         · exact ⟨HV.out g6 h,own_base HOWN.out h⟩
         · refine ⟨fun hr=>?_,?_⟩
           · have:=HRR.out g6 (.inl hr);omega
           · have:=HSZ2.out;omega
        obtain ⟨X7,hX7⟩:∃ X7,X7=X6.setCell ⟨b4,0,none⟩ (.slice (some ⟨g6,0,none⟩) (ps.length+1) c6):=⟨_,rfl⟩
        have hB7:Blk X7 b4 36 #[.slice (some ⟨g6,0,none⟩) (ps.length+1) c6]:=by rw [hX7];exact hB6.set 0 _
        have hown7:X7.ownsRow (b2+7) 41 2 (.slice (some ⟨g6,0,none⟩) (ps.length+1) c6) (ps++[(V1,V2)]).length (ptCs (ps++[(V1,V2)])):=by
         have e:(ps++[(V1,V2)]).length=ps.length+1:=by simp
         rw [ptCs_snoc,e,hX7]
         exact own_set hown6 (by simp [Value.ownBlock];omega) _
        have hk5:KeepP (Bk R w'.heap.size) X2 X5:=KeepP.of_below hb25 HRR.out
        have hk6:KeepP (Bk R w'.heap.size) X5 X6:=⟨hg6.os,hg6.tape,hg6.output,hg6.size,fun j hj=>hg6.block j (Nat.lt_of_lt_of_le (HRR.out j hj) hb25.size) (fun e=>by
         rcases hj with hj | hj | hj
         · exact HV.out j e.symm hj
         · have h:=own_base HOWN.out e.symm;omega
         · have h:=own_base HOWN.out e.symm;omega)⟩
        have hk7:KeepP (Bk R w'.heap.size) X2 X7:=by
         rw [hX7]
         refine (hk5.trans hk6).trans (KeepP.setCell ?_ _ _ _)
         rintro (hj | hj | hj)
         · exact nR4 hj
         · omega
         · omega
        have hbl6:Below w.heap.size w X6:=(bl_step HBL.out hb25).grown hg6 (bl_step HBL.out hb25).size (fun j e=>by have h:=own_base HOWN.out e;omega)
        obtain ⟨r2,r3⟩:=HRL.out
        have HF:Hid (KeepP (Bk R w'.heap.size) X2 X7∧PtsAt w l b2 b3 b4 (b2+7) R (pre++[x]) X7):=hide ⟨hk7,⟨⟨_,_,optL_snoc (ptAtW l) x (by rw [HAT.out,if_pos ⟨rfl,rfl⟩]) HPS.out,fun h=>(by simp at h),hB7,hown7,fun j e=>by
         have:g6=j:=by have:some g6=some j:=e;exact Option.some.inj this
         subst this
         exact hg6n.1⟩,
         by rw [hX7];exact (((r2.step hb25).grown hg6 (fun e=>by have h:=own_base HOWN.out e.symm;omega)).far (p:=⟨b4,0,none⟩) (by dsimp only;omega) _),
         by rw [hX7];exact (((r3.step hb25).grown hg6 (fun e=>by have h:=own_base HOWN.out e.symm;omega)).far (p:=⟨b4,0,none⟩) (by dsimp only;omega) _),⟨nR2,nR3,nR4⟩,
         by rw [hX7];exact hbl6.setCell (by dsimp only;omega) _⟩⟩
        have c46:=hB6.cell (i:=0) rfl
        have f46:=hB6.frozen 0
        have hX5s:=hX5.symm
        have hX7s:=hX7.symm
        have S0:X4.drew.cell? ⟨b4,0,none⟩=some v∧X4.drew.cell? ⟨bx,ox,none⟩=some (.int .u64 z1)∧X4.drew.cell? ⟨by_,oy,none⟩=some (.int .u64 z2):=⟨c4,cx4,cy⟩
        have S5:X5.cell? ⟨b4,0,none⟩=some v∧X5.cell? ⟨bx,ox,none⟩=some (.int .u64 z1)∧X5.cell? ⟨by_,oy,none⟩=some (.int .u64 z2):=⟨hB5.cell (i:=0) rfl,(World.cell?_of_block (hb45.block bx (Nat.lt_of_lt_of_le hbx HB34.out.size))).trans cx4,(World.cell?_of_block (hb45.block by_ hby)).trans cy⟩
        clear hX5 hX7 hb45 N5 hb25 hown5 hpl hpn hi hz0 hz1 hz2 i0 hown6 hg6 hloc6 hlt6 hvB hB5 hB6 hg6n hB7 hown7 hk5 hk6 hk7 hbl6 r2 r3 nR2 nR3 nR4 cx cy cx4 c4 hbx hby hz
        gi_wp2
        refine startNT 11 (S:=fun Y=>Y.cell? ⟨b4,0,none⟩=some v∧Y.cell? ⟨bx,ox,none⟩=some (.int .u64 z1)∧Y.cell? ⟨by_,oy,none⟩=some (.int .u64 z2)) hmix ?_
        have hg5s:=hg5.symm
        clear hg5
        generalize X4.drew=u0 at *
        refine' takeT (i:=0) (v:=_) (noDefer_of (by kernel_rfl)) rfl (by kernel_rfl) (by kernel_rfl) (by kernel_rfl) (fun _ _ _ h=>h) (by kernel_rfl) ⟨Or.inl ⟨by rfl,?hy0k5⟩,fun _=>rfl⟩ S0 ?rest0k5
        case hy0k5 =>
         intro w' hSw
         obtain ⟨q0,q1,q2⟩:=hSw
         go_simp
         rfl
        simp only [Act.put,getElem_toArray,getElem_cons_zero,setIfInBounds_toArray,set_cons_zero,set_cons_succ]
        refine' takeT (i:=1) (v:=_) (noDefer_of (by kernel_rfl)) rfl (by kernel_rfl) (by kernel_rfl) (by kernel_rfl) (fun _ _ _ h=>h) (by kernel_rfl) ⟨Or.inl ⟨by rfl,?hy1k6⟩,fun _=>rfl⟩ S0 ?rest1k6
        case hy1k6 =>
         intro w' hSw
         obtain ⟨q0,q1,q2⟩:=hSw
         go_simp
         rfl
        simp only [Act.put,getElem_toArray,getElem_cons_succ,getElem_cons_zero,setIfInBounds_toArray,set_cons_zero,set_cons_succ]
        refine' takeT (i:=2) (v:=_) (noDefer_of (by kernel_rfl)) rfl (by kernel_rfl) (by kernel_rfl) (by kernel_rfl) (fun _ _ _ h=>h) (by kernel_rfl) ⟨Or.inl ⟨by rfl,?hy2k7⟩,fun _=>rfl⟩ S0 ?rest2k7
        case hy2k7 =>
         intro w' hSw
         obtain ⟨q0,q1,q2⟩:=hSw
         go_simp
         rfl
        simp only [Act.put,getElem_toArray,getElem_cons_succ,getElem_cons_zero,setIfInBounds_toArray,set_cons_zero,set_cons_succ]
        refine' takeT (i:=3) (v:=_) (noDefer_of (by kernel_rfl)) rfl (by kernel_rfl) (by kernel_rfl) (by kernel_rfl) (fun _ _ _ h=>h) (by kernel_rfl) ⟨Or.inl ⟨by rfl,?hy3k8⟩,fun _=>rfl⟩ S0 ?rest3k8
        case hy3k8 =>
         intro w' hSw
         obtain ⟨q0,q1,q2⟩:=hSw
         go_simp
         rfl
        simp only [Act.put,getElem_toArray,getElem_cons_succ,getElem_cons_zero,setIfInBounds_toArray,set_cons_zero,set_cons_succ]
        refine' takeT (i:=4) (v:=_) (noDefer_of (by kernel_rfl)) rfl (by kernel_rfl) (by kernel_rfl) (by kernel_rfl) (fun _ _ _ h=>h) (by kernel_rfl) ⟨Or.inl ⟨by rfl,?hy4k9⟩,fun _=>rfl⟩ S0 ?rest4k9
        case hy4k9 =>
         intro w' hSw
         obtain ⟨q0,q1,q2⟩:=hSw
         go_simp
         rfl
        simp only [Act.put,getElem_toArray,getElem_cons_succ,getElem_cons_zero,setIfInBounds_toArray,set_cons_zero,set_cons_succ]
        refine' takeT (i:=5) (v:=_) (noDefer_of (by kernel_rfl)) rfl (by kernel_rfl) (by kernel_rfl) (by kernel_rfl) (fun _ _ _ h=>h) (by kernel_rfl) ⟨Or.inl ⟨by rfl,?hy5k10⟩,fun _=>rfl⟩ S0 ?rest5k10
        case hy5k10 =>
         intro w' hSw
         obtain ⟨q0,q1,q2⟩:=hSw
         go_simp
         rfl
        simp only [Act.put,getElem_toArray,getElem_cons_succ,getElem_cons_zero,setIfInBounds_toArray,set_cons_zero,set_cons_succ]
        refine' takeT (i:=6) (v:=_) (noDefer_of (by kernel_rfl)) rfl (by kernel_rfl) (by kernel_rfl) (by kernel_rfl) (fun _ _ _ h=>h) (by kernel_rfl) ⟨Or.inl ⟨by rfl,?hy6k11⟩,fun _=>rfl⟩ S0 ?rest6k11
        case hy6k11 =>
         intro w' hSw
         obtain ⟨q0,q1,q2⟩:=hSw
         go_simp
         rfl
        simp only [Act.put,getElem_toArray,getElem_cons_succ,getElem_cons_zero,setIfInBounds_toArray,set_cons_zero,set_cons_succ]
        refine' takeT (i:=7) (v:=_) (noDefer_of (by kernel_rfl)) rfl (by kernel_rfl) (by kernel_rfl) (by kernel_rfl) (fun _ _ _ h=>h) (by kernel_rfl) ⟨Or.inl ⟨by rfl,?hy7k12⟩,fun _=>rfl⟩ S0 ?rest7k12
        case hy7k12 =>
         intro w' hSw
         obtain ⟨q0,q1,q2⟩:=hSw
         go_simp
         rfl
        simp only [Act.put,getElem_toArray,getElem_cons_succ,getElem_cons_zero,setIfInBounds_toArray,set_cons_zero,set_cons_succ]
        refine' takeT (i:=8) (v:=_) (noDefer_of (by kernel_rfl)) rfl (by kernel_rfl) (by kernel_rfl) (by kernel_rfl) (fun _ _ _ h=>h) (by kernel_rfl) ⟨Or.inl ⟨by rfl,?hy8k13⟩,fun _=>rfl⟩ S0 ?rest8k13
        case hy8k13 =>
         intro w' hSw
         obtain ⟨q0,q1,q2⟩:=hSw
         go_simp
         rfl
        simp only [Act.put,getElem_toArray,getElem_cons_succ,getElem_cons_zero,setIfInBounds_toArray,set_cons_zero,set_cons_succ]
        refine' takeT (i:=9) (v:=_) (noDefer_of (by kernel_rfl)) rfl (by kernel_rfl) (by kernel_rfl) (by kernel_rfl) (fun _ _ _ h=>h) (by kernel_rfl) ⟨Or.inl ⟨by rfl,?hy9k14⟩,fun _=>rfl⟩ S0 ?rest9k14
        case hy9k14 =>
         intro w' hSw
         obtain ⟨q0,q1,q2⟩:=hSw
         go_simp
         rfl
        simp only [Act.put,getElem_toArray,getElem_cons_succ,getElem_cons_zero,setIfInBounds_toArray,set_cons_zero,set_cons_succ]
        refine oneT (i:=10) (by kernel_rfl) rfl ?_
        intro K hK
        rw [if_pos (by rfl)]
        go_simp
        refine hK.out _ _ (fun _=>S5) ?_
        clear hK K
        (try simp only [Act.put,getElem_toArray,getElem_cons_succ,getElem_cons_zero,setIfInBounds_toArray,set_cons_zero,set_cons_succ])
        refine oneT (i:=11) (by kernel_rfl) rfl ?_
        intro K hK
        rw [if_pos (by rfl)]
        refine app_opIn (.tmp 36) (.tmp 46) 36 rfl v _ rfl rfl hr6 ?_
        refine hK.out _ _ (fun h=>absurd h (by decide)) ?_
        clear hK K
        (try simp only [Act.put,getElem_toArray,getElem_cons_succ,getElem_cons_zero,setIfInBounds_toArray,set_cons_zero,set_cons_succ])
        refine oneT (i:=12) (by kernel_rfl) rfl ?_
        intro K hK
        rw [if_pos (by rfl)]
        go_simp
        refine hK.out _ _ (fun h=>absurd h (by decide)) ?_
        clear hK K
        (try simp only [Act.put,getElem_toArray,getElem_cons_succ,getElem_cons_zero,setIfInBounds_toArray,set_cons_zero,set_cons_succ])
        refine doneT (by kernel_rfl) ?_ _
        refine OnlyN.intro ?_
        exact HF.out
      · have he2:(E2 == 0)=false:=beq_eq_false_iff_ne.2 e2
        have hbad:ptsOk l=none:=ptsOk_none (by rw [← HN.out];exact HX.out) (by rw [HAT.out,if_neg fun h=>e2 h.2])
        obtain ⟨k1,k2,k3,k4⟩:=HST.out X4 HBB.out
        have HF:=hide (HBAD.out X4 HBB.out hbad)
        clear hbad
        gi_wp2
        exact ⟨HF.out.1,rfl,HF.out.2⟩
    · have he1:(E1 == 0)=false:=beq_eq_false_iff_ne.2 e1
      have hbad:ptsOk l=none:=ptsOk_none (by rw [← HN.out];exact HX.out) (by rw [HAT.out,if_neg fun h=>e1 h.1])
      obtain ⟨k1,k2,k3,k4⟩:=HST.out X4 HBB.out
      have HF:=hide (HBAD.out X4 HBB.out hbad)
      clear hbad
      gi_wp2
      exact ⟨HF.out.1,rfl,HF.out.2⟩
  · obtain rfl:q=1:=by rw [HQ.out,if_neg hq1]
    have hbad:ptsOk l=none:=ptsOk_none (by rw [← HN.out];exact HX.out) (ptAtW_short (by rw [← HN.out];exact hq1))
    obtain ⟨k1,k2,k3,k4⟩:=HST.out X2 (Below.refl _ _)
    have HF:=hide (HBAD.out X2 (Below.refl _ _) hbad)
    clear hbad hq1
    gi_wp2
    exact ⟨HF.out.1,rfl,HF.out.2⟩
end
end
section
open Go.RowKit Go.Shelf
def ExOut (l:List (List UInt8)) (k:Int) (w:World) (e:Ending) (w':World):Prop :=
 Below w.heap.size w w'∧((∃ ps v,ptsOk l=some ps∧(ps.length:Int)=k∧e=.returned (.tuple #[v,.bool true])∧w'.ownsRow w.heap.size 41 2 v ps.length (ptCs ps))∨((∀ ps,ptsOk l=some ps→(ps.length:Int)≠k)∧∃ v,e=.returned (.tuple #[v,.bool false])))
theorem exactly_any (l:List (List UInt8)) (b off c:Nat) (hc:l.length≤c) (hl:∀ x∈l,x.length≤1000000) (hn:l.length≤1000000) (k:Int) (w:World) (hs:Sl w w.heap.size (some ⟨b,off,none⟩) (strCs l)) (hw:MW w) :
 Calls Tryz.prog 136 #[.slice (some ⟨b,off,none⟩) l.length c,.int .i64 k] w (ExOut l k w):=by
 have HP:=hide (points_any l b off c hc hl hn w hs hw)
 obtain ⟨n,hnn⟩:∃ n,n=l.length:=⟨_,rfl⟩
 rw [← hnn] at HP ⊢
 clear hc hn hs hw hnn hl
 go_enter Tryz.func136,Tryz.ntmps136
 go_wp2_with fail
 refine HP.out.mono ?_
 rintro e w' ⟨hb,⟨ps,v,h1,rfl,hown⟩ | ⟨h1,rfl⟩⟩
 · obtain ⟨VA,vc,rfl,hvc⟩:=own_slice hown
   by_cases hk:(ps.length:Int)=k
   · obtain ⟨m,hm⟩:∃ m,m=ps.length:=⟨_,rfl⟩
     have HO:=hide hown
     have HB:=hide hb
     have H1:=hide h1
     rw [← hm] at hk
     have HM:=hide hm
     rw [← hm]
     clear hown hb h1 hm hvc
     subst hk
     go_wp2
     go_ret2
     exact ⟨HB.out,.inl ⟨ps,_,H1.out,by rw [HM.out],rfl,by rw [HM.out];exact HO.out⟩⟩
   · obtain ⟨m,hm⟩:∃ m,m=ps.length:=⟨_,rfl⟩
     have HB:=hide hb
     have H1:=hide h1
     rw [← hm] at hk
     have HM:=hide hm
     rw [← hm]
     clear hown hb h1 hm hvc
     go_wp2
     go_ret2
     have hkb:((m:Int) == k)=false:=beq_eq_false_iff_ne.2 hk
     refine ⟨HB.out,.inr ⟨fun ps' h=>?_,_,by rw [← hkb];rfl⟩⟩
     rw [H1.out] at h
     cases h
     rw [← HM.out]
     exact hk
 · have HB:=hide hb
   have H1:=hide h1
   clear hb h1
   go_wp2
   go_ret2
   exact ⟨HB.out,.inr ⟨fun ps h=>(by rw [H1.out] at h;cases h),_,rfl⟩⟩
end
end Go.Proofs.YthnenedoblncjaaGreatDoor
