/- TraceOne TraceCol TapeFirst TraceJoin TraceRep TraceGen TraceReg -/
import Derived.Deep.AppendLies
import Derived.LoopIn
import Derived.LoopNIn
import Derived.OwnWalkIn
import Derived.Shelf.Abstract
import Derived.Shelf.RegionOpen
import Derived.TacticsInMore
import Derived.Test.YtfljlmleiggmjaaGreatDoorPkC16
set_option maxRecDepth 1000000
set_option maxHeartbeats 8000000
namespace Go.Proofs.YtfljlmleiggmjaaGreatDoor
section
open Go.RowKit Go.Shelf
attribute [local go_sem] Oper.semAt_some
def GaveSeq (Kp:Nat→Prop) (es:List Ev) (w:World) (e:Ending) (w':World):Prop :=
 ∃ fv K,e=.returned fv∧Below w.heap.size w w'∧(∀ k,K k→Kp k∨w.heap.size≤k∧k<w'.heap.size)∧EvSeq K fv es w'
theorem one1_at (K:Nat→Prop) (bk ba bb:Nat) (k a b:Int) (w:World) (h1:K bk) (h2:K ba) (h3:K bb) (B1:Blk w bk 3 #[.int .i64 k]) (B2:Blk w ba 3 #[.int .i64 a]) (B3:Blk w bb 3 #[.int .i64 b]) (hok:I64w k) :
 SeqAt Tryz.prog K 123 #[.pointer (some ⟨bk,0,none⟩),.pointer (some ⟨ba,0,none⟩),.pointer (some ⟨bb,0,none⟩)] [(k,a,b)] w:=by
 intro l J Jx R W hk hKR hRW hJ hJx hY h0
 have c1:=(B1.kept hk h1).cell (i:=0) rfl
 have c2:=(B2.kept hk h2).cell (i:=0) rfl
 have c3:=(B3.kept hk h3).cell (i:=0) rfl
 obtain ⟨fn,tmps,assign,body,hy,hR⟩:=hY 5 R [] (k,a,b) W hRW h0 (by simp) hok
 have HR:=hide hR
 unfold encEv at hy
 clear hR hY hJ hJx h0 hKR hRW hk B1 B2 B3
 refine (callsIn_wide (n:=6)).1 ?_
 refine callsIn_of_wp Tryz.func123 rfl trivial ?_ rfl
 simp only [Tryz.ntmps123,List.size_toArray,List.length_cons,List.length_nil,Nat.reduceAdd,Nat.reduceSub,Array.replicate_succ,Array.replicate_zero,List.push_toArray,List.append_toArray,List.nil_append,List.cons_append]
 gi_wp2_with fail
 refine HR.out.mono ?_
 rintro e W3 (⟨rfl,h1,-⟩ | ⟨rfl,h1,-⟩)
 · have H1:=hide h1
   clear h1 HR hy
   gi_wp2
   go_end0
   exact ⟨⟨_,rfl⟩,.inl ⟨_,rfl,H1.out⟩⟩
 · have H1:=hide h1
   clear h1 HR hy
   gi_wp2
   go_end0
   exact ⟨⟨_,rfl⟩,.inr H1.out⟩
theorem one_raw (k a b:Int) (w:World):Calls Tryz.prog 75 #[.int .i64 k,.int .i64 a,.int .i64 b] w fun e w' =>
 e=.returned (.func (.func 123) #[] #[.pointer (some ⟨w.heap.size,0,none⟩),.pointer (some ⟨w.heap.size+1,0,none⟩),.pointer (some ⟨w.heap.size+2,0,none⟩)]) ∧
 w'=((w.alloc (.cells #[.int .i64 k] 3)).alloc (.cells #[.int .i64 a] 3)).alloc (.cells #[.int .i64 b] 3):=by
 go_enter Tryz.func75,Tryz.ntmps75
 go_wp2
 go_ret
 exact ⟨rfl,rfl⟩
theorem one_any (k a b:Int) (w:World) (hok:I64w k):Calls Tryz.prog 75 #[.int .i64 k,.int .i64 a,.int .i64 b] w (GaveSeq (fun _=>False) [(k,a,b)] w):=by
 refine (one_raw k a b w).mono ?_
 rintro e w' ⟨rfl,rfl⟩
 refine ⟨_,fun j=>j=w.heap.size∨j=w.heap.size+1∨j=w.heap.size+2,rfl,bl_alloc (bl_alloc (bA) _) _,?_,_,_,rfl,enters_of Tryz.func123 (by kernel_rfl) rfl,?_⟩
 · intro j hj
   refine .inr ?_
   simp only [World.size_alloc]
   omega
 · refine one1_at _ _ _ _ k a b _ (.inl rfl) (.inr (.inl rfl)) (.inr (.inr rfl)) (((Blk.new _ _ _).alloc _).alloc _) ((Blk.new2 _ _ _ _).alloc _) ?_ hok
   have h:=Blk.new ((w.alloc (.cells #[.int .i64 k] 3)).alloc (.cells #[.int .i64 a] 3)) 3 #[.int .i64 b]
   simp only [World.size_alloc] at h
   exact h
end
section
open Go.RowKit Go.Shelf
attribute [local go_sem] Oper.semAt_some
theorem app_runIn {F:Fence} {n:Nat} {P:Program} {ops:Array Oper} {rest:List Oper} {o:Oper} {a:Act} {Q:Exit→Act→World→Prop} {w:World} (s x:Operand) (t:TypeId)
 (hg:o.guard=none) (hop:o.op=Op.call { callee:=Callee.builtin Builtin.append,args:=#[s,x],argTypes:=#[t,t] }) (v xv:Value) (hs:a.eval s=v) (hx:a.eval x=xv) {v':Value} {w':World}
 (hrun:(Builtin.append_ #[t,t] o.type #[v,xv]).run P w=.ok v' w') (h:wpListIn F n P ops Q rest (a.put o.dst v') w'):wpListIn F n P ops Q (o::rest) a w:=by
 refine wpListIn_plain hg fun K hK'=>?_
 unfold Oper.wpIn
 refine ⟨?_,?_⟩
 · simp [Oper.about,hop,resolve,Target.leads,Sem.run_pure]
 · rw [Oper.semAt_plain F _ _ (by rw [hop];intro c hc';cases hc')]
   simp [execOp,hop,resolve,invoke,builtin,hs,hx,hrun,Result.andThen]
   exact hK' _ _ h
structure ColAt (w:World) (Bs lo:Nat) (R:Nat→Prop) (es:List Ev) (X:World):Prop where
 box:∃ v,Blk X Bs 27 #[v]∧X.ownsRow (Bs+1) 66 3 v es.length (evCs es)∧∀ b,v.ownBlock=some b→¬ R b∧lo≤b
 nR:¬ R Bs
 bl:Below w.heap.size w X
theorem own_stirs {X Y:World} {base:Nat} {e:TypeId} {size:Nat} {v:Value} {k B:Nat} {xs:List Value} {R:Nat→Prop} (h:X.ownsRow base e size v k xs) (hst:Stirs B R X Y) (hn:∀ b,v.ownBlock=some b→¬ R b):Y.ownsRow base e size v k xs:=by
 refine ⟨h.1,?_⟩
 rcases h.2 with h0 | ⟨g',cap,cur,hv,hb1,hh,r⟩
 · exact .inl h0
 · exact .inr ⟨g',cap,cur,hv,hb1,(hst.block g' (Blk.lt hh) (.inr ⟨hn g' (by rw [hv];simp [Value.ownBlock]),_,hh,rfl⟩)).trans hh,r⟩
theorem col_rests (w:World) (Bs lo B:Nat) (h1:w.heap.size≤B) (h2:Bs<B):Rests B (ColAt w Bs lo):=by
 rintro R R' es X Y ⟨⟨v,hb,hown,hv⟩,hn,hbl⟩ hst hR
 have hnR:∀ k,k<X.heap.size→¬ R k→¬ R' k:=fun k hk hr h=>by
  rcases (hR k h).1 with h | h
  · exact hr h
  · omega
 refine ⟨⟨v,(hst.block Bs hb.lt (.inl h2)).trans hb,own_stirs hown hst fun b e=>(hv b e).1,fun b e=>⟨hnR b (own_lt' hown e) (hv b e).1,(hv b e).2⟩⟩,hnR Bs hb.lt hn,⟨hst.os.trans hbl.os,hst.tape.trans hbl.tape,hst.output.trans hbl.output,Nat.le_trans hbl.size hst.size,fun k hk=>(hst.block k (Nat.lt_of_lt_of_le hk hbl.size) (.inl (by omega))).trans (hbl.block k hk)⟩⟩
theorem appendSeq_any (K:Nat→Prop) (fv:Value) (es:List Ev) (w:World) (hK:∀ k,K k→k<w.heap.size) (hev:EvSeq K fv es w) (hlen:es.length≤2000000) :
 Calls Tryz.prog 68 #[.slice none 0 0,fv] w fun e w'=>∃ v,e=.returned v∧w'.ownsRow w.heap.size 66 3 v es.length (evCs es)∧Below w.heap.size w w':=by
 obtain ⟨gf,lb,rfl,heg,hseq⟩:=hev
 obtain ⟨Bs,hBs⟩:∃ Bs,Bs=w.heap.size:=⟨_,rfl⟩
 obtain ⟨w1,hw1⟩:∃ w1,w1=w.alloc (.cells #[.slice none 0 0] 27):=⟨_,rfl⟩
 have hb1:Below w.heap.size w w1:=by rw [hw1];exact bA
 have hz1:w1.heap.size=Bs+1:=by rw [hw1,hBs];simp
 have N1:Blk w1 Bs 27 #[.slice none 0 0]:=by rw [hw1,hBs];exact Blk.new _ _ _
 have HSEQ:Hid (SeqAt Tryz.prog K gf lb es w1):=hide fun l J Jx R W hW=>hseq l J Jx R W ((KeepP.of_below hb1 hK).trans hW)
 have HEG:=hide heg
 have HC0:Hid (ColAt w Bs (w1.heap.size+2) K [] w1):=hide ⟨⟨_,N1,World.ownsRow_nil _ _ _ _,fun b h=>(by cases h)⟩,fun h=>by have:=hK _ h;omega,hb1⟩
 have HK:=hide (fun k (h:K k)=>Nat.lt_of_lt_of_le (hK k h) hb1.size)
 have HZ1:=hide hz1
 have HBS:=hide hBs
 clear hseq heg hb1 hz1 N1 hK
 refine (callsIn_wide (n:=6)).1 ?_
 refine callsIn_of_wp_marks Tryz.func68 rfl trivial ?_ rfl
 simp only [Tryz.ntmps68,List.size_toArray,List.length_cons,List.length_nil,Nat.reduceAdd,Nat.reduceSub,Array.replicate_succ,Array.replicate_zero,List.push_toArray,List.append_toArray,List.nil_append,List.cons_append]
 gi_wp2
 rw [← hw1,← hBs]
 have HW1:=hide hw1
 clear hw1 hBs
 refine wpIn_range_seq (K:=K) rfl HEG.out HSEQ.out HK.out (fun _=>rfl) (ColAt w Bs (w1.heap.size+2)) (fun _ _ _=>False) ?h1 ?h2 HC0.out ?round ?done ?stop
 case h1=>exact col_rests w Bs _ _ (by have:=HZ1.out;have:=HBS.out;omega) (by have:=HZ1.out;omega)
 case h2=>exact fun _ _ _ _ _ _ h _ _=>h
 case stop=>exact fun _ _ h=>h.elim
 case done =>
  rintro ys X rfl ⟨⟨v,hb,hown,hv⟩,-,hbl⟩ hD -
  have c0:=hb.cell (i:=0) rfl
  have hown':X.ownsRow w.heap.size 66 3 v ys.length (evCs ys):=by
   refine ⟨hown.1,?_⟩
   rcases hown.2 with h0 | ⟨g',cap,cur,h1,h2,r⟩
   · exact .inl h0
   · exact .inr ⟨g',cap,cur,h1,by have:=HBS.out;omega,r⟩
  have hne:v.ownBlock=none∨v.ownBlock≠some w1.heap.size:=by
   cases h:v.ownBlock with
   | none=>exact .inl rfl
   | some b=>refine .inr fun e=>?_;cases e;have:=(hv _ h).2;omega
  have HOW:=hide hown'
  have HNE:=hide hne
  have HBL:=hide hbl
  have HD:=hide hD
  clear hb hown hv hbl hown' hne hD
  gi_wp2
  refine ⟨by simp,.inl ⟨_,_,rfl,run_takeDeferred HD.out,?_⟩⟩
  refine ⟨_,results_tmp rfl _ _ _,_,rfl,HOW.out.kept (grownBy_putObj' _ _ _) HNE.out,?_⟩
  exact HBL.out.grown (grownBy_putObj' _ _ _) HBL.out.size (fun k e=>by cases e;have:=HZ1.out;have:=HBS.out;omega)
 case round =>
  rintro R pre x X hR hnl hs1 ⟨rec,hrec⟩ ⟨⟨v,hb,hown,hv⟩,hnB,hbl⟩ hpre -
  obtain ⟨i0,hi,hz0,hz1,hz2⟩:=info_parts ev_info
  obtain ⟨k,a,b⟩:=x
  have hzz:w1.heap.size≤Bs+1∧Bs+1≤w1.heap.size:=by have:=HZ1.out;omega
  have hbs:Bs≤w.heap.size∧w.heap.size≤Bs:=by have:=HBS.out;omega
  obtain ⟨X1,hX1⟩:∃ X1,X1=X.alloc (.cells #[.int .i64 k,.int .i64 a,.int .i64 b] 66):=⟨_,rfl⟩
  have hbX:Below X.heap.size X X1:=by rw [hX1];exact bA
  have hzX:X1.heap.size=X.heap.size+1:=by rw [hX1];simp
  have hE:Blk X1 X.heap.size 66 #[.int .i64 k,.int .i64 a,.int .i64 b]:=by rw [hX1];exact Blk.new _ _ _
  have hb1:=hb.step hbX
  have hown1:=own_step hown hbX
  have hbl1:=bl_step hbl hbX
  have hlt:=hb.lt
  unfold encEv
  dsimp only
  gi_wp2
  rw [← hX1]
  refine ⟨KeepP.of_below hbX (fun k hk=>?_),fun o=>?_⟩
  · rcases hk with hk | hk | hk
    · exact hR k hk
    · omega
    · omega
  obtain ⟨X2,hX2⟩:∃ X2,X2=X1.putObj (w1.heap.size+1) (.loop o):=⟨_,rfl⟩
  have hl1:X1.heap[w1.heap.size+1]?=some (.loop rec):=(hbX.block _ hs1).trans hrec
  have hgp:X1.grownBy X2 (some (w1.heap.size+1)):=by rw [hX2];exact grownBy_putObj' _ _ _
  have hvn:v.ownBlock≠some (w1.heap.size+1):=fun e=>by have:=(hv _ e).2;omega
  have hb2:Blk X2 Bs 27 #[v]:=by rw [hX2];exact (World.putObj_heap_other (by omega)).trans hb1
  have hE2:Blk X2 X.heap.size 66 #[.int .i64 k,.int .i64 a,.int .i64 b]:=by rw [hX2];exact (World.putObj_heap_other (by omega)).trans hE
  have hown2:=hown1.kept hgp (.inr hvn)
  have hbl2:Below w.heap.size w X2:=hbl1.grown hgp hbl1.size (fun j e=>by cases e;omega)
  have hz2':X2.heap.size=X.heap.size+1:=by rw [hX2,← hzX];simp
  rw [← hX2]
  obtain ⟨X3,hX3⟩:∃ X3,X3=X2.alloc (.cells #[.int .i64 k,.int .i64 a,.int .i64 b] 66):=⟨_,rfl⟩
  have hb23:Below X2.heap.size X2 X3:=by rw [hX3];exact bA
  have hz3:X3.heap.size=X2.heap.size+1:=by rw [hX3];simp
  have N3:Blk X3 X2.heap.size 66 #[.int .i64 k,.int .i64 a,.int .i64 b]:=by rw [hX3];exact Blk.new _ _ _
  have hown3:=own_step hown2 hb23
  have hb3:=hb2.step hb23
  have hbl3:=bl_step hbl2 hb23
  obtain ⟨g4,c4,X4,hr4,hown4,hg4,hloc4,hlt4⟩:=run_append_lies (P:=Tryz.prog) X3 27 27 (Bs+1) 66 i0 (.agg #[.int .i64 0,.int .i64 0,.int .i64 0]) 3 24 Tryz.underlying27 hi hz0 hz1 hz2 rfl (by decide) v pre.length (evCs pre) hown3 ⟨X2.heap.size,0,none⟩ 1 1 [.int .i64 k,.int .i64 a,.int .i64 b] rfl (blk_cells N3) (by simp [Value.oneCell']) (by omega) (by unfold maxLen;omega) (by omega) (by omega) _ rfl
  have hvB:v.ownBlock≠some Bs:=fun e=>by have:=own_base hown3 e;omega
  have hb4:Blk X4 Bs 27 #[v]:=hb3.grown hg4 (Ne.symm hvB)
  have hsz4:=hg4.size
  have hgv:∀ j,v.ownBlock=some j→¬ R j∧w1.heap.size+2≤j:=hv
  have hg4n:¬ R g4∧w1.heap.size+2≤g4:=by
   rcases hloc4 with h | h
   · exact hv g4 h
   · refine ⟨fun hr=>?_,?_⟩
     · have:=hR g4 hr;omega
     · omega
  have hg4B:g4≠Bs:=by omega
  obtain ⟨X5,hX5⟩:∃ X5,X5=X4.setCell ⟨Bs,0,none⟩ (.slice (some ⟨g4,0,none⟩) (pre.length+1) c4):=⟨_,rfl⟩
  have hb5:Blk X5 Bs 27 #[.slice (some ⟨g4,0,none⟩) (pre.length+1) c4]:=by rw [hX5];exact hb4.set 0 _
  have hown5:X5.ownsRow (Bs+1) 66 3 (.slice (some ⟨g4,0,none⟩) (pre.length+1) c4) (pre++[(k,a,b)]).length (evCs (pre++[(k,a,b)])):=by
   have e:(pre++[(k,a,b)]).length=pre.length+1:=by simp
   rw [evCs_snoc,e,hX5]
   exact own_set hown4 (by simpa [Value.ownBlock] using hg4B) _
  have hbl5:Below w.heap.size w X5:=by
   rw [hX5]
   exact (hbl3.grown hg4 hbl3.size (fun j e=>by have:=(hv j e).2;omega)).grown (grownBy_setCell' _ _ _) (by have:=hbl3.size;omega) (fun j e=>by cases e;omega)
  have HF:Hid (KeepP (Bk R w1.heap.size) X2 X5∧ColAt w Bs (w1.heap.size+2) R (pre++[(k,a,b)]) X5):=hide ⟨by
   rw [hX5]
   refine ((KeepP.of_below hb23 fun j hj=>?_).trans ⟨hg4.os,hg4.tape,hg4.output,hg4.size,fun j hj=>hg4.block j ?_ ?_⟩).trans (KeepP.setCell ?_ _ _ _)
   · rcases hj with hj | hj | hj
     · have:=hR j hj;omega
     · omega
     · omega
   · rcases hj with hj | hj | hj
     · have:=hR j hj;omega
     · omega
     · omega
   · intro e
     obtain ⟨h1,h2⟩:=hv j e.symm
     rcases hj with hj | hj | hj
     · exact h1 hj
     · omega
     · omega
   · rintro (hj | hj | hj)
     · exact hnB hj
     · omega
     · omega,
   ⟨⟨_,hb5,hown5,fun j e=>by
     have:g4=j:=by have:some g4=some j:=e;exact Option.some.inj this
     subst this
     exact hg4n⟩,hnB,hbl5⟩⟩
  have c0:=hb2.cell (i:=0) rfl
  have e0:=hE2.cell (i:=0) rfl
  have e1:=hE2.cell (i:=1) rfl
  have e2:=hE2.cell (i:=2) rfl
  have c4':=hb4.cell (i:=0) rfl
  have f4:=hb4.frozen 0
  rw [hX3] at hr4
  clear hb hown hv hnB hbl hpre hi hz0 hz1 hz2 hX1 hbX hzX hE hb1 hown1 hbl1 hlt hl1 hgp hvn hb2 hE2 hown2 hbl2 hX2 hX3 hb23 hz3 N3 hown3 hb3 hbl3 hown4 hg4 hloc4 hlt4 hvB hb4 hsz4 hgv hg4n hb5 hown5 hbl5 hrec hnl hs1 hR hzz hbs hz2' i0
  gi_wp2_with (gi_at_builtin;refine app_runIn (.tmp 8) (.tmp 10) 27 rfl rfl _ _ rfl rfl hr4 ?_)
  rw [← hX5]
  exact HF.out
end
section
open Go.RowKit Go.Maps
theorem tfirst_any (P Q:Nat→Prop) (g m g' m':Nat) (es:List Ev) (w:World) (ht:TpIn w P g m es) (hu:TpIn w Q g' m' es) (hn:es.length≤1000000) :
 Calls Tryz.prog 44 #[.pointer (some ⟨g,0,none⟩),.pointer (some ⟨g',0,none⟩)] w fun e w'=>e=.returned (.int .i64 (-1))∧Below w.heap.size w w':=by
 have H:=hide (all_any P g m es w ht)
 have H2:=hide (fun k=>all_any Q g' m' es (w.drewN k) (hu.step (bl_drewN (Below.refl _ _) k)))
 clear ht hu
 go_enter Tryz.func44,Tryz.ntmps44
 go_wp2_with fail
 refine H.out.mono ?_
 rintro e w1 ⟨⟨v,rfl,A,rfl,hs⟩,k,rfl⟩
 have HS:=hide hs
 clear hs
 go_wp2_with fail
 refine (H2.out k).mono ?_
 rintro e w2 ⟨⟨v,rfl,A',rfl,hs'⟩,k',rfl⟩
 have HS:=hide (show Sl w w.heap.size A (evCs es) from HS.out)
 have HS':=hide (show Sl w w.heap.size A' (evCs es) from hs')
 have hb0:Below w.heap.size w ((w.drewN k).drewN k'):=bl_drewN (bl_drewN (Below.refl _ _) k) k'
 obtain ⟨w0,hw0⟩:∃ w0,w0=(w.drewN k).drewN k':=⟨_,rfl⟩
 rw [← hw0] at hb0 ⊢
 clear hs' H H2 hw0
 have hmin:min (es.length:Int) (es.length:Int)=(es.length:Int):=by omega
 go_wp2
 try rw [hmin]
 go_loopw [19] (fun i wr=>∃ k:Nat,k≤es.length∧i=.int .i64 k∧Below w.heap.size w wr)
  (fun i _=>es.length - (intOf i).toNat)
 case atStart=>exact ⟨0,by omega,rfl,hb0⟩
 case round =>
  obtain ⟨k,hk,rfl,hbr⟩:=hrel
  by_cases hlt:k<es.length
  · obtain ⟨r,hr⟩:∃ r,es[k]?=some r:=⟨_,List.getElem?_eq_getElem hlt⟩
    obtain ⟨b,off,rfl,hb,q0,q1,q2⟩:=(HS.out.below hbr).ev hr
    obtain ⟨b',off',rfl,hb',p0,p1,p2⟩:=(HS'.out.below hbr).ev hr
    have hk0:(0:Int)≤(k:Int):=by omega
    have hkl:(k:Int)<(es.length:Int):=by omega
    clear hr
    go_wp2
    go_quiet (fail)
    go_wp2
    go_roundw
    case rel=>exact ⟨k+1,by omega,by go_num,below_drewN hbr _⟩
    case measure=>simp [intOf];omega
  · have hk':k=es.length:=by omega
    subst hk'
    go_wp2
    go_ret
    exact ⟨rfl,hbr⟩
def Aw (R:Nat→Prop) (s g m:Nat) (k:Nat):Prop:=R k∨k<s+2∧k≠g∧k≠m
structure NoteAt (w:World) (g m:Nat) (R:Nat→Prop) (es:List Ev) (X:World):Prop where
 tp:TpIn X (Aw R w.heap.size g m) g m es
 keep:KeepP (fun k=>k<w.heap.size∧k≠g∧k≠m) w X
theorem note_rests (w:World) (g m:Nat) (hg:g<w.heap.size) (hm:m<w.heap.size):Rests w.heap.size (NoteAt w g m):=by
 rintro R R' es X Y ⟨⟨v,n,D,h1,h2,h3,h4,h5,h6,h7,h8⟩,hk⟩ hst hR
 have hzX:=hk.size
 have key:∀ k,k<X.heap.size→¬ Aw R w.heap.size g m k→¬ Aw R' w.heap.size g m k:=fun k hkl hn h=>by
  rcases h with h | h
  · rcases (hR k h).1 with h | h
    · exact hn (.inl h)
    · omega
  · exact hn (.inr h)
 refine ⟨⟨v,n,D,(hst.block g h1.lt (.inl hg)).trans h1,key g h1.lt h2,key m h8.lt h3,own_stirs h4 hst fun b e hr=>(h6 b e).1 (.inl hr),h5,fun k e=>⟨key k (own_lt' h4 e) (h6 k e).1,(h6 k e).2⟩,h7,?_⟩,⟨hst.os.trans hk.os,hst.tape.trans hk.tape,hst.output.trans hk.output,Nat.le_trans hk.size hst.size,fun k h=>(hst.block k (Nat.lt_of_lt_of_le h.1 hk.size) (.inl h.1)).trans (hk.block k h)⟩⟩
 obtain ⟨es',clock,hb,F,hs,hD⟩:=h8
 exact ⟨es',clock,(hst.block m (Array.getElem?_eq_some_iff.1 hb).1 (.inl hm)).trans hb,F,hs,hD⟩
end
section
open Go.RowKit Go.Shelf
attribute [local go_sem] Oper.semAt_some
def JnR (Rr R:Nat→Prop) (s:Nat) (X:World) (k:Nat):Prop:=R k∨Rr k∨(k=s∨k=s+1)∧k<X.heap.size
def JnI (J:(Nat→Prop)→List Ev→World→Prop) (Rr:Nat→Prop) (pre0:List Ev) (wc:World) (R:Nat→Prop) (pre:List Ev) (X:World):Prop:=J (JnR Rr R wc.heap.size X) (pre0++pre) X∧KeepP Rr wc X
theorem jn_rests {α:Type} {J:(Nat→Prop)→List Ev→World→Prop} {Rr:Nat→Prop} {B:Nat} {wc:World} (f:List α→List Ev) (hJ:Rests B J) (hB:B≤wc.heap.size) (hRr:∀ k,Rr k→k<wc.heap.size) :
 Rests wc.heap.size (fun R pre X=>J (JnR Rr R wc.heap.size X) (f pre) X∧KeepP Rr wc X):=by
 rintro R R' s X Y ⟨hj,hk⟩ hst hR
 have hXY:=hst.size
 have hwX:=hk.size
 refine ⟨hJ _ _ _ X Y hj ⟨hst.os,hst.tape,hst.output,hst.size,fun k hkl hc=>hst.block k hkl ?_⟩ ?_,hk.trans ⟨hst.os,hst.tape,hst.output,hst.size,fun k hk=>?_⟩⟩
 · rcases hc with hc | ⟨hn,hc⟩
   · exact .inl (by omega)
   · exact .inr ⟨fun h=>hn (.inl h),hc⟩
 · rintro k (h | h | ⟨h,h2⟩)
   · obtain ⟨h1,h2⟩:=hR k h
     refine ⟨?_,h2⟩
     rcases h1 with h1 | h1
     · exact .inl (.inl h1)
     · exact .inr h1
   · exact ⟨.inl (.inr (.inl h)),by have:=hRr k h;omega⟩
   · refine ⟨?_,h2⟩
     by_cases hx:k<X.heap.size
     · exact .inl (.inr (.inr ⟨h,hx⟩))
     · exact .inr (by omega)
 · have:=hRr k hk
   exact hst.block k (by omega) (.inl this)
structure JnAt (J:(Nat→Prop)→List Ev→World→Prop) (R:Nat→Prop) (Y:Nat) (W0:World) (lo:Nat) (L:List (Value × List Ev)) (i:Nat) (ds:List Deferred) (Rr:Nat→Prop) (X:World):Prop where
 marks:Marks lo ds X
 dsR:∀ r,{ target:=.collected r,args:=#[] }∈ds→Rr r
 sub:∀ k,R k→Rr k
 hY:Rr Y
 lt:∀ k,Rr k→k<X.heap.size
 j:J Rr ((L.take i).flatMap (·.2)) X
 keep:KeepP (fun k=>R k∨k=Y) W0 X
theorem join1_at (K:Nat→Prop) (Bx:Nat) (A:Option Addr) (c:Nat) (L:List (Value × List Ev)) (w:World) (hBx:K Bx) (hB:Blk w Bx 168 #[.slice A L.length c]) (hs:SlP w K A (L.map (·.1))) (hL:∀ p∈L,EvSeq K p.1 p.2 w) (hlen:L.length≤1000000) :
 SeqAt Tryz.prog K 118 #[.pointer (some ⟨Bx,0,none⟩)] (L.flatMap (·.2)) w:=by
 intro l J Jx R W hk hKR hRW hJ hJx hY h0
 obtain ⟨Y,hYs⟩:∃ Y,Y=W.heap.size:=⟨_,rfl⟩
 obtain ⟨W0,hW0⟩:∃ W0,W0=W.alloc (.cells #[.func (.yield l) #[] #[]] 169):=⟨_,rfl⟩
 have hb0:Below W.heap.size W W0:=by rw [hW0];exact bA
 have hz0:W0.heap.size=Y+1:=by rw [hW0,hYs];simp
 have BY:Blk W0 Y 169 #[.func (.yield l) #[] #[]]:=by rw [hW0,hYs];exact Blk.new _ _ _
 have hkw0:KeepP K w W0:=hk.trans (KeepP.of_below hb0 fun k h=>hRW k (hKR k h))
 have cB:=(hB.kept hkw0 hBx).cell (i:=0) rfl
 have HS:=hide (hs.kept hkw0)
 have HL:=hide (fun p (hp:p∈L)=>(hL p hp).kept hkw0)
 have HAT:JnAt J R Y W0 Y L 0 [] (fun k=>R k∨k=Y) W0:=⟨trivial,fun r h=>(by cases h),fun k h=>.inl h,.inr rfl,fun k h=>(by rcases h with h | h;exact Nat.lt_of_lt_of_le (hRW k h) hb0.size;omega),hJ R _ [] W W0 h0 (Stirs.of_below hb0 _ _) (fun k h=>(by rcases h with h | h;exact ⟨.inl h,Nat.lt_of_lt_of_le (hRW k h) hb0.size⟩;exact ⟨.inr (by omega),by omega⟩)),KeepP.refl _ _⟩
 have HATh:=hide HAT
 have HJ:=hide (hYs ▸ hJ:Rests Y J);have HJX:=hide (hYs ▸ hJx:Rests Y (fun R _ W=>Jx R W));have HY:=hide hY;have HKR:=hide hKR;have HRY:Hid (∀ k,R k→k<Y):=hide (fun k h=>hYs ▸ hRW k h)
 have HZ0:=hide hz0
 clear HAT hk hKR hRW hJ hJx hY h0 hb0 hz0 hkw0 hB hs hL
 refine (callsIn_wide (n:=6)).1 ?_
 refine callsIn_of_wp_marks Tryz.func118 rfl trivial ?_ rfl
 simp only [Tryz.ntmps118,List.size_toArray,List.length_cons,List.length_nil,Nat.reduceAdd,Nat.reduceSub,Array.replicate_succ,Array.replicate_zero,List.push_toArray,List.append_toArray,List.nil_append,List.cons_append]
 rw [hW0] at cB
 gi_wp2
 rw [← hW0,← hYs]
 have HW0:=hide hW0
 clear hW0 cB hYs
 refine wpIn_loop (fun a' w'=>∃ (i:Nat) (u3 u4 u5 u9 u10 u11 u12 u13 u14 u15 u16 u17 u18:Value) (ds:List Deferred) (Rr:Nat→Prop),i≤L.length∧Hid (JnAt J R Y W0 Y L i ds Rr w') ∧
  a'={ tmps:=#[.func (.yield l) #[] #[],.pointer (some ⟨Bx,0,none⟩),.pointer (some ⟨Y,0,none⟩),u3,u4,u5,.slice A L.length c,.int .i64 (L.length:Int),.int .i64 (i:Int),u9,u10,u11,u12,u13,u14,u15,u16,u17,u18],defers:=ds })
  (fun a' _=>L.length - (intOf (a'.tmps.getD 8 undef)).toNat) ?_ ?_
 · exact ⟨0,_,_,_,_,_,_,_,_,_,_,_,_,_,[],_,Nat.zero_le _,HATh,rfl⟩
 · rintro a' wr ⟨i,u3,u4,u5,u9,u10,u11,u12,u13,u14,u15,u16,u17,u18,ds,Rr,hi,HA,rfl⟩
   by_cases hlt:i<L.length
   · have hlti:(i:Int)<(L.length:Int):=by omega
     obtain ⟨p,hp⟩:∃ p,L[i]?=some p:=⟨_,List.getElem?_eq_getElem hlt⟩
     have hmem:=List.mem_of_getElem? hp
     have hkr:KeepP K W0 wr:=HA.out.keep.mono fun k h=>.inl (HKR.out k h)
     obtain ⟨gf,lb,hfv,heg,hseq⟩:=(HL.out p hmem).kept hkr
     have hsl:=(HS.out.kept hkr)
     have hget:(L.map (·.1))[i]?=some p.1:=by rw [List.getElem?_map,hp];rfl
     rcases hsl with hsl | ⟨b,off,hA,hKb,hc⟩
     · rw [hsl] at hget;simp at hget
     subst hA
     have ci:=hc i p.1 hget
     rw [hfv] at ci
     have HNX:Hid ((L.take (i+1)).flatMap (·.2)=(L.take i).flatMap (·.2)++p.2):=hide (by rw [List.take_add_one,hp];simp)
     have HPRE:Hid (((L.take (i+1)).flatMap (·.2)).length≤(L.flatMap (·.2)).length):=hide (List.IsPrefix.length_le ⟨(L.drop (i+1)).flatMap (·.2),by rw [← List.flatMap_append,List.take_append_drop]⟩)
     have HSEQ:=hide hseq
     have HEG:=hide heg
     obtain ⟨es,hes⟩:∃ es,es=p.2:=⟨_,rfl⟩
     rw [← hes] at HSEQ HNX
     obtain ⟨pre0,hpre0⟩:∃ pre0,pre0=(L.take i).flatMap (·.2):=⟨_,rfl⟩
     have HP0:=hide hpre0
     rw [← hpre0] at HNX
     have HKRR:Hid (∀ k,K k→Rr k):=hide fun k h=>HA.out.sub k (HKR.out k h)
     clear hget hc hseq heg hfv hmem hp hkr hes hpre0
     gi_wp2
     refine wpIn_range_seq (K:=K) rfl HEG.out HSEQ.out (fun k h=>HA.out.lt k (HKRR.out k h)) (fun _=>rfl) (JnI J Rr pre0 wr) (fun c R' X=>c=.ret∧Jx (JnR Rr R' wr.heap.size X) X∧KeepP Rr wr X) ?h1 ?h2 ?h3 ?round ?done ?stop
     case h1=>exact jn_rests (fun pre=>pre0++pre) HJ.out (by have:=HA.out.keep.size;have:=HZ0.out;omega) HA.out.lt
     case h2 =>
      intro c R1 R2 s X Z ⟨hc,h1,h2⟩ hst hR
      obtain ⟨h3,h4⟩:=jn_rests (fun pre:List Ev=>pre) HJX.out (by have:=HA.out.keep.size;have:=HZ0.out;omega) HA.out.lt R1 R2 s X Z ⟨h1,h2⟩ hst hR
      exact ⟨hc,h3,h4⟩
     case h3 =>
      refine ⟨HJ.out Rr _ _ wr wr ?_ (Stirs.refl _ _ _) fun k hk=>?_,KeepP.refl _ _⟩
      · rw [List.append_nil,HP0.out];exact HA.out.j
      · rcases hk with hk | hk | ⟨hk,hk2⟩
        · exact ⟨.inl (HKRR.out k hk),HA.out.lt k (HKRR.out k hk)⟩
        · exact ⟨.inl hk,HA.out.lt k hk⟩
        · omega
     case round =>
      rintro R' pre x X hR' hnl hs1 ⟨rec,hrec⟩ ⟨hj,hkk⟩ hpre hok
      have hYX:Blk X Y 169 #[.func (.yield l) #[] #[]]:=(BY.kept HA.out.keep (.inr rfl)).kept hkk HA.out.hY
      have hYlt:=hYX.lt
      have hYs:Y<wr.heap.size:=HA.out.lt Y HA.out.hY
      obtain ⟨X1,hX1⟩:∃ X1,X1=X.alloc (.cells #[.int .i64 x.1,.int .i64 x.2.1,.int .i64 x.2.2] 66):=⟨_,rfl⟩
      have hbX:Below X.heap.size X X1:=by rw [hX1];exact bA
      have hzX:X1.heap.size=X.heap.size+1:=by rw [hX1];simp
      have hE:Blk X1 X.heap.size 66 #[.int .i64 x.1,.int .i64 x.2.1,.int .i64 x.2.2]:=by rw [hX1];exact Blk.new _ _ _
      have hl1:X1.heap[wr.heap.size+1]?=some (.loop rec):=(hbX.block _ hs1).trans hrec
      have hY1:=hYX.step hbX
      unfold encEv
      gi_wp2
      rw [← hX1]
      refine ⟨KeepP.of_below hbX (fun k hk=>?_),fun o=>?_⟩
      · rcases hk with hk | hk | hk
        · exact hR' k hk
        · omega
        · omega
      have hst:Stirs Y (JnR Rr R' wr.heap.size X) X (X1.putObj (wr.heap.size+1) (.loop o)):=(Stirs.of_below hbX _ _).trans (Stirs.put (by omega) hl1 rfl (JnR Rr R' wr.heap.size X) _) (fun j h=>.inl h)
      have hR3:∀ k,(JnR Rr R' wr.heap.size X k∨k=X.heap.size)→k<X1.heap.size:=fun k hk=>by
       have:=hkk.size
       rcases hk with (hk | hk | ⟨_,hk⟩) | hk
       · have:=hR' k hk;omega
       · have:=HA.out.lt k hk;omega
       · omega
       · omega
      have hjy:=HJ.out _ (fun k=>JnR Rr R' wr.heap.size X k∨k=X.heap.size) _ X (X1.putObj (wr.heap.size+1) (.loop o)) hj hst (fun k hk=>⟨by rcases hk with hk | hk;exact .inl hk;exact .inr (by omega),by have:=hR3 k hk;simpa using this⟩)
      have hpr2:(pre0++pre).length<(L.flatMap (·.2)).length:=by
       have:=HPRE.out
       rw [HNX.out,List.length_append] at this
       rw [List.length_append];omega
      obtain ⟨fn,tmps,assign,body,hy,hRo⟩:=HY.out 1 _ _ x (X1.putObj (wr.heap.size+1) (.loop o)) (fun k hk=>by have:=hR3 k hk;simpa using this) hjy hpr2 hok
      have yb:Blk (X1.putObj (wr.heap.size+1) (.loop o)) Y 169 #[.func (.yield l) #[] #[]]:=(World.putObj_heap_other (by omega)).trans hY1
      have eb:Blk (X1.putObj (wr.heap.size+1) (.loop o)) X.heap.size 66 #[.int .i64 x.1,.int .i64 x.2.1,.int .i64 x.2.2]:=(World.putObj_heap_other (by omega)).trans hE
      have y0:=yb.cell (i:=0) rfl
      have e0:=eb.cell (i:=0) rfl
      have e1:=eb.cell (i:=1) rfl
      have e2:=eb.cell (i:=2) rfl
      have HKX:Hid (KeepP Rr wr (X1.putObj (wr.heap.size+1) (.loop o))):=hide ((hkk.trans (KeepP.of_below hbX fun k hk=>Nat.lt_of_lt_of_le (HA.out.lt k hk) hkk.size)).trans (KeepP.putObj _ (fun h=>by have:=HA.out.lt _ h;omega) _))
      have HR3:Hid (∀ k,(JnR Rr R' wr.heap.size X k∨k=X.heap.size)→k<X.heap.size+1):=hide fun k hk=>by have:=hR3 k hk;omega
      have HS1:=hide hs1
      obtain ⟨X2,hX2⟩:∃ X2,X2=X1.putObj (wr.heap.size+1) (.loop o):=⟨_,rfl⟩
      rw [← hX2] at hy hRo y0 e0 e1 e2 HKX ⊢
      have hz2:X2.heap.size=X.heap.size+1:=by rw [hX2,← hzX];simp
      have HZ2:=hide hz2
      have HRO:=hide hRo
      have HRB:=hide hR'
      unfold encEv at hy
      clear hRo hjy hpr2 hst hR3 hj hkk hpre hYX hYlt hYs hX1 hbX hzX hE hl1 hY1 hrec hnl hs1 yb eb hX2 hz2 ci hR'
      gi_wp2_with fail
      refine (RoundIn.inRound' _ HRO.out).mono ?_
      rintro e X3 (⟨rfl,h1,h2⟩ | ⟨rfl,h1,h2⟩)
      · have H1:=hide h1;have H2:=hide h2
        clear h1 h2 HRO hy y0 e0 e1 e2
        gi_wp2
        have hz:=H2.out.size
        refine ⟨H2.out.mono fun k hk=>?_,HJ.out (fun k=>JnR Rr R' wr.heap.size X k∨k=X.heap.size) _ _ X3 X3 ?_ (Stirs.refl _ _ _) fun k hk=>?_,HKX.out.trans (H2.out.mono fun k hk=>.inl (.inr (.inl hk)))⟩
        · rcases hk with hk | hk | hk
          · exact .inl (.inl hk)
          · exact .inl (.inr (.inr ⟨.inl hk,by have:=HS1.out;omega⟩))
          · exact .inl (.inr (.inr ⟨.inr hk,by have:=HS1.out;omega⟩))
        · rw [← List.append_assoc];exact H1.out
        · have hzz:=HZ2.out
          rcases hk with hk | hk | ⟨hk,hk2⟩
          · exact ⟨.inl (.inl (.inl hk)),by have:=HRB.out k hk;omega⟩
          · exact ⟨.inl (.inl (.inr (.inl hk))),by have:=HR3.out k (.inl (.inr (.inl hk)));omega⟩
          · exact ⟨.inl (.inl (.inr (.inr ⟨hk,by have:=HS1.out;omega⟩))),hk2⟩
      · have H1:=hide h1;have H2:=hide h2
        clear h1 h2 HRO hy y0 e0 e1 e2
        gi_wp2
        have hz:=H2.out.size
        refine ⟨H2.out.mono fun k hk=>?_,rfl,HJX.out _ _ [] X3 X3 H1.out (Stirs.refl _ _ _) fun k hk=>?_,HKX.out.trans (H2.out.mono fun k hk=>.inl (.inr (.inl hk)))⟩
        · rcases hk with hk | hk | hk
          · exact .inl (.inl hk)
          · exact .inl (.inr (.inr ⟨.inl hk,by have:=HS1.out;omega⟩))
          · exact .inl (.inr (.inr ⟨.inr hk,by have:=HS1.out;omega⟩))
        · have hzz:=HZ2.out
          rcases hk with hk | hk | ⟨hk,hk2⟩
          · exact ⟨.inl (.inl (.inl hk)),by have:=HRB.out k hk;omega⟩
          · exact ⟨.inl (.inl (.inr (.inl hk))),by have:=HR3.out k (.inl (.inr (.inl hk)));omega⟩
          · exact ⟨.inl (.inl (.inr (.inr ⟨hk,by have:=HS1.out;omega⟩))),hk2⟩
     case done =>
      rintro ys X rfl ⟨hj,hkk⟩ hD hsl
      have hmk:∀ r,{ target:=.collected r,args:=#[] }∈ds→r<wr.heap.size:=fun r h=>(Array.getElem?_eq_some_iff.1 (HA.out.marks.lt r h).2).1
      have hz:=hkk.size
      have HAN:Hid (JnAt J R Y W0 Y L (i+1) ({ target:=.collected wr.heap.size,args:=#[] }::ds) (fun k=>Rr k∨k=wr.heap.size) X):=hide
       ⟨⟨wr.heap.size,rfl,by have:=HA.out.keep.size;have:=HZ0.out;omega,hD,hmk,HA.out.marks.keep fun r h=>hkk.block r (HA.out.dsR r h)⟩,
        fun r h=>by
         rcases List.mem_cons.1 h with h | h
         · injection h with h _;injection h with h;exact .inr h
         · exact .inl (HA.out.dsR r h),
        fun k h=>.inl (HA.out.sub k h),.inl HA.out.hY,
        fun k h=>by
         rcases h with h | h
         · have:=HA.out.lt k h;omega
         · omega,
        by
         rw [HNX.out]
         refine HJ.out _ _ _ X X hj (Stirs.refl _ _ _) fun k hk=>?_
         rcases hk with hk | hk
         · exact ⟨.inl (.inr (.inl hk)),by have:=HA.out.lt k hk;omega⟩
         · exact ⟨.inl (.inr (.inr ⟨.inl hk,by omega⟩)),by omega⟩,
        HA.out.keep.trans (hkk.mono fun k h=>by
         rcases h with h | h
         · exact HA.out.sub k h
         · rw [h];exact HA.out.hY)⟩
      clear hj hkk hD hsl hmk hz
      gi_wp2
      refine ⟨⟨i+1,_,_,_,_,_,_,_,_,_,_,_,_,_,_,_,by omega,HAN,rfl⟩,?_⟩
      simp [intOf];omega
     case stop =>
      rintro c X ⟨rfl,hjx,hkk⟩ hD hsl
      have hmk:∀ r,{ target:=.collected r,args:=#[] }∈ds→r<wr.heap.size:=fun r h=>(Array.getElem?_eq_some_iff.1 (HA.out.marks.lt r h).2).1
      have hz:=hkk.size
      have HM:Hid (Marks Y ({ target:=.collected wr.heap.size,args:=#[] }::ds) X):=hide ⟨wr.heap.size,rfl,by have:=HA.out.keep.size;have:=HZ0.out;omega,hD,hmk,HA.out.marks.keep fun r h=>hkk.block r (HA.out.dsR r h)⟩
      have hRx:∀ k,R k→k<X.heap.size:=fun k h=>by have:=HA.out.lt k (HA.out.sub k h);omega
      have HC:Hid (Jx R X∧∀ k,R k→k<X.heap.size):=hide ⟨HJX.out _ R [] X X hjx (Stirs.refl _ _ _) fun k hk=>⟨.inl (.inr (.inl (HA.out.sub k hk))),hRx k hk⟩,hRx⟩
      clear hjx hkk hD hsl hmk hz hRx
      gi_wp2
      refine leaves_marks (lo:=Y) (C:=fun X=>Jx R X∧∀ k,R k→k<X.heap.size) ?_ _ X HM.out HC.out ?_
      · rintro X r ⟨h1,h2⟩ hr hl
        exact ⟨HJX.out R R [] X _ h1 (Stirs.put hr hl rfl R _) fun k hk=>⟨.inl hk,by have:=h2 k hk;simpa using this⟩,fun k hk=>by have:=h2 k hk;simpa using this⟩
      · rintro X ⟨h1,_⟩
        exact ⟨_,results_none rfl _ _ _,⟨_,rfl⟩,.inr h1⟩
   · obtain rfl:i=L.length:=by omega
     have hRx:∀ k,R k→k<wr.heap.size:=fun k h=>HA.out.lt k (HA.out.sub k h)
     have HC:Hid (J R (L.flatMap (·.2)) wr∧∀ k,R k→k<wr.heap.size):=hide ⟨by
      have h:=HJ.out _ R _ wr wr HA.out.j (Stirs.refl _ _ _) fun k hk=>⟨.inl (HA.out.sub k hk),hRx k hk⟩
      rwa [List.take_length] at h,hRx⟩
     have HM:=hide HA.out.marks
     clear hRx
     gi_wp2
     refine leaves_marks (lo:=Y) (C:=fun X=>J R (L.flatMap (·.2)) X∧∀ k,R k→k<X.heap.size) ?_ _ wr HM.out HC.out ?_
     · rintro X r ⟨h1,h2⟩ hr hl
       exact ⟨HJ.out R R _ X _ h1 (Stirs.put hr hl rfl R _) fun k hk=>⟨.inl hk,by have:=h2 k hk;simpa using this⟩,fun k hk=>by have:=h2 k hk;simpa using this⟩
     · rintro X ⟨h1,_⟩
       exact ⟨_,results_none rfl _ _ _,⟨_,rfl⟩,.inl ⟨_,rfl,h1⟩⟩
theorem join_raw (A:Option Addr) (n c:Nat) (w:World):Calls Tryz.prog 69 #[.slice A n c] w fun e w' =>
 e=.returned (.func (.func 118) #[] #[.pointer (some ⟨w.heap.size,0,none⟩)])∧w'=w.alloc (.cells #[.slice A n c] 168):=by
 go_enter Tryz.func69,Tryz.ntmps69
 go_wp2
 go_ret
 exact ⟨rfl,rfl⟩
theorem join_any (K:Nat→Prop) (A:Option Addr) (c n:Nat) (L:List (Value × List Ev)) (es:List Ev) (w:World) (hK:∀ k,K k→k<w.heap.size) (hn:L.length=n) (he:L.flatMap (·.2)=es) (hs:SlP w K A (L.map (·.1))) (hL:∀ p∈L,EvSeq K p.1 p.2 w) (hlen:n≤1000000) :
 Calls Tryz.prog 69 #[.slice A n c] w (GaveSeq K es w):=by
 subst hn he
 refine (join_raw A L.length c w).mono ?_
 rintro e w' ⟨rfl,rfl⟩
 have hb:=bl_alloc (Below.refl w.heap.size w) (.cells #[.slice A L.length c] 168)
 have hk:=KeepP.of_below hb hK
 refine ⟨_,fun k=>K k∨k=w.heap.size,rfl,hb,?_,_,_,rfl,enters_of Tryz.func118 (by kernel_rfl) rfl,?_⟩
 · rintro k (h | h)
   · exact .inl h
   · exact .inr ⟨by omega,by simp only [World.size_alloc];omega⟩
 · exact join1_at _ w.heap.size A c L _ (.inr rfl) (Blk.new _ _ _) ((hs.kept hk).mono fun k h=>.inl h) (fun p hp=>((hL p hp).kept hk).mono fun k h=>.inl h) hlen
theorem GaveSeq.mono {K K':Nat→Prop} {es:List Ev} {w w':World} {e:Ending} (h:GaveSeq K es w e w') (hK:∀ k,K k→K' k):GaveSeq K' es w e w':=by
 obtain ⟨fv,R,h1,h2,h3,h4⟩:=h
 exact ⟨fv,R,h1,h2,fun k hk=>(h3 k hk).imp (hK k) id,h4⟩
end
section
open Go.RowKit Go.Shelf
theorem app_run {P:Program} {ops:Array Oper} {rest:List Oper} {o:Oper} {a:Act} {Q:Exit→Act→World→Prop} {w:World} (s x:Operand) (t:TypeId)
 (hop:o.op=Op.call { callee:=Callee.builtin Builtin.append,args:=#[s,x],argTypes:=#[t,t] }) (hw:Region.wanted o (yielded ops a.tmps)=true) (v xv:Value) (hs:a.eval s=v) (hx:a.eval x=xv) {v':Value} {w':World}
 (hrun:(Builtin.append_ #[t,t] o.type #[v,xv]).run P w=.ok v' w') (h:wpList P ops Q rest (a.put o.dst v') w'):wpList P ops Q (o::rest) a w:=by
 unfold wpList
 rw [if_pos hw]
 left
 unfold Oper.wp
 simp [execOp,hop,resolve,invoke,builtin,hs,hx,hrun,Result.andThen]
 exact h
theorem seq_info:(Tryz.prog.info? 68).map (fun i=>(i.zero,i.size,i.bytes))=some (some Value.nilFunc,1,8):=by kernel_rfl
theorem evSeq_one {K:Nat→Prop} {fv:Value} {es:List Ev} {w:World} (h:EvSeq K fv es w):fv.oneCell'=true:=by
 obtain ⟨gf,lb,rfl,_⟩:=h;rfl
structure RpAt (w:World) (Kp:Nat→Prop) (f:Nat→List Ev) (k:Nat) (v:Value) (L:List (Value × List Ev)) (P:Nat→Prop) (X:World):Prop where
 len:L.length=k
 es:L.flatMap (·.2)=(List.range k).flatMap f
 own:X.ownsRow w.heap.size 68 1 v k (L.map (·.1))
 p:∀ j,P j→(Kp j∨w.heap.size≤j)∧j<X.heap.size∧v.ownBlock≠some j
 seq:∀ q∈L,EvSeq P q.1 q.2 X
 bl:Below w.heap.size w X
theorem keepP_grown {P:Nat→Prop} {w w':World} {row:Option Nat} (hg:w.grownBy w' row) (hP:∀ k,P k→k<w.heap.size∧row≠some k):KeepP P w w' :=
 ⟨hg.os,hg.tape,hg.output,hg.size,fun k hk=>hg.block k (hP k hk).1 (fun e=>(hP k hk).2 e.symm)⟩
theorem rp_step {w:World} {Kp:Nat→Prop} {f:Nat→List Ev} {k:Nat} {v:Value} {L:List (Value × List Ev)} {P:Nat→Prop} {X:World} (hKp:∀ j,Kp j→j<w.heap.size) (h:RpAt w Kp f k v L P X) {e:Ending} {w1:World} (hg:GaveSeq Kp (f k) X e w1) (hk:k≤1000000) :
 ∃ g2 lb2,e=.returned (.func (.func g2) #[] lb2)∧∃ v3 w3,(Builtin.append_ #[168,168] 168 #[v,.slice (some ⟨w1.heap.size,0,none⟩) 1 1]).run Tryz.prog (w1.alloc (.cells #[.func (.func g2) #[] lb2] 68))=.ok v3 w3∧∃ L3 P3,RpAt w Kp f (k+1) v3 L3 P3 w3:=by
 obtain ⟨i0,hi,hz0,hz1,hz2⟩:=info_parts seq_info
 obtain ⟨hlen,hes,hown,hp,hseq,hbl⟩:=h
 obtain ⟨fv,K,he,hb1,hK,hev⟩:=hg
 obtain ⟨g2,lb2,hfv⟩:∃ g2 lb2,fv=.func (.func g2) #[] lb2:=by obtain ⟨g2,lb2,h,_⟩:=hev;exact ⟨g2,lb2,h⟩
 subst hfv
 have hb2:=bl_alloc (Below.refl w1.heap.size w1) (.cells #[.func (.func g2) #[] lb2] 68)
 have hb12:=bl_step hb1 hb2
 have N2:=Blk.new w1 68 #[.func (.func g2) #[] lb2]
 have hown2:=own_step hown hb12
 have hbw:=bl_step hbl hb12
 obtain ⟨g3,c3,w3,hr3,hown3,hgrow3,hloc3,hlt3⟩:=run_append_lies (P:=Tryz.prog) (w1.alloc (.cells #[.func (.func g2) #[] lb2] 68)) 168 168 w.heap.size 68 i0 Value.nilFunc 1 8 Tryz.underlying168 hi hz0 hz1 hz2 rfl (by decide) v k (L.map (·.1)) hown2 ⟨w1.heap.size,0,none⟩ 1 1 [.func (.func g2) #[] lb2] rfl (blk_cells N2) (by intro u hu;simp at hu;subst hu;exact evSeq_one hev) (by omega) (by unfold maxLen;omega) (by omega) hbw.size _ rfl
 have hs1:=hb1.size
 have hs2:(w1.alloc (.cells #[.func (.func g2) #[] lb2] 68)).heap.size=w1.heap.size+1:=by simp
 have hs3:=hgrow3.size
 have hob:∀ j,v.ownBlock=some j→w.heap.size≤j∧j<X.heap.size:=fun j hj=>⟨own_base hown hj,own_lt' hown hj⟩
 have hKn:∀ j,K j→(Kp j∨w.heap.size≤j)∧j<w1.heap.size∧v.ownBlock≠some j:=fun j hj=>by
  have hw:=hbl.size
  rcases hK j hj with h | ⟨h,h2⟩
  · have:=hKp j h
    exact ⟨.inl h,by omega,fun e=>by have:=(hob j e).1;omega⟩
  · exact ⟨.inr (by omega),h2,fun e=>by have:=(hob j e).2;omega⟩
 refine ⟨g2,lb2,he,_,w3,hr3,L++[(.func (.func g2) #[] lb2,f k)],fun j=>P j∨K j,⟨by simp [hlen],?_,?_,?_,?_,?_⟩⟩
 · rw [List.flatMap_append,hes,List.range_succ,List.flatMap_append];simp
 · rw [List.map_append];exact hown3
 · rintro j (hj | hj)
   · obtain ⟨h1,h2,h3⟩:=hp j hj
     refine ⟨h1,by omega,fun e=>?_⟩
     have e:g3=j:=by have:some g3=some j:=e;exact Option.some.inj this
     rcases hloc3 with h | h
     · exact h3 (by rw [h,e])
     · omega
   · obtain ⟨h1,h2,h3⟩:=hKn j hj
     refine ⟨h1,by omega,fun e=>?_⟩
     have e:g3=j:=by have:some g3=some j:=e;exact Option.some.inj this
     rcases hloc3 with h | h
     · exact h3 (by rw [h,e])
     · omega
 · intro q hq
   rcases List.mem_append.1 hq with hq | hq
   · have hk1:KeepP P X w3:=(KeepP.of_below hb12 fun j hj=>(hp j hj).2.1).trans (keepP_grown hgrow3 fun j hj=>⟨by have:=(hp j hj).2.1;omega,(hp j hj).2.2⟩)
     exact ((hseq q hq).kept hk1).mono fun j hj=>.inl hj
   · rw [List.mem_singleton] at hq
     subst hq
     have hk1:KeepP K w1 w3:=(KeepP.of_below hb2 fun j hj=>(hKn j hj).2.1).trans (keepP_grown hgrow3 fun j hj=>⟨by have:=(hKn j hj).2.1;omega,(hKn j hj).2.2⟩)
     exact (hev.kept hk1).mono fun j hj=>.inr hj
 · exact hbw.grown hgrow3 hbw.size (fun j hj=>own_base hown2 hj)
theorem repeat_any (Kp:Nat→Prop) (f:Nat→List Ev) (n:Nat) (gf:Nat) (lb:Array Value) (w:World) (hKp:∀ j,Kp j→j<w.heap.size) (hn:n≤100000) (heg:∀ args w,(callFunc gf args).run Tryz.prog w=.ok (.enter gf args) w)
 (hpart:∀ i,i<n→∀ W,KeepP Kp w W→Calls Tryz.prog gf (#[.int .i64 (i:Int)]++lb) W (GaveSeq Kp (f i) W)) :
 Calls Tryz.prog 73 #[.int .i64 (n:Int),.func (.func gf) #[] lb] w (GaveSeq Kp ((List.range n).flatMap f) w):=by
 have HP:=hide hpart
 have HKP:=hide hKp
 clear hpart hKp
 go_enter Tryz.func73,Tryz.ntmps73
 go_wp2
 go_loopw [5,8] (fun v i wr=>∃ (k:Nat) (L:List (Value × List Ev)) (P:Nat→Prop),k≤n∧i=.int .i64 (k:Int)∧Hid (RpAt w Kp f k v L P wr))
  (fun _ i _=>n - (intOf i).toNat)
 case atStart=>exact ⟨0,[],fun _=>False,Nat.zero_le _,rfl,hide ⟨rfl,rfl,World.ownsRow_nil _ _ _ _,fun j h=>h.elim,fun q h=>(by cases h),Below.refl _ _⟩⟩
 case round =>
  obtain ⟨k,L,P,hk,rfl,HR⟩:=hrel
  by_cases hkn:k<n
  · have hki:(k:Int)<(n:Int):=by omega
    have hc:=HP.out k hkn wr (KeepP.of_below HR.out.bl HKP.out)
    go_wp2_with fail
    refine hc.mono ?_
    intro e w1 hg
    obtain ⟨g2,lb2,rfl,v3,w3,hrun,L3,P3,HN⟩:=rp_step HKP.out HR.out hg (by omega)
    have HN:=hide HN
    clear hg hc
    go_wp2_with (at_builtin;refine app_run (.tmp 11) (.tmp 15) 168 rfl rfl _ _ rfl rfl hrun ?_)
    go_wp2
    go_roundw
    case rel=>exact ⟨k+1,L3,P3,by omega,by go_num,HN⟩
    case measure=>simp [intOf];omega
  · obtain rfl:k=n:=by omega
    have hki:¬ (k:Int)<(k:Int):=by omega
    obtain ⟨hlen,hes,hown,hp,hseq,hbl⟩:=HR.out
    obtain ⟨A,c,rfl,_⟩:=own_slice hown
    have hsl:=Sl.of_own hown
    have hK:∀ j,(P j∨(Value.slice A k c).ownBlock=some j)→j<wr.heap.size:=fun j hj=>by
     rcases hj with hj | hj
     · exact (hp j hj).2.1
     · exact own_lt' hown hj
    have hslp:SlP wr (fun j=>P j∨(Value.slice A k c).ownBlock=some j) A (L.map (·.1)):=by
     rcases hsl with h | ⟨b,off,hA,hb,hc⟩
     · exact .inl h
     · refine .inr ⟨b,off,hA,.inr ?_,hc⟩
       subst hA
       by_cases h0:off=0
       · subst h0;rfl
       · exfalso
         obtain ⟨hl,h2⟩:=hown
         rcases h2 with ⟨h3,_⟩ | ⟨g,cap,cur,hv,_⟩
         · cases h3
         · injection hv with h4;injection h4 with h4;injection h4 with _ h4;exact h0 h4
    have J0:=hide (join_any _ A c k L _ wr hK hlen hes hslp (fun q hq=>(hseq q hq).mono fun j hj=>.inl hj) (by omega))
    have HBL:=hide hbl
    have HPP:Hid (∀ j,(P j∨(Value.slice A k c).ownBlock=some j)→Kp j∨w.heap.size≤j∧j<wr.heap.size):=hide fun j hj=>by
     rcases hj with hj | hj
     · obtain ⟨h1,h2,_⟩:=hp j hj
       rcases h1 with h1 | h1
       · exact .inl h1
       · exact .inr ⟨h1,h2⟩
     · exact .inr ⟨own_base hown hj,own_lt' hown hj⟩
    clear hlen hes hown hp hseq hbl hsl hK hslp HR
    go_wp2_with fail
    refine J0.out.mono ?_
    rintro e w2 ⟨fv,K,rfl,hb2,hK2,hev⟩
    have HB2:=hide (bl_step HBL.out hb2)
    have HEV:=hide hev
    have HK2:Hid (∀ j,K j→Kp j∨w.heap.size≤j∧j<w2.heap.size):=hide fun j hj=>by
     have h1:=HBL.out.size
     have h2:=hb2.size
     rcases hK2 j hj with h | ⟨h,h3⟩
     · rcases HPP.out j h with h | ⟨h,h3⟩
       · exact .inl h
       · exact .inr ⟨h,by omega⟩
     · exact .inr ⟨by omega,h3⟩
    clear hb2 hK2 hev J0
    go_wp2
    go_ret
    exact ⟨fv,K,rfl,HB2.out,HK2.out,HEV.out⟩
end
section
open Go.RowKit Go.Shelf
def sV (n i j:Nat):List Ev:=if j=i∨j=(i+1) % n then [] else [(4,(i:Int),(j:Int))]
theorem GaveSeq.back {Kp Kp':Nat→Prop} {es:List Ev} {w w1 w':World} {e:Ending} (h:GaveSeq Kp' es w1 e w') (hb:Below w.heap.size w w1) (hK:∀ k,Kp' k→Kp k∨w.heap.size≤k∧k<w1.heap.size):GaveSeq Kp es w e w':=by
 obtain ⟨fv,K,h1,h2,h3,h4⟩:=h
 have hs:=hb.size
 have hs2:=h2.size
 refine ⟨fv,K,h1,bl_step hb h2,fun k hk=>?_,h4⟩
 rcases h3 k hk with h | ⟨h,h5⟩
 · rcases hK k h with h | ⟨h,h5⟩
   · exact .inl h
   · exact .inr ⟨h,by omega⟩
 · exact .inr ⟨by omega,h5⟩
theorem join_none (w:World):Calls Tryz.prog 69 #[.slice none 0 0] w (GaveSeq (fun _=>False) [] w) :=
 join_any (fun _=>False) none 0 0 [] [] w (fun _ h=>h.elim) rfl rfl (.inl rfl) (fun p h=>by cases h) (by decide)
theorem join2b {Kp K1 K2:Nat→Prop} {g1 g2:Nat} {l1 l2:Array Value} {es1 es2:List Ev} {w0 w1 w2:World} (hKp:∀ k,Kp k→k<w0.heap.size) (hb1:Below w0.heap.size w0 w1) (h1:∀ k,K1 k→Kp k∨w0.heap.size≤k∧k<w1.heap.size) (e1:EvSeq K1 (.func (.func g1) #[] l1) es1 w1)
 (hb2:Below w1.heap.size w1 w2) (h2:∀ k,K2 k→Kp k∨w0.heap.size≤k∧k<w2.heap.size) (e2:EvSeq K2 (.func (.func g2) #[] l2) es2 w2) :
 Calls Tryz.prog 69 #[.slice (some ⟨w2.heap.size,0,none⟩) 2 2] (w2.alloc (.cells #[.func (.func g1) #[] l1,.func (.func g2) #[] l2] 68)) (fun e w'=>GaveSeq Kp (es1++es2) w0 e w'∧Below (w2.alloc (.cells #[.func (.func g1) #[] l1,.func (.func g2) #[] l2] 68)).heap.size (w2.alloc (.cells #[.func (.func g1) #[] l1,.func (.func g2) #[] l2] 68)) w'):=by
 have hb3:=bl_alloc (Below.refl w2.heap.size w2) (.cells #[.func (.func g1) #[] l1,.func (.func g2) #[] l2] 68)
 have N3:=Blk.new w2 68 #[.func (.func g1) #[] l1,.func (.func g2) #[] l2]
 have z1:=hb1.size
 have z2:=hb2.size
 have z3:(w2.alloc (.cells #[.func (.func g1) #[] l1,.func (.func g2) #[] l2] 68)).heap.size=w2.heap.size+1:=by simp
 have k1:∀ k,K1 k→k<w1.heap.size:=fun k hk=>by
  rcases h1 k hk with h | h
  · have:=hKp k h;omega
  · omega
 have k2:∀ k,K2 k→k<w2.heap.size:=fun k hk=>by
  rcases h2 k hk with h | h
  · have:=hKp k h;omega
  · omega
 refine (join_any (fun k=>K1 k∨K2 k∨k=w2.heap.size) (some ⟨w2.heap.size,0,none⟩) 2 2 [(.func (.func g1) #[] l1,es1),(.func (.func g2) #[] l2,es2)] (es1++es2) _ ?_ rfl (by simp) ?_ ?_ (by decide)).mono fun e w' h=>⟨h.back (bl_step (bl_step hb1 hb2) hb3) ?_,by obtain ⟨_,_,_,h,_⟩:=h;exact h⟩
 · rintro k (h | h | h)
   · have:=k1 k h;omega
   · have:=k2 k h;omega
   · omega
 · exact .inr ⟨w2.heap.size,0,rfl,.inr (.inr rfl),fun j u hu=>by rw [Nat.zero_add];exact N3.cell (by simpa using hu)⟩
 · intro p hp
   rcases List.mem_cons.1 hp with rfl | hp
   · exact (e1.kept (KeepP.of_below (bl_step hb2 hb3) k1)).mono fun k h=>.inl h
   · rw [List.mem_singleton] at hp
     subst hp
     exact (e2.kept (KeepP.of_below hb3 k2)).mono fun k h=>.inr (.inl h)
 · rintro k (h | h | h)
   · rcases h1 k h with h | h
     · exact .inl h
     · exact .inr (by omega)
   · rcases h2 k h with h | h
     · exact .inl h
     · exact .inr (by omega)
   · exact .inr (by omega)
theorem join2 {Kp K1 K2:Nat→Prop} {g1 g2:Nat} {l1 l2:Array Value} {es1 es2:List Ev} {w0 w1 w2:World} (hKp:∀ k,Kp k→k<w0.heap.size) (hb1:Below w0.heap.size w0 w1) (h1:∀ k,K1 k→Kp k∨w0.heap.size≤k∧k<w1.heap.size) (e1:EvSeq K1 (.func (.func g1) #[] l1) es1 w1)
 (hb2:Below w1.heap.size w1 w2) (h2:∀ k,K2 k→Kp k∨w0.heap.size≤k∧k<w2.heap.size) (e2:EvSeq K2 (.func (.func g2) #[] l2) es2 w2) :
 Calls Tryz.prog 69 #[.slice (some ⟨w2.heap.size,0,none⟩) 2 2] (w2.alloc (.cells #[.func (.func g1) #[] l1,.func (.func g2) #[] l2] 68)) (GaveSeq Kp (es1++es2) w0) :=
 (join2b hKp hb1 h1 e1 hb2 h2 e2).mono fun _ _ h=>h.1
theorem valid11 (n i j bi b0:Nat) (W:World) (hn:3≤n) (hn2:n≤10000) (hi:i<n) (_hj:j<n) (B1:Blk W bi 3 #[.int .i64 (i:Int)]) (B0:Blk W b0 3 #[.int .i64 (n:Int)]) :
 Calls Tryz.prog 120 #[.int .i64 (j:Int),.pointer (some ⟨bi,0,none⟩),.pointer (some ⟨b0,0,none⟩)] W (GaveSeq (fun _=>False) (sV n i j) W):=by
 have c1:=B1.cell (i:=0) rfl
 have c0:=B0.cell (i:=0) rfl
 have HJ:=hide (fun w=>join_none w)
 have HO:=hide (fun w=>one_any 4 (i:Int) (j:Int) w (by unfold I64w;omega))
 have hm:((i:Int)+1) % (n:Int)=(((i+1) % n:Nat):Int):=rfl
 have hml:(i+1) % n<n:=Nat.mod_lt _ (by omega)
 unfold sV
 obtain ⟨nx,hnx⟩:∃ nx,nx=(i+1) % n:=⟨_,rfl⟩
 rw [← hnx] at hm hml ⊢
 have hn0:¬ (n:Int)=0:=by omega
 clear hnx
 by_cases h1:j=i
 · rw [if_pos (.inl h1)]
   have g1:(j:Int)=(i:Int):=by omega
   clear h1 HO
   go_enter Tryz.func120,Tryz.ntmps120
   go_wp2_with fail
   refine (HJ.out _).mono ?_
   rintro e w' ⟨fv,K,rfl,h⟩
   have H:=hide h
   clear h
   go_wp2
   go_ret
   exact ⟨fv,K,rfl,H.out⟩
 · have g1:¬ (j:Int)=(i:Int):=by omega
   by_cases h2:j=nx
   · rw [if_pos (.inr h2)]
     have g2:(j:Int)=(nx:Int):=by omega
     clear h1 h2 HO
     go_enter Tryz.func120,Tryz.ntmps120
     go_wp2_with fail
     refine (HJ.out _).mono ?_
     rintro e w' ⟨fv,K,rfl,h⟩
     have H:=hide h
     clear h
     go_wp2
     go_ret
     exact ⟨fv,K,rfl,H.out⟩
   · rw [if_neg (by omega)]
     have g2:¬ (j:Int)=(nx:Int):=by omega
     have e1:((j:Int) == (i:Int))=false:=by simpa using g1
     have e2:((j:Int) == (nx:Int))=false:=by simpa using g2
     clear h1 h2 HJ
     go_enter Tryz.func120,Tryz.ntmps120
     go_wp2_with fail
     refine (HO.out _).mono ?_
     rintro e w' ⟨fv,K,rfl,h⟩
     have H:=hide h
     clear h
     go_wp2
     go_ret
     exact ⟨fv,K,rfl,H.out⟩
theorem valid1 (n i b0:Nat) (W:World) (hn:3≤n) (hn2:n≤10000) (hi:i<n) (B0:Blk W b0 3 #[.int .i64 (n:Int)]) :
 Calls Tryz.prog 119 #[.int .i64 (i:Int),.pointer (some ⟨b0,0,none⟩)] W (GaveSeq (fun k=>k=b0) ((List.range n).flatMap (sV n i)) W):=by
 have hlt:=B0.lt
 obtain ⟨W1,hW1⟩:∃ W1,W1=W.alloc (.cells #[.int .i64 (i:Int)] 3):=⟨_,rfl⟩
 have hb:Below W.heap.size W W1:=by rw [hW1];exact bA
 have hz:W1.heap.size=W.heap.size+1:=by rw [hW1];simp
 have B1:Blk W1 W.heap.size 3 #[.int .i64 (i:Int)]:=by rw [hW1];exact Blk.new _ _ _
 have B01:=B0.step hb
 have c0:=B01.cell (i:=0) rfl
 have R:=repeat_any (fun k=>k=W.heap.size∨k=b0) (sV n i) n 120 #[.pointer (some ⟨W.heap.size,0,none⟩),.pointer (some ⟨b0,0,none⟩)] W1 (fun k hk=>by omega) (by omega) (enters_of Tryz.func120 (by kernel_rfl) rfl)
  (fun j hj X hX=>(valid11 n i j W.heap.size b0 X hn hn2 hi hj (B1.kept hX (.inl rfl)) (B01.kept hX (.inr rfl))).mono fun e w' h=>h.mono fun k hk=>hk.elim)
 have HR:=hide R
 have HB:=hide hb
 have HZ:=hide hz
 clear R B1 B01 B0 hb hz
 rw [hW1] at c0 HR
 go_enter Tryz.func119,Tryz.ntmps119
 go_wp2_with fail
 refine HR.out.mono ?_
 rw [← hW1]
 intro e w' h
 obtain ⟨fv,K,rfl,h2⟩:=GaveSeq.back (Kp:=fun k=>k=b0) h HB.out (fun k hk=>by have:=HZ.out;omega)
 have H:=hide h2
 clear h2
 go_wp2
 go_ret
 exact ⟨fv,K,rfl,H.out⟩
theorem tvalid_any (n:Nat) (w:World) (hn:3≤n) (hn2:n≤10000):Calls Tryz.prog 70 #[.int .i64 (n:Int)] w (GaveSeq (fun _=>False) ((List.range n).flatMap fun i=>(List.range n).flatMap (sV n i)) w):=by
 obtain ⟨W1,hW1⟩:∃ W1,W1=w.alloc (.cells #[.int .i64 (n:Int)] 3):=⟨_,rfl⟩
 have hb:Below w.heap.size w W1:=by rw [hW1];exact bA
 have hz:W1.heap.size=w.heap.size+1:=by rw [hW1];simp
 have B0:Blk W1 w.heap.size 3 #[.int .i64 (n:Int)]:=by rw [hW1];exact Blk.new _ _ _
 have c0:=B0.cell (i:=0) rfl
 have R:=repeat_any (fun k=>k=w.heap.size) (fun i=>(List.range n).flatMap (sV n i)) n 119 #[.pointer (some ⟨w.heap.size,0,none⟩)] W1 (fun k hk=>by omega) (by omega) (enters_of Tryz.func119 (by kernel_rfl) rfl)
  (fun i hi X hX=>valid1 n i w.heap.size X hn hn2 hi (B0.kept hX rfl))
 have HR:=hide R
 have HB:=hide hb
 have HZ:=hide hz
 clear R B0 hb hz
 rw [hW1] at c0 HR
 go_enter Tryz.func70,Tryz.ntmps70
 go_wp2_with fail
 refine HR.out.mono ?_
 rw [← hW1]
 intro e w' h
 obtain ⟨fv,K,rfl,h2⟩:=GaveSeq.back (Kp:=fun _=>False) h HB.out (fun k hk=>by have:=HZ.out;omega)
 have H:=hide h2
 clear h2
 go_wp2
 go_ret
 exact ⟨fv,K,rfl,H.out⟩
theorem locate1 (i:Nat) (W:World):Calls Tryz.prog 121 #[.int .i64 (i:Int)] W (GaveSeq (fun _=>False) [(5,(i:Int),0)] W):=by
 have HO:=hide (one_any 5 (i:Int) 0 W (by unfold I64w;omega))
 go_enter Tryz.func121,Tryz.ntmps121
 go_wp2_with fail
 refine HO.out.mono ?_
 rintro e w' ⟨fv,K,rfl,h⟩
 have H:=hide h
 clear h
 go_wp2
 go_ret
 exact ⟨fv,K,rfl,H.out⟩
theorem tlocate_any (n:Nat) (w:World) (hn2:n≤10000):Calls Tryz.prog 71 #[.int .i64 (n:Int)] w (GaveSeq (fun _=>False) ((List.range n).flatMap fun (i:Nat)=>[(5,(i:Int),0)]) w):=by
 have HR:=hide (repeat_any (fun _=>False) (fun (i:Nat)=>[(5,(i:Int),0)]) n 121 #[] w (fun k hk=>hk.elim) (by omega) (enters_of Tryz.func121 (by kernel_rfl) rfl) (fun i _ X _=>locate1 i X))
 go_enter Tryz.func71,Tryz.ntmps71
 go_wp2_with fail
 refine HR.out.mono ?_
 rintro e w' ⟨fv,K,rfl,h⟩
 have H:=hide h
 clear h
 go_wp2
 go_ret
 exact ⟨fv,K,rfl,H.out⟩
end
section
open Go.RowKit Go.Shelf
def vAt (rs:List Rg) (j:Nat):Int:=(rs[j]?.map (·.v)).getD 0
theorem vAt_get {rs:List Rg} {j:Nat} {r:Rg} (h:rs[j]?=some r):vAt rs j=r.v:=by unfold vAt;rw [h];rfl
theorem vAt_ok {rs:List Rg} (h:∀ r∈rs,r.v=0∨3≤r.v∧r.v≤64) (j:Nat):vAt rs j=0∨3≤vAt rs j∧vAt rs j≤64:=by
 unfold vAt
 cases hj:rs[j]? with
 | none=>exact .inl rfl
 | some r=>exact h r (List.mem_of_getElem? hj)
def rE (loc:Bool) (v:Int):List Ev:=if v=0 then (bif loc then [(6,0,0)] else [(4,0,2)]) else (bif loc then ((List.range v.toNat).flatMap fun (i:Nat)=>[(5,(i:Int),0)]) else ((List.range v.toNat).flatMap fun i=>(List.range v.toNat).flatMap (sV v.toNat i)))
def rgE (loc:Bool) (rs:List Rg) (i:Nat):List Ev:=(7,(i:Int),bif loc then 1 else 0)::rE loc (vAt rs i)
theorem GaveSeq.open_ {Kp:Nat→Prop} {es:List Ev} {w w':World} {e:Ending} (h:GaveSeq Kp es w e w'):∃ g l K,e=.returned (.func (.func g) #[] l)∧Below w.heap.size w w'∧(∀ k,K k→Kp k∨w.heap.size≤k∧k<w'.heap.size)∧EvSeq K (.func (.func g) #[] l) es w':=by
 obtain ⟨fv,K,h1,h2,h3,g,l,rfl,h5⟩:=h
 exact ⟨g,l,K,h1,h2,h3,g,l,rfl,h5⟩
section
variable (P:Nat→Prop) (rs:List Rg) (HA:Option Addr) (hc:Nat)
theorem regions1 (loc:Bool) (i b0 b1:Nat) (W:World) (hi:i<rs.length) (hok:∀ r∈rs,r.v=0∨3≤r.v∧r.v≤64) (hs:Sl W W.heap.size HA (rgCells rs)) (B0:Blk W b0 22 #[.slice HA rs.length hc]) (B1:Blk W b1 4 #[.bool loc]) :
 Calls Tryz.prog 122 #[.int .i64 (i:Int),.pointer (some ⟨b0,0,none⟩),.pointer (some ⟨b1,0,none⟩)] W (GaveSeq (fun _=>False) (rgE loc rs i) W):=by
 obtain ⟨r,hr⟩:∃ r,rs[i]?=some r:=⟨_,List.getElem?_eq_getElem hi⟩
 obtain ⟨b,off,hA,hB,q0,q1,q2⟩:=hs.rg hr
 have hv:=hok r (List.mem_of_getElem? hr)
 have hva:=vAt_get hr
 have c0:=B0.cell (i:=0) rfl
 have c1:=B1.cell (i:=0) rfl
 have hii:(i:Int)<(rs.length:Int):=by omega
 have hi0:¬ (i:Int)<0:=by omega
 subst hA
 obtain ⟨d,v,RA,rn,rc⟩:=r
 dsimp only at q0 q1 q2 hv hva
 unfold rgE
 rw [hva]
 have HO:=hide (fun k a b w (hk:I64w k)=>one_any k a b w hk)
 clear B0 B1 hs hr hok hva q0 q2
 by_cases hv0:v=0
 · subst hv0
   unfold rE
   rw [if_pos rfl]
   cases loc with
   | true =>
     dsimp only [cond_true]
     go_enter Tryz.func122,Tryz.ntmps122
     go_wp2_with fail
     refine (HO.out 7 (i:Int) 1 _ (by unfold I64w;omega)).mono ?_
     intro e w1 h
     obtain ⟨g1,l1,K1,rfl,hb1,hk1,he1⟩:=h.open_
     have HB1:=hide hb1;have HK1:=hide hk1;have HE1:=hide he1
     clear h hb1 hk1 he1
     go_wp2_with fail
     refine (HO.out 6 0 0 _ (by unfold I64w;omega)).mono ?_
     intro e w2 h
     obtain ⟨g2,l2,K2,rfl,hb2,hk2,he2⟩:=h.open_
     have J:=hide (join2 (fun k h=>h.elim) HB1.out HK1.out HE1.out hb2 (fun k hk=>(hk2 k hk).imp id fun h=>⟨Nat.le_trans HB1.out.size h.1,h.2⟩) he2)
     clear h hb2 hk2 he2
     go_wp2_with fail
     refine J.out.mono ?_
     rintro e w' ⟨fv,K,rfl,h2⟩
     have H:=hide h2
     clear h2
     go_wp2
     go_ret
     exact ⟨fv,K,rfl,H.out⟩
   | false =>
     dsimp only [cond_false]
     go_enter Tryz.func122,Tryz.ntmps122
     go_wp2_with fail
     refine (HO.out 7 (i:Int) 0 _ (by unfold I64w;omega)).mono ?_
     intro e w1 h
     obtain ⟨g1,l1,K1,rfl,hb1,hk1,he1⟩:=h.open_
     have HB1:=hide hb1;have HK1:=hide hk1;have HE1:=hide he1
     clear h hb1 hk1 he1
     go_wp2_with fail
     refine (HO.out 4 0 2 _ (by unfold I64w;omega)).mono ?_
     intro e w2 h
     obtain ⟨g2,l2,K2,rfl,hb2,hk2,he2⟩:=h.open_
     have J:=hide (join2 (fun k h=>h.elim) HB1.out HK1.out HE1.out hb2 (fun k hk=>(hk2 k hk).imp id fun h=>⟨Nat.le_trans HB1.out.size h.1,h.2⟩) he2)
     clear h hb2 hk2 he2
     go_wp2_with fail
     refine J.out.mono ?_
     rintro e w' ⟨fv,K,rfl,h2⟩
     have H:=hide h2
     clear h2
     go_wp2
     go_ret
     exact ⟨fv,K,rfl,H.out⟩
 · have hvr:3≤v∧v≤64:=by omega
   obtain ⟨n,rfl⟩:∃ n:Nat,v=(n:Int):=⟨v.toNat,by omega⟩
   unfold rE
   rw [if_neg hv0,Int.toNat_natCast]
   have HV:=hide (fun w=>tvalid_any n w (by omega) (by omega))
   have HL:=hide (fun w=>tlocate_any n w (by omega))
   clear hv hvr
   have hne:((n:Int) == 0)=false:=by simpa using hv0
   cases loc with
   | true =>
     dsimp only [cond_true]
     clear HV
     go_enter Tryz.func122,Tryz.ntmps122
     go_wp2_with fail
     refine (HO.out 7 (i:Int) 1 _ (by unfold I64w;omega)).mono ?_
     intro e w1 h
     obtain ⟨g1,l1,K1,rfl,hb1,hk1,he1⟩:=h.open_
     have HB1:=hide hb1;have HK1:=hide hk1;have HE1:=hide he1
     clear h hb1 hk1 he1
     go_wp2_with fail
     refine (HL.out _).mono ?_
     intro e w2 h
     obtain ⟨g2,l2,K2,rfl,hb2,hk2,he2⟩:=h.open_
     have J:=hide (join2 (fun k h=>h.elim) HB1.out HK1.out HE1.out hb2 (fun k hk=>(hk2 k hk).imp id fun h=>⟨Nat.le_trans HB1.out.size h.1,h.2⟩) he2)
     clear h hb2 hk2 he2
     go_wp2_with fail
     refine J.out.mono ?_
     rintro e w' ⟨fv,K,rfl,h2⟩
     have H:=hide h2
     clear h2
     go_wp2
     go_ret
     exact ⟨fv,K,rfl,H.out⟩
   | false =>
     dsimp only [cond_false]
     clear HL
     go_enter Tryz.func122,Tryz.ntmps122
     go_wp2_with fail
     refine (HO.out 7 (i:Int) 0 _ (by unfold I64w;omega)).mono ?_
     intro e w1 h
     obtain ⟨g1,l1,K1,rfl,hb1,hk1,he1⟩:=h.open_
     have HB1:=hide hb1;have HK1:=hide hk1;have HE1:=hide he1
     clear h hb1 hk1 he1
     go_wp2_with fail
     refine (HV.out _).mono ?_
     intro e w2 h
     obtain ⟨g2,l2,K2,rfl,hb2,hk2,he2⟩:=h.open_
     have J:=hide (join2 (fun k h=>h.elim) HB1.out HK1.out HE1.out hb2 (fun k hk=>(hk2 k hk).imp id fun h=>⟨Nat.le_trans HB1.out.size h.1,h.2⟩) he2)
     clear h hb2 hk2 he2
     go_wp2_with fail
     refine J.out.mono ?_
     rintro e w' ⟨fv,K,rfl,h2⟩
     have H:=hide h2
     clear h2
     go_wp2
     go_ret
     exact ⟨fv,K,rfl,H.out⟩
theorem tregions_any (loc:Bool) (w:World) (hlen:rs.length≤1000) (hok:∀ r∈rs,r.v=0∨3≤r.v∧r.v≤64) (hP:∀ k,P k→k<w.heap.size) (hs:SlP w P HA (rgCells rs)) :
 Calls Tryz.prog 72 #[.slice HA rs.length hc,.bool loc] w (GaveSeq P ((List.range rs.length).flatMap (rgE loc rs)) w):=by
 obtain ⟨W1,hW1⟩:∃ W1,W1=(w.alloc (.cells #[.slice HA rs.length hc] 22)).alloc (.cells #[.bool loc] 4):=⟨_,rfl⟩
 have hb:Below w.heap.size w W1:=by rw [hW1];exact bl_alloc (bA) _
 have hz:W1.heap.size=w.heap.size+2:=by rw [hW1];simp
 have B0:Blk W1 w.heap.size 22 #[.slice HA rs.length hc]:=by rw [hW1];exact (Blk.new _ _ _).alloc _
 have B1:Blk W1 (w.heap.size+1) 4 #[.bool loc]:=by rw [hW1];exact Blk.new2 _ _ _ _
 have c0:=B0.cell (i:=0) rfl
 have hs1:=hs.kept (KeepP.of_below hb hP)
 have R:=repeat_any (fun k=>P k∨k=w.heap.size∨k=w.heap.size+1) (rgE loc rs) rs.length 122 #[.pointer (some ⟨w.heap.size,0,none⟩),.pointer (some ⟨w.heap.size+1,0,none⟩)] W1 (fun k hk=>by rcases hk with hk | hk;have:=hP k hk;omega;omega) (by omega) (enters_of Tryz.func122 (by kernel_rfl) rfl)
  (fun i hi X hX=>(regions1 rs HA hc loc i w.heap.size (w.heap.size+1) X hi hok ((hs1.kept (hX.mono fun k h=>.inl h)).sl fun k hk=>by have:=hP k hk;have:=hX.size;omega) (B0.kept hX (.inr (.inl rfl))) (B1.kept hX (.inr (.inr rfl)))).mono fun e w' h=>h.mono fun k hk=>hk.elim)
 have HR:=hide R
 have HB:=hide hb
 have HZ:=hide hz
 clear R B0 B1 hb hz hs1 hs hP hok
 rw [hW1] at c0 HR
 go_enter Tryz.func72,Tryz.ntmps72
 go_wp2_with fail
 refine HR.out.mono ?_
 rw [← hW1]
 intro e w' h
 obtain ⟨fv,K,rfl,h2⟩:=GaveSeq.back (Kp:=P) h HB.out (fun k hk=>by have:=HZ.out;rcases hk with hk | hk;exact .inl hk;exact .inr (by omega))
 have H:=hide h2
 clear h2
 go_wp2
 go_ret
 exact ⟨fv,K,rfl,H.out⟩
end
end
end Go.Proofs.YtfljlmleiggmjaaGreatDoor
