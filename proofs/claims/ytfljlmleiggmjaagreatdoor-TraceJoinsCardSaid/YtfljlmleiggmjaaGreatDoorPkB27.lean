/- TraceOne TraceCol -/
import Derived.Deep.AppendLies
import Derived.LoopIn
import Derived.LoopNIn
import Derived.OwnWalkIn
import Derived.Shelf.Abstract
import Derived.Shelf.RegionOpen
import Derived.TacticsInMore
import Derived.Test.YtfljlmleiggmjaaGreatDoorPkB26
set_option maxRecDepth 1000000
set_option maxHeartbeats 8000000
namespace Go.Proofs.YtfljlmleiggmjaaGreatDoor
section
open Go.RowKit Go.Shelf
attribute [local go_sem] Oper.semAt_some
def GaveSeq (Kp:Nat→Prop) (es:List Ev) (w:World) (e:Ending) (w':World):Prop :=
 ∃ fv K,e=.returned fv∧Below w.heap.size w w'∧(∀ k,K k→Kp k∨w.heap.size≤k∧k<w'.heap.size)∧EvSeq K fv es w'
theorem one1_at (K:Nat→Prop) (bk ba bb:Nat) (k a b:Int) (w:World) (h1:K bk) (h2:K ba) (h3:K bb) (B1:Blk w bk 3 #[.int .i64 k]) (B2:Blk w ba 3 #[.int .i64 a]) (B3:Blk w bb 3 #[.int .i64 b]) (hok:I64w k) :
 SeqAt Tryz.prog K 123 #[.pointer (some ⟨bk,0,none⟩),.pointer (some ⟨ba,0,none⟩),.pointer (some ⟨bb,0,none⟩)] [(k,a,b)] w:=by
 intro l J Jx R W hk hKR hRW hJ hJx hY h0
 have c1:=(B1.kept hk h1).cell (i:=0) rfl
 have c2:=(B2.kept hk h2).cell (i:=0) rfl
 have c3:=(B3.kept hk h3).cell (i:=0) rfl
 obtain ⟨fn,tmps,assign,body,hy,hR⟩:=hY 5 R [] (k,a,b) W hRW h0 (by simp) hok
 have HR:=hide hR
 unfold encEv at hy
 clear hR hY hJ hJx h0 hKR hRW hk B1 B2 B3
 refine (callsIn_wide (n:=6)).1 ?_
 refine callsIn_of_wp Tryz.func123 rfl trivial ?_ rfl
 simp only [Tryz.ntmps123,List.size_toArray,List.length_cons,List.length_nil,Nat.reduceAdd,Nat.reduceSub,Array.replicate_succ,Array.replicate_zero,List.push_toArray,List.append_toArray,List.nil_append,List.cons_append]
 gi_wp2_with fail
 refine HR.out.mono ?_
 rintro e W3 (⟨rfl,h1,-⟩ | ⟨rfl,h1,-⟩)
 · have H1:=hide h1
   clear h1 HR hy
   gi_wp2
   go_end0
   exact ⟨⟨_,rfl⟩,.inl ⟨_,rfl,H1.out⟩⟩
 · have H1:=hide h1
   clear h1 HR hy
   gi_wp2
   go_end0
   exact ⟨⟨_,rfl⟩,.inr H1.out⟩
theorem one_raw (k a b:Int) (w:World):Calls Tryz.prog 75 #[.int .i64 k,.int .i64 a,.int .i64 b] w fun e w' =>
 e=.returned (.func (.func 123) #[] #[.pointer (some ⟨w.heap.size,0,none⟩),.pointer (some ⟨w.heap.size+1,0,none⟩),.pointer (some ⟨w.heap.size+2,0,none⟩)]) ∧
 w'=((w.alloc (.cells #[.int .i64 k] 3)).alloc (.cells #[.int .i64 a] 3)).alloc (.cells #[.int .i64 b] 3):=by
 go_enter Tryz.func75,Tryz.ntmps75
 go_wp2
 go_ret
 exact ⟨rfl,rfl⟩
theorem one_any (k a b:Int) (w:World) (hok:I64w k):Calls Tryz.prog 75 #[.int .i64 k,.int .i64 a,.int .i64 b] w (GaveSeq (fun _=>False) [(k,a,b)] w):=by
 refine (one_raw k a b w).mono ?_
 rintro e w' ⟨rfl,rfl⟩
 refine ⟨_,fun j=>j=w.heap.size∨j=w.heap.size+1∨j=w.heap.size+2,rfl,bl_alloc (bl_alloc (bA) _) _,?_,_,_,rfl,enters_of Tryz.func123 (by kernel_rfl) rfl,?_⟩
 · intro j hj
   refine .inr ?_
   simp only [World.size_alloc]
   omega
 · refine one1_at _ _ _ _ k a b _ (.inl rfl) (.inr (.inl rfl)) (.inr (.inr rfl)) (((Blk.new _ _ _).alloc _).alloc _) ((Blk.new2 _ _ _ _).alloc _) ?_ hok
   have h:=Blk.new ((w.alloc (.cells #[.int .i64 k] 3)).alloc (.cells #[.int .i64 a] 3)) 3 #[.int .i64 b]
   simp only [World.size_alloc] at h
   exact h
end
section
open Go.RowKit Go.Shelf
attribute [local go_sem] Oper.semAt_some
theorem app_runIn {F:Fence} {n:Nat} {P:Program} {ops:Array Oper} {rest:List Oper} {o:Oper} {a:Act} {Q:Exit→Act→World→Prop} {w:World} (s x:Operand) (t:TypeId)
 (hg:o.guard=none) (hop:o.op=Op.call { callee:=Callee.builtin Builtin.append,args:=#[s,x],argTypes:=#[t,t] }) (v xv:Value) (hs:a.eval s=v) (hx:a.eval x=xv) {v':Value} {w':World}
 (hrun:(Builtin.append_ #[t,t] o.type #[v,xv]).run P w=.ok v' w') (h:wpListIn F n P ops Q rest (a.put o.dst v') w'):wpListIn F n P ops Q (o::rest) a w:=by
 refine wpListIn_plain hg fun K hK'=>?_
 unfold Oper.wpIn
 refine ⟨?_,?_⟩
 · simp [Oper.about,hop,resolve,Target.leads,Sem.run_pure]
 · rw [Oper.semAt_plain F _ _ (by rw [hop];intro c hc';cases hc')]
   simp [execOp,hop,resolve,invoke,builtin,hs,hx,hrun,Result.andThen]
   exact hK' _ _ h
structure ColAt (w:World) (Bs lo:Nat) (R:Nat→Prop) (es:List Ev) (X:World):Prop where
 box:∃ v,Blk X Bs 27 #[v]∧X.ownsRow (Bs+1) 66 3 v es.length (evCs es)∧∀ b,v.ownBlock=some b→¬ R b∧lo≤b
 nR:¬ R Bs
 bl:Below w.heap.size w X
theorem own_stirs {X Y:World} {base:Nat} {e:TypeId} {size:Nat} {v:Value} {k B:Nat} {xs:List Value} {R:Nat→Prop} (h:X.ownsRow base e size v k xs) (hst:Stirs B R X Y) (hn:∀ b,v.ownBlock=some b→¬ R b):Y.ownsRow base e size v k xs:=by
 refine ⟨h.1,?_⟩
 rcases h.2 with h0 | ⟨g',cap,cur,hv,hb1,hh,r⟩
 · exact .inl h0
 · exact .inr ⟨g',cap,cur,hv,hb1,(hst.block g' (Blk.lt hh) (.inr ⟨hn g' (by rw [hv];simp [Value.ownBlock]),_,hh,rfl⟩)).trans hh,r⟩
theorem col_rests (w:World) (Bs lo B:Nat) (h1:w.heap.size≤B) (h2:Bs<B):Rests B (ColAt w Bs lo):=by
 rintro R R' es X Y ⟨⟨v,hb,hown,hv⟩,hn,hbl⟩ hst hR
 have hnR:∀ k,k<X.heap.size→¬ R k→¬ R' k:=fun k hk hr h=>by
  rcases (hR k h).1 with h | h
  · exact hr h
  · omega
 refine ⟨⟨v,(hst.block Bs hb.lt (.inl h2)).trans hb,own_stirs hown hst fun b e=>(hv b e).1,fun b e=>⟨hnR b (own_lt' hown e) (hv b e).1,(hv b e).2⟩⟩,hnR Bs hb.lt hn,⟨hst.os.trans hbl.os,hst.tape.trans hbl.tape,hst.output.trans hbl.output,Nat.le_trans hbl.size hst.size,fun k hk=>(hst.block k (Nat.lt_of_lt_of_le hk hbl.size) (.inl (by omega))).trans (hbl.block k hk)⟩⟩
theorem appendSeq_any (K:Nat→Prop) (fv:Value) (es:List Ev) (w:World) (hK:∀ k,K k→k<w.heap.size) (hev:EvSeq K fv es w) (hlen:es.length≤2000000) :
 Calls Tryz.prog 68 #[.slice none 0 0,fv] w fun e w'=>∃ v,e=.returned v∧w'.ownsRow w.heap.size 66 3 v es.length (evCs es)∧Below w.heap.size w w':=by
 obtain ⟨gf,lb,rfl,heg,hseq⟩:=hev
 obtain ⟨Bs,hBs⟩:∃ Bs,Bs=w.heap.size:=⟨_,rfl⟩
 obtain ⟨w1,hw1⟩:∃ w1,w1=w.alloc (.cells #[.slice none 0 0] 27):=⟨_,rfl⟩
 have hb1:Below w.heap.size w w1:=by rw [hw1];exact bA
 have hz1:w1.heap.size=Bs+1:=by rw [hw1,hBs];simp
 have N1:Blk w1 Bs 27 #[.slice none 0 0]:=by rw [hw1,hBs];exact Blk.new _ _ _
 have HSEQ:Hid (SeqAt Tryz.prog K gf lb es w1):=hide fun l J Jx R W hW=>hseq l J Jx R W ((KeepP.of_below hb1 hK).trans hW)
 have HEG:=hide heg
 have HC0:Hid (ColAt w Bs (w1.heap.size+2) K [] w1):=hide ⟨⟨_,N1,World.ownsRow_nil _ _ _ _,fun b h=>(by cases h)⟩,fun h=>by have:=hK _ h;omega,hb1⟩
 have HK:=hide (fun k (h:K k)=>Nat.lt_of_lt_of_le (hK k h) hb1.size)
 have HZ1:=hide hz1
 have HBS:=hide hBs
 clear hseq heg hb1 hz1 N1 hK
 refine (callsIn_wide (n:=6)).1 ?_
 refine callsIn_of_wp_marks Tryz.func68 rfl trivial ?_ rfl
 simp only [Tryz.ntmps68,List.size_toArray,List.length_cons,List.length_nil,Nat.reduceAdd,Nat.reduceSub,Array.replicate_succ,Array.replicate_zero,List.push_toArray,List.append_toArray,List.nil_append,List.cons_append]
 gi_wp2
 rw [← hw1,← hBs]
 have HW1:=hide hw1
 clear hw1 hBs
 refine wpIn_range_seq (K:=K) rfl HEG.out HSEQ.out HK.out (fun _=>rfl) (ColAt w Bs (w1.heap.size+2)) (fun _ _ _=>False) ?h1 ?h2 HC0.out ?round ?done ?stop
 case h1=>exact col_rests w Bs _ _ (by have:=HZ1.out;have:=HBS.out;omega) (by have:=HZ1.out;omega)
 case h2=>exact fun _ _ _ _ _ _ h _ _=>h
 case stop=>exact fun _ _ h=>h.elim
 case done =>
  rintro ys X rfl ⟨⟨v,hb,hown,hv⟩,-,hbl⟩ hD -
  have c0:=hb.cell (i:=0) rfl
  have hown':X.ownsRow w.heap.size 66 3 v ys.length (evCs ys):=by
   refine ⟨hown.1,?_⟩
   rcases hown.2 with h0 | ⟨g',cap,cur,h1,h2,r⟩
   · exact .inl h0
   · exact .inr ⟨g',cap,cur,h1,by have:=HBS.out;omega,r⟩
  have hne:v.ownBlock=none∨v.ownBlock≠some w1.heap.size:=by
   cases h:v.ownBlock with
   | none=>exact .inl rfl
   | some b=>refine .inr fun e=>?_;cases e;have:=(hv _ h).2;omega
  have HOW:=hide hown'
  have HNE:=hide hne
  have HBL:=hide hbl
  have HD:=hide hD
  clear hb hown hv hbl hown' hne hD
  gi_wp2
  refine ⟨by simp,.inl ⟨_,_,rfl,run_takeDeferred HD.out,?_⟩⟩
  refine ⟨_,results_tmp rfl _ _ _,_,rfl,HOW.out.kept (grownBy_putObj' _ _ _) HNE.out,?_⟩
  exact HBL.out.grown (grownBy_putObj' _ _ _) HBL.out.size (fun k e=>by cases e;have:=HZ1.out;have:=HBS.out;omega)
 case round =>
  rintro R pre x X hR hnl hs1 ⟨rec,hrec⟩ ⟨⟨v,hb,hown,hv⟩,hnB,hbl⟩ hpre -
  obtain ⟨i0,hi,hz0,hz1,hz2⟩:=info_parts ev_info
  obtain ⟨k,a,b⟩:=x
  have hzz:w1.heap.size≤Bs+1∧Bs+1≤w1.heap.size:=by have:=HZ1.out;omega
  have hbs:Bs≤w.heap.size∧w.heap.size≤Bs:=by have:=HBS.out;omega
  obtain ⟨X1,hX1⟩:∃ X1,X1=X.alloc (.cells #[.int .i64 k,.int .i64 a,.int .i64 b] 66):=⟨_,rfl⟩
  have hbX:Below X.heap.size X X1:=by rw [hX1];exact bA
  have hzX:X1.heap.size=X.heap.size+1:=by rw [hX1];simp
  have hE:Blk X1 X.heap.size 66 #[.int .i64 k,.int .i64 a,.int .i64 b]:=by rw [hX1];exact Blk.new _ _ _
  have hb1:=hb.step hbX
  have hown1:=own_step hown hbX
  have hbl1:=bl_step hbl hbX
  have hlt:=hb.lt
  unfold encEv
  dsimp only
  gi_wp2
  rw [← hX1]
  refine ⟨KeepP.of_below hbX (fun k hk=>?_),fun o=>?_⟩
  · rcases hk with hk | hk | hk
    · exact hR k hk
    · omega
    · omega
  obtain ⟨X2,hX2⟩:∃ X2,X2=X1.putObj (w1.heap.size+1) (.loop o):=⟨_,rfl⟩
  have hl1:X1.heap[w1.heap.size+1]?=some (.loop rec):=(hbX.block _ hs1).trans hrec
  have hgp:X1.grownBy X2 (some (w1.heap.size+1)):=by rw [hX2];exact grownBy_putObj' _ _ _
  have hvn:v.ownBlock≠some (w1.heap.size+1):=fun e=>by have:=(hv _ e).2;omega
  have hb2:Blk X2 Bs 27 #[v]:=by rw [hX2];exact (World.putObj_heap_other (by omega)).trans hb1
  have hE2:Blk X2 X.heap.size 66 #[.int .i64 k,.int .i64 a,.int .i64 b]:=by rw [hX2];exact (World.putObj_heap_other (by omega)).trans hE
  have hown2:=hown1.kept hgp (.inr hvn)
  have hbl2:Below w.heap.size w X2:=hbl1.grown hgp hbl1.size (fun j e=>by cases e;omega)
  have hz2':X2.heap.size=X.heap.size+1:=by rw [hX2,← hzX];simp
  rw [← hX2]
  obtain ⟨X3,hX3⟩:∃ X3,X3=X2.alloc (.cells #[.int .i64 k,.int .i64 a,.int .i64 b] 66):=⟨_,rfl⟩
  have hb23:Below X2.heap.size X2 X3:=by rw [hX3];exact bA
  have hz3:X3.heap.size=X2.heap.size+1:=by rw [hX3];simp
  have N3:Blk X3 X2.heap.size 66 #[.int .i64 k,.int .i64 a,.int .i64 b]:=by rw [hX3];exact Blk.new _ _ _
  have hown3:=own_step hown2 hb23
  have hb3:=hb2.step hb23
  have hbl3:=bl_step hbl2 hb23
  obtain ⟨g4,c4,X4,hr4,hown4,hg4,hloc4,hlt4⟩:=run_append_lies (P:=Tryz.prog) X3 27 27 (Bs+1) 66 i0 (.agg #[.int .i64 0,.int .i64 0,.int .i64 0]) 3 24 Tryz.underlying27 hi hz0 hz1 hz2 rfl (by decide) v pre.length (evCs pre) hown3 ⟨X2.heap.size,0,none⟩ 1 1 [.int .i64 k,.int .i64 a,.int .i64 b] rfl (blk_cells N3) (by simp [Value.oneCell']) (by omega) (by unfold maxLen;omega) (by omega) (by omega) _ rfl
  have hvB:v.ownBlock≠some Bs:=fun e=>by have:=own_base hown3 e;omega
  have hb4:Blk X4 Bs 27 #[v]:=hb3.grown hg4 (Ne.symm hvB)
  have hsz4:=hg4.size
  have hgv:∀ j,v.ownBlock=some j→¬ R j∧w1.heap.size+2≤j:=hv
  have hg4n:¬ R g4∧w1.heap.size+2≤g4:=by
   rcases hloc4 with h | h
   · exact hv g4 h
   · refine ⟨fun hr=>?_,?_⟩
     · have:=hR g4 hr;omega
     · omega
  have hg4B:g4≠Bs:=by omega
  obtain ⟨X5,hX5⟩:∃ X5,X5=X4.setCell ⟨Bs,0,none⟩ (.slice (some ⟨g4,0,none⟩) (pre.length+1) c4):=⟨_,rfl⟩
  have hb5:Blk X5 Bs 27 #[.slice (some ⟨g4,0,none⟩) (pre.length+1) c4]:=by rw [hX5];exact hb4.set 0 _
  have hown5:X5.ownsRow (Bs+1) 66 3 (.slice (some ⟨g4,0,none⟩) (pre.length+1) c4) (pre++[(k,a,b)]).length (evCs (pre++[(k,a,b)])):=by
   have e:(pre++[(k,a,b)]).length=pre.length+1:=by simp
   rw [evCs_snoc,e,hX5]
   exact own_set hown4 (by simpa [Value.ownBlock] using hg4B) _
  have hbl5:Below w.heap.size w X5:=by
   rw [hX5]
   exact (hbl3.grown hg4 hbl3.size (fun j e=>by have:=(hv j e).2;omega)).grown (grownBy_setCell' _ _ _) (by have:=hbl3.size;omega) (fun j e=>by cases e;omega)
  have HF:Hid (KeepP (Bk R w1.heap.size) X2 X5∧ColAt w Bs (w1.heap.size+2) R (pre++[(k,a,b)]) X5):=hide ⟨by
   rw [hX5]
   refine ((KeepP.of_below hb23 fun j hj=>?_).trans ⟨hg4.os,hg4.tape,hg4.output,hg4.size,fun j hj=>hg4.block j ?_ ?_⟩).trans (KeepP.setCell ?_ _ _ _)
   · rcases hj with hj | hj | hj
     · have:=hR j hj;omega
     · omega
     · omega
   · rcases hj with hj | hj | hj
     · have:=hR j hj;omega
     · omega
     · omega
   · intro e
     obtain ⟨h1,h2⟩:=hv j e.symm
     rcases hj with hj | hj | hj
     · exact h1 hj
     · omega
     · omega
   · rintro (hj | hj | hj)
     · exact hnB hj
     · omega
     · omega,
   ⟨⟨_,hb5,hown5,fun j e=>by
     have:g4=j:=by have:some g4=some j:=e;exact Option.some.inj this
     subst this
     exact hg4n⟩,hnB,hbl5⟩⟩
  have c0:=hb2.cell (i:=0) rfl
  have e0:=hE2.cell (i:=0) rfl
  have e1:=hE2.cell (i:=1) rfl
  have e2:=hE2.cell (i:=2) rfl
  have c4':=hb4.cell (i:=0) rfl
  have f4:=hb4.frozen 0
  rw [hX3] at hr4
  clear hb hown hv hnB hbl hpre hi hz0 hz1 hz2 hX1 hbX hzX hE hb1 hown1 hbl1 hlt hl1 hgp hvn hb2 hE2 hown2 hbl2 hX2 hX3 hb23 hz3 N3 hown3 hb3 hbl3 hown4 hg4 hloc4 hlt4 hvB hb4 hsz4 hgv hg4n hb5 hown5 hbl5 hrec hnl hs1 hR hzz hbs hz2' i0
  gi_wp2_with (gi_at_builtin;refine app_runIn (.tmp 8) (.tmp 10) 27 rfl rfl _ _ rfl rfl hr4 ?_)
  rw [← hX5]
  exact HF.out
end
end Go.Proofs.YtfljlmleiggmjaaGreatDoor
