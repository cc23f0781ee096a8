/- Tape Events SeqEv -/
import Derived.BigQuiet
import Derived.Deep.QuietTactic
import Derived.Lib.SliceRun
import Derived.Maps.OwnOps
import Derived.RangeFuncBound
import Derived.RangeFuncCalls
import Derived.RangeFuncLeaves
import Derived.RangeFuncNested
import Derived.Test.YtfljlmleiggmjaaGreatDoorPkD04
set_option maxRecDepth 1000000
set_option maxHeartbeats 8000000
namespace Go.Proofs.YtfljlmleiggmjaaGreatDoor
open Go.Proofs.Tryz
section
open Go.RowKit Go.Maps
abbrev Ev:=Int × Int × Int
def Y5(es:List Ev):List Value:=es.flatMap fun e=>[.int .i64 e.1,.int .i64 e.2.1,.int .i64 e.2.2]
theorem Yb(es:List Ev)(k a b:Int):Y5 (es++[(k,a,b)])=Y5 es++[.int .i64 k,.int .i64 a,.int .i64 b]:=by simp [Y5]
def Zu:Option (Nat × Nat)->Option Addr
 | none=>none
 | some t=>some ⟨t.1,0,none⟩
def Jl(w:World)(P:Nat->Prop)(g m:Nat)(es:List Ev):Prop :=
 ∃ v n D,Z6 w g 99 #[v,.map (some m)]/\¬ P g/\¬ P m/\w.ownsRow 0 66 3 v es.length (Y5 es)/\v.ownBlock≠some g/\(∀ k,v.ownBlock=some k->¬ P k/\k≠m)/\n<=es.length/\w.ownsMap (H:=Unit) prog 3 (plainElem prog 3) m n D
def Tp(w:World)(P:Nat->Prop):Option (Nat × Nat)->List Ev->Prop
 | none,_=>True
 | some t,es=>Jl w P t.1 t.2 es
structure WE(t:Option (Nat × Nat))(w w':World):Prop where
 size:w.heap.size<=w'.heap.size
 same:∀ (k:Nat) (o:Obj),w.heap[k]?=some o->o.isCells=false->(∀ u,t=some u->k≠u.2)->w'.heap[k]?=some o
section
variable {w w' w'':World}{P R:Nat->Prop}{t:Option (Nat × Nat)}{es:List Ev}
theorem WE.refl(t:Option (Nat × Nat))(w:World):WE t w w:=⟨Nat.le_refl _,fun _ _ h _ _=>h⟩
theorem WE.trans(h:WE t w w')(k:WE t w' w''):WE t w w'':=⟨Nat.le_trans h.size k.size,fun i o hi ho hn=>k.same i o (h.same i o hi ho hn) ho hn⟩
theorem WE.of(h:KeepsOthers w w'):WE t w w':=⟨h.size,fun i o hi ho _=>h.same i o hi ho⟩
theorem WE.below(h:Below w.heap.size w w'):WE t w w':=⟨h.size,fun i _ hi _ _=>(h.block i (Array.getElem?_eq_some_iff.1 hi).1).trans hi⟩
theorem WE.from{B:Nat}(h:WE t w w')(hB:∀ u,t=some u->u.2<B):KeepsFrom B w w':=⟨h.size,fun i o hb hi ho=>h.same i o hi ho fun u hu=>by have:=hB u hu;omega⟩
theorem OT{base:Nat}{e:TypeId}{size n:Nat}{v:Value}{xs:List Value}(h:w.ownsRow base e size v n xs){k:Nat}(hk:v.ownBlock=some k):k<w.heap.size:=by
 rcases h.2 with ⟨rfl,_⟩|⟨g',cap,cur,rfl,hb,hh,_⟩
 · simp [Value.ownBlock] at hk
 · have:g'=k:=(by simpa [Value.ownBlock] using hk);subst this;exact Z6.lt hh
theorem IE{base:Nat}{e:TypeId}{size n:Nat}{v:Value}{xs:List Value}(h:w.ownsRow base e size v n xs){k:Nat}(hk:v.ownBlock=some k):∃ o:Obj,w.heap[k]?=some o/\o.isCells=true:=by
 rcases h.2 with ⟨rfl,_⟩|⟨g',cap,cur,rfl,hb,hh,_⟩
 · simp [Value.ownBlock] at hk
 · have:g'=k:=(by simpa [Value.ownBlock] using hk);subst this;exact ⟨_,hh,rfl⟩
theorem KM{base:Nat}{e:TypeId}{size n:Nat}{v:Value}{xs:List Value}{row:Option Nat}(h:w.ownsRow base e size v n xs)(hb:w.grownBy w' row)(hne:∀ k,v.ownBlock=some k->some k≠row):w'.ownsRow base e size v n xs:=by
 refine ⟨h.1,?_⟩;rcases h.2 with h0|⟨g',cap,cur,hv,hb1,hh,r⟩
 · exact .inl h0
 · subst hv;exact .inr ⟨g',cap,cur,rfl,hb1,(hb.block g' (Z6.lt hh) (hne g' (by simp [Value.ownBlock]))).trans hh,r⟩
theorem below_grown(h:Below w.heap.size w w'):w.grownBy w' none:=⟨h.os,h.tape,h.output,h.size,fun k hk _=>h.block k hk⟩
theorem Jl.step{g m:Nat}(h:Jl w P g m es)(hb:Below w.heap.size w w'):Jl w' P g m es:=by
 obtain ⟨v,n,D,h1,h2,h3,h4,h5,h6,h7,h8⟩:=h;exact ⟨v,n,D,h1.step hb,h2,h3,ZO h4 hb,h5,h6,h7,h8.kept (below_grown hb) (by simp)⟩
theorem Tp.step(h:Tp w P t es)(hb:Below w.heap.size w w'):Tp w' P t es:=by
 cases t with
 | none=>trivial
 | some t=>exact Jl.step h hb
theorem Tp.mono(h:Tp w P t es)(hR:∀ k,R k->P k):Tp w R t es:=by
 cases t with
 | none=>trivial
 | some t =>
   obtain ⟨v,n,D,h1,h2,h3,h4,h5,h6,h7,h8⟩:=h;exact ⟨v,n,D,h1,fun h=>h2 (hR _ h),fun h=>h3 (hR _ h),h4,h5,fun k hk=>⟨fun h=>(h6 k hk).1 (hR _ h),(h6 k hk).2⟩,h7,h8⟩
theorem Tp.add(h:Tp w P t es)(hR:∀ k,R k->P k\/w.heap.size<=k):Tp w R t es:=by
 cases t with
 | none=>trivial
 | some t =>
   obtain ⟨v,n,D,h1,h2,h3,h4,h5,h6,h7,h8⟩:=h;have l1:=h1.lt;have l2:=h8.lt;refine ⟨v,n,D,h1,fun h=>?_,fun h=>?_,h4,h5,fun k hk=>⟨fun h=>?_,(h6 k hk).2⟩,h7,h8⟩
   · rcases hR _ h with h|h
     · exact h2 h
     · omega
   · rcases hR _ h with h|h
     · exact h3 h
     · omega
   · have:=OT h4 hk;rcases hR _ h with h|h
     · exact (h6 k hk).1 h
     · omega
theorem Tp.more(h:Tp w P t es)(hb:Below w.heap.size w w'):Tp w' (More P w w') t es :=
 (h.add (R:=More P w w') fun k hk=>by rcases hk with hk|hk;exact .inl hk;exact .inr hk.1).step hb
theorem Tp.kept{b:Nat}(h:Tp w P t es)(hg:w.grownBy w' (some b))(hb:P b):Tp w' P t es:=by
 cases t with
 | none=>trivial
 | some t =>
   obtain ⟨v,n,D,h1,h2,h3,h4,h5,h6,h7,h8⟩:=h;refine ⟨v,n,D,h1.grown hg (fun e=>by cases e;exact h2 hb),h2,h3,KM h4 hg (fun k hk e=>by cases e;exact (h6 _ hk).1 hb),h5,h6,h7,h8.kept hg (fun e=>by cases e;exact h3 hb)⟩
theorem Tp.set{b:Nat}(h:Tp w P t es)(hb:P b)(o:Nat)(u:Value):Tp (w.setCell ⟨b,o,none⟩ u) P t es :=
 h.kept (b:=b) ⟨rfl,rfl,rfl,Nat.le_of_eq (World.size_setCell ..).symm,fun k _ hk=>Below.heap_setCell w ⟨b,o,none⟩ u k (fun e=>hk (by rw [e]))⟩ hb
theorem Tp.drew(h:Tp w P t es):Tp w.drew P t es:=h.step (ZV (Below.refl _ _))
theorem V5{β:Type}(B:Nat)(P:Nat->Prop)(t:Option (Nat × Nat))(f:β->List Ev)(hm:∀ u,t=some u->u.2<B):OwnFrom B (fun s W=>Tp W P t (f s)):=by
 intro s X Y row hs hg hr;cases t with
 | none=>trivial
 | some t =>
   obtain ⟨v,n,D,h1,h2,h3,h4,h5,h6,h7,h8⟩:=hs;refine ⟨v,n,D,h1.grown hg (fun e=>?_),h2,h3,KM h4 hg (fun k hk e=>?_),h5,h6,h7,h8.kept hg (fun e=>?_)⟩
   · obtain ⟨_,o,ho,hc⟩:=hr _ e.symm;rw [show X.heap[t.1]?=_ from h1] at ho;cases ho;cases hc
   · obtain ⟨_,o,ho,hc⟩:=hr _ e.symm;obtain ⟨o',ho',hc'⟩:=IE h4 hk;rw [ho'] at ho;cases ho;rw [hc'] at hc;cases hc
   · have:=(hr _ e.symm).1;have:=hm t rfl;omega
end
def U2(w:World)(P:Nat->Prop)(A:Option Addr)(xs:List Value):Prop :=
 xs=[]\/∃ b off,A=some ⟨b,off,none⟩/\P b/\∀ j u,xs[j]?=some u->w.cell? ⟨b,off+j,none⟩=some u
section
variable {w w':World}{P R:Nat->Prop}{A:Option Addr}{xs:List Value}
theorem U2.kept(h:U2 w P A xs)(hk:Z8 P w w'):U2 w' P A xs:=by
 rcases h with h|⟨b,off,hA,hb,hc⟩
 · exact .inl h
 · exact .inr ⟨b,off,hA,hb,fun j u hu=>(hk.cell hb _).trans (hc j u hu)⟩
theorem U2.mono(h:U2 w P A xs)(hR:∀ k,P k->R k):U2 w R A xs:=by
 rcases h with h|⟨b,off,hA,hb,hc⟩
 · exact .inl h
 · exact .inr ⟨b,off,hA,hR _ hb,hc⟩
theorem U2.sl{B:Nat}(h:U2 w P A xs)(hP:∀ k,P k->k<B):Sl w B A xs:=by
 rcases h with h|⟨b,off,hA,hb,hc⟩
 · exact .inl h
 · exact .inr ⟨b,off,hA,hP _ hb,hc⟩
theorem Sl.bV{B:Nat}(h:Sl w B A xs)(hP:∀ k,k<B->P k):U2 w P A xs:=by
 rcases h with h|⟨b,off,hA,hb,hc⟩
 · exact .inl h
 · exact .inr ⟨b,off,hA,hP _ hb,hc⟩
theorem Z8.putObj{l:Nat}(o:Obj)(hl:¬ P l)(W:World):Z8 P W (W.putObj l o) :=
 ⟨rfl,rfl,rfl,by simp,fun k hk=>World.putObj_heap_other (fun e=>hl (e ▸ hk))⟩
theorem Z8.setCell{b:Nat}(hb:¬ P b)(o:Nat)(u:Value)(W:World):Z8 P W (W.setCell ⟨b,o,none⟩ u) :=
 ⟨rfl,rfl,rfl,Nat.le_of_eq (World.size_setCell ..).symm,fun k hk=>Below.heap_setCell W ⟨b,o,none⟩ u k (fun e=>hb (by have e:k=b:=e;rw [<- e];exact hk))⟩
theorem TY{β:Type}{B:Nat}{P:Nat->Prop}{w₀:World}(hB:∀ k,P k->k<w₀.heap.size/\k<B):OwnFrom B (fun (_:β) W=>Z8 P w₀ W) :=
 fun _ X Y row hs hg hr=>⟨hg.os.trans hs.os,hg.tape.trans hs.tape,hg.output.trans hs.output,Nat.le_trans hs.size hg.size,fun k hk =>
  (hg.block k (Nat.lt_of_lt_of_le (hB k hk).1 hs.size) (fun e=>by have:=(hr k e.symm).1;have:=(hB k hk).2;omega)).trans (hs.block k hk)⟩
end
section
variable {w w':World}{P R:Nat->Prop}{t:Option (Nat × Nat)}{es:List Ev}
theorem Tp.aP(h:Tp w P t es):∀ u,t=some u->u.2<w.heap.size:=by
 rintro u rfl;obtain ⟨v,n,D,h1,h2,h3,h4,h5,h6,h7,h8⟩:=h;exact h8.lt
theorem Tp.putObj{l:Nat}{o:Obj}(h:Tp w P t es)(hm:∀ u,t=some u->u.2<l)(hl:w.heap[l]?=some o)(ho:o.isCells=false)(o':Obj):Tp (w.putObj l o') P t es :=
 (V5 l P t (fun _:Unit=>es) hm).putObj (s:=()) o' h (Nat.le_refl _) hl ho
theorem Tp.with{es':List Ev}(h:Tp w P t es)(h':Tp w R t es'):Tp w R t es:=by
 cases t with
 | none=>trivial
 | some t =>
   obtain ⟨v,n,D,h1,h2,h3,h4,h5,h6,h7,h8⟩:=h;obtain ⟨v',n',D',k1,k2,k3,k4,k5,k6,k7,k8⟩:=h';have e:v'=v:=by
    have e1:=(show w.heap[t.1]?=_ from k1).symm.trans h1;injection e1 with e1;injection e1 with e1;have:=congrArg (fun c=>c[0]?) e1;simpa using this
   subst e;exact ⟨v',n,D,h1,k2,k3,h4,h5,k6,h7,h8⟩
end
theorem V8:(prog.info? 66).map (fun i=>(i.zero,i.size,i.bytes))=some (some (.agg #[.int .i64 0,.int .i64 0,.int .i64 0]),3,24):=by kernel_rfl
theorem lX(w:World):(zeroValue 3).run prog w=.ok (.int .i64 0) w:=by kernel_rfl
theorem Va:Keyed prog 3:=int_keyed underlying3
def Yu(x:Int):Prop:=-9223372036854775808<=x/\x<=9223372036854775807
theorem Yu.wf{x:Int}(h:Yu x):(Lit.int .i64 x).wf=true:=by unfold Yu at h;exact WalkArith.wf_i64 (by omega)
theorem lN {w w1 w3:World} {P:Nat->Prop} {g m g' cap n:Nat} {es:List Ev} {k a b:Int} {v:Value} {D':DataW Unit} {o:Obj} (hP:∀ j,P j->j<w.heap.size) (h1:Z6 w g 99 #[v,.map (some m)]) (h2:¬ P g) (h3:¬ P m)
 (h4:w.ownsRow 0 66 3 v es.length (Y5 es)) (h5:v.ownBlock≠some g) (h6:∀ k,v.ownBlock=some k->¬ P k/\k≠m) (h7:n<=es.length) (hml:m<w.heap.size) (hgm:g≠m)
 (Zn:w1.ownsRow 0 66 3 (.slice (some ⟨g',0,none⟩) (es.length+1) cap) (es.length+1) (Y5 es++[.int .i64 k,.int .i64 a,.int .i64 b]))
 (ZL:(w.alloc o).grownBy w1 v.ownBlock) (hat:v.ownBlock=some g'\/g'=w.heap.size+1)
 (ZM:w3.ownsMap (H:=Unit) prog 3 (plainElem prog 3) m (n+1) D') (ZE:(w1.setCell ⟨g,0,none⟩ (.slice (some ⟨g',0,none⟩) (es.length+1) cap)).grownBy w3 (some m)) :
 Z8 P w w3/\WE (some (g,m)) w w3/\Jl w3 P g m (es++[(k,a,b)]):=by
 have hgl:=h1.lt;have hs1:=ZL.size;rw [World.size_alloc] at hs1;have hs3:=ZE.size;rw [World.size_setCell] at hs3;have hgg:g'≠g/\g'≠m/\¬ P g':=by
  rcases hat with h|h
  · exact ⟨fun e=>h5 (by rw [h,e]),(h6 _ h).2,(h6 _ h).1⟩
  · exact ⟨by omega,by omega,fun hp=>by have:=hP _ hp;omega⟩
 have key:∀ j,j<w.heap.size->j≠g->j≠m->v.ownBlock≠some j->w3.heap[j]?=w.heap[j]?:=fun j hj hg hm hv=>by
  refine (ZE.block j (by rw [World.size_setCell];omega) (fun e=>hm (by cases e;rfl))).trans ?_;refine (Below.heap_setCell w1 ⟨g,0,none⟩ _ j hg).trans ?_;refine (ZL.block j (by rw [World.size_alloc];omega) (fun e=>hv e.symm)).trans (Below.heap_alloc w o j hj)
 refine ⟨⟨ZE.os.trans ZL.os,ZE.tape.trans ZL.tape,ZE.output.trans ZL.output,by omega,fun j hj=>key j (hP j hj) (fun e=>h2 (e ▸ hj)) (fun e=>h3 (e ▸ hj)) (fun e=>(h6 _ e).1 hj)⟩,⟨by omega,fun j o' ho hc hn=>?_⟩,?_⟩
 · have hj:=(Array.getElem?_eq_some_iff.1 ho).1;refine (key j hj (fun e=>?_) (hn (g,m) rfl) (fun e=>?_)).trans ho
   · subst e;rw [show w.heap[j]?=_ from h1] at ho;cases ho;cases hc
   · obtain ⟨o2,ho2,hc2⟩:=IE h4 e;rw [ho2] at ho;cases ho;rw [hc2] at hc;cases hc
 · refine ⟨_,n+1,_,(((h1.alloc o).grown ZL (Ne.symm h5)).set 0 (.slice (some ⟨g',0,none⟩) (es.length+1) cap)).grown ZE (fun e=>hgm (by cases e;rfl)),h2,h3,?_,?_,?_,by simp;omega,ZM⟩
   · have e1:(es++[(k,a,b)]).length=es.length+1:=(by simp);rw [Yb,e1];refine KM (LU Zn (by simpa [Value.ownBlock] using hgg.1) _) ZE (fun j hj e=>?_);have:g'=j:=(by simpa [Value.ownBlock] using hj);exact hgg.2.1 (by cases e;exact this)
   · simpa [Value.ownBlock] using hgg.1
   · intro j hj;have:g'=j:=(by simpa [Value.ownBlock] using hj);subst this;exact ⟨hgg.2.2,hgg.2.1⟩
theorem qY(k a b:Value)(w:World):Calls prog 43 #[.pointer none,k,a,b] w fun e w'=>e=.returned (.tuple #[])/\w=w':=by
 go_enter func43,ntmps43;go_wp2;refine bodyPost_ret (results_none rfl _ _ _) rfl ?_;exact ⟨rfl,rfl⟩
theorem kF(P:Nat->Prop)(g m:Nat)(es:List Ev)(k a b:Int)(w:World)(hP:∀ j,P j->j<w.heap.size)(ht:Jl w P g m es)(hl:es.length<=1000000)(hk:Yu k):
 Calls prog 43 #[.pointer (some ⟨g,0,none⟩),.int .i64 k,.int .i64 a,.int .i64 b] w fun e w'=>e=.returned (.tuple #[])/\Z8 P w w'/\WE (some (g,m)) w w'/\Jl w' P g m (es++[(k,a,b)]):=by
 obtain ⟨v,n,D,h1,h2,h3,h4,h5,h6,h7,h8⟩:=ht;have c0:w.cell? ⟨g,0,none⟩=some v:=h1.q0 rfl;have f0:=h1.frozen 0;have hgl:=h1.lt;have hml:=h8.lt;obtain ⟨i0,hi,hz0,hz1,hz2⟩:=info_parts V8;have hgm:g≠m:=by
  rintro rfl;obtain ⟨es',clock,hb,_⟩:=h8;rw [show w.heap[g]?=_ from h1] at hb;cases hb
 have HP:=hide hP;have H6:=hide h6;have HK:=hide hk.wf;have H1:=hide h1;have H8:=hide h8;clear hP h6 hk h1 h8;go_enter func43,ntmps43
 go_wp2_with (first
  | (at_builtin;refine wpList_append_lies _ rfl (.tmp 14) (.tmp 19) 27 rfl 0 66 i0 (.agg #[.int .i64 0,.int .i64 0,.int .i64 0]) 3 24 underlying27 hi hz0 hz1 hz2 rfl (by decide) v es.length _ rfl (ZO h4 (bA)) ⟨w.heap.size,0,none⟩ 1 1 [.int .i64 k,.int .i64 a,.int .i64 b] rfl rfl ?a1 ?a2 ?a3 ?a4 ?a5 ?a6 (w.heap.size+1) ?a7 ?_;rotate_right;intro g' cap w1 Zn ZL hat hlt';have B1:=(H1.out.alloc (.cells #[.int .i64 k,.int .i64 a,.int .i64 b] 66)).grown ZL (Ne.symm h5);have d1:w1.cell? ⟨g,0,none⟩=some v:=B1.q0 rfl;have e1:=B1.frozen 0;have d2:w1.cell? ⟨g,1,none⟩=some (.map (some m)):=B1.q1 rfl;have M1:=hide ((H8.out.alloc (.cells #[.int .i64 k,.int .i64 a,.int .i64 b] 66)).kept ZL (fun e=>(H6.out m e.symm).2 rfl));have B1:=hide B1)
  | (at_lookup;refine wpList_lookup_own_int _ rfl _ _ 97 rfl 3 3 .i64 Va underlying97 underlying3 (lX _) m n D rfl ?b1 _ (.int .i64 k) rfl ?b2 ?_;rotate_right;intro c zgh hwc)
  | (at_mapUpdate;refine wpList_mapUpdate_own _ rfl _ _ _ 97 rfl 3 3 Va underlying97 _ m n D rfl ?c1 ?c2 _ _ (.int .i64 k) rfl rfl ?c3 _ [] (plainElem_int underlying3 (wrap64_wf _)) ?_;rotate_right;intro w3 ZM ZE))
 case c1=>exact M1.out.kept (grownBy_setCell' _ _ _) (fun e=>hgm (by cases e;rfl))
 case c2=>unfold maxLen;omega
 case c3=>exact keyOf_int_mk underlying3 HK.out
 case b1=>exact M1.out.kept (grownBy_setCell' _ _ _) (fun e=>hgm (by cases e;rfl))
 case b2=>exact keyOf_int_mk underlying3 HK.out
 case a1=>exact ZI (Z6.new _ _ _)
 case a2=>simp [Value.oneCell']
 case a3=>omega
 case a4=>unfold maxLen;omega
 case a5=>omega
 case a6=>omega
 case a7=>simp
 go_end0;exact ⟨rfl,lN HP.out H1.out h2 h3 h4 h5 H6.out h7 hml hgm Zn ZL hat ZM ZE⟩
theorem Vb(P:Nat->Prop)(t:Option (Nat × Nat))(es:List Ev)(k a b:Int)(w:World)(hP:∀ j,P j->j<w.heap.size)(ht:Tp w P t es)(hl:es.length<=1000000)(hk:Yu k):
 Calls prog 43 #[.pointer (Zu t),.int .i64 k,.int .i64 a,.int .i64 b] w fun e w'=>e=.returned (.tuple #[])/\Z8 P w w'/\WE t w w'/\Tp w' P t (es++[(k,a,b)]):=by
 cases t with
 | none =>
   refine (qY _ _ _ w).mono ?_;rintro e w' ⟨he,rfl⟩;exact ⟨he,Z8.refl _ _,WE.refl _ _,trivial⟩
 | some t=>exact kF P t.1 t.2 es k a b w hP ht hl hk
end
section
open Go.RowKit Go.Maps
theorem Sl.ev{w:World}{B:Nat}{A:Option Addr}{es:List Ev}(h:Sl w B A (Y5 es)){k:Nat}{e:Ev}(hk:es[k]?=some e):
 ∃ b off,A=some ⟨b,off,none⟩/\b<B/\w.cell? ⟨b,off+k*3,none⟩=some (.int .i64 e.1)/\w.cell? ⟨b,off+k*3+1,none⟩=some (.int .i64 e.2.1)/\w.cell? ⟨b,off+k*3+2,none⟩=some (.int .i64 e.2.2):=by
 have hl:=YK (fun e:Ev=>[Value.int .i64 e.1,.int .i64 e.2.1,.int .i64 e.2.2]) 3 (fun _=>rfl) es;have hlt:k<es.length:=(List.getElem?_eq_some_iff.1 hk).1;obtain ⟨b,off,rfl,hB,hc⟩:=h.open_ (by unfold Y5;rw [hl];omega);have h0:=flat_get (fun e:Ev=>[Value.int .i64 e.1,.int .i64 e.2.1,.int .i64 e.2.2]) 3 (fun _=>rfl) es k e hk;refine ⟨b,off,rfl,hB,?_,?_,?_⟩
 · have:=hc (k*3+0) (.int .i64 e.1) (by unfold Y5;rw [h0 0 (by omega)];rfl);simpa using this
 · have:=hc (k*3+1) (.int .i64 e.2.1) (by unfold Y5;rw [h0 1 (by omega)];rfl);rwa [show off+(k*3+1)=off+k*3+1 by omega] at this
 · have:=hc (k*3+2) (.int .i64 e.2.2) (by unfold Y5;rw [h0 2 (by omega)];rfl);rwa [show off+(k*3+2)=off+k*3+2 by omega] at this
theorem zS(es:List Ev)(A A':Option Addr)(c c':Nat)(w:World)(hs:Sl w w.heap.size A (Y5 es))(hs':Sl w w.heap.size A' (Y5 es))(hn:es.length<=maxLen):
 Calls prog 38 #[.slice A es.length c,.slice A' es.length c'] w fun e w'=>e=.returned (.int .i64 (-1))/\Below w.heap.size w w':=by
 unfold maxLen at hn;have HS:=hide hs;have mo:=hide hs';clear hs hs';go_enter func38,ntmps38;go_wp2
 go_loopw [5] (fun i wr=>∃ k:Nat,k<=es.length/\i=.int .i64 k/\Below w.heap.size w wr)
  (fun i _=>es.length - (intOf i).toNat)
 case atStart=>exact ⟨0,by omega,rfl,Below.refl _ _⟩
 case round =>
  obtain ⟨k,hk,rfl,hbr⟩:=hrel
  by_cases hlt:k<es.length
  · obtain ⟨r,hr⟩:∃ r,es[k]?=some r:=⟨_,List.getElem?_eq_getElem hlt⟩;obtain ⟨b,off,rfl,hb,q0,q1,q2⟩:=(HS.out.below hbr).ev hr;obtain ⟨b',off',rfl,hb',p0,p1,p2⟩:=(mo.out.below hbr).ev hr;have e1:(r.1 != r.1)=false:=(by simp);have e2:(r.2.1 != r.2.1)=false:=(by simp);have e3:(r.2.2 != r.2.2)=false:=(by simp);have hk0:(0:Int)<=(k:Int):=(by omega);have hkl:(k:Int)<(es.length:Int):=(by omega);clear hr;go_wp2
    go_quiet (fail)
    go_wp2;go_roundw
    case rel=>exact ⟨k+1,by omega,by go_num,below_drewN hbr _⟩
    case measure=>simp [intOf];omega
  · have hk':k=es.length:=(by omega);subst hk';go_wp2;go_ret;exact ⟨rfl,hbr⟩
theorem EH(es:List Ev)(A A':Option Addr)(c c':Nat)(w:World)(hs:Sl w w.heap.size A (Y5 es))(hs':Sl w w.heap.size A' (Y5 es))(hn:es.length<=maxLen):
 Calls prog 15 #[.slice A es.length c,.slice A' es.length c'] w fun e w'=>e=.returned (.bool true)/\Below w.heap.size w w':=by
 have H:=hide (zS es A A' c c' w hs hs' hn);clear hs hs' hn;go_enter func15,ntmps15;go_wp2_with fail;refine H.out.mono ?_;rintro e w1 ⟨rfl,hb⟩;go_wp2;go_ret;exact ⟨rfl,hb⟩
def newT(w:World):Option (Nat × Nat):=some (w.heap.size+1,w.heap.size)
def znn(w:World)(es:List Ev)(v:Value):Prop:=∃ A,v=.slice A es.length es.length/\Sl w w.heap.size A (Y5 es)
theorem gT(P:Nat->Prop)(g m:Nat)(es:List Ev)(w:World)(ht:Jl w P g m es):
 Calls prog 63 #[.pointer (some ⟨g,0,none⟩)] w fun e w'=>(∃ v,e=.returned v/\znn w' es v)/\∃ k,w'=w.drewN k:=by
 obtain ⟨v,n,D,h1,h2,h3,h4,h5,h6,h7,h8⟩:=ht;obtain ⟨A,cap,rfl,hcap⟩:=ZJ h4;have c0:w.cell? ⟨g,0,none⟩=some (.slice A es.length cap):=h1.q0 rfl;have hsl:=Sl.YI h4;have HSL:=hide hsl;clear h1 h2 h3 h4 h5 h6 h7 h8 hsl;go_enter func63,ntmps63;go_wp2
 go_quiet (fail)
 go_wp2;refine bodyPost_ret (results_tmp rfl _ _ _) rfl ?_;exact ⟨⟨_,rfl,A,rfl,HSL.out⟩,_,rfl⟩
theorem WH(es:List Ev):(Y5 es).length=es.length*3:=YK (fun e:Ev=>[Value.int .i64 e.1,.int .i64 e.2.1,.int .i64 e.2.2]) 3 (fun _=>rfl) es
theorem TB(es:List Ev):∀ u∈Y5 es,u.oneCell'=true:=by
 intro u hu;unfold Y5 at hu;obtain ⟨e,_,he⟩:=List.mem_flatMap.1 hu;simp at he;rcases he with rfl|rfl|rfl <;> rfl
def Evs(es:List Ev)(w:World)(e:Ending)(w':World):Prop:=∃ A c,e=.returned (.slice A es.length c)/\Sl w' w'.heap.size A (Y5 es)/\Below w.heap.size w w'
theorem uS(es:List Ev)(v:Value)(w:World)(hs:znn w es v)(hn:es.length<=1000000):
 Calls prog 64 #[v] w (Evs es w):=by
 obtain ⟨A,rfl,hs⟩:=hs;have hnil:∀ (w:World) (a:Option Addr) (n c n' c':Nat),(binOp .eql 27 (.slice a n c) (.slice none n' c')).run prog w=.ok (.bool a.isNone) w:=fun w a n c n' c'=>Lib.run_eql_slice_nil w 27 66 a n c n' c' underlying27;rcases A with _|a
 · have he:es=[]:=by
    rcases hs with h|⟨b,off,hA,_⟩
    · have:=WH es;rw [h] at this;exact List.eq_nil_of_length_eq_zero (by simp at this;omega)
    · cases hA
   subst he;go_enter func64,ntmps64;go_wp2;go_ret;exact ⟨none,0,rfl,.inl rfl,Below.refl _ _⟩
 · have hc2:∀ j u,(Y5 es)[j]?=some u->(w.alloc (.cells #[] 66)).cell? (a.add j)=some u:=by
    intro j u hu;rcases hs with h|⟨b,off,hA,hlt,hc⟩
    · rw [h] at hu;simp at hu
    · cases hA;have e:(⟨b,off,none⟩:Addr).add j=⟨b,off+j,none⟩:=(by unfold Addr.add;split <;> simp_all);rw [e];exact ((Z7 (Below.refl w.heap.size w) (.cells #[] 66)).cell (p:=⟨b,off+j,none⟩) hlt).trans (hc j u hu)
   have HC:=hide hc2;clear hs hc2;obtain ⟨i0,hi,hz0,hz1,hz2⟩:=info_parts V8;go_enter func64,ntmps64;go_wp2_with (at_builtin;refine wpList_append_own _ rfl (.tmp 5) (.tmp 6) 27 rfl w.heap.size 66 i0 (.agg #[.int .i64 0,.int .i64 0,.int .i64 0]) 3 24 underlying27 hi hz0 hz1 hz2 rfl (by decide) (.slice (some ⟨w.heap.size,0,none⟩) 0 0) 0 [] rfl (Yt (xs:=[]) (Z6.new _ _ _) (Nat.le_refl _) rfl (by unfold maxLen;omega)) a es.length es.length (Y5 es) rfl ?c1 ?c2 ?c3 ?c4 ?c5 ?c6 ?_)
   case c1=>exact WH es
   case c2=>exact HC.out
   case c3=>exact TB es
   case c4=>unfold maxLen;omega
   case c5=>omega
   case c6=>simp
   intro v3 w3 ZM ZE _;have hb3:Below w.heap.size w w3:=(bA).grown ZE (by simp) (fun k hk=>by simp [Value.ownBlock] at hk;omega);have Y9:w3.ownsRow w.heap.size 66 3 v3 es.length (Y5 es):=(by simpa using ZM);obtain ⟨A3,c3,rfl,_⟩:=ZJ Y9;have HS:=hide (Sl.YI Y9);clear ZM ZE Y9;go_wp2;go_ret;exact ⟨A3,c3,rfl,HS.out,hb3⟩
theorem zM(P:Nat->Prop)(g m:Nat)(es:List Ev)(w:World)(ht:Jl w P g m es)(hn:es.length<=1000000):
 Calls prog 33 #[.pointer (some ⟨g,0,none⟩)] w (Evs es w):=by
 have H:=hide (gT P g m es w ht);clear ht;go_enter func33,ntmps33;go_wp2_with fail;refine H.out.mono ?_;rintro e w1 ⟨⟨v,rfl,hs⟩,k,rfl⟩;have hv:∃ A,v=.slice A es.length es.length:=by obtain ⟨A,rfl,_⟩:=hs;exact ⟨A,rfl⟩
 obtain ⟨A,rfl⟩:=hv;go_wp2_with fail;refine (uS es _ _ hs hn).mono ?_;rintro e w2 ⟨A2,c2,rfl,hs2,hb2⟩;go_wp2;go_ret;exact ⟨A2,c2,rfl,hs2,JW hb2⟩
end
section
open Go.RowKit
def Hu(e:Ev):Array Value:=#[.agg #[.int .i64 e.1,.int .i64 e.2.1,.int .i64 e.2.2]]
def zmf(W:World)(k:Nat):Prop:=∃ o:Obj,W.heap[k]?=some o/\o.isCells=true
structure YP(B:Nat)(R:Nat->Prop)(W W':World):Prop where
 os:W'.os=W.os
 tape:W'.tape=W.tape
 output:W'.output=W.output
 size:W.heap.size<=W'.heap.size
 block:∀ k,k<W.heap.size->(k<B\/¬ R k/\zmf W k)->W'.heap[k]?=W.heap[k]?
section
variable {B B':Nat}{R R':Nat->Prop}{W W' W'':World}
theorem YP.refl(B:Nat)(R:Nat->Prop)(W:World):YP B R W W:=⟨rfl,rfl,rfl,Nat.le_refl _,fun _ _ _=>rfl⟩
theorem YP.of_below(h:Below W.heap.size W W')(B:Nat)(R:Nat->Prop):YP B R W W':=⟨h.os,h.tape,h.output,h.size,fun k hk _=>h.block k hk⟩
theorem YP.trans(h:YP B R W W')(k:YP B R' W' W'')(hR:∀ j,R' j->R j\/W.heap.size<=j):YP B R W W'' :=
 ⟨k.os.trans h.os,k.tape.trans h.tape,k.output.trans h.output,Nat.le_trans h.size k.size,fun j hj hc=>by
   have e:=h.block j hj hc;refine (k.block j (Nat.lt_of_lt_of_le hj h.size) ?_).trans e;rcases hc with hc|⟨hn,o,ho,hoc⟩
   · exact .inl hc
   · refine .inr ⟨fun hr=>?_,o,e.trans ho,hoc⟩;rcases hR j hr with h1|h1
     · exact hn h1
     · omega⟩
theorem YP.mono(h:YP B' R W W')(hB:B<=B'):YP B R W W' :=
 ⟨h.os,h.tape,h.output,h.size,fun k hk hc=>h.block k hk (by rcases hc with hc|hc;exact .inl (by omega);exact .inr hc)⟩
theorem YP.put{l:Nat}{o:Obj}(hB:B<=l)(hl:W.heap[l]?=some o)(hn:o.isCells=false)(R:Nat->Prop)(o':Obj):YP B R W (W.putObj l o') :=
 ⟨rfl,rfl,rfl,by simp,fun k _ hc=>World.putObj_heap_other fun e=>by
   subst e;rcases hc with hc|⟨_,o2,h2,h3⟩
   · omega
   · rw [hl] at h2;cases h2;rw [hn] at h3;cases h3⟩
theorem YP.set{b:Nat}(hB:B<=b)(hb:R b)(W:World)(o:Nat)(v:Value):YP B R W (W.setCell ⟨b,o,none⟩ v) :=
 ⟨rfl,rfl,rfl,Nat.le_of_eq (World.size_setCell ..).symm,fun k _ hc=>Below.heap_setCell W ⟨b,o,none⟩ v k fun e=>by
   have e:k=b:=e;subst e;rcases hc with hc|hc
   · omega
   · exact hc.1 hb⟩
end
def Ue{α:Type}(B:Nat)(J:(Nat->Prop)->List α->World->Prop):Prop :=
 ∀ R R' s W W',J R s W->YP B R W W'->(∀ k,R' k->(R k\/W.heap.size<=k)/\k<W'.heap.size)->J R' s W'
theorem Ue.mono{α:Type}{B B':Nat}{J:(Nat->Prop)->List α->World->Prop}(h:Ue B J)(hB:B<=B'):Ue B' J :=
 fun R R' s W W' hj hs hR=>h R R' s W W' hj (hs.mono hB) hR
def Yields{α:Type}(P:Program)(ok:α->Prop)(encs:α->Array Value)(l:Nat)(N:Nat)(J:(Nat->Prop)->List α->World->Prop)(Jx:(Nat->Prop)->World->Prop):Prop :=
 ∀ (m:Nat) (R:Nat->Prop) pre x W1,(∀ k,R k->k<W1.heap.size)->J R pre W1->pre.length<N->ok x->YieldAt Fence.wide m P l (encs x) W1 fun e W' =>
   (e=.returned (.bool true)/\J R (pre++[x]) W'/\Z8 R W1 W')\/(e=.returned (.bool false)/\Jx R W'/\Z8 R W1 W')
def gN{α:Type}(P:Program)(ok:α->Prop)(encs:α->Array Value)(K:Nat->Prop)(gf:Nat)(lb:Array Value)(S:List α->Prop)(N:Nat)(w:World):Prop :=
 ∀ (l:Nat) (J:(Nat->Prop)->List α->World->Prop) (Jx:(Nat->Prop)->World->Prop) (R:Nat->Prop) (W:World),Z8 K w W->(∀ k,K k->R k)->(∀ k,R k->k<W.heap.size) ->
   Ue W.heap.size J->Ue W.heap.size (fun R (_:List α) W=>Jx R W)->Yields P ok encs l N J Jx->J R [] W ->
   Calls P gf (#[.func (.yield l) #[] #[]]++lb) W fun e W'=>(∃ v,e=.returned v)/\((∃ ys,S ys/\J R ys W')\/Jx R W')
def CW(P:Program)(K:Nat->Prop)(gf:Nat)(lb:Array Value)(es:List Ev)(w:World):Prop:=gN P (fun e:Ev=>Yu e.1) Hu K gf lb (fun ys=>ys=es) es.length w
theorem JF{α:Type}{P:Program}{encs:α->Array Value}{PE:Nat->Prop}{gf:Nat}{lb:Array Value}{S Sp:List α->Prop}{N:Nat}{w:World}(h:∀ W,Z8 PE w W->SeqStopsK Fence.wide 5 P gf lb encs (Z8 PE) S Sp N W):
 gN P (fun _=>True) encs PE gf lb S N w:=by
 intro l J Jx R W hk iG yt hJ hJx hY h0;have hab:∀ {A B:World} {row:Option Nat},A.grownBy B row->(∀ r,row=some r->W.heap.size<=r/\∃ o:Obj,A.heap[r]?=some o/\o.isWalk=true)->YP W.heap.size R A B:=fun {A B row} hg hr =>
  ⟨hg.os,hg.tape,hg.output,hg.size,fun k hkl hc=>hg.block k hkl fun e=>by
    obtain ⟨h1,o,ho,hw⟩:=hr k e.symm;rcases hc with hc|⟨_,o2,ho2,hc2⟩
    · omega
    · rw [ho] at ho2;cases ho2;rw [Obj.not_cells_of_walk hw] at hc2;cases hc2⟩
 refine callsIn_wide.1 ((h W hk l (fun pre X=>J R pre X/\∀ k,R k->k<X.heap.size) (fun _ X=>Jx R X/\∀ k,R k->k<X.heap.size) W (Below.refl _ _)
  (fun s A B row hs hg hr=>⟨hJ R R s A B hs.1 (hab hg hr) fun k hk=>⟨.inl hk,Nat.lt_of_lt_of_le (hs.2 k hk) hg.size⟩,fun k hk=>Nat.lt_of_lt_of_le (hs.2 k hk) hg.size⟩)
  (fun s A B row hs hg hr=>⟨hJx R R s A B hs.1 (hab hg hr) fun k hk=>⟨.inl hk,Nat.lt_of_lt_of_le (hs.2 k hk) hg.size⟩,fun k hk=>Nat.lt_of_lt_of_le (hs.2 k hk) hg.size⟩) ?_ ⟨h0,yt⟩).mono ?_)
 · intro pre x W1 hj hl;refine (hY 4 R pre x W1 hj.2 hj.1 hl trivial).mono fun e w' h=>?_;rcases h with ⟨h1,h2,h3⟩|⟨h1,h2,h3⟩
   · exact .inl ⟨h1,⟨h2,fun k hk=>Nat.lt_of_lt_of_le (hj.2 k hk) h3.size⟩,h3.mono iG⟩
   · exact .inr ⟨h1,h2,fun k hk=>Nat.lt_of_lt_of_le (hj.2 k hk) h3.size⟩
 · rintro e W' ⟨hv,⟨ys,hS,hj⟩|⟨_,_,hj⟩⟩
   · exact ⟨hv,.inl ⟨ys,hS,hj.1⟩⟩
   · exact ⟨hv,.inr hj.1⟩
def XR(K:Nat->Prop)(fv:Value)(es:List Ev)(w:World):Prop :=
 ∃ gf lb,fv=.func (.func gf) #[] lb/\(∀ args w,(callFunc gf args).run prog w=.ok (.enter gf args) w)/\CW prog K gf lb es w
theorem XR.kept{K:Nat->Prop}{fv:Value}{es:List Ev}{w w':World}(h:XR K fv es w)(hk:Z8 K w w'):XR K fv es w':=by
 obtain ⟨gf,lb,h1,h2,h3⟩:=h;exact ⟨gf,lb,h1,h2,fun l J Jx R W hW=>h3 l J Jx R W (hk.trans hW)⟩
theorem XR.mono{K K':Nat->Prop}{fv:Value}{es:List Ev}{w:World}(h:XR K fv es w)(hK:∀ k,K k->K' k):XR K' fv es w:=by
 obtain ⟨gf,lb,h1,h2,h3⟩:=h;exact ⟨gf,lb,h1,h2,fun l J Jx R W hW hR=>h3 l J Jx R W (hW.mono hK) (fun k h=>hR k (hK k h))⟩
theorem RoundIn.wide{m n:Nat}{P:Program}{l:Nat}{f:FuncId}{tmps:Array Value}{assign body:Code}{w:World}{R:Ending->World->Prop}(h:RoundIn Fence.wide n P l f tmps assign body w R):RoundIn Fence.wide m P l f tmps assign body w R :=
 ⟨trivial,fun c cs _=>h.2 c cs (room_wide _)⟩
theorem RoundIn.inRound'{n:Nat}{P:Program}{l:Nat}{f:FuncId}{tmps:Array Value}{assign body:Code}{w:World}{R:Ending->World->Prop}(k:Nat)(h:RoundIn Fence.wide n P l f tmps assign body w R):RoundIn (Fence.wide.inRound k) n P l f tmps assign body w R:=h
def Bk(R:Nat->Prop)(s:Nat)(k:Nat):Prop:=R k\/k=s\/k=s+1
def lH{α:Type}(s:Nat)(I:(Nat->Prop)->List α->World->Prop)(Ix:Code->(Nat->Prop)->World->Prop)(R:Nat->Prop)(xs:List α)(W:World):Exit->Act->World->Prop
 | .normal,_,W'=>Z8 (Bk R s) W W'/\I R xs W'
 | .ret,_,W'=>Z8 (Bk R s) W W'/\Ix .ret R W'
 | .exit id,_,W'=>Z8 (Bk R s) W W'/\Ix (.exit id) R W'
 | .goto t,_,W'=>Z8 (Bk R s) W W'/\Ix (.goto t) R W'
 | .panic _,_,_=>False
 | .outgrown,_,_=>False
theorem UC {α:Type} {ok:α->Prop} {encs:α->Array Value} {S:List α->Prop} {N:Nat} {n:Nat} {P:Program} {g:Operand} {ps:Array Tmp} {assign body:Code} {Q:Exit->Act->World->Prop} {a:Act} {w:World} {gf:Nat} {lb:Array Value} {K:Nat->Prop}
 (hg:a.eval g=.func (.func gf) #[] lb) (eg:∀ args w,(callFunc gf args).run P w=.ok (.enter gf args) w) (hseq:gN P ok encs K gf lb S N w) (hK:∀ k,K k->k<w.heap.size) (hps:∀ x,(encs x).size=ps.size)
 (I:(Nat->Prop)->List α->World->Prop) (Ix:Code->(Nat->Prop)->World->Prop) (hI:Ue w.heap.size I) (hIx:∀ c,Ue w.heap.size (fun R (_:List α) W=>Ix c R W)) (h0:I K [] w)
 (pO:∀ (R:Nat->Prop) pre x W,(∀ k,R k->k<W.heap.size)->¬ R (w.heap.size+1)->w.heap.size+1<W.heap.size->(∃ r,W.heap[w.heap.size+1]?=some (.loop r))->I R pre W->pre.length<N->ok x ->
   assign.wpIn (Fence.wide.inRound (w.heap.size+1)) 2 P (Exit.then (fun a' W1=>Z8 (Bk R w.heap.size) W W1/\∀ o:Loop,body.wpIn (Fence.wide.inRound (w.heap.size+1)) 2 P (lH w.heap.size I Ix R (pre++[x]) (W1.putObj (w.heap.size+1) (.loop o))) a' (W1.putObj (w.heap.size+1) (.loop o))) (fun _ _ _=>False))
    { tmps:=(ps.zip (encs x)).foldl (fun t (p,v)=>t.setIfInBounds p v) a.tmps,defers:=[] } W)
 (hdone:∀ ys W,S ys->I K ys W->W.heap[w.heap.size]?=some (.deferred (some []))->w.heap.size+1<W.heap.size->Q .normal { a with defers:={ target:=.collected w.heap.size,args:=#[] }::a.defers } W)
 (hstop:∀ (c:Code) W,Ix c K W->W.heap[w.heap.size]?=some (.deferred (some []))->w.heap.size+1<W.heap.size->c.wpIn Fence.wide n P Q { a with defers:={ target:=.collected w.heap.size,args:=#[] }::a.defers } W) :
 (Code.rangeFunc g ps assign body).wpIn Fence.wide n P Q a w:=by
 obtain ⟨s,hs⟩:=eE w.heap.size;rw [<- hs] at pO hdone hstop;refine wpIn_rangeFunc ?_;intro fn hfn;obtain ⟨rec,hrec⟩:∃ rec:LoopState->Option Code->Loop,rec=fun st pe=>{ state:=st,pending:=pe,fn,tmps:=a.tmps,params:=ps,assign,body,defers:=s }:=⟨_,rfl⟩;obtain ⟨W1,hW1⟩:∃ W1,(w.alloc (.deferred (some []))).alloc (.loop (rec .ready none))=W1:=⟨_,rfl⟩;have hz1:W1.heap.size=s+2:=by rw [<- hW1,hs];simp
 have hL1:W1.heap[s+1]?=some (.loop (rec .ready none)):=by
  rw [<- hW1,hs];have:=World.alloc_heap_new (w.alloc (.deferred (some []))) (.loop (rec .ready none));rwa [World.size_alloc] at this
 have hD1:W1.heap[s]?=some (.deferred (some [])):=by
  rw [<- hW1,hs];exact (Below.heap_alloc _ _ _ (by simp)).trans (World.alloc_heap_new w _)
 have hb1:Below w.heap.size w W1:=by
  rw [<- hW1];exact ((Below.refl _ w).alloc (Nat.le_refl _) _).alloc (by simp) _
 have hI1:I K [] W1:=hI K K [] w W1 h0 (YP.of_below hb1 _ _) (fun k hk=>⟨.inl hk,Nat.lt_of_lt_of_le (hK k hk) hb1.size⟩)
 refine ⟨s+1,[{ target:=.collected s,args:=#[] }],W1,{ target:=.fn (.func gf) lb,args:=#[.func (.yield (s+1)) #[] #[]] },W1,gf,
  #[.func (.yield (s+1)) #[] #[]]++lb,W1,?_,?_,?_,?_,(fun h=>by cases h),?_⟩
 · rw [<- hW1,hrec,hs];exact run_enterLoop_outer _ _ _ _ _
 · simp only [resolve,hg];simp [go_sem]
 · intro f' _;trivial
 · simp [invoke,go_sem,eg]
 · refine callsIn_wide.2 ((hseq (s+1)
    (fun R pre W=>I R pre W/\¬ R (s+1)/\W.heap[s+1]?=some (.loop (rec .ready none))/\W.heap[s]?=some (.deferred (some [])))
    (fun R W=>¬ R (s+1)/\∃ c,Ix c R W/\W.heap[s+1]?=some (.loop (rec .done (some c)))/\W.heap[s]?=some (.deferred (some [])))
    K W1 (Z8.of_below hb1 hK) (fun _ h=>h) (fun k hk=>Nat.lt_of_lt_of_le (hK k hk) hb1.size) ?_ ?_ ?_ ⟨hI1,fun h=>by have:=hK _ h;omega,hL1,hD1⟩).mono ?_)
   · rintro R R' t X Y ⟨hi,hn,hl,hd⟩ hst hR;have hlt:s+1<X.heap.size:=(Array.getElem?_eq_some_iff.1 hl).1;refine ⟨hI R R' t X Y hi (hst.mono (by omega)) hR,fun h=>?_,(hst.block _ hlt (.inl (by omega))).trans hl,(hst.block _ (by omega) (.inl (by omega))).trans hd⟩;rcases (hR _ h).1 with h|h
     · exact hn h
     · omega
   · rintro R R' t X Y ⟨hn,c,hi,hl,hd⟩ hst hR;have hlt:s+1<X.heap.size:=(Array.getElem?_eq_some_iff.1 hl).1;refine ⟨fun h=>?_,c,hIx c R R' t X Y hi (hst.mono (by omega)) hR,(hst.block _ hlt (.inl (by omega))).trans hl,(hst.block _ (by omega) (.inl (by omega))).trans hd⟩;rcases (hR _ h).1 with h|h
     · exact hn h
     · omega
   · rintro m R pre x W hR ⟨hi,hn,hl,hd⟩ hpre hok;have hlt:s+1<W.heap.size:=(Array.getElem?_eq_some_iff.1 hl).1;have hy:=run_yield (P:=P) (args:=encs x) hl (by rw [hrec];exact hps x);rw [hrec] at hy;refine ⟨fn,_,assign,body,hy,RoundIn.wide (n:=2) (roundIn_of_wpIn hfn (wpIn_mono (pO R pre x W hR hn hlt ⟨_,hl⟩ hi hpre hok) ?_))⟩;clear hy;intro e a' Wa he;cases e with
     | normal =>
       obtain ⟨hka,hbody⟩:=he;have hla:Wa.heap[s+1]?=some (.loop (rec .ready none)):=(hka.block _ (.inr (.inr rfl))).trans hl;have hda:Wa.heap[s]?=some (.deferred (some [])):=(hka.block _ (.inr (.inl rfl))).trans hd;have zkc:s+1<Wa.heap.size:=Nat.lt_of_lt_of_le hlt hka.size;refine ⟨_,run_beginRound hla (by rw [hrec]),wpIn_mono (hbody _) ?_⟩;have hl2:(Wa.putObj (s+1) (.loop { rec .ready none with state:=.busy })).heap[s+1]?=some (.loop { rec .ready none with state:=.busy }):=World.putObj_heap_same zkc;have hd2:(Wa.putObj (s+1) (.loop { rec .ready none with state:=.busy })).heap[s]?=some (.deferred (some [])):=(World.putObj_heap_other (by omega)).trans hda;have hk2:Z8 R Wa (Wa.putObj (s+1) (.loop { rec .ready none with state:=.busy })):=Z8.putObj _ hn _;have hkR:Z8 R W Wa:=hka.mono fun k h=>.inl h
       have fin:∀ (jump:Option Code) (W3:World),Z8 (Bk R s) (Wa.putObj (s+1) (.loop { rec .ready none with state:=.busy })) W3 ->
        (Instr.endRound (s+1) jump).run P W3=.ok (.bool jump.isNone) (W3.putObj (s+1) (.loop (rec (if jump.isNone then .ready else .done) jump))) /\
        W3.heap[s+1]?=some (.loop { rec .ready none with state:=.busy }) /\
        (W3.putObj (s+1) (.loop (rec (if jump.isNone then .ready else .done) jump))).heap[s+1]?=some (.loop (rec (if jump.isNone then .ready else .done) jump)) /\
        (W3.putObj (s+1) (.loop (rec (if jump.isNone then .ready else .done) jump))).heap[s]?=some (.deferred (some [])) /\
        Z8 R W (W3.putObj (s+1) (.loop (rec (if jump.isNone then .ready else .done) jump))):=fun jump W3 hk3=>by
        have hl3:=(hk3.block _ (.inr (.inr rfl))).trans hl2;have:=run_endRound (P:=P) jump hl3;rw [hrec] at this ⊢;exact ⟨this,by rw [hrec] at hl3;exact hl3,World.putObj_heap_same (Array.getElem?_eq_some_iff.1 hl3).1,(World.putObj_heap_other (by omega)).trans ((hk3.block _ (.inr (.inl rfl))).trans hd2),(hkR.trans (hk2.trans (hk3.mono fun k h=>.inl h))).trans (Z8.putObj _ hn _)⟩
       have hRs:∀ {W3:World},Z8 R W W3->∀ k,R k->(R k\/W3.heap.size<=k)/\k<W3.heap.size:=fun h k hk=>⟨.inl hk,Nat.lt_of_lt_of_le (hR k hk) h.size⟩;rintro e a3 W3 hp;cases e with
       | normal =>
         obtain ⟨hk3,hi3⟩:=hp;obtain ⟨hr,hl3,hl4,hd4,hk4⟩:=fin none W3 hk3;exact ⟨_,_,hr,.inl ⟨rfl,⟨hI R R _ W3 _ hi3 (YP.put (by omega) hl3 rfl R _) (fun k hk=>⟨.inl hk,(hRs hk4 k hk).2⟩),hn,hl4,hd4⟩,hk4⟩⟩
       | ret =>
         obtain ⟨hk3,hi3⟩:=hp;obtain ⟨hr,hl3,hl4,hd4,hk4⟩:=fin (some .ret) W3 hk3;exact ⟨_,_,hr,.inr ⟨rfl,⟨hn,.ret,hIx _ R R [] W3 _ hi3 (YP.put (by omega) hl3 rfl R _) (fun k hk=>⟨.inl hk,(hRs hk4 k hk).2⟩),hl4,hd4⟩,hk4⟩⟩
       | exit id =>
         obtain ⟨hk3,hi3⟩:=hp;obtain ⟨hr,hl3,hl4,hd4,hk4⟩:=fin (some (.exit id)) W3 hk3;exact ⟨_,_,hr,.inr ⟨rfl,⟨hn,.exit id,hIx _ R R [] W3 _ hi3 (YP.put (by omega) hl3 rfl R _) (fun k hk=>⟨.inl hk,(hRs hk4 k hk).2⟩),hl4,hd4⟩,hk4⟩⟩
       | goto t =>
         obtain ⟨hk3,hi3⟩:=hp;obtain ⟨hr,hl3,hl4,hd4,hk4⟩:=fin (some (.goto t)) W3 hk3;exact ⟨_,_,hr,.inr ⟨rfl,⟨hn,.goto t,hIx _ R R [] W3 _ hi3 (YP.put (by omega) hl3 rfl R _) (fun k hk=>⟨.inl hk,(hRs hk4 k hk).2⟩),hl4,hd4⟩,hk4⟩⟩
       | panic ch=>exact hp.elim
       | outgrown=>exact hp.elim
     | exit id=>exact he
     | goto t=>exact he
     | ret=>exact he
     | panic ch=>exact he
     | outgrown=>exact he
   · rintro e W2 ⟨⟨v,rfl⟩,(⟨ys,hS,hi,hn,hl,hd⟩|⟨hn,c,hi,hl,hd⟩)⟩
     · have hlt:s+1<W2.heap.size:=(Array.getElem?_eq_some_iff.1 hl).1;refine ⟨none,_,by have:=run_endLoop (P:=P) hl (by rw [hrec];simp);rw [hrec] at this;exact this,?_⟩;exact hdone ys _ hS (hI K K _ W2 _ hi (YP.put (by omega) hl rfl K _) (fun k hk=>⟨.inl hk,by have:=hK k hk;simp;omega⟩)) ((World.putObj_heap_other (by omega)).trans hd) (by simpa using hlt)
     · have hlt:s+1<W2.heap.size:=(Array.getElem?_eq_some_iff.1 hl).1;refine ⟨some c,_,by have:=run_endLoop (P:=P) hl (by rw [hrec];simp);rw [hrec] at this;exact this,?_⟩;exact hstop c _ (hIx c K K [] W2 _ hi (YP.put (by omega) hl rfl K _) (fun k hk=>⟨.inl hk,by have:=hK k hk;simp;omega⟩)) ((World.putObj_heap_other (by omega)).trans hd) (by simpa using hlt)
def Marks(lo:Nat):List Deferred->World->Prop
 | [],_=>True
 | d::ds,W=>∃ r,d={ target:=.collected r,args:=#[] }/\lo<=r/\W.heap[r]?=some (.deferred (some []))/\(∀ r',{ target:=.collected r',args:=#[] }∈ds->r'<r)/\Marks lo ds W
theorem Marks.keep{lo:Nat}{W W':World}:∀ {ds:List Deferred},Marks lo ds W->(∀ r,{ target:=.collected r,args:=#[] }∈ds->W'.heap[r]?=W.heap[r]?)->Marks lo ds W'
 | [],_,_=>trivial
 | d::ds,⟨r,hd,h1,h2,h3,h4⟩,hk=>⟨r,hd,h1,(hk r (by rw [hd];exact List.mem_cons_self ..)).trans h2,h3,h4.keep fun r' h=>hk r' (List.mem_cons_of_mem _ h)⟩
theorem Marks.lt{lo:Nat}{W:World}:∀ {ds:List Deferred},Marks lo ds W->∀ r,{ target:=.collected r,args:=#[] }∈ds->lo<=r/\W.heap[r]?=some (.deferred (some []))
 | [],_,r,h=>by cases h
 | d::ds,⟨r0,hd,h1,h2,h3,h4⟩,r,h=>by
   rcases List.mem_cons.1 h with h|h
   · rw [hd] at h;have:r=r0:=by injection h with h _;injection h
     subst this;exact ⟨h1,h2⟩
   · exact h4.lt r h
theorem VB{P:Program}{n:Nat}{fn:Func}{tmps:Array Value}{lo:Nat}{C:World->Prop}{R:Ending->World->Prop}(hC:∀ W r,C W->lo<=r->W.heap[r]?=some (.deferred (some []))->C (W.putObj r (.deferred none))):
 ∀ (ds:List Deferred) (W:World),Marks lo ds W->C W->(∀ W',C W'->LeavesIn Fence.wide n P fn tmps R [] .returning W')->LeavesInM Fence.wide n P fn tmps R ds .returning W
 | [],W,_,hc,h=>h W hc
 | d::ds,W,⟨r,hd,h1,h2,h3,h4⟩,hc,h=>by
   refine ⟨by simp,.inl ⟨r,_,by rw [hd],run_takeDeferred h2,?_⟩⟩;exact VB hC ds _ (h4.keep fun r' hr=>World.putObj_heap_other (Nat.ne_of_lt (h3 r' hr))) (hC W r hc h1 h2) h
end
end Go.Proofs.YtfljlmleiggmjaaGreatDoor