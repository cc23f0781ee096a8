/- Tape -/
import Derived.ChangeAlike
import Derived.Maps.OwnOps
import Derived.RangeFuncBound
import Derived.RangeFuncNested
import Derived.Test.YthnenedoblncjaaGreatDoorPkN01
set_option maxRecDepth 1000000
set_option maxHeartbeats 8000000
namespace Go.Proofs.YthnenedoblncjaaGreatDoor
open Go.Proofs.Tryz
section
open Go.RowKit Go.Maps
abbrev Ev:=Int × Int × Int
def Ke(es:List Ev):List Value:=es.flatMap fun e=>[.int .i64 e.1,.int .i64 e.2.1,.int .i64 e.2.2]
theorem Kg(es:List Ev)(k a b:Int):Ke (es++[(k,a,b)])=Ke es++[.int .i64 k,.int .i64 a,.int .i64 b]:=by simp [Ke]
def ZT:Option (Nat × Nat)->Option Addr
 | none=>none
 | some t=>some ⟨t.1,0,none⟩
def Ol(w:World)(P:Nat->Prop)(g m:Nat)(es:List Ev):Prop :=
 ∃ v n D,Z6 w g 377 #[v,.map (some m)]/\¬ P g/\¬ P m/\w.ownsRow 0 273 3 v es.length (Ke es)/\v.ownBlock≠some g/\(∀ k,v.ownBlock=some k->¬ P k/\k≠m)/\n<=es.length/\w.ownsMap (H:=Unit) prog 3 (plainElem prog 3) m n D
def Tp(w:World)(P:Nat->Prop):Option (Nat × Nat)->List Ev->Prop
 | none,_=>True
 | some t,es=>Ol w P t.1 t.2 es
structure Y2(t:Option (Nat × Nat))(w w':World):Prop where
 size:w.heap.size<=w'.heap.size
 same:∀ (k:Nat) (o:Obj),w.heap[k]?=some o->o.isCells=false->(∀ u,t=some u->k≠u.2)->w'.heap[k]?=some o
section
variable {w w' w'':World}{P R:Nat->Prop}{t:Option (Nat × Nat)}{es:List Ev}
theorem Y2.refl(t:Option (Nat × Nat))(w:World):Y2 t w w:=⟨Nat.le_refl _,fun _ _ h _ _=>h⟩
theorem Y2.trans(h:Y2 t w w')(k:Y2 t w' w''):Y2 t w w'':=⟨Nat.le_trans h.size k.size,fun i o hi ho hn=>k.same i o (h.same i o hi ho hn) ho hn⟩
theorem Y2.of(h:KeepsOthers w w'):Y2 t w w':=⟨h.size,fun i o hi ho _=>h.same i o hi ho⟩
theorem Y2.below(h:Below w.heap.size w w'):Y2 t w w':=⟨h.size,fun i _ hi _ _=>(h.block i (Array.getElem?_eq_some_iff.1 hi).1).trans hi⟩
theorem Y2.from{B:Nat}(h:Y2 t w w')(hB:∀ u,t=some u->u.2<B):KeepsFrom B w w':=⟨h.size,fun i o hb hi ho=>h.same i o hi ho fun u hu=>by have:=hB u hu;omega⟩
theorem WZ{base:Nat}{e:TypeId}{size n:Nat}{v:Value}{xs:List Value}(h:w.ownsRow base e size v n xs){k:Nat}(hk:v.ownBlock=some k):k<w.heap.size:=by
 rcases h.2 with ⟨rfl,_⟩|⟨g',cap,cur,rfl,hb,hh,_⟩
 · simp [Value.ownBlock] at hk
 · have:g'=k:=(by simpa [Value.ownBlock] using hk);subst this;exact Z6.lt hh
theorem VW{base:Nat}{e:TypeId}{size n:Nat}{v:Value}{xs:List Value}(h:w.ownsRow base e size v n xs){k:Nat}(hk:v.ownBlock=some k):∃ o:Obj,w.heap[k]?=some o/\o.isCells=true:=by
 rcases h.2 with ⟨rfl,_⟩|⟨g',cap,cur,rfl,hb,hh,_⟩
 · simp [Value.ownBlock] at hk
 · have:g'=k:=(by simpa [Value.ownBlock] using hk);subst this;exact ⟨_,hh,rfl⟩
theorem Te{base:Nat}{e:TypeId}{size n:Nat}{v:Value}{xs:List Value}{row:Option Nat}(h:w.ownsRow base e size v n xs)(hb:w.grownBy w' row)(hne:∀ k,v.ownBlock=some k->some k≠row):w'.ownsRow base e size v n xs:=by
 refine ⟨h.1,?_⟩;rcases h.2 with h0|⟨g',cap,cur,hv,hb1,hh,r⟩
 · exact .inl h0
 · subst hv;exact .inr ⟨g',cap,cur,rfl,hb1,(hb.block g' (Z6.lt hh) (hne g' (by simp [Value.ownBlock]))).trans hh,r⟩
theorem below_grown(h:Below w.heap.size w w'):w.grownBy w' none:=⟨h.os,h.tape,h.output,h.size,fun k hk _=>h.block k hk⟩
theorem Ol.step{g m:Nat}(h:Ol w P g m es)(hb:Below w.heap.size w w'):Ol w' P g m es:=by
 obtain ⟨v,n,D,h1,h2,h3,h4,h5,h6,h7,h8⟩:=h;exact ⟨v,n,D,h1.step hb,h2,h3,Zn h4 hb,h5,h6,h7,h8.kept (below_grown hb) (by simp)⟩
theorem Tp.step(h:Tp w P t es)(hb:Below w.heap.size w w'):Tp w' P t es:=by
 cases t with
 | none=>trivial
 | some t=>exact Ol.step h hb
theorem Tp.mono(h:Tp w P t es)(hR:∀ k,R k->P k):Tp w R t es:=by
 cases t with
 | none=>trivial
 | some t =>
   obtain ⟨v,n,D,h1,h2,h3,h4,h5,h6,h7,h8⟩:=h;exact ⟨v,n,D,h1,fun h=>h2 (hR _ h),fun h=>h3 (hR _ h),h4,h5,fun k hk=>⟨fun h=>(h6 k hk).1 (hR _ h),(h6 k hk).2⟩,h7,h8⟩
theorem Tp.add(h:Tp w P t es)(hR:∀ k,R k->P k\/w.heap.size<=k):Tp w R t es:=by
 cases t with
 | none=>trivial
 | some t =>
   obtain ⟨v,n,D,h1,h2,h3,h4,h5,h6,h7,h8⟩:=h;have l1:=h1.lt;have l2:=h8.lt;refine ⟨v,n,D,h1,fun h=>?_,fun h=>?_,h4,h5,fun k hk=>⟨fun h=>?_,(h6 k hk).2⟩,h7,h8⟩
   · rcases hR _ h with h|h
     · exact h2 h
     · omega
   · rcases hR _ h with h|h
     · exact h3 h
     · omega
   · have:=WZ h4 hk;rcases hR _ h with h|h
     · exact (h6 k hk).1 h
     · omega
theorem Tp.more(h:Tp w P t es)(hb:Below w.heap.size w w'):Tp w' (More P w w') t es :=
 (h.add (R:=More P w w') fun k hk=>by rcases hk with hk|hk;exact .inl hk;exact .inr hk.1).step hb
theorem Tp.kept{b:Nat}(h:Tp w P t es)(hg:w.grownBy w' (some b))(hb:P b):Tp w' P t es:=by
 cases t with
 | none=>trivial
 | some t =>
   obtain ⟨v,n,D,h1,h2,h3,h4,h5,h6,h7,h8⟩:=h;refine ⟨v,n,D,h1.grown hg (fun e=>by cases e;exact h2 hb),h2,h3,Te h4 hg (fun k hk e=>by cases e;exact (h6 _ hk).1 hb),h5,h6,h7,h8.kept hg (fun e=>by cases e;exact h3 hb)⟩
theorem Tp.set{b:Nat}(h:Tp w P t es)(hb:P b)(o:Nat)(u:Value):Tp (w.setCell ⟨b,o,none⟩ u) P t es :=
 h.kept (b:=b) ⟨rfl,rfl,rfl,Nat.le_of_eq (World.size_setCell ..).symm,fun k _ hk=>Below.heap_setCell w ⟨b,o,none⟩ u k (fun e=>hk (by rw [e]))⟩ hb
theorem Tp.drew(h:Tp w P t es):Tp w.drew P t es:=h.step (ZV (Below.refl _ _))
theorem YP{β:Type}(B:Nat)(P:Nat->Prop)(t:Option (Nat × Nat))(f:β->List Ev)(hm:∀ u,t=some u->u.2<B):OwnFrom B (fun s W=>Tp W P t (f s)):=by
 intro s X Y row hs hg hr;cases t with
 | none=>trivial
 | some t =>
   obtain ⟨v,n,D,h1,h2,h3,h4,h5,h6,h7,h8⟩:=hs;refine ⟨v,n,D,h1.grown hg (fun e=>?_),h2,h3,Te h4 hg (fun k hk e=>?_),h5,h6,h7,h8.kept hg (fun e=>?_)⟩
   · obtain ⟨_,o,ho,hc⟩:=hr _ e.symm;rw [show X.heap[t.1]?=_ from h1] at ho;cases ho;cases hc
   · obtain ⟨_,o,ho,hc⟩:=hr _ e.symm;obtain ⟨o',ho',hc'⟩:=VW h4 hk;rw [ho'] at ho;cases ho;rw [hc'] at hc;cases hc
   · have:=(hr _ e.symm).1;have:=hm t rfl;omega
end
def Wx(w:World)(P:Nat->Prop)(A:Option Addr)(xs:List Value):Prop :=
 xs=[]\/∃ b off,A=some ⟨b,off,none⟩/\P b/\∀ j u,xs[j]?=some u->w.cell? ⟨b,off+j,none⟩=some u
section
variable {w w':World}{P R:Nat->Prop}{A:Option Addr}{xs:List Value}
theorem Wx.kept(h:Wx w P A xs)(hk:Z9 P w w'):Wx w' P A xs:=by
 rcases h with h|⟨b,off,hA,hb,hc⟩
 · exact .inl h
 · exact .inr ⟨b,off,hA,hb,fun j u hu=>(hk.cell hb _).trans (hc j u hu)⟩
theorem Wx.mono(h:Wx w P A xs)(hR:∀ k,P k->R k):Wx w R A xs:=by
 rcases h with h|⟨b,off,hA,hb,hc⟩
 · exact .inl h
 · exact .inr ⟨b,off,hA,hR _ hb,hc⟩
theorem Wx.sl{B:Nat}(h:Wx w P A xs)(hP:∀ k,P k->k<B):Sl w B A xs:=by
 rcases h with h|⟨b,off,hA,hb,hc⟩
 · exact .inl h
 · exact .inr ⟨b,off,hA,hP _ hb,hc⟩
theorem Sl.pF{B:Nat}(h:Sl w B A xs)(hP:∀ k,k<B->P k):Wx w P A xs:=by
 rcases h with h|⟨b,off,hA,hb,hc⟩
 · exact .inl h
 · exact .inr ⟨b,off,hA,hP _ hb,hc⟩
theorem Z9.putObj{l:Nat}(o:Obj)(hl:¬ P l)(W:World):Z9 P W (W.putObj l o) :=
 ⟨rfl,rfl,rfl,by simp,fun k hk=>World.putObj_heap_other (fun e=>hl (e ▸ hk))⟩
theorem Z9.setCell{b:Nat}(hb:¬ P b)(o:Nat)(u:Value)(W:World):Z9 P W (W.setCell ⟨b,o,none⟩ u) :=
 ⟨rfl,rfl,rfl,Nat.le_of_eq (World.size_setCell ..).symm,fun k hk=>Below.heap_setCell W ⟨b,o,none⟩ u k (fun e=>hb (by have e:k=b:=e;rw [<- e];exact hk))⟩
theorem Xz{β:Type}{B:Nat}{P:Nat->Prop}{w₀:World}(hB:∀ k,P k->k<w₀.heap.size/\k<B):OwnFrom B (fun (_:β) W=>Z9 P w₀ W) :=
 fun _ X Y row hs hg hr=>⟨hg.os.trans hs.os,hg.tape.trans hs.tape,hg.output.trans hs.output,Nat.le_trans hs.size hg.size,fun k hk =>
  (hg.block k (Nat.lt_of_lt_of_le (hB k hk).1 hs.size) (fun e=>by have:=(hr k e.symm).1;have:=(hB k hk).2;omega)).trans (hs.block k hk)⟩
end
section
variable {w w':World}{P R:Nat->Prop}{t:Option (Nat × Nat)}{es:List Ev}
theorem Tp.BR(h:Tp w P t es):∀ u,t=some u->u.2<w.heap.size:=by
 rintro u rfl;obtain ⟨v,n,D,h1,h2,h3,h4,h5,h6,h7,h8⟩:=h;exact h8.lt
theorem Tp.putObj{l:Nat}{o:Obj}(h:Tp w P t es)(hm:∀ u,t=some u->u.2<l)(hl:w.heap[l]?=some o)(ho:o.isCells=false)(o':Obj):Tp (w.putObj l o') P t es :=
 (YP l P t (fun _:Unit=>es) hm).putObj (s:=()) o' h (Nat.le_refl _) hl ho
theorem Tp.with{es':List Ev}(h:Tp w P t es)(h':Tp w R t es'):Tp w R t es:=by
 cases t with
 | none=>trivial
 | some t =>
   obtain ⟨v,n,D,h1,h2,h3,h4,h5,h6,h7,h8⟩:=h;obtain ⟨v',n',D',k1,k2,k3,k4,k5,k6,k7,k8⟩:=h';have e:v'=v:=by
    have e1:=(show w.heap[t.1]?=_ from k1).symm.trans h1;injection e1 with e1;injection e1 with e1;have:=congrArg (fun c=>c[0]?) e1;simpa using this
   subst e;exact ⟨v',n,D,h1,k2,k3,h4,h5,k6,h7,h8⟩
end
theorem D7:(prog.info? 273).map (fun i=>(i.zero,i.size,i.bytes))=some (some (.agg #[.int .i64 0,.int .i64 0,.int .i64 0]),3,24):=by kernel_rfl
theorem FT(w:World):(zeroValue 3).run prog w=.ok (.int .i64 0) w:=by kernel_rfl
theorem Pf:Keyed prog 3:=int_keyed underlying3
def Zj(x:Int):Prop:=-9223372036854775808<=x/\x<=9223372036854775807
theorem Zj.wf{x:Int}(h:Zj x):(Lit.int .i64 x).wf=true:=by unfold Zj at h;exact WalkArith.wf_i64 (by omega)
theorem FH {w w1 w3:World} {P:Nat->Prop} {g m g' cap n:Nat} {es:List Ev} {k a b:Int} {v:Value} {D':DataW Unit} {o:Obj} (hP:∀ j,P j->j<w.heap.size) (h1:Z6 w g 377 #[v,.map (some m)]) (h2:¬ P g) (h3:¬ P m)
 (h4:w.ownsRow 0 273 3 v es.length (Ke es)) (h5:v.ownBlock≠some g) (h6:∀ k,v.ownBlock=some k->¬ P k/\k≠m) (h7:n<=es.length) (hml:m<w.heap.size) (hgm:g≠m)
 (YS:w1.ownsRow 0 273 3 (.slice (some ⟨g',0,none⟩) (es.length+1) cap) (es.length+1) (Ke es++[.int .i64 k,.int .i64 a,.int .i64 b]))
 (Za:(w.alloc o).grownBy w1 v.ownBlock) (hat:v.ownBlock=some g'\/g'=w.heap.size+1)
 (XK:w3.ownsMap (H:=Unit) prog 3 (plainElem prog 3) m (n+1) D') (YL:(w1.setCell ⟨g,0,none⟩ (.slice (some ⟨g',0,none⟩) (es.length+1) cap)).grownBy w3 (some m)) :
 Z9 P w w3/\Y2 (some (g,m)) w w3/\Ol w3 P g m (es++[(k,a,b)]):=by
 have hgl:=h1.lt;have hs1:=Za.size;rw [World.size_alloc] at hs1;have hs3:=YL.size;rw [World.size_setCell] at hs3;have hgg:g'≠g/\g'≠m/\¬ P g':=by
  rcases hat with h|h
  · exact ⟨fun e=>h5 (by rw [h,e]),(h6 _ h).2,(h6 _ h).1⟩
  · exact ⟨by omega,by omega,fun hp=>by have:=hP _ hp;omega⟩
 have key:∀ j,j<w.heap.size->j≠g->j≠m->v.ownBlock≠some j->w3.heap[j]?=w.heap[j]?:=fun j hj hg hm hv=>by
  refine (YL.block j (by rw [World.size_setCell];omega) (fun e=>hm (by cases e;rfl))).trans ?_;refine (Below.heap_setCell w1 ⟨g,0,none⟩ _ j hg).trans ?_;refine (Za.block j (by rw [World.size_alloc];omega) (fun e=>hv e.symm)).trans (Below.heap_alloc w o j hj)
 refine ⟨⟨YL.os.trans Za.os,YL.tape.trans Za.tape,YL.output.trans Za.output,by omega,fun j hj=>key j (hP j hj) (fun e=>h2 (e ▸ hj)) (fun e=>h3 (e ▸ hj)) (fun e=>(h6 _ e).1 hj)⟩,⟨by omega,fun j o' ho hc hn=>?_⟩,?_⟩
 · have hj:=(Array.getElem?_eq_some_iff.1 ho).1;refine (key j hj (fun e=>?_) (hn (g,m) rfl) (fun e=>?_)).trans ho
   · subst e;rw [show w.heap[j]?=_ from h1] at ho;cases ho;cases hc
   · obtain ⟨o2,ho2,hc2⟩:=VW h4 e;rw [ho2] at ho;cases ho;rw [hc2] at hc;cases hc
 · refine ⟨_,n+1,_,(((h1.alloc o).grown Za (Ne.symm h5)).set 0 (.slice (some ⟨g',0,none⟩) (es.length+1) cap)).grown YL (fun e=>hgm (by cases e;rfl)),h2,h3,?_,?_,?_,by simp;omega,XK⟩
   · have e1:(es++[(k,a,b)]).length=es.length+1:=(by simp);rw [Kg,e1];refine Te (W9 YS (by simpa [Value.ownBlock] using hgg.1) _) YL (fun j hj e=>?_);have:g'=j:=(by simpa [Value.ownBlock] using hj);exact hgg.2.1 (by cases e;exact this)
   · simpa [Value.ownBlock] using hgg.1
   · intro j hj;have:g'=j:=(by simpa [Value.ownBlock] using hj);subst this;exact ⟨hgg.2.2,hgg.2.1⟩
theorem II(k a b:Value)(w:World):Calls prog 259 #[.pointer none,k,a,b] w fun e w'=>e=.returned (.tuple #[])/\w=w':=by
 go_enter func259,ntmps259;go_wp2;refine bodyPost_ret (results_none rfl _ _ _) rfl ?_;exact ⟨rfl,rfl⟩
theorem EU(P:Nat->Prop)(g m:Nat)(es:List Ev)(k a b:Int)(w:World)(hP:∀ j,P j->j<w.heap.size)(ht:Ol w P g m es)(hl:es.length<=1000000)(hk:Zj k):
 Calls prog 259 #[.pointer (some ⟨g,0,none⟩),.int .i64 k,.int .i64 a,.int .i64 b] w fun e w'=>e=.returned (.tuple #[])/\Z9 P w w'/\Y2 (some (g,m)) w w'/\Ol w' P g m (es++[(k,a,b)]):=by
 obtain ⟨v,n,D,h1,h2,h3,h4,h5,h6,h7,h8⟩:=ht;have c0:w.cell? ⟨g,0,none⟩=some v:=h1.q0 rfl;have f0:=h1.frozen 0;have hgl:=h1.lt;have hml:=h8.lt;obtain ⟨i0,hi,hz0,hz1,hz2⟩:=info_parts D7;have hgm:g≠m:=by
  rintro rfl;obtain ⟨es',clock,hb,_⟩:=h8;rw [show w.heap[g]?=_ from h1] at hb;cases hb
 have HP:=hide hP;have H6:=hide h6;have HK:=hide hk.wf;have H1:=hide h1;have H8:=hide h8;clear hP h6 hk h1 h8;go_enter func259,ntmps259
 go_wp2_with (first
  | (at_builtin;refine wpList_append_lies _ rfl (.tmp 14) (.tmp 19) 123 rfl 0 273 i0 (.agg #[.int .i64 0,.int .i64 0,.int .i64 0]) 3 24 underlying123 hi hz0 hz1 hz2 rfl (by decide) v es.length _ rfl (Zn h4 (bA)) ⟨w.heap.size,0,none⟩ 1 1 [.int .i64 k,.int .i64 a,.int .i64 b] rfl rfl ?a1 ?a2 ?a3 ?a4 ?a5 ?a6 (w.heap.size+1) ?a7 ?_;rotate_right;intro g' cap w1 YS Za hat hlt';have B1:=(H1.out.alloc (.cells #[.int .i64 k,.int .i64 a,.int .i64 b] 273)).grown Za (Ne.symm h5);have d1:w1.cell? ⟨g,0,none⟩=some v:=B1.q0 rfl;have e1:=B1.frozen 0;have d2:w1.cell? ⟨g,1,none⟩=some (.map (some m)):=B1.q1 rfl;have M1:=hide ((H8.out.alloc (.cells #[.int .i64 k,.int .i64 a,.int .i64 b] 273)).kept Za (fun e=>(H6.out m e.symm).2 rfl));have B1:=hide B1)
  | (at_lookup;refine wpList_lookup_own_int _ rfl _ _ 375 rfl 3 3 .i64 Pf underlying375 underlying3 (FT _) m n D rfl ?b1 _ (.int .i64 k) rfl ?b2 ?_;rotate_right;intro c iO hwc)
  | (at_mapUpdate;refine wpList_mapUpdate_own _ rfl _ _ _ 375 rfl 3 3 Pf underlying375 _ m n D rfl ?c1 ?c2 _ _ (.int .i64 k) rfl rfl ?c3 _ [] (plainElem_int underlying3 (wrap64_wf _)) ?_;rotate_right;intro w3 XK YL))
 case c1=>exact M1.out.kept (grownBy_setCell' _ _ _) (fun e=>hgm (by cases e;rfl))
 case c2=>unfold maxLen;omega
 case c3=>exact keyOf_int_mk underlying3 HK.out
 case b1=>exact M1.out.kept (grownBy_setCell' _ _ _) (fun e=>hgm (by cases e;rfl))
 case b2=>exact keyOf_int_mk underlying3 HK.out
 case a1=>exact YW (Z6.new _ _ _)
 case a2=>simp [Value.oneCell']
 case a3=>omega
 case a4=>unfold maxLen;omega
 case a5=>omega
 case a6=>omega
 case a7=>simp
 go_end0;exact ⟨rfl,FH HP.out H1.out h2 h3 h4 h5 H6.out h7 hml hgm YS Za hat XK YL⟩
theorem Yl(P:Nat->Prop)(t:Option (Nat × Nat))(es:List Ev)(k a b:Int)(w:World)(hP:∀ j,P j->j<w.heap.size)(ht:Tp w P t es)(hl:es.length<=1000000)(hk:Zj k):
 Calls prog 259 #[.pointer (ZT t),.int .i64 k,.int .i64 a,.int .i64 b] w fun e w'=>e=.returned (.tuple #[])/\Z9 P w w'/\Y2 t w w'/\Tp w' P t (es++[(k,a,b)]):=by
 cases t with
 | none =>
   refine (II _ _ _ w).mono ?_;rintro e w' ⟨he,rfl⟩;exact ⟨he,Z9.refl _ _,Y2.refl _ _,trivial⟩
 | some t=>exact EU P t.1 t.2 es k a b w hP ht hl hk
end
end Go.Proofs.YthnenedoblncjaaGreatDoor