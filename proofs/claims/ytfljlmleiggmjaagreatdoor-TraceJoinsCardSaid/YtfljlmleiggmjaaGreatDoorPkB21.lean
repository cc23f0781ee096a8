/- Tape Events -/
import Derived.BigQuiet
import Derived.Deep.QuietTactic
import Derived.Lib.SliceRun
import Derived.Maps.OwnOps
import Derived.RangeFuncBound
import Derived.RangeFuncNested
import Derived.Test.YtfljlmleiggmjaaGreatDoorPkB08
set_option maxRecDepth 1000000
set_option maxHeartbeats 8000000
namespace Go.Proofs.YtfljlmleiggmjaaGreatDoor
section
open Go.RowKit Go.Maps
abbrev Ev:=Int × Int × Int
def evCs (es:List Ev):List Value:=es.flatMap fun e=>[.int .i64 e.1,.int .i64 e.2.1,.int .i64 e.2.2]
theorem evCs_snoc (es:List Ev) (k a b:Int):evCs (es++[(k,a,b)])=evCs es++[.int .i64 k,.int .i64 a,.int .i64 b]:=by simp [evCs]
def TpIn (w:World) (P:Nat→Prop) (g m:Nat) (es:List Ev):Prop :=
 ∃ v n D,Blk w g 99 #[v,.map (some m)]∧¬ P g∧¬ P m∧w.ownsRow 0 66 3 v es.length (evCs es)∧v.ownBlock≠some g∧(∀ k,v.ownBlock=some k→¬ P k∧k≠m)∧n≤es.length∧w.ownsMap (H:=Unit) Tryz.prog 3 (plainElem Tryz.prog 3) m n D
def Tp (w:World) (P:Nat→Prop):Option (Nat × Nat)→List Ev→Prop
 | none,_=>True
 | some t,es=>TpIn w P t.1 t.2 es
structure KeepsM (t:Option (Nat × Nat)) (w w':World):Prop where
 size:w.heap.size≤w'.heap.size
 same:∀ (k:Nat) (o:Obj),w.heap[k]?=some o→o.isCells=false→(∀ u,t=some u→k≠u.2)→w'.heap[k]?=some o
section
variable {w w' w'':World} {P R:Nat→Prop} {t:Option (Nat × Nat)} {es:List Ev}
theorem KeepsM.refl (t:Option (Nat × Nat)) (w:World):KeepsM t w w:=⟨Nat.le_refl _,fun _ _ h _ _=>h⟩
theorem KeepsM.trans (h:KeepsM t w w') (k:KeepsM t w' w''):KeepsM t w w'':=⟨Nat.le_trans h.size k.size,fun i o hi ho hn=>k.same i o (h.same i o hi ho hn) ho hn⟩
theorem KeepsM.of (h:KeepsOthers w w'):KeepsM t w w':=⟨h.size,fun i o hi ho _=>h.same i o hi ho⟩
theorem KeepsM.below (h:Below w.heap.size w w'):KeepsM t w w':=⟨h.size,fun i _ hi _ _=>(h.block i (Array.getElem?_eq_some_iff.1 hi).1).trans hi⟩
theorem KeepsM.from {B:Nat} (h:KeepsM t w w') (hB:∀ u,t=some u→u.2<B):KeepsFrom B w w':=⟨h.size,fun i o hb hi ho=>h.same i o hi ho fun u hu=>by have:=hB u hu;omega⟩
theorem own_lt' {base:Nat} {e:TypeId} {size n:Nat} {v:Value} {xs:List Value} (h:w.ownsRow base e size v n xs) {k:Nat} (hk:v.ownBlock=some k):k<w.heap.size:=by
 rcases h.2 with ⟨rfl,_⟩ | ⟨g',cap,cur,rfl,hb,hh,_⟩
 · simp [Value.ownBlock] at hk
 · have:g'=k:=by simpa [Value.ownBlock] using hk
   subst this;exact Blk.lt hh
theorem own_cells {base:Nat} {e:TypeId} {size n:Nat} {v:Value} {xs:List Value} (h:w.ownsRow base e size v n xs) {k:Nat} (hk:v.ownBlock=some k):∃ o:Obj,w.heap[k]?=some o∧o.isCells=true:=by
 rcases h.2 with ⟨rfl,_⟩ | ⟨g',cap,cur,rfl,hb,hh,_⟩
 · simp [Value.ownBlock] at hk
 · have:g'=k:=by simpa [Value.ownBlock] using hk
   subst this;exact ⟨_,hh,rfl⟩
theorem own_kept {base:Nat} {e:TypeId} {size n:Nat} {v:Value} {xs:List Value} {row:Option Nat} (h:w.ownsRow base e size v n xs) (hb:w.grownBy w' row) (hne:∀ k,v.ownBlock=some k→some k≠row):w'.ownsRow base e size v n xs:=by
 refine ⟨h.1,?_⟩
 rcases h.2 with h0 | ⟨g',cap,cur,hv,hb1,hh,r⟩
 · exact .inl h0
 · subst hv
   exact .inr ⟨g',cap,cur,rfl,hb1,(hb.block g' (Blk.lt hh) (hne g' (by simp [Value.ownBlock]))).trans hh,r⟩
theorem below_grown (h:Below w.heap.size w w'):w.grownBy w' none:=⟨h.os,h.tape,h.output,h.size,fun k hk _=>h.block k hk⟩
theorem TpIn.step {g m:Nat} (h:TpIn w P g m es) (hb:Below w.heap.size w w'):TpIn w' P g m es:=by
 obtain ⟨v,n,D,h1,h2,h3,h4,h5,h6,h7,h8⟩:=h
 exact ⟨v,n,D,h1.step hb,h2,h3,own_step h4 hb,h5,h6,h7,h8.kept (below_grown hb) (by simp)⟩
theorem Tp.step (h:Tp w P t es) (hb:Below w.heap.size w w'):Tp w' P t es:=by
 cases t with
 | none=>trivial
 | some t=>exact TpIn.step h hb
theorem Tp.mono (h:Tp w P t es) (hR:∀ k,R k→P k):Tp w R t es:=by
 cases t with
 | none=>trivial
 | some t =>
   obtain ⟨v,n,D,h1,h2,h3,h4,h5,h6,h7,h8⟩:=h
   exact ⟨v,n,D,h1,fun h=>h2 (hR _ h),fun h=>h3 (hR _ h),h4,h5,fun k hk=>⟨fun h=>(h6 k hk).1 (hR _ h),(h6 k hk).2⟩,h7,h8⟩
theorem Tp.add (h:Tp w P t es) (hR:∀ k,R k→P k∨w.heap.size≤k):Tp w R t es:=by
 cases t with
 | none=>trivial
 | some t =>
   obtain ⟨v,n,D,h1,h2,h3,h4,h5,h6,h7,h8⟩:=h
   have l1:=h1.lt
   have l2:=h8.lt
   refine ⟨v,n,D,h1,fun h=>?_,fun h=>?_,h4,h5,fun k hk=>⟨fun h=>?_,(h6 k hk).2⟩,h7,h8⟩
   · rcases hR _ h with h | h
     · exact h2 h
     · omega
   · rcases hR _ h with h | h
     · exact h3 h
     · omega
   · have:=own_lt' h4 hk
     rcases hR _ h with h | h
     · exact (h6 k hk).1 h
     · omega
theorem Tp.more (h:Tp w P t es) (hb:Below w.heap.size w w'):Tp w' (More P w w') t es :=
 (h.add (R:=More P w w') fun k hk=>by rcases hk with hk | hk;exact .inl hk;exact .inr hk.1).step hb
theorem Tp.kept {b:Nat} (h:Tp w P t es) (hg:w.grownBy w' (some b)) (hb:P b):Tp w' P t es:=by
 cases t with
 | none=>trivial
 | some t =>
   obtain ⟨v,n,D,h1,h2,h3,h4,h5,h6,h7,h8⟩:=h
   refine ⟨v,n,D,h1.grown hg (fun e=>by cases e;exact h2 hb),h2,h3,own_kept h4 hg (fun k hk e=>by cases e;exact (h6 _ hk).1 hb),h5,h6,h7,h8.kept hg (fun e=>by cases e;exact h3 hb)⟩
theorem Tp.set {b:Nat} (h:Tp w P t es) (hb:P b) (o:Nat) (u:Value):Tp (w.setCell ⟨b,o,none⟩ u) P t es :=
 h.kept (b:=b) ⟨rfl,rfl,rfl,Nat.le_of_eq (World.size_setCell ..).symm,fun k _ hk=>Below.heap_setCell w ⟨b,o,none⟩ u k (fun e=>hk (by rw [e]))⟩ hb
theorem Tp.drew (h:Tp w P t es):Tp w.drew P t es:=h.step (bl_drew (Below.refl _ _))
theorem tp_ownFrom {β:Type} (B:Nat) (P:Nat→Prop) (t:Option (Nat × Nat)) (f:β→List Ev) (hm:∀ u,t=some u→u.2<B):OwnFrom B (fun s W=>Tp W P t (f s)):=by
 intro s X Y row hs hg hr
 cases t with
 | none=>trivial
 | some t =>
   obtain ⟨v,n,D,h1,h2,h3,h4,h5,h6,h7,h8⟩:=hs
   refine ⟨v,n,D,h1.grown hg (fun e=>?_),h2,h3,own_kept h4 hg (fun k hk e=>?_),h5,h6,h7,h8.kept hg (fun e=>?_)⟩
   · obtain ⟨_,o,ho,hc⟩:=hr _ e.symm
     rw [show X.heap[t.1]?=_ from h1] at ho
     cases ho;cases hc
   · obtain ⟨_,o,ho,hc⟩:=hr _ e.symm
     obtain ⟨o',ho',hc'⟩:=own_cells h4 hk
     rw [ho'] at ho
     cases ho
     rw [hc'] at hc;cases hc
   · have:=(hr _ e.symm).1
     have:=hm t rfl
     omega
end
def SlP (w:World) (P:Nat→Prop) (A:Option Addr) (xs:List Value):Prop :=
 xs=[]∨∃ b off,A=some ⟨b,off,none⟩∧P b∧∀ j u,xs[j]?=some u→w.cell? ⟨b,off+j,none⟩=some u
section
variable {w w':World} {P R:Nat→Prop} {A:Option Addr} {xs:List Value}
theorem SlP.kept (h:SlP w P A xs) (hk:KeepP P w w'):SlP w' P A xs:=by
 rcases h with h | ⟨b,off,hA,hb,hc⟩
 · exact .inl h
 · exact .inr ⟨b,off,hA,hb,fun j u hu=>(hk.cell hb _).trans (hc j u hu)⟩
theorem SlP.mono (h:SlP w P A xs) (hR:∀ k,P k→R k):SlP w R A xs:=by
 rcases h with h | ⟨b,off,hA,hb,hc⟩
 · exact .inl h
 · exact .inr ⟨b,off,hA,hR _ hb,hc⟩
theorem SlP.sl {B:Nat} (h:SlP w P A xs) (hP:∀ k,P k→k<B):Sl w B A xs:=by
 rcases h with h | ⟨b,off,hA,hb,hc⟩
 · exact .inl h
 · exact .inr ⟨b,off,hA,hP _ hb,hc⟩
theorem Sl.slP {B:Nat} (h:Sl w B A xs) (hP:∀ k,k<B→P k):SlP w P A xs:=by
 rcases h with h | ⟨b,off,hA,hb,hc⟩
 · exact .inl h
 · exact .inr ⟨b,off,hA,hP _ hb,hc⟩
theorem KeepP.putObj {l:Nat} (o:Obj) (hl:¬ P l) (W:World):KeepP P W (W.putObj l o) :=
 ⟨rfl,rfl,rfl,by simp,fun k hk=>World.putObj_heap_other (fun e=>hl (e ▸ hk))⟩
theorem KeepP.setCell {b:Nat} (hb:¬ P b) (o:Nat) (u:Value) (W:World):KeepP P W (W.setCell ⟨b,o,none⟩ u) :=
 ⟨rfl,rfl,rfl,Nat.le_of_eq (World.size_setCell ..).symm,fun k hk=>Below.heap_setCell W ⟨b,o,none⟩ u k (fun e=>hb (by have e:k=b:=e;rw [← e];exact hk))⟩
end
section
variable {w w':World} {P R:Nat→Prop} {t:Option (Nat × Nat)} {es:List Ev}
theorem Tp.putObj {l:Nat} {o:Obj} (h:Tp w P t es) (hm:∀ u,t=some u→u.2<l) (hl:w.heap[l]?=some o) (ho:o.isCells=false) (o':Obj):Tp (w.putObj l o') P t es :=
 (tp_ownFrom l P t (fun _:Unit=>es) hm).putObj (s:=()) o' h (Nat.le_refl _) hl ho
theorem Tp.with {es':List Ev} (h:Tp w P t es) (h':Tp w R t es'):Tp w R t es:=by
 cases t with
 | none=>trivial
 | some t =>
   obtain ⟨v,n,D,h1,h2,h3,h4,h5,h6,h7,h8⟩:=h
   obtain ⟨v',n',D',k1,k2,k3,k4,k5,k6,k7,k8⟩:=h'
   have e:v'=v:=by
    have e1:=(show w.heap[t.1]?=_ from k1).symm.trans h1
    injection e1 with e1
    injection e1 with e1
    have:=congrArg (fun c=>c[0]?) e1
    simpa using this
   subst e
   exact ⟨v',n,D,h1,k2,k3,h4,h5,k6,h7,h8⟩
end
theorem ev_info:(Tryz.prog.info? 66).map (fun i=>(i.zero,i.size,i.bytes))=some (some (.agg #[.int .i64 0,.int .i64 0,.int .i64 0]),3,24):=by kernel_rfl
def I64w (x:Int):Prop:=-9223372036854775808≤x∧x≤9223372036854775807
theorem I64w.wf {x:Int} (h:I64w x):(Lit.int .i64 x).wf=true:=by unfold I64w at h;exact WalkArith.wf_i64 (by omega)
end
section
open Go.RowKit Go.Maps
theorem Sl.ev {w:World} {B:Nat} {A:Option Addr} {es:List Ev} (h:Sl w B A (evCs es)) {k:Nat} {e:Ev} (hk:es[k]?=some e) :
 ∃ b off,A=some ⟨b,off,none⟩∧b<B∧w.cell? ⟨b,off+k*3,none⟩=some (.int .i64 e.1)∧w.cell? ⟨b,off+k*3+1,none⟩=some (.int .i64 e.2.1)∧w.cell? ⟨b,off+k*3+2,none⟩=some (.int .i64 e.2.2):=by
 have hl:=flat_length (fun e:Ev=>[Value.int .i64 e.1,.int .i64 e.2.1,.int .i64 e.2.2]) 3 (fun _=>rfl) es
 have hlt:k<es.length:=(List.getElem?_eq_some_iff.1 hk).1
 obtain ⟨b,off,rfl,hB,hc⟩:=h.open_ (by unfold evCs;rw [hl];omega)
 have h0:=flat_get (fun e:Ev=>[Value.int .i64 e.1,.int .i64 e.2.1,.int .i64 e.2.2]) 3 (fun _=>rfl) es k e hk
 refine ⟨b,off,rfl,hB,?_,?_,?_⟩
 · have:=hc (k*3+0) (.int .i64 e.1) (by unfold evCs;rw [h0 0 (by omega)];rfl)
   simpa using this
 · have:=hc (k*3+1) (.int .i64 e.2.1) (by unfold evCs;rw [h0 1 (by omega)];rfl)
   rwa [show off+(k*3+1)=off+k*3+1 by omega] at this
 · have:=hc (k*3+2) (.int .i64 e.2.2) (by unfold evCs;rw [h0 2 (by omega)];rfl)
   rwa [show off+(k*3+2)=off+k*3+2 by omega] at this
end
end Go.Proofs.YtfljlmleiggmjaaGreatDoor
