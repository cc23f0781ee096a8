/- SeqEv SeqX TraceOne TraceCol -/
import Derived.ChangeAlike
import Derived.Deep.AppendLies
import Derived.LoopIn
import Derived.LoopNIn
import Derived.OwnWalkIn
import Derived.RangeFuncBound
import Derived.RangeFuncCalls
import Derived.RangeFuncLeaves
import Derived.RangeFuncNested
import Derived.Shelf.Abstract
import Derived.Shelf.RegionOpen
import Derived.TacticsInMore
import Derived.Test.YthnenedoblncjaaGreatDoorPkP02
set_option maxRecDepth 1000000
set_option maxHeartbeats 8000000
namespace Go.Proofs.YthnenedoblncjaaGreatDoor
section
open Go.RowKit
def encEv (e:Ev):Array Value:=#[.agg #[.int .i64 e.1,.int .i64 e.2.1,.int .i64 e.2.2]]
def CellB (W:World) (k:Nat):Prop:=∃ o:Obj,W.heap[k]?=some o∧o.isCells=true
structure Stirs (B:Nat) (R:Nat→Prop) (W W':World):Prop where
 os:W'.os=W.os
 tape:W'.tape=W.tape
 output:W'.output=W.output
 size:W.heap.size≤W'.heap.size
 block:∀ k,k<W.heap.size→(k<B∨¬ R k∧CellB W k)→W'.heap[k]?=W.heap[k]?
section
variable {B B':Nat} {R R':Nat→Prop} {W W' W'':World}
theorem Stirs.refl (B:Nat) (R:Nat→Prop) (W:World):Stirs B R W W:=⟨rfl,rfl,rfl,Nat.le_refl _,fun _ _ _=>rfl⟩
theorem Stirs.of_below (h:Below W.heap.size W W') (B:Nat) (R:Nat→Prop):Stirs B R W W':=⟨h.os,h.tape,h.output,h.size,fun k hk _=>h.block k hk⟩
theorem Stirs.trans (h:Stirs B R W W') (k:Stirs B R' W' W'') (hR:∀ j,R' j→R j∨W.heap.size≤j):Stirs B R W W'' :=
 ⟨k.os.trans h.os,k.tape.trans h.tape,k.output.trans h.output,Nat.le_trans h.size k.size,fun j hj hc=>by
   have e:=h.block j hj hc
   refine (k.block j (Nat.lt_of_lt_of_le hj h.size) ?_).trans e
   rcases hc with hc | ⟨hn,o,ho,hoc⟩
   · exact .inl hc
   · refine .inr ⟨fun hr=>?_,o,e.trans ho,hoc⟩
     rcases hR j hr with h1 | h1
     · exact hn h1
     · omega⟩
theorem Stirs.mono (h:Stirs B' R W W') (hB:B≤B'):Stirs B R W W' :=
 ⟨h.os,h.tape,h.output,h.size,fun k hk hc=>h.block k hk (by rcases hc with hc | hc;exact .inl (by omega);exact .inr hc)⟩
theorem Stirs.put {l:Nat} {o:Obj} (hB:B≤l) (hl:W.heap[l]?=some o) (hn:o.isCells=false) (R:Nat→Prop) (o':Obj):Stirs B R W (W.putObj l o') :=
 ⟨rfl,rfl,rfl,by simp,fun k _ hc=>World.putObj_heap_other fun e=>by
   subst e
   rcases hc with hc | ⟨_,o2,h2,h3⟩
   · omega
   · rw [hl] at h2;cases h2;rw [hn] at h3;cases h3⟩
theorem Stirs.set {b:Nat} (hB:B≤b) (hb:R b) (W:World) (o:Nat) (v:Value):Stirs B R W (W.setCell ⟨b,o,none⟩ v) :=
 ⟨rfl,rfl,rfl,Nat.le_of_eq (World.size_setCell ..).symm,fun k _ hc=>Below.heap_setCell W ⟨b,o,none⟩ v k fun e=>by
   have e:k=b:=e
   subst e
   rcases hc with hc | hc
   · omega
   · exact hc.1 hb⟩
end
def Rests {α:Type} (B:Nat) (J:(Nat→Prop)→List α→World→Prop):Prop :=
 ∀ R R' s W W',J R s W→Stirs B R W W'→(∀ k,R' k→(R k∨W.heap.size≤k)∧k<W'.heap.size)→J R' s W'
theorem Rests.mono {α:Type} {B B':Nat} {J:(Nat→Prop)→List α→World→Prop} (h:Rests B J) (hB:B≤B'):Rests B' J :=
 fun R R' s W W' hj hs hR=>h R R' s W W' hj (hs.mono hB) hR
def Yields {α:Type} (P:Program) (ok:α→Prop) (encs:α→Array Value) (l:Nat) (N:Nat) (J:(Nat→Prop)→List α→World→Prop) (Jx:(Nat→Prop)→World→Prop):Prop :=
 ∀ (m:Nat) (R:Nat→Prop) pre x W1,(∀ k,R k→k<W1.heap.size)→J R pre W1→pre.length<N→ok x→YieldAt Fence.wide m P l (encs x) W1 fun e W' =>
   (e=.returned (.bool true)∧J R (pre++[x]) W'∧KeepP R W1 W')∨(e=.returned (.bool false)∧Jx R W'∧KeepP R W1 W')
def SeqG {α:Type} (P:Program) (ok:α→Prop) (encs:α→Array Value) (K:Nat→Prop) (gf:Nat) (lb:Array Value) (S:List α→Prop) (N:Nat) (w:World):Prop :=
 ∀ (l:Nat) (J:(Nat→Prop)→List α→World→Prop) (Jx:(Nat→Prop)→World→Prop) (R:Nat→Prop) (W:World),KeepP K w W→(∀ k,K k→R k)→(∀ k,R k→k<W.heap.size) →
   Rests W.heap.size J→Rests W.heap.size (fun R (_:List α) W=>Jx R W)→Yields P ok encs l N J Jx→J R [] W →
   Calls P gf (#[.func (.yield l) #[] #[]]++lb) W fun e W'=>(∃ v,e=.returned v)∧((∃ ys,S ys∧J R ys W')∨Jx R W')
def SeqAt (P:Program) (K:Nat→Prop) (gf:Nat) (lb:Array Value) (es:List Ev) (w:World):Prop:=SeqG P (fun e:Ev=>I64w e.1) encEv K gf lb (fun ys=>ys=es) es.length w
def EvSeq (K:Nat→Prop) (fv:Value) (es:List Ev) (w:World):Prop :=
 ∃ gf lb,fv=.func (.func gf) #[] lb∧(∀ args w,(callFunc gf args).run Tryz.prog w=.ok (.enter gf args) w)∧SeqAt Tryz.prog K gf lb es w
theorem EvSeq.kept {K:Nat→Prop} {fv:Value} {es:List Ev} {w w':World} (h:EvSeq K fv es w) (hk:KeepP K w w'):EvSeq K fv es w':=by
 obtain ⟨gf,lb,h1,h2,h3⟩:=h
 exact ⟨gf,lb,h1,h2,fun l J Jx R W hW=>h3 l J Jx R W (hk.trans hW)⟩
theorem EvSeq.mono {K K':Nat→Prop} {fv:Value} {es:List Ev} {w:World} (h:EvSeq K fv es w) (hK:∀ k,K k→K' k):EvSeq K' fv es w:=by
 obtain ⟨gf,lb,h1,h2,h3⟩:=h
 exact ⟨gf,lb,h1,h2,fun l J Jx R W hW hR=>h3 l J Jx R W (hW.mono hK) (fun k h=>hR k (hK k h))⟩
theorem RoundIn.wide {m n:Nat} {P:Program} {l:Nat} {f:FuncId} {tmps:Array Value} {assign body:Code} {w:World} {R:Ending→World→Prop} (h:RoundIn Fence.wide n P l f tmps assign body w R):RoundIn Fence.wide m P l f tmps assign body w R :=
 ⟨trivial,fun c cs _=>h.2 c cs (room_wide _)⟩
def Bk (R:Nat→Prop) (s:Nat) (k:Nat):Prop:=R k∨k=s∨k=s+1
def seqPost {α:Type} (s:Nat) (I:(Nat→Prop)→List α→World→Prop) (Ix:Code→(Nat→Prop)→World→Prop) (R:Nat→Prop) (xs:List α) (W:World):Exit→Act→World→Prop
 | .normal,_,W'=>KeepP (Bk R s) W W'∧I R xs W'
 | .ret,_,W'=>KeepP (Bk R s) W W'∧Ix .ret R W'
 | .exit id,_,W'=>KeepP (Bk R s) W W'∧Ix (.exit id) R W'
 | .goto t,_,W'=>KeepP (Bk R s) W W'∧Ix (.goto t) R W'
 | .panic _,_,_=>False
 | .outgrown,_,_=>False
def Marks (lo:Nat):List Deferred→World→Prop
 | [],_=>True
 | d::ds,W=>∃ r,d={ target:=.collected r,args:=#[] }∧lo≤r∧W.heap[r]?=some (.deferred (some []))∧(∀ r',{ target:=.collected r',args:=#[] }∈ds→r'<r)∧Marks lo ds W
theorem Marks.keep {lo:Nat} {W W':World}:∀ {ds:List Deferred},Marks lo ds W→(∀ r,{ target:=.collected r,args:=#[] }∈ds→W'.heap[r]?=W.heap[r]?)→Marks lo ds W'
 | [],_,_=>trivial
 | d::ds,⟨r,hd,h1,h2,h3,h4⟩,hk=>⟨r,hd,h1,(hk r (by rw [hd];exact List.mem_cons_self ..)).trans h2,h3,h4.keep fun r' h=>hk r' (List.mem_cons_of_mem _ h)⟩
theorem Marks.lt {lo:Nat} {W:World}:∀ {ds:List Deferred},Marks lo ds W→∀ r,{ target:=.collected r,args:=#[] }∈ds→lo≤r∧W.heap[r]?=some (.deferred (some []))
 | [],_,r,h=>by cases h
 | d::ds,⟨r0,hd,h1,h2,h3,h4⟩,r,h=>by
   rcases List.mem_cons.1 h with h | h
   · rw [hd] at h
     have:r=r0:=by injection h with h _;injection h
     subst this
     exact ⟨h1,h2⟩
   · exact h4.lt r h
end
section
open Go.RowKit
structure StirsX (B:Nat) (X R:Nat→Prop) (W W':World):Prop where
 os:W'.os=W.os
 tape:W'.tape=W.tape
 output:W'.output=W.output
 size:W.heap.size≤W'.heap.size
 block:∀ k,k<W.heap.size→¬ X k→(k<B∨¬ R k∧CellB W k)→W'.heap[k]?=W.heap[k]?
section
variable {B B':Nat} {X R R':Nat→Prop} {W W' W'':World}
theorem StirsX.of (h:Stirs B R W W'):StirsX B X R W W':=⟨h.os,h.tape,h.output,h.size,fun k hk _ hc=>h.block k hk hc⟩
theorem StirsX.of_below (h:Below W.heap.size W W') (B:Nat) (X R:Nat→Prop):StirsX B X R W W':=⟨h.os,h.tape,h.output,h.size,fun k hk _ _=>h.block k hk⟩
theorem StirsX.mono (h:StirsX B' X R W W') (hB:B≤B'):StirsX B X R W W' :=
 ⟨h.os,h.tape,h.output,h.size,fun k hk hx hc=>h.block k hk hx (by rcases hc with hc | hc;exact .inl (by omega);exact .inr hc)⟩
theorem StirsX.put {l:Nat} {o:Obj} (hB:B≤l) (hl:W.heap[l]?=some o) (hn:o.isCells=false) (X R:Nat→Prop) (o':Obj):StirsX B X R W (W.putObj l o'):=.of (Stirs.put hB hl hn R o')
theorem StirsX.setX {b:Nat} (hb:X b) (B:Nat) (R:Nat→Prop) (W:World) (o:Nat) (v:Value):StirsX B X R W (W.setCell ⟨b,o,none⟩ v) :=
 ⟨rfl,rfl,rfl,Nat.le_of_eq (World.size_setCell ..).symm,fun k _ hx _=>Below.heap_setCell W ⟨b,o,none⟩ v k fun e=>by
   have e:k=b:=e
   subst e
   exact hx hb⟩
end
def RestsX {α:Type} (B:Nat) (X:Nat→Prop) (J:(Nat→Prop)→List α→World→Prop):Prop :=
 ∀ R R' s W W',J R s W→StirsX B X R W W'→(∀ k,R' k→(R k∨W.heap.size≤k)∧k<W'.heap.size)→J R' s W'
def SeqX {α:Type} (P:Program) (ok:α→Prop) (encs:α→Array Value) (K X:Nat→Prop) (gf:Nat) (lb:Array Value) (S:List α→Prop) (N:Nat) (w:World):Prop :=
 ∀ (l:Nat) (J:(Nat→Prop)→List α→World→Prop) (Jx:(Nat→Prop)→World→Prop) (R:Nat→Prop) (W:World),KeepP K w W→(∀ k,K k→R k)→(∀ k,R k→k<W.heap.size) →
   RestsX W.heap.size X J→RestsX W.heap.size X (fun R (_:List α) W=>Jx R W)→Yields P ok encs l N J Jx→J R [] W →
   Calls P gf (#[.func (.yield l) #[] #[]]++lb) W fun e W'=>(∃ v,e=.returned v)∧((∃ ys,S ys∧J R ys W')∨Jx R W')
theorem wpIn_range_seqX {α:Type} {ok:α→Prop} {encs:α→Array Value} {S:List α→Prop} {N:Nat} {n:Nat} {P:Program} {g:Operand} {ps:Array Tmp} {assign body:Code} {Q:Exit→Act→World→Prop} {a:Act} {w:World} {gf:Nat} {lb:Array Value} {K X:Nat→Prop}
 (hg:a.eval g=.func (.func gf) #[] lb) (eg:∀ args w,(callFunc gf args).run P w=.ok (.enter gf args) w) (hseq:SeqX P ok encs K X gf lb S N w) (hX:∀ k,X k→k<w.heap.size) (hK:∀ k,K k→k<w.heap.size) (hps:∀ x,(encs x).size=ps.size)
 (I:(Nat→Prop)→List α→World→Prop) (Ix:Code→(Nat→Prop)→World→Prop) (hI:RestsX w.heap.size X I) (hIx:∀ c,RestsX w.heap.size X (fun R (_:List α) W=>Ix c R W)) (h0:I K [] w)
 (hround:∀ (R:Nat→Prop) pre x W,(∀ k,R k→k<W.heap.size)→¬ R (w.heap.size+1)→w.heap.size+1<W.heap.size→(∃ r,W.heap[w.heap.size+1]?=some (.loop r))→I R pre W→pre.length<N→ok x →
   assign.wpIn (Fence.wide.inRound (w.heap.size+1)) 2 P (Exit.then (fun a' W1=>KeepP (Bk R w.heap.size) W W1∧∀ o:Loop,body.wpIn (Fence.wide.inRound (w.heap.size+1)) 2 P (seqPost w.heap.size I Ix R (pre++[x]) (W1.putObj (w.heap.size+1) (.loop o))) a' (W1.putObj (w.heap.size+1) (.loop o))) (fun _ _ _=>False))
    { tmps:=(ps.zip (encs x)).foldl (fun t (p,v)=>t.setIfInBounds p v) a.tmps,defers:=[] } W)
 (hdone:∀ ys W,S ys→I K ys W→W.heap[w.heap.size]?=some (.deferred (some []))→w.heap.size+1<W.heap.size→Q .normal { a with defers:={ target:=.collected w.heap.size,args:=#[] }::a.defers } W)
 (hstop:∀ (c:Code) W,Ix c K W→W.heap[w.heap.size]?=some (.deferred (some []))→w.heap.size+1<W.heap.size→c.wpIn Fence.wide n P Q { a with defers:={ target:=.collected w.heap.size,args:=#[] }::a.defers } W) :
 (Code.rangeFunc g ps assign body).wpIn Fence.wide n P Q a w:=by
 obtain ⟨s,hs⟩:∃ s,s=w.heap.size:=⟨_,rfl⟩
 rw [← hs] at hround hdone hstop hX
 have hX0:¬ X s:=fun h=>by have:=hX _ h;omega
 have hX1:¬ X (s+1):=fun h=>by have:=hX _ h;omega
 refine wpIn_rangeFunc ?_
 intro fn hfn
 obtain ⟨rec,hrec⟩:∃ rec:LoopState→Option Code→Loop,rec=fun st pe=>{ state:=st,pending:=pe,fn,tmps:=a.tmps,params:=ps,assign,body,defers:=s }:=⟨_,rfl⟩
 obtain ⟨W1,hW1⟩:∃ W1,(w.alloc (.deferred (some []))).alloc (.loop (rec .ready none))=W1:=⟨_,rfl⟩
 have hz1:W1.heap.size=s+2:=by rw [← hW1,hs];simp
 have hL1:W1.heap[s+1]?=some (.loop (rec .ready none)):=by
  rw [← hW1,hs];have:=World.alloc_heap_new (w.alloc (.deferred (some []))) (.loop (rec .ready none));rwa [World.size_alloc] at this
 have hD1:W1.heap[s]?=some (.deferred (some [])):=by
  rw [← hW1,hs];exact (Below.heap_alloc _ _ _ (by simp)).trans (World.alloc_heap_new w _)
 have hb1:Below w.heap.size w W1:=by
  rw [← hW1];exact ((Below.refl _ w).alloc (Nat.le_refl _) _).alloc (by simp) _
 have hI1:I K [] W1:=hI K K [] w W1 h0 (StirsX.of_below hb1 _ _ _) (fun k hk=>⟨.inl hk,Nat.lt_of_lt_of_le (hK k hk) hb1.size⟩)
 refine ⟨s+1,[{ target:=.collected s,args:=#[] }],W1,{ target:=.fn (.func gf) lb,args:=#[.func (.yield (s+1)) #[] #[]] },W1,gf,
  #[.func (.yield (s+1)) #[] #[]]++lb,W1,?_,?_,?_,?_,(fun h=>by cases h),?_⟩
 · rw [← hW1,hrec,hs];exact run_enterLoop_outer _ _ _ _ _
 · simp only [resolve,hg]
   simp [go_sem]
 · intro f' _;trivial
 · simp [invoke,go_sem,eg]
 · refine callsIn_wide.2 ((hseq (s+1)
    (fun R pre W=>I R pre W∧¬ R (s+1)∧W.heap[s+1]?=some (.loop (rec .ready none))∧W.heap[s]?=some (.deferred (some [])))
    (fun R W=>¬ R (s+1)∧∃ c,Ix c R W∧W.heap[s+1]?=some (.loop (rec .done (some c)))∧W.heap[s]?=some (.deferred (some [])))
    K W1 (KeepP.of_below hb1 hK) (fun _ h=>h) (fun k hk=>Nat.lt_of_lt_of_le (hK k hk) hb1.size) ?_ ?_ ?_ ⟨hI1,fun h=>by have:=hK _ h;omega,hL1,hD1⟩).mono ?_)
   · rintro R R' t X Y ⟨hi,hn,hl,hd⟩ hst hR
     have hlt:s+1<X.heap.size:=(Array.getElem?_eq_some_iff.1 hl).1
     refine ⟨hI R R' t X Y hi (hst.mono (by omega)) hR,fun h=>?_,(hst.block _ hlt hX1 (.inl (by omega))).trans hl,(hst.block _ (by omega) hX0 (.inl (by omega))).trans hd⟩
     rcases (hR _ h).1 with h | h
     · exact hn h
     · omega
   · rintro R R' t X Y ⟨hn,c,hi,hl,hd⟩ hst hR
     have hlt:s+1<X.heap.size:=(Array.getElem?_eq_some_iff.1 hl).1
     refine ⟨fun h=>?_,c,hIx c R R' t X Y hi (hst.mono (by omega)) hR,(hst.block _ hlt hX1 (.inl (by omega))).trans hl,(hst.block _ (by omega) hX0 (.inl (by omega))).trans hd⟩
     rcases (hR _ h).1 with h | h
     · exact hn h
     · omega
   · rintro m R pre x W hR ⟨hi,hn,hl,hd⟩ hpre hok
     have hlt:s+1<W.heap.size:=(Array.getElem?_eq_some_iff.1 hl).1
     have hy:=run_yield (P:=P) (args:=encs x) hl (by rw [hrec];exact hps x)
     rw [hrec] at hy
     refine ⟨fn,_,assign,body,hy,RoundIn.wide (n:=2) (roundIn_of_wpIn hfn (wpIn_mono (hround R pre x W hR hn hlt ⟨_,hl⟩ hi hpre hok) ?_))⟩
     clear hy
     intro e a' Wa he
     cases e with
     | normal =>
       obtain ⟨hka,hbody⟩:=he
       have hla:Wa.heap[s+1]?=some (.loop (rec .ready none)):=(hka.block _ (.inr (.inr rfl))).trans hl
       have hda:Wa.heap[s]?=some (.deferred (some [])):=(hka.block _ (.inr (.inl rfl))).trans hd
       have hlta:s+1<Wa.heap.size:=Nat.lt_of_lt_of_le hlt hka.size
       refine ⟨_,run_beginRound hla (by rw [hrec]),wpIn_mono (hbody _) ?_⟩
       have hl2:(Wa.putObj (s+1) (.loop { rec .ready none with state:=.busy })).heap[s+1]?=some (.loop { rec .ready none with state:=.busy }):=World.putObj_heap_same hlta
       have hd2:(Wa.putObj (s+1) (.loop { rec .ready none with state:=.busy })).heap[s]?=some (.deferred (some [])):=(World.putObj_heap_other (by omega)).trans hda
       have hk2:KeepP R Wa (Wa.putObj (s+1) (.loop { rec .ready none with state:=.busy })):=KeepP.putObj _ hn _
       have hkR:KeepP R W Wa:=hka.mono fun k h=>.inl h
       have fin:∀ (jump:Option Code) (W3:World),KeepP (Bk R s) (Wa.putObj (s+1) (.loop { rec .ready none with state:=.busy })) W3 →
        (Instr.endRound (s+1) jump).run P W3=.ok (.bool jump.isNone) (W3.putObj (s+1) (.loop (rec (if jump.isNone then .ready else .done) jump))) ∧
        W3.heap[s+1]?=some (.loop { rec .ready none with state:=.busy }) ∧
        (W3.putObj (s+1) (.loop (rec (if jump.isNone then .ready else .done) jump))).heap[s+1]?=some (.loop (rec (if jump.isNone then .ready else .done) jump)) ∧
        (W3.putObj (s+1) (.loop (rec (if jump.isNone then .ready else .done) jump))).heap[s]?=some (.deferred (some [])) ∧
        KeepP R W (W3.putObj (s+1) (.loop (rec (if jump.isNone then .ready else .done) jump))):=fun jump W3 hk3=>by
        have hl3:=(hk3.block _ (.inr (.inr rfl))).trans hl2
        have:=run_endRound (P:=P) jump hl3
        rw [hrec] at this ⊢
        exact ⟨this,by rw [hrec] at hl3;exact hl3,World.putObj_heap_same (Array.getElem?_eq_some_iff.1 hl3).1,(World.putObj_heap_other (by omega)).trans ((hk3.block _ (.inr (.inl rfl))).trans hd2),(hkR.trans (hk2.trans (hk3.mono fun k h=>.inl h))).trans (KeepP.putObj _ hn _)⟩
       have hRs:∀ {W3:World},KeepP R W W3→∀ k,R k→(R k∨W3.heap.size≤k)∧k<W3.heap.size:=fun h k hk=>⟨.inl hk,Nat.lt_of_lt_of_le (hR k hk) h.size⟩
       rintro e a3 W3 hp
       cases e with
       | normal =>
         obtain ⟨hk3,hi3⟩:=hp
         obtain ⟨hr,hl3,hl4,hd4,hk4⟩:=fin none W3 hk3
         exact ⟨_,_,hr,.inl ⟨rfl,⟨hI R R _ W3 _ hi3 (StirsX.put (by omega) hl3 rfl X R _) (fun k hk=>⟨.inl hk,(hRs hk4 k hk).2⟩),hn,hl4,hd4⟩,hk4⟩⟩
       | ret =>
         obtain ⟨hk3,hi3⟩:=hp
         obtain ⟨hr,hl3,hl4,hd4,hk4⟩:=fin (some .ret) W3 hk3
         exact ⟨_,_,hr,.inr ⟨rfl,⟨hn,.ret,hIx _ R R [] W3 _ hi3 (StirsX.put (by omega) hl3 rfl X R _) (fun k hk=>⟨.inl hk,(hRs hk4 k hk).2⟩),hl4,hd4⟩,hk4⟩⟩
       | exit id =>
         obtain ⟨hk3,hi3⟩:=hp
         obtain ⟨hr,hl3,hl4,hd4,hk4⟩:=fin (some (.exit id)) W3 hk3
         exact ⟨_,_,hr,.inr ⟨rfl,⟨hn,.exit id,hIx _ R R [] W3 _ hi3 (StirsX.put (by omega) hl3 rfl X R _) (fun k hk=>⟨.inl hk,(hRs hk4 k hk).2⟩),hl4,hd4⟩,hk4⟩⟩
       | goto t =>
         obtain ⟨hk3,hi3⟩:=hp
         obtain ⟨hr,hl3,hl4,hd4,hk4⟩:=fin (some (.goto t)) W3 hk3
         exact ⟨_,_,hr,.inr ⟨rfl,⟨hn,.goto t,hIx _ R R [] W3 _ hi3 (StirsX.put (by omega) hl3 rfl X R _) (fun k hk=>⟨.inl hk,(hRs hk4 k hk).2⟩),hl4,hd4⟩,hk4⟩⟩
       | panic ch=>exact hp.elim
       | outgrown=>exact hp.elim
     | exit id=>exact he
     | goto t=>exact he
     | ret=>exact he
     | panic ch=>exact he
     | outgrown=>exact he
   · rintro e W2 ⟨⟨v,rfl⟩,(⟨ys,hS,hi,hn,hl,hd⟩ | ⟨hn,c,hi,hl,hd⟩)⟩
     · have hlt:s+1<W2.heap.size:=(Array.getElem?_eq_some_iff.1 hl).1
       refine ⟨none,_,by have:=run_endLoop (P:=P) hl (by rw [hrec];simp);rw [hrec] at this;exact this,?_⟩
       exact hdone ys _ hS (hI K K _ W2 _ hi (StirsX.put (by omega) hl rfl X K _) (fun k hk=>⟨.inl hk,by have:=hK k hk;simp;omega⟩)) ((World.putObj_heap_other (by omega)).trans hd) (by simpa using hlt)
     · have hlt:s+1<W2.heap.size:=(Array.getElem?_eq_some_iff.1 hl).1
       refine ⟨some c,_,by have:=run_endLoop (P:=P) hl (by rw [hrec];simp);rw [hrec] at this;exact this,?_⟩
       exact hstop c _ (hIx c K K [] W2 _ hi (StirsX.put (by omega) hl rfl X K _) (fun k hk=>⟨.inl hk,by have:=hK k hk;simp;omega⟩)) ((World.putObj_heap_other (by omega)).trans hd) (by simpa using hlt)
end
section
open Go.RowKit Go.Shelf
attribute [local go_sem] Oper.semAt_some
end
section
open Go.RowKit Go.Shelf
attribute [local go_sem] Oper.semAt_some
end
end Go.Proofs.YthnenedoblncjaaGreatDoor
