/- SeqEv SeqX TraceOne TraceCol -/
import Derived.Deep.AppendLies
import Derived.LoopIn
import Derived.LoopNIn
import Derived.OwnWalkIn
import Derived.RangeFuncBound
import Derived.RangeFuncCalls
import Derived.RangeFuncLeaves
import Derived.RangeFuncNested
import Derived.Shelf.Abstract
import Derived.Shelf.RegionOpen
import Derived.TacticsInMore
import Derived.Test.YthnenedoblncjaaGreatDoorPkR03
set_option maxRecDepth 1000000
set_option maxHeartbeats 8000000
namespace Go.Proofs.YthnenedoblncjaaGreatDoor
open Go.Proofs.Tryz
section
open Go.RowKit
def Gv(e:Ev):Array Value:=#[.agg #[.int .i64 e.1,.int .i64 e.2.1,.int .i64 e.2.2]]
def P8(W:World)(k:Nat):Prop:=∃ o:Obj,W.heap[k]?=some o/\o.isCells=true
structure Zi(B:Nat)(R:Nat->Prop)(W W':World):Prop where
 os:W'.os=W.os
 tape:W'.tape=W.tape
 output:W'.output=W.output
 size:W.heap.size<=W'.heap.size
 block:∀ k,k<W.heap.size->(k<B\/¬ R k/\P8 W k)->W'.heap[k]?=W.heap[k]?
section
variable {B B':Nat}{R R':Nat->Prop}{W W' W'':World}
theorem Zi.refl(B:Nat)(R:Nat->Prop)(W:World):Zi B R W W:=⟨rfl,rfl,rfl,Nat.le_refl _,fun _ _ _=>rfl⟩
theorem Zi.of_below(h:Below W.heap.size W W')(B:Nat)(R:Nat->Prop):Zi B R W W':=⟨h.os,h.tape,h.output,h.size,fun k hk _=>h.block k hk⟩
theorem Zi.trans(h:Zi B R W W')(k:Zi B R' W' W'')(hR:∀ j,R' j->R j\/W.heap.size<=j):Zi B R W W'' :=
 ⟨k.os.trans h.os,k.tape.trans h.tape,k.output.trans h.output,Nat.le_trans h.size k.size,fun j hj hc=>by
   have e:=h.block j hj hc;refine (k.block j (Nat.lt_of_lt_of_le hj h.size) ?_).trans e;rcases hc with hc|⟨hn,o,ho,hoc⟩
   · exact .inl hc
   · refine .inr ⟨fun hr=>?_,o,e.trans ho,hoc⟩;rcases hR j hr with h1|h1
     · exact hn h1
     · omega⟩
theorem Zi.mono(h:Zi B' R W W')(hB:B<=B'):Zi B R W W' :=
 ⟨h.os,h.tape,h.output,h.size,fun k hk hc=>h.block k hk (by rcases hc with hc|hc;exact .inl (by omega);exact .inr hc)⟩
theorem Zi.put{l:Nat}{o:Obj}(hB:B<=l)(hl:W.heap[l]?=some o)(hn:o.isCells=false)(R:Nat->Prop)(o':Obj):Zi B R W (W.putObj l o') :=
 ⟨rfl,rfl,rfl,by simp,fun k _ hc=>World.putObj_heap_other fun e=>by
   subst e;rcases hc with hc|⟨_,o2,h2,h3⟩
   · omega
   · rw [hl] at h2;cases h2;rw [hn] at h3;cases h3⟩
theorem Zi.set{b:Nat}(hB:B<=b)(hb:R b)(W:World)(o:Nat)(v:Value):Zi B R W (W.setCell ⟨b,o,none⟩ v) :=
 ⟨rfl,rfl,rfl,Nat.le_of_eq (World.size_setCell ..).symm,fun k _ hc=>Below.heap_setCell W ⟨b,o,none⟩ v k fun e=>by
   have e:k=b:=e;subst e;rcases hc with hc|hc
   · omega
   · exact hc.1 hb⟩
end
def Ut{α:Type}(B:Nat)(J:(Nat->Prop)->List α->World->Prop):Prop :=
 ∀ R R' s W W',J R s W->Zi B R W W'->(∀ k,R' k->(R k\/W.heap.size<=k)/\k<W'.heap.size)->J R' s W'
theorem Ut.mono{α:Type}{B B':Nat}{J:(Nat->Prop)->List α->World->Prop}(h:Ut B J)(hB:B<=B'):Ut B' J :=
 fun R R' s W W' hj hs hR=>h R R' s W W' hj (hs.mono hB) hR
def Yields{α:Type}(P:Program)(ok:α->Prop)(encs:α->Array Value)(l:Nat)(N:Nat)(J:(Nat->Prop)->List α->World->Prop)(Jx:(Nat->Prop)->World->Prop):Prop :=
 ∀ (m:Nat) (R:Nat->Prop) pre x W1,(∀ k,R k->k<W1.heap.size)->J R pre W1->pre.length<N->ok x->YieldAt Fence.wide m P l (encs x) W1 fun e W' =>
   (e=.returned (.bool true)/\J R (pre++[x]) W'/\Z9 R W1 W')\/(e=.returned (.bool false)/\Jx R W'/\Z9 R W1 W')
def zws{α:Type}(P:Program)(ok:α->Prop)(encs:α->Array Value)(K:Nat->Prop)(gf:Nat)(lb:Array Value)(S:List α->Prop)(N:Nat)(w:World):Prop :=
 ∀ (l:Nat) (J:(Nat->Prop)->List α->World->Prop) (Jx:(Nat->Prop)->World->Prop) (R:Nat->Prop) (W:World),Z9 K w W->(∀ k,K k->R k)->(∀ k,R k->k<W.heap.size) ->
   Ut W.heap.size J->Ut W.heap.size (fun R (_:List α) W=>Jx R W)->Yields P ok encs l N J Jx->J R [] W ->
   Calls P gf (#[.func (.yield l) #[] #[]]++lb) W fun e W'=>(∃ v,e=.returned v)/\((∃ ys,S ys/\J R ys W')\/Jx R W')
def Ab(P:Program)(K:Nat->Prop)(gf:Nat)(lb:Array Value)(es:List Ev)(w:World):Prop:=zws P (fun e:Ev=>Zg e.1) Gv K gf lb (fun ys=>ys=es) es.length w
theorem Jc{α:Type}{P:Program}{encs:α->Array Value}{PE:Nat->Prop}{gf:Nat}{lb:Array Value}{S Sp:List α->Prop}{N:Nat}{w:World}(h:∀ W,Z9 PE w W->SeqStopsK Fence.wide 5 P gf lb encs (Z9 PE) S Sp N W):
 zws P (fun _=>True) encs PE gf lb S N w:=by
 intro l J Jx R W hk zR GQ hJ hJx hY h0;have hab:∀ {A B:World} {row:Option Nat},A.grownBy B row->(∀ r,row=some r->W.heap.size<=r/\∃ o:Obj,A.heap[r]?=some o/\o.isWalk=true)->Zi W.heap.size R A B:=fun {A B row} hg hr =>
  ⟨hg.os,hg.tape,hg.output,hg.size,fun k hkl hc=>hg.block k hkl fun e=>by
    obtain ⟨h1,o,ho,hw⟩:=hr k e.symm;rcases hc with hc|⟨_,o2,ho2,hc2⟩
    · omega
    · rw [ho] at ho2;cases ho2;rw [Obj.not_cells_of_walk hw] at hc2;cases hc2⟩
 refine callsIn_wide.1 ((h W hk l (fun pre X=>J R pre X/\∀ k,R k->k<X.heap.size) (fun _ X=>Jx R X/\∀ k,R k->k<X.heap.size) W (Below.refl _ _)
  (fun s A B row hs hg hr=>⟨hJ R R s A B hs.1 (hab hg hr) fun k hk=>⟨.inl hk,Nat.lt_of_lt_of_le (hs.2 k hk) hg.size⟩,fun k hk=>Nat.lt_of_lt_of_le (hs.2 k hk) hg.size⟩)
  (fun s A B row hs hg hr=>⟨hJx R R s A B hs.1 (hab hg hr) fun k hk=>⟨.inl hk,Nat.lt_of_lt_of_le (hs.2 k hk) hg.size⟩,fun k hk=>Nat.lt_of_lt_of_le (hs.2 k hk) hg.size⟩) ?_ ⟨h0,GQ⟩).mono ?_)
 · intro pre x W1 hj hl;refine (hY 4 R pre x W1 hj.2 hj.1 hl trivial).mono fun e w' h=>?_;rcases h with ⟨h1,h2,h3⟩|⟨h1,h2,h3⟩
   · exact .inl ⟨h1,⟨h2,fun k hk=>Nat.lt_of_lt_of_le (hj.2 k hk) h3.size⟩,h3.mono zR⟩
   · exact .inr ⟨h1,h2,fun k hk=>Nat.lt_of_lt_of_le (hj.2 k hk) h3.size⟩
 · rintro e W' ⟨hv,⟨ys,hS,hj⟩|⟨_,_,hj⟩⟩
   · exact ⟨hv,.inl ⟨ys,hS,hj.1⟩⟩
   · exact ⟨hv,.inr hj.1⟩
def Yn(K:Nat->Prop)(fv:Value)(es:List Ev)(w:World):Prop :=
 ∃ gf lb,fv=.func (.func gf) #[] lb/\(∀ args w,(callFunc gf args).run prog w=.ok (.enter gf args) w)/\Ab prog K gf lb es w
theorem Yn.kept{K:Nat->Prop}{fv:Value}{es:List Ev}{w w':World}(h:Yn K fv es w)(hk:Z9 K w w'):Yn K fv es w':=by
 obtain ⟨gf,lb,h1,h2,h3⟩:=h;exact ⟨gf,lb,h1,h2,fun l J Jx R W hW=>h3 l J Jx R W (hk.trans hW)⟩
theorem Yn.mono{K K':Nat->Prop}{fv:Value}{es:List Ev}{w:World}(h:Yn K fv es w)(hK:∀ k,K k->K' k):Yn K' fv es w:=by
 obtain ⟨gf,lb,h1,h2,h3⟩:=h;exact ⟨gf,lb,h1,h2,fun l J Jx R W hW hR=>h3 l J Jx R W (hW.mono hK) (fun k h=>hR k (hK k h))⟩
theorem RoundIn.wide{m n:Nat}{P:Program}{l:Nat}{f:FuncId}{tmps:Array Value}{assign body:Code}{w:World}{R:Ending->World->Prop}(h:RoundIn Fence.wide n P l f tmps assign body w R):RoundIn Fence.wide m P l f tmps assign body w R :=
 ⟨trivial,fun c cs _=>h.2 c cs (room_wide _)⟩
theorem RoundIn.inRound'{n:Nat}{P:Program}{l:Nat}{f:FuncId}{tmps:Array Value}{assign body:Code}{w:World}{R:Ending->World->Prop}(k:Nat)(h:RoundIn Fence.wide n P l f tmps assign body w R):RoundIn (Fence.wide.inRound k) n P l f tmps assign body w R:=h
def Bk(R:Nat->Prop)(s:Nat)(k:Nat):Prop:=R k\/k=s\/k=s+1
def uV{α:Type}(s:Nat)(I:(Nat->Prop)->List α->World->Prop)(Ix:Code->(Nat->Prop)->World->Prop)(R:Nat->Prop)(xs:List α)(W:World):Exit->Act->World->Prop
 | .normal,_,W'=>Z9 (Bk R s) W W'/\I R xs W'
 | .ret,_,W'=>Z9 (Bk R s) W W'/\Ix .ret R W'
 | .exit id,_,W'=>Z9 (Bk R s) W W'/\Ix (.exit id) R W'
 | .goto t,_,W'=>Z9 (Bk R s) W W'/\Ix (.goto t) R W'
 | .panic _,_,_=>False
 | .outgrown,_,_=>False
theorem Vd {α:Type} {ok:α->Prop} {encs:α->Array Value} {S:List α->Prop} {N:Nat} {n:Nat} {P:Program} {g:Operand} {ps:Array Tmp} {assign body:Code} {Q:Exit->Act->World->Prop} {a:Act} {w:World} {gf:Nat} {lb:Array Value} {K:Nat->Prop}
 (hg:a.eval g=.func (.func gf) #[] lb) (eg:∀ args w,(callFunc gf args).run P w=.ok (.enter gf args) w) (hseq:zws P ok encs K gf lb S N w) (hK:∀ k,K k->k<w.heap.size) (hps:∀ x,(encs x).size=ps.size)
 (I:(Nat->Prop)->List α->World->Prop) (Ix:Code->(Nat->Prop)->World->Prop) (hI:Ut w.heap.size I) (hIx:∀ c,Ut w.heap.size (fun R (_:List α) W=>Ix c R W)) (h0:I K [] w)
 (Kn:∀ (R:Nat->Prop) pre x W,(∀ k,R k->k<W.heap.size)->¬ R (w.heap.size+1)->w.heap.size+1<W.heap.size->(∃ r,W.heap[w.heap.size+1]?=some (.loop r))->I R pre W->pre.length<N->ok x ->
   assign.wpIn (Fence.wide.inRound (w.heap.size+1)) 2 P (Exit.then (fun a' W1=>Z9 (Bk R w.heap.size) W W1/\∀ o:Loop,body.wpIn (Fence.wide.inRound (w.heap.size+1)) 2 P (uV w.heap.size I Ix R (pre++[x]) (W1.putObj (w.heap.size+1) (.loop o))) a' (W1.putObj (w.heap.size+1) (.loop o))) (fun _ _ _=>False))
    { tmps:=(ps.zip (encs x)).foldl (fun t (p,v)=>t.setIfInBounds p v) a.tmps,defers:=[] } W)
 (hdone:∀ ys W,S ys->I K ys W->W.heap[w.heap.size]?=some (.deferred (some []))->w.heap.size+1<W.heap.size->Q .normal { a with defers:={ target:=.collected w.heap.size,args:=#[] }::a.defers } W)
 (hstop:∀ (c:Code) W,Ix c K W->W.heap[w.heap.size]?=some (.deferred (some []))->w.heap.size+1<W.heap.size->c.wpIn Fence.wide n P Q { a with defers:={ target:=.collected w.heap.size,args:=#[] }::a.defers } W) :
 (Code.rangeFunc g ps assign body).wpIn Fence.wide n P Q a w:=by
 obtain ⟨s,hs⟩:=eE w.heap.size;rw [<- hs] at Kn hdone hstop;refine wpIn_rangeFunc ?_;intro fn hfn;obtain ⟨rec,hrec⟩:∃ rec:LoopState->Option Code->Loop,rec=fun st pe=>{ state:=st,pending:=pe,fn,tmps:=a.tmps,params:=ps,assign,body,defers:=s }:=⟨_,rfl⟩;obtain ⟨W1,hW1⟩:∃ W1,(w.alloc (.deferred (some []))).alloc (.loop (rec .ready none))=W1:=⟨_,rfl⟩;have hz1:W1.heap.size=s+2:=by rw [<- hW1,hs];simp
 have hL1:W1.heap[s+1]?=some (.loop (rec .ready none)):=by
  rw [<- hW1,hs];have:=World.alloc_heap_new (w.alloc (.deferred (some []))) (.loop (rec .ready none));rwa [World.size_alloc] at this
 have hD1:W1.heap[s]?=some (.deferred (some [])):=by
  rw [<- hW1,hs];exact (Below.heap_alloc _ _ _ (by simp)).trans (World.alloc_heap_new w _)
 have hb1:Below w.heap.size w W1:=by
  rw [<- hW1];exact ((Below.refl _ w).alloc (Nat.le_refl _) _).alloc (by simp) _
 have hI1:I K [] W1:=hI K K [] w W1 h0 (Zi.of_below hb1 _ _) (fun k hk=>⟨.inl hk,Nat.lt_of_lt_of_le (hK k hk) hb1.size⟩)
 refine ⟨s+1,[{ target:=.collected s,args:=#[] }],W1,{ target:=.fn (.func gf) lb,args:=#[.func (.yield (s+1)) #[] #[]] },W1,gf,
  #[.func (.yield (s+1)) #[] #[]]++lb,W1,?_,?_,?_,?_,(fun h=>by cases h),?_⟩
 · rw [<- hW1,hrec,hs];exact run_enterLoop_outer _ _ _ _ _
 · simp only [resolve,hg];simp [go_sem]
 · intro f' _;trivial
 · simp [invoke,go_sem,eg]
 · refine callsIn_wide.2 ((hseq (s+1)
    (fun R pre W=>I R pre W/\¬ R (s+1)/\W.heap[s+1]?=some (.loop (rec .ready none))/\W.heap[s]?=some (.deferred (some [])))
    (fun R W=>¬ R (s+1)/\∃ c,Ix c R W/\W.heap[s+1]?=some (.loop (rec .done (some c)))/\W.heap[s]?=some (.deferred (some [])))
    K W1 (Z9.of_below hb1 hK) (fun _ h=>h) (fun k hk=>Nat.lt_of_lt_of_le (hK k hk) hb1.size) ?_ ?_ ?_ ⟨hI1,fun h=>by have:=hK _ h;omega,hL1,hD1⟩).mono ?_)
   · rintro R R' t X Y ⟨hi,hn,hl,hd⟩ hst hR;have hlt:s+1<X.heap.size:=(Array.getElem?_eq_some_iff.1 hl).1;refine ⟨hI R R' t X Y hi (hst.mono (by omega)) hR,fun h=>?_,(hst.block _ hlt (.inl (by omega))).trans hl,(hst.block _ (by omega) (.inl (by omega))).trans hd⟩;rcases (hR _ h).1 with h|h
     · exact hn h
     · omega
   · rintro R R' t X Y ⟨hn,c,hi,hl,hd⟩ hst hR;have hlt:s+1<X.heap.size:=(Array.getElem?_eq_some_iff.1 hl).1;refine ⟨fun h=>?_,c,hIx c R R' t X Y hi (hst.mono (by omega)) hR,(hst.block _ hlt (.inl (by omega))).trans hl,(hst.block _ (by omega) (.inl (by omega))).trans hd⟩;rcases (hR _ h).1 with h|h
     · exact hn h
     · omega
   · rintro m R pre x W hR ⟨hi,hn,hl,hd⟩ hpre hok;have hlt:s+1<W.heap.size:=(Array.getElem?_eq_some_iff.1 hl).1;have hy:=run_yield (P:=P) (args:=encs x) hl (by rw [hrec];exact hps x);rw [hrec] at hy;refine ⟨fn,_,assign,body,hy,RoundIn.wide (n:=2) (roundIn_of_wpIn hfn (wpIn_mono (Kn R pre x W hR hn hlt ⟨_,hl⟩ hi hpre hok) ?_))⟩;clear hy;intro e a' Wa he;cases e with
     | normal =>
       obtain ⟨hka,hbody⟩:=he;have hla:Wa.heap[s+1]?=some (.loop (rec .ready none)):=(hka.block _ (.inr (.inr rfl))).trans hl;have hda:Wa.heap[s]?=some (.deferred (some [])):=(hka.block _ (.inr (.inl rfl))).trans hd;have zql:s+1<Wa.heap.size:=Nat.lt_of_lt_of_le hlt hka.size;refine ⟨_,run_beginRound hla (by rw [hrec]),wpIn_mono (hbody _) ?_⟩;have hl2:(Wa.putObj (s+1) (.loop { rec .ready none with state:=.busy })).heap[s+1]?=some (.loop { rec .ready none with state:=.busy }):=World.putObj_heap_same zql;have hd2:(Wa.putObj (s+1) (.loop { rec .ready none with state:=.busy })).heap[s]?=some (.deferred (some [])):=(World.putObj_heap_other (by omega)).trans hda;have hk2:Z9 R Wa (Wa.putObj (s+1) (.loop { rec .ready none with state:=.busy })):=Z9.putObj _ hn _;have hkR:Z9 R W Wa:=hka.mono fun k h=>.inl h
       have fin:∀ (jump:Option Code) (W3:World),Z9 (Bk R s) (Wa.putObj (s+1) (.loop { rec .ready none with state:=.busy })) W3 ->
        (Instr.endRound (s+1) jump).run P W3=.ok (.bool jump.isNone) (W3.putObj (s+1) (.loop (rec (if jump.isNone then .ready else .done) jump))) /\
        W3.heap[s+1]?=some (.loop { rec .ready none with state:=.busy }) /\
        (W3.putObj (s+1) (.loop (rec (if jump.isNone then .ready else .done) jump))).heap[s+1]?=some (.loop (rec (if jump.isNone then .ready else .done) jump)) /\
        (W3.putObj (s+1) (.loop (rec (if jump.isNone then .ready else .done) jump))).heap[s]?=some (.deferred (some [])) /\
        Z9 R W (W3.putObj (s+1) (.loop (rec (if jump.isNone then .ready else .done) jump))):=fun jump W3 hk3=>by
        have hl3:=(hk3.block _ (.inr (.inr rfl))).trans hl2;have:=run_endRound (P:=P) jump hl3;rw [hrec] at this ⊢;exact ⟨this,by rw [hrec] at hl3;exact hl3,World.putObj_heap_same (Array.getElem?_eq_some_iff.1 hl3).1,(World.putObj_heap_other (by omega)).trans ((hk3.block _ (.inr (.inl rfl))).trans hd2),(hkR.trans (hk2.trans (hk3.mono fun k h=>.inl h))).trans (Z9.putObj _ hn _)⟩
       have hRs:∀ {W3:World},Z9 R W W3->∀ k,R k->(R k\/W3.heap.size<=k)/\k<W3.heap.size:=fun h k hk=>⟨.inl hk,Nat.lt_of_lt_of_le (hR k hk) h.size⟩;rintro e a3 W3 hp;cases e with
       | normal =>
         obtain ⟨hk3,hi3⟩:=hp;obtain ⟨hr,hl3,hl4,hd4,hk4⟩:=fin none W3 hk3;exact ⟨_,_,hr,.inl ⟨rfl,⟨hI R R _ W3 _ hi3 (Zi.put (by omega) hl3 rfl R _) (fun k hk=>⟨.inl hk,(hRs hk4 k hk).2⟩),hn,hl4,hd4⟩,hk4⟩⟩
       | ret =>
         obtain ⟨hk3,hi3⟩:=hp;obtain ⟨hr,hl3,hl4,hd4,hk4⟩:=fin (some .ret) W3 hk3;exact ⟨_,_,hr,.inr ⟨rfl,⟨hn,.ret,hIx _ R R [] W3 _ hi3 (Zi.put (by omega) hl3 rfl R _) (fun k hk=>⟨.inl hk,(hRs hk4 k hk).2⟩),hl4,hd4⟩,hk4⟩⟩
       | exit id =>
         obtain ⟨hk3,hi3⟩:=hp;obtain ⟨hr,hl3,hl4,hd4,hk4⟩:=fin (some (.exit id)) W3 hk3;exact ⟨_,_,hr,.inr ⟨rfl,⟨hn,.exit id,hIx _ R R [] W3 _ hi3 (Zi.put (by omega) hl3 rfl R _) (fun k hk=>⟨.inl hk,(hRs hk4 k hk).2⟩),hl4,hd4⟩,hk4⟩⟩
       | goto t =>
         obtain ⟨hk3,hi3⟩:=hp;obtain ⟨hr,hl3,hl4,hd4,hk4⟩:=fin (some (.goto t)) W3 hk3;exact ⟨_,_,hr,.inr ⟨rfl,⟨hn,.goto t,hIx _ R R [] W3 _ hi3 (Zi.put (by omega) hl3 rfl R _) (fun k hk=>⟨.inl hk,(hRs hk4 k hk).2⟩),hl4,hd4⟩,hk4⟩⟩
       | panic ch=>exact hp.elim
       | outgrown=>exact hp.elim
     | exit id=>exact he
     | goto t=>exact he
     | ret=>exact he
     | panic ch=>exact he
     | outgrown=>exact he
   · rintro e W2 ⟨⟨v,rfl⟩,(⟨ys,hS,hi,hn,hl,hd⟩|⟨hn,c,hi,hl,hd⟩)⟩
     · have hlt:s+1<W2.heap.size:=(Array.getElem?_eq_some_iff.1 hl).1;refine ⟨none,_,by have:=run_endLoop (P:=P) hl (by rw [hrec];simp);rw [hrec] at this;exact this,?_⟩;exact hdone ys _ hS (hI K K _ W2 _ hi (Zi.put (by omega) hl rfl K _) (fun k hk=>⟨.inl hk,by have:=hK k hk;simp;omega⟩)) ((World.putObj_heap_other (by omega)).trans hd) (by simpa using hlt)
     · have hlt:s+1<W2.heap.size:=(Array.getElem?_eq_some_iff.1 hl).1;refine ⟨some c,_,by have:=run_endLoop (P:=P) hl (by rw [hrec];simp);rw [hrec] at this;exact this,?_⟩;exact hstop c _ (hIx c K K [] W2 _ hi (Zi.put (by omega) hl rfl K _) (fun k hk=>⟨.inl hk,by have:=hK k hk;simp;omega⟩)) ((World.putObj_heap_other (by omega)).trans hd) (by simpa using hlt)
def Marks(lo:Nat):List Deferred->World->Prop
 | [],_=>True
 | d::ds,W=>∃ r,d={ target:=.collected r,args:=#[] }/\lo<=r/\W.heap[r]?=some (.deferred (some []))/\(∀ r',{ target:=.collected r',args:=#[] }∈ds->r'<r)/\Marks lo ds W
theorem Marks.keep{lo:Nat}{W W':World}:∀ {ds:List Deferred},Marks lo ds W->(∀ r,{ target:=.collected r,args:=#[] }∈ds->W'.heap[r]?=W.heap[r]?)->Marks lo ds W'
 | [],_,_=>trivial
 | d::ds,⟨r,hd,h1,h2,h3,h4⟩,hk=>⟨r,hd,h1,(hk r (by rw [hd];exact List.mem_cons_self ..)).trans h2,h3,h4.keep fun r' h=>hk r' (List.mem_cons_of_mem _ h)⟩
theorem Marks.lt{lo:Nat}{W:World}:∀ {ds:List Deferred},Marks lo ds W->∀ r,{ target:=.collected r,args:=#[] }∈ds->lo<=r/\W.heap[r]?=some (.deferred (some []))
 | [],_,r,h=>by cases h
 | d::ds,⟨r0,hd,h1,h2,h3,h4⟩,r,h=>by
   rcases List.mem_cons.1 h with h|h
   · rw [hd] at h;have:r=r0:=by injection h with h _;injection h
     subst this;exact ⟨h1,h2⟩
   · exact h4.lt r h
theorem WE{P:Program}{n:Nat}{fn:Func}{tmps:Array Value}{lo:Nat}{C:World->Prop}{R:Ending->World->Prop}(hC:∀ W r,C W->lo<=r->W.heap[r]?=some (.deferred (some []))->C (W.putObj r (.deferred none))):
 ∀ (ds:List Deferred) (W:World),Marks lo ds W->C W->(∀ W',C W'->LeavesIn Fence.wide n P fn tmps R [] .returning W')->LeavesInM Fence.wide n P fn tmps R ds .returning W
 | [],W,_,hc,h=>h W hc
 | d::ds,W,⟨r,hd,h1,h2,h3,h4⟩,hc,h=>by
   refine ⟨by simp,.inl ⟨r,_,by rw [hd],run_takeDeferred h2,?_⟩⟩;exact WE hC ds _ (h4.keep fun r' hr=>World.putObj_heap_other (Nat.ne_of_lt (h3 r' hr))) (hC W r hc h1 h2) h
end
section
open Go.RowKit
structure YC(B:Nat)(X R:Nat->Prop)(W W':World):Prop where
 os:W'.os=W.os
 tape:W'.tape=W.tape
 output:W'.output=W.output
 size:W.heap.size<=W'.heap.size
 block:∀ k,k<W.heap.size->¬ X k->(k<B\/¬ R k/\P8 W k)->W'.heap[k]?=W.heap[k]?
section
variable {B B':Nat}{X R R':Nat->Prop}{W W' W'':World}
theorem YC.of(h:Zi B R W W'):YC B X R W W':=⟨h.os,h.tape,h.output,h.size,fun k hk _ hc=>h.block k hk hc⟩
theorem YC.of_below(h:Below W.heap.size W W')(B:Nat)(X R:Nat->Prop):YC B X R W W':=⟨h.os,h.tape,h.output,h.size,fun k hk _ _=>h.block k hk⟩
theorem YC.mono(h:YC B' X R W W')(hB:B<=B'):YC B X R W W' :=
 ⟨h.os,h.tape,h.output,h.size,fun k hk hx hc=>h.block k hk hx (by rcases hc with hc|hc;exact .inl (by omega);exact .inr hc)⟩
theorem YC.put{l:Nat}{o:Obj}(hB:B<=l)(hl:W.heap[l]?=some o)(hn:o.isCells=false)(X R:Nat->Prop)(o':Obj):YC B X R W (W.putObj l o'):=.of (Zi.put hB hl hn R o')
theorem YC.zmn{b:Nat}(hb:X b)(B:Nat)(R:Nat->Prop)(W:World)(o:Nat)(v:Value):YC B X R W (W.setCell ⟨b,o,none⟩ v) :=
 ⟨rfl,rfl,rfl,Nat.le_of_eq (World.size_setCell ..).symm,fun k _ hx _=>Below.heap_setCell W ⟨b,o,none⟩ v k fun e=>by
   have e:k=b:=e;subst e
   exact hx hb⟩
end
def Pq{α:Type}(B:Nat)(X:Nat->Prop)(J:(Nat->Prop)->List α->World->Prop):Prop :=
 ∀ R R' s W W',J R s W->YC B X R W W'->(∀ k,R' k->(R k\/W.heap.size<=k)/\k<W'.heap.size)->J R' s W'
def eX{α:Type}(P:Program)(ok:α->Prop)(encs:α->Array Value)(K X:Nat->Prop)(gf:Nat)(lb:Array Value)(S:List α->Prop)(N:Nat)(w:World):Prop :=
 ∀ (l:Nat) (J:(Nat->Prop)->List α->World->Prop) (Jx:(Nat->Prop)->World->Prop) (R:Nat->Prop) (W:World),Z9 K w W->(∀ k,K k->R k)->(∀ k,R k->k<W.heap.size) ->
   Pq W.heap.size X J->Pq W.heap.size X (fun R (_:List α) W=>Jx R W)->Yields P ok encs l N J Jx->J R [] W ->
   Calls P gf (#[.func (.yield l) #[] #[]]++lb) W fun e W'=>(∃ v,e=.returned v)/\((∃ ys,S ys/\J R ys W')\/Jx R W')
theorem SA {α:Type} {ok:α->Prop} {encs:α->Array Value} {S:List α->Prop} {N:Nat} {n:Nat} {P:Program} {g:Operand} {ps:Array Tmp} {assign body:Code} {Q:Exit->Act->World->Prop} {a:Act} {w:World} {gf:Nat} {lb:Array Value} {K X:Nat->Prop}
 (hg:a.eval g=.func (.func gf) #[] lb) (eg:∀ args w,(callFunc gf args).run P w=.ok (.enter gf args) w) (hseq:eX P ok encs K X gf lb S N w) (hX:∀ k,X k->k<w.heap.size) (hK:∀ k,K k->k<w.heap.size) (hps:∀ x,(encs x).size=ps.size)
 (I:(Nat->Prop)->List α->World->Prop) (Ix:Code->(Nat->Prop)->World->Prop) (hI:Pq w.heap.size X I) (hIx:∀ c,Pq w.heap.size X (fun R (_:List α) W=>Ix c R W)) (h0:I K [] w)
 (Kn:∀ (R:Nat->Prop) pre x W,(∀ k,R k->k<W.heap.size)->¬ R (w.heap.size+1)->w.heap.size+1<W.heap.size->(∃ r,W.heap[w.heap.size+1]?=some (.loop r))->I R pre W->pre.length<N->ok x ->
   assign.wpIn (Fence.wide.inRound (w.heap.size+1)) 2 P (Exit.then (fun a' W1=>Z9 (Bk R w.heap.size) W W1/\∀ o:Loop,body.wpIn (Fence.wide.inRound (w.heap.size+1)) 2 P (uV w.heap.size I Ix R (pre++[x]) (W1.putObj (w.heap.size+1) (.loop o))) a' (W1.putObj (w.heap.size+1) (.loop o))) (fun _ _ _=>False))
    { tmps:=(ps.zip (encs x)).foldl (fun t (p,v)=>t.setIfInBounds p v) a.tmps,defers:=[] } W)
 (hdone:∀ ys W,S ys->I K ys W->W.heap[w.heap.size]?=some (.deferred (some []))->w.heap.size+1<W.heap.size->Q .normal { a with defers:={ target:=.collected w.heap.size,args:=#[] }::a.defers } W)
 (hstop:∀ (c:Code) W,Ix c K W->W.heap[w.heap.size]?=some (.deferred (some []))->w.heap.size+1<W.heap.size->c.wpIn Fence.wide n P Q { a with defers:={ target:=.collected w.heap.size,args:=#[] }::a.defers } W) :
 (Code.rangeFunc g ps assign body).wpIn Fence.wide n P Q a w:=by
 obtain ⟨s,hs⟩:=eE w.heap.size;rw [<- hs] at Kn hdone hstop hX;have hX0:¬ X s:=fun h=>by have:=hX _ h;omega
 have hX1:¬ X (s+1):=fun h=>by have:=hX _ h;omega
 refine wpIn_rangeFunc ?_;intro fn hfn;obtain ⟨rec,hrec⟩:∃ rec:LoopState->Option Code->Loop,rec=fun st pe=>{ state:=st,pending:=pe,fn,tmps:=a.tmps,params:=ps,assign,body,defers:=s }:=⟨_,rfl⟩;obtain ⟨W1,hW1⟩:∃ W1,(w.alloc (.deferred (some []))).alloc (.loop (rec .ready none))=W1:=⟨_,rfl⟩;have hz1:W1.heap.size=s+2:=by rw [<- hW1,hs];simp
 have hL1:W1.heap[s+1]?=some (.loop (rec .ready none)):=by
  rw [<- hW1,hs];have:=World.alloc_heap_new (w.alloc (.deferred (some []))) (.loop (rec .ready none));rwa [World.size_alloc] at this
 have hD1:W1.heap[s]?=some (.deferred (some [])):=by
  rw [<- hW1,hs];exact (Below.heap_alloc _ _ _ (by simp)).trans (World.alloc_heap_new w _)
 have hb1:Below w.heap.size w W1:=by
  rw [<- hW1];exact ((Below.refl _ w).alloc (Nat.le_refl _) _).alloc (by simp) _
 have hI1:I K [] W1:=hI K K [] w W1 h0 (YC.of_below hb1 _ _ _) (fun k hk=>⟨.inl hk,Nat.lt_of_lt_of_le (hK k hk) hb1.size⟩)
 refine ⟨s+1,[{ target:=.collected s,args:=#[] }],W1,{ target:=.fn (.func gf) lb,args:=#[.func (.yield (s+1)) #[] #[]] },W1,gf,
  #[.func (.yield (s+1)) #[] #[]]++lb,W1,?_,?_,?_,?_,(fun h=>by cases h),?_⟩
 · rw [<- hW1,hrec,hs];exact run_enterLoop_outer _ _ _ _ _
 · simp only [resolve,hg];simp [go_sem]
 · intro f' _;trivial
 · simp [invoke,go_sem,eg]
 · refine callsIn_wide.2 ((hseq (s+1)
    (fun R pre W=>I R pre W/\¬ R (s+1)/\W.heap[s+1]?=some (.loop (rec .ready none))/\W.heap[s]?=some (.deferred (some [])))
    (fun R W=>¬ R (s+1)/\∃ c,Ix c R W/\W.heap[s+1]?=some (.loop (rec .done (some c)))/\W.heap[s]?=some (.deferred (some [])))
    K W1 (Z9.of_below hb1 hK) (fun _ h=>h) (fun k hk=>Nat.lt_of_lt_of_le (hK k hk) hb1.size) ?_ ?_ ?_ ⟨hI1,fun h=>by have:=hK _ h;omega,hL1,hD1⟩).mono ?_)
   · rintro R R' t X Y ⟨hi,hn,hl,hd⟩ hst hR;have hlt:s+1<X.heap.size:=(Array.getElem?_eq_some_iff.1 hl).1;refine ⟨hI R R' t X Y hi (hst.mono (by omega)) hR,fun h=>?_,(hst.block _ hlt hX1 (.inl (by omega))).trans hl,(hst.block _ (by omega) hX0 (.inl (by omega))).trans hd⟩;rcases (hR _ h).1 with h|h
     · exact hn h
     · omega
   · rintro R R' t X Y ⟨hn,c,hi,hl,hd⟩ hst hR;have hlt:s+1<X.heap.size:=(Array.getElem?_eq_some_iff.1 hl).1;refine ⟨fun h=>?_,c,hIx c R R' t X Y hi (hst.mono (by omega)) hR,(hst.block _ hlt hX1 (.inl (by omega))).trans hl,(hst.block _ (by omega) hX0 (.inl (by omega))).trans hd⟩;rcases (hR _ h).1 with h|h
     · exact hn h
     · omega
   · rintro m R pre x W hR ⟨hi,hn,hl,hd⟩ hpre hok;have hlt:s+1<W.heap.size:=(Array.getElem?_eq_some_iff.1 hl).1;have hy:=run_yield (P:=P) (args:=encs x) hl (by rw [hrec];exact hps x);rw [hrec] at hy;refine ⟨fn,_,assign,body,hy,RoundIn.wide (n:=2) (roundIn_of_wpIn hfn (wpIn_mono (Kn R pre x W hR hn hlt ⟨_,hl⟩ hi hpre hok) ?_))⟩;clear hy;intro e a' Wa he;cases e with
     | normal =>
       obtain ⟨hka,hbody⟩:=he;have hla:Wa.heap[s+1]?=some (.loop (rec .ready none)):=(hka.block _ (.inr (.inr rfl))).trans hl;have hda:Wa.heap[s]?=some (.deferred (some [])):=(hka.block _ (.inr (.inl rfl))).trans hd;have zql:s+1<Wa.heap.size:=Nat.lt_of_lt_of_le hlt hka.size;refine ⟨_,run_beginRound hla (by rw [hrec]),wpIn_mono (hbody _) ?_⟩;have hl2:(Wa.putObj (s+1) (.loop { rec .ready none with state:=.busy })).heap[s+1]?=some (.loop { rec .ready none with state:=.busy }):=World.putObj_heap_same zql;have hd2:(Wa.putObj (s+1) (.loop { rec .ready none with state:=.busy })).heap[s]?=some (.deferred (some [])):=(World.putObj_heap_other (by omega)).trans hda;have hk2:Z9 R Wa (Wa.putObj (s+1) (.loop { rec .ready none with state:=.busy })):=Z9.putObj _ hn _;have hkR:Z9 R W Wa:=hka.mono fun k h=>.inl h
       have fin:∀ (jump:Option Code) (W3:World),Z9 (Bk R s) (Wa.putObj (s+1) (.loop { rec .ready none with state:=.busy })) W3 ->
        (Instr.endRound (s+1) jump).run P W3=.ok (.bool jump.isNone) (W3.putObj (s+1) (.loop (rec (if jump.isNone then .ready else .done) jump))) /\
        W3.heap[s+1]?=some (.loop { rec .ready none with state:=.busy }) /\
        (W3.putObj (s+1) (.loop (rec (if jump.isNone then .ready else .done) jump))).heap[s+1]?=some (.loop (rec (if jump.isNone then .ready else .done) jump)) /\
        (W3.putObj (s+1) (.loop (rec (if jump.isNone then .ready else .done) jump))).heap[s]?=some (.deferred (some [])) /\
        Z9 R W (W3.putObj (s+1) (.loop (rec (if jump.isNone then .ready else .done) jump))):=fun jump W3 hk3=>by
        have hl3:=(hk3.block _ (.inr (.inr rfl))).trans hl2;have:=run_endRound (P:=P) jump hl3;rw [hrec] at this ⊢;exact ⟨this,by rw [hrec] at hl3;exact hl3,World.putObj_heap_same (Array.getElem?_eq_some_iff.1 hl3).1,(World.putObj_heap_other (by omega)).trans ((hk3.block _ (.inr (.inl rfl))).trans hd2),(hkR.trans (hk2.trans (hk3.mono fun k h=>.inl h))).trans (Z9.putObj _ hn _)⟩
       have hRs:∀ {W3:World},Z9 R W W3->∀ k,R k->(R k\/W3.heap.size<=k)/\k<W3.heap.size:=fun h k hk=>⟨.inl hk,Nat.lt_of_lt_of_le (hR k hk) h.size⟩;rintro e a3 W3 hp;cases e with
       | normal =>
         obtain ⟨hk3,hi3⟩:=hp;obtain ⟨hr,hl3,hl4,hd4,hk4⟩:=fin none W3 hk3;exact ⟨_,_,hr,.inl ⟨rfl,⟨hI R R _ W3 _ hi3 (YC.put (by omega) hl3 rfl X R _) (fun k hk=>⟨.inl hk,(hRs hk4 k hk).2⟩),hn,hl4,hd4⟩,hk4⟩⟩
       | ret =>
         obtain ⟨hk3,hi3⟩:=hp;obtain ⟨hr,hl3,hl4,hd4,hk4⟩:=fin (some .ret) W3 hk3;exact ⟨_,_,hr,.inr ⟨rfl,⟨hn,.ret,hIx _ R R [] W3 _ hi3 (YC.put (by omega) hl3 rfl X R _) (fun k hk=>⟨.inl hk,(hRs hk4 k hk).2⟩),hl4,hd4⟩,hk4⟩⟩
       | exit id =>
         obtain ⟨hk3,hi3⟩:=hp;obtain ⟨hr,hl3,hl4,hd4,hk4⟩:=fin (some (.exit id)) W3 hk3;exact ⟨_,_,hr,.inr ⟨rfl,⟨hn,.exit id,hIx _ R R [] W3 _ hi3 (YC.put (by omega) hl3 rfl X R _) (fun k hk=>⟨.inl hk,(hRs hk4 k hk).2⟩),hl4,hd4⟩,hk4⟩⟩
       | goto t =>
         obtain ⟨hk3,hi3⟩:=hp;obtain ⟨hr,hl3,hl4,hd4,hk4⟩:=fin (some (.goto t)) W3 hk3;exact ⟨_,_,hr,.inr ⟨rfl,⟨hn,.goto t,hIx _ R R [] W3 _ hi3 (YC.put (by omega) hl3 rfl X R _) (fun k hk=>⟨.inl hk,(hRs hk4 k hk).2⟩),hl4,hd4⟩,hk4⟩⟩
       | panic ch=>exact hp.elim
       | outgrown=>exact hp.elim
     | exit id=>exact he
     | goto t=>exact he
     | ret=>exact he
     | panic ch=>exact he
     | outgrown=>exact he
   · rintro e W2 ⟨⟨v,rfl⟩,(⟨ys,hS,hi,hn,hl,hd⟩|⟨hn,c,hi,hl,hd⟩)⟩
     · have hlt:s+1<W2.heap.size:=(Array.getElem?_eq_some_iff.1 hl).1;refine ⟨none,_,by have:=run_endLoop (P:=P) hl (by rw [hrec];simp);rw [hrec] at this;exact this,?_⟩;exact hdone ys _ hS (hI K K _ W2 _ hi (YC.put (by omega) hl rfl X K _) (fun k hk=>⟨.inl hk,by have:=hK k hk;simp;omega⟩)) ((World.putObj_heap_other (by omega)).trans hd) (by simpa using hlt)
     · have hlt:s+1<W2.heap.size:=(Array.getElem?_eq_some_iff.1 hl).1;refine ⟨some c,_,by have:=run_endLoop (P:=P) hl (by rw [hrec];simp);rw [hrec] at this;exact this,?_⟩;exact hstop c _ (hIx c K K [] W2 _ hi (YC.put (by omega) hl rfl X K _) (fun k hk=>⟨.inl hk,by have:=hK k hk;simp;omega⟩)) ((World.putObj_heap_other (by omega)).trans hd) (by simpa using hlt)
end
section
open Go.RowKit Go.Shelf
attribute [local go_sem] Oper.semAt_some
def ZC(Kp:Nat->Prop)(es:List Ev)(w:World)(e:Ending)(w':World):Prop :=
 ∃ fv K,e=.returned fv/\Below w.heap.size w w'/\(∀ k,K k->Kp k\/w.heap.size<=k/\k<w'.heap.size)/\Yn K fv es w'
theorem aD(K:Nat->Prop)(bk ba bb:Nat)(k a b:Int)(w:World)(h1:K bk)(h2:K ba)(h3:K bb)(B1:Z7 w bk 3 #[.int .i64 k])(B2:Z7 w ba 3 #[.int .i64 a])(B3:Z7 w bb 3 #[.int .i64 b])(hok:Zg k):
 Ab prog K 347 #[.pointer (some ⟨bk,0,none⟩),.pointer (some ⟨ba,0,none⟩),.pointer (some ⟨bb,0,none⟩)] [(k,a,b)] w:=by
 intro l J Jx R W hk zR GQ hJ hJx hY h0;have c1:=(B1.kept hk h1).q0 rfl;have c2:=(B2.kept hk h2).q0 rfl;have c3:=(B3.kept hk h3).q0 rfl;obtain ⟨fn,tmps,assign,body,hy,hR⟩:=hY 5 R [] (k,a,b) W GQ h0 (by simp) hok;have HR:=hide hR;unfold Gv at hy;clear hR hY hJ hJx h0 zR GQ hk B1 B2 B3;refine (callsIn_wide (n:=6)).1 ?_;refine callsIn_of_wp func347 rfl trivial ?_ rfl;simp only [ntmps347,List.size_toArray,List.length_cons,List.length_nil,Nat.reduceAdd,Nat.reduceSub,Array.replicate_succ,Array.replicate_zero,List.push_toArray,List.append_toArray,List.nil_append,List.cons_append];gi_wp2_with fail;refine HR.out.mono ?_;rintro e W3 (⟨rfl,h1,-⟩|⟨rfl,h1,-⟩)
 · have H1:=hide h1;clear h1 HR hy;gi_wp2;go_end0;exact ⟨⟨_,rfl⟩,.inl ⟨_,rfl,H1.out⟩⟩
 · have H1:=hide h1;clear h1 HR hy;gi_wp2;go_end0;exact ⟨⟨_,rfl⟩,.inr H1.out⟩
theorem aF(k a b:Int)(w:World):Calls prog 325 #[.int .i64 k,.int .i64 a,.int .i64 b] w fun e w' =>
 e=.returned (.func (.func 347) #[] #[.pointer (some ⟨w.heap.size,0,none⟩),.pointer (some ⟨w.heap.size+1,0,none⟩),.pointer (some ⟨w.heap.size+2,0,none⟩)]) /\
 w'=((w.alloc (.cells #[.int .i64 k] 3)).alloc (.cells #[.int .i64 a] 3)).alloc (.cells #[.int .i64 b] 3):=by
 go_enter func325,ntmps325;go_wp2;go_ret;exact ⟨rfl,rfl⟩
theorem OM(k a b:Int)(w:World)(hok:Zg k):Calls prog 325 #[.int .i64 k,.int .i64 a,.int .i64 b] w (ZC (fun _=>False) [(k,a,b)] w):=by
 refine (aF k a b w).mono ?_;rintro e w' ⟨rfl,rfl⟩;refine ⟨_,fun j=>j=w.heap.size\/j=w.heap.size+1\/j=w.heap.size+2,rfl,Z5 (Z5 (bA) _) _,?_,_,_,rfl,enters_of func347 (by kernel_rfl) rfl,?_⟩
 · intro j hj;refine .inr ?_;simp only [World.size_alloc];omega
 · refine aD _ _ _ _ k a b _ (.inl rfl) (.inr (.inl rfl)) (.inr (.inr rfl)) (((Z7.new _ _ _).alloc _).alloc _) ((Z7.new2 _ _ _ _).alloc _) ?_ hok;have h:=Z7.new ((w.alloc (.cells #[.int .i64 k] 3)).alloc (.cells #[.int .i64 a] 3)) 3 #[.int .i64 b];simp only [World.size_alloc] at h;exact h
end
section
open Go.RowKit Go.Shelf
attribute [local go_sem] Oper.semAt_some
theorem nS {F:Fence} {n:Nat} {P:Program} {ops:Array Oper} {rest:List Oper} {o:Oper} {a:Act} {Q:Exit->Act->World->Prop} {w:World} (s x:Operand) (t:TypeId)
 (hg:o.guard=none) (hop:o.op=Op.call { callee:=Callee.builtin Builtin.append,args:=#[s,x],argTypes:=#[t,t] }) (v xv:Value) (hs:a.eval s=v) (hx:a.eval x=xv) {v':Value} {w':World}
 (hrun:(Builtin.append_ #[t,t] o.type #[v,xv]).run P w=.ok v' w') (h:wpListIn F n P ops Q rest (a.put o.dst v') w'):wpListIn F n P ops Q (o::rest) a w:=by
 refine wpListIn_plain hg fun K hK'=>?_;unfold Oper.wpIn;refine ⟨?_,?_⟩
 · simp [Oper.about,hop,resolve,Target.leads,Sem.run_pure]
 · rw [Oper.semAt_plain F _ _ (by rw [hop];intro c hc';cases hc')];simp [execOp,hop,resolve,invoke,builtin,hs,hx,hrun,Result.andThen];exact hK' _ _ h
structure sK(w:World)(Bs lo:Nat)(R:Nat->Prop)(es:List Ev)(X:World):Prop where
 box:∃ v,Z7 X Bs 123 #[v]/\X.ownsRow (Bs+1) 273 3 v es.length (SV es)/\∀ b,v.ownBlock=some b->¬ R b/\lo<=b
 nR:¬ R Bs
 bl:Below w.heap.size w X
theorem qH{X Y:World}{base:Nat}{e:TypeId}{size:Nat}{v:Value}{k B:Nat}{xs:List Value}{R:Nat->Prop}(h:X.ownsRow base e size v k xs)(hst:Zi B R X Y)(hn:∀ b,v.ownBlock=some b->¬ R b):Y.ownsRow base e size v k xs:=by
 refine ⟨h.1,?_⟩;rcases h.2 with h0|⟨g',cap,cur,hv,hb1,hh,r⟩
 · exact .inl h0
 · exact .inr ⟨g',cap,cur,hv,hb1,(hst.block g' (Z7.lt hh) (.inr ⟨hn g' (by rw [hv];simp [Value.ownBlock]),_,hh,rfl⟩)).trans hh,r⟩
theorem oz(w:World)(Bs lo B:Nat)(h1:w.heap.size<=B)(h2:Bs<B):Ut B (sK w Bs lo):=by
 rintro R R' es X Y ⟨⟨v,hb,ZT,hv⟩,hn,hbl⟩ hst hR
 have hnR:∀ k,k<X.heap.size->¬ R k->¬ R' k:=fun k hk hr h=>by
  rcases (hR k h).1 with h|h
  · exact hr h
  · omega
 refine ⟨⟨v,(hst.block Bs hb.lt (.inl h2)).trans hb,qH ZT hst fun b e=>(hv b e).1,fun b e=>⟨hnR b (Yk ZT e) (hv b e).1,(hv b e).2⟩⟩,hnR Bs hb.lt hn,⟨hst.os.trans hbl.os,hst.tape.trans hbl.tape,hst.output.trans hbl.output,Nat.le_trans hbl.size hst.size,fun k hk=>(hst.block k (Nat.lt_of_lt_of_le hk hbl.size) (.inl (by omega))).trans (hbl.block k hk)⟩⟩
theorem IL(K:Nat->Prop)(fv:Value)(es:List Ev)(w:World)(hK:∀ k,K k->k<w.heap.size)(hev:Yn K fv es w)(hlen:es.length<=2000000):
 Calls prog 318 #[.slice none 0 0,fv] w fun e w'=>∃ v,e=.returned v/\w'.ownsRow w.heap.size 273 3 v es.length (SV es)/\Below w.heap.size w w':=by
 obtain ⟨gf,lb,rfl,ng,hseq⟩:=hev;obtain ⟨Bs,iB⟩:=eE w.heap.size;obtain ⟨w1,hw1⟩:=eE (w.alloc (.cells #[.slice none 0 0] 123));have hb1:=bE hw1;have hz1:w1.heap.size=Bs+1:=by rw [hw1,iB];simp
 have N1:Z7 w1 Bs 123 #[.slice none 0 0]:=by rw [hw1,iB];exact Z7.new _ _ _
 have Jq:Hid (Ab prog K gf lb es w1):=hide fun l J Jx R W hW=>hseq l J Jx R W ((Z9.of_below hb1 hK).trans hW);have HEG:=hide ng;have Jo:Hid (sK w Bs (w1.heap.size+2) K [] w1):=hide ⟨⟨_,N1,World.ownsRow_nil _ _ _ _,fun b h=>(by cases h)⟩,fun h=>by have:=hK _ h;omega,hb1⟩;have HK:=hide (fun k (h:K k)=>Nat.lt_of_lt_of_le (hK k h) hb1.size);have HZ1:=hide hz1;have Jm:=hide iB;clear hseq ng hb1 hz1 N1 hK;refine (callsIn_wide (n:=6)).1 ?_;refine callsIn_of_wp_marks func318 rfl trivial ?_ rfl;simp only [ntmps318,List.size_toArray,List.length_cons,List.length_nil,Nat.reduceAdd,Nat.reduceSub,Array.replicate_succ,Array.replicate_zero,List.push_toArray,List.append_toArray,List.nil_append,List.cons_append];gi_wp2;rw [<- hw1,<- iB];have HW1:=hide hw1;clear hw1 iB;refine Vd (K:=K) rfl HEG.out Jq.out HK.out (fun _=>rfl) (sK w Bs (w1.heap.size+2)) (fun _ _ _=>False) ?h1 ?h2 Jo.out ?round ?done ?stop
 case h1=>exact oz w Bs _ _ (by have:=HZ1.out;have:=Jm.out;omega) (by have:=HZ1.out;omega)
 case h2=>exact fun _ _ _ _ _ _ h _ _=>h
 case stop=>exact fun _ _ h=>h.elim
 case done =>
  rintro ys X rfl ⟨⟨v,hb,ZT,hv⟩,-,hbl⟩ hD -;have c0:=hb.q0 rfl;have hown':X.ownsRow w.heap.size 273 3 v ys.length (SV ys):=by
   refine ⟨ZT.1,?_⟩;rcases ZT.2 with h0|⟨g',cap,cur,h1,h2,r⟩
   · exact .inl h0
   · exact .inr ⟨g',cap,cur,h1,by have:=Jm.out;omega,r⟩
  have hne:v.ownBlock=none\/v.ownBlock≠some w1.heap.size:=by
   cases h:v.ownBlock with
   | none=>exact .inl rfl
   | some b=>refine .inr fun e=>?_;cases e;have:=(hv _ h).2;omega
  have HOW:=hide hown';have Oc:=hide hne;have zX:=hide hbl;have HD:=hide hD;clear hb ZT hv hbl hown' hne hD;gi_wp2;refine ⟨by simp,.inl ⟨_,_,rfl,run_takeDeferred HD.out,?_⟩⟩;refine ⟨_,results_tmp rfl _ _ _,_,rfl,HOW.out.kept (grownBy_putObj' _ _ _) Oc.out,?_⟩;exact zX.out.grown (grownBy_putObj' _ _ _) zX.out.size (fun k e=>by cases e;have:=HZ1.out;have:=Jm.out;omega)
 case round =>
  rintro R pre x X hR hnl hs1 ⟨rec,hrec⟩ ⟨⟨v,hb,ZT,hv⟩,hnB,hbl⟩ hpre -;obtain ⟨i0,hi,hz0,hz1,hz2⟩:=info_parts ug;obtain ⟨k,a,b⟩:=x;have hzz:w1.heap.size<=Bs+1/\Bs+1<=w1.heap.size:=by have:=HZ1.out;omega
  have hbs:Bs<=w.heap.size/\w.heap.size<=Bs:=by have:=Jm.out;omega
  obtain ⟨X1,hX1⟩:=eE (X.alloc (.cells #[.int .i64 k,.int .i64 a,.int .i64 b] 273));have hbX:=bE hX1;have hzX:X1.heap.size=X.heap.size+1:=by rw [hX1];simp
  have hE:Z7 X1 X.heap.size 273 #[.int .i64 k,.int .i64 a,.int .i64 b]:=by rw [hX1];exact Z7.new _ _ _
  have hb1:=hb.step hbX;have YZ:=ZI ZT hbX;have pF:=Z8 hbl hbX;have hlt:=hb.lt;unfold Gv;dsimp only;gi_wp2;rw [<- hX1];refine ⟨Z9.of_below hbX (fun k hk=>?_),fun o=>?_⟩
  · rcases hk with hk|hk|hk
    · exact hR k hk
    · omega
    · omega
  obtain ⟨X2,hX2⟩:=eE (X1.putObj (w1.heap.size+1) (.loop o));have hl1:X1.heap[w1.heap.size+1]?=some (.loop rec):=(hbX.block _ hs1).trans hrec;have iO:X1.grownBy X2 (some (w1.heap.size+1)):=by rw [hX2];exact grownBy_putObj' _ _ _
  have jd:v.ownBlock≠some (w1.heap.size+1):=fun e=>by have:=(hv _ e).2;omega
  have hb2:Z7 X2 Bs 123 #[v]:=by rw [hX2];exact (World.putObj_heap_other (by omega)).trans hb1
  have hE2:Z7 X2 X.heap.size 273 #[.int .i64 k,.int .i64 a,.int .i64 b]:=by rw [hX2];exact (World.putObj_heap_other (by omega)).trans hE
  have Yd:=YZ.kept iO (.inr jd);have Kg:Below w.heap.size w X2:=pF.grown iO pF.size (fun j e=>by cases e;omega);have hz2':X2.heap.size=X.heap.size+1:=by rw [hX2,<- hzX];simp
  rw [<- hX2];obtain ⟨X3,hX3⟩:=eE (X2.alloc (.cells #[.int .i64 k,.int .i64 a,.int .i64 b] 273));have iH:=bE hX3;have hz3:X3.heap.size=X2.heap.size+1:=by rw [hX3];simp
  have N3:Z7 X3 X2.heap.size 273 #[.int .i64 k,.int .i64 a,.int .i64 b]:=by rw [hX3];exact Z7.new _ _ _
  have Zt:=ZI Yd iH;have hb3:=hb2.step iH;have zxp:=Z8 Kg iH;obtain ⟨g4,c4,X4,hr4,Y1,hg4,zwe,zcs⟩:=run_append_lies (P:=prog) X3 123 123 (Bs+1) 273 i0 (.agg #[.int .i64 0,.int .i64 0,.int .i64 0]) 3 24 underlying123 hi hz0 hz1 hz2 rfl (by decide) v pre.length (SV pre) Zt ⟨X2.heap.size,0,none⟩ 1 1 [.int .i64 k,.int .i64 a,.int .i64 b] rfl (ZB N3) (by simp [Value.oneCell']) (by omega) (by unfold maxLen;omega) (by omega) (by omega) _ rfl;have hvB:v.ownBlock≠some Bs:=fun e=>by have:=ZN Zt e;omega
  have hb4:Z7 X4 Bs 123 #[v]:=hb3.grown hg4 (Ne.symm hvB);have zqs:=hg4.size;have hgv:∀ j,v.ownBlock=some j->¬ R j/\w1.heap.size+2<=j:=hv;have zgz:¬ R g4/\w1.heap.size+2<=g4:=by
   rcases zwe with h|h
   · exact hv g4 h
   · refine ⟨fun hr=>?_,?_⟩
     · have:=hR g4 hr;omega
     · omega
  have zco:g4≠Bs:=by omega
  obtain ⟨X5,Lr⟩:=eE (X4.setCell ⟨Bs,0,none⟩ (.slice (some ⟨g4,0,none⟩) (pre.length+1) c4));have hb5:Z7 X5 Bs 123 #[.slice (some ⟨g4,0,none⟩) (pre.length+1) c4]:=by rw [Lr];exact hb4.set 0 _
  have WQ:X5.ownsRow (Bs+1) 273 3 (.slice (some ⟨g4,0,none⟩) (pre.length+1) c4) (pre++[(k,a,b)]).length (SV (pre++[(k,a,b)])):=by
   have e:(pre++[(k,a,b)]).length=pre.length+1:=(by simp);rw [Gx,e,Lr];exact Yt Y1 (by simpa [Value.ownBlock] using zco) _
  have zgm:Below w.heap.size w X5:=by
   rw [Lr];exact (zxp.grown hg4 zxp.size (fun j e=>by have:=(hv j e).2;omega)).grown (grownBy_setCell' _ _ _) (by have:=zxp.size;omega) (fun j e=>by cases e;omega)
  have HF:Hid (Z9 (Bk R w1.heap.size) X2 X5/\sK w Bs (w1.heap.size+2) R (pre++[(k,a,b)]) X5):=hide ⟨by
   rw [Lr];refine ((Z9.of_below iH fun j hj=>?_).trans ⟨hg4.os,hg4.tape,hg4.output,hg4.size,fun j hj=>hg4.block j ?_ ?_⟩).trans (Z9.setCell ?_ _ _ _)
   · rcases hj with hj|hj|hj
     · have:=hR j hj;omega
     · omega
     · omega
   · rcases hj with hj|hj|hj
     · have:=hR j hj;omega
     · omega
     · omega
   · intro e;obtain ⟨h1,h2⟩:=hv j e.symm;rcases hj with hj|hj|hj
     · exact h1 hj
     · omega
     · omega
   · rintro (hj|hj|hj)
     · exact hnB hj
     · omega
     · omega,
   ⟨⟨_,hb5,WQ,fun j e=>by
     have:g4=j:=(by have:some g4=some j:=e;exact Option.some.inj this);subst this
     exact zgz⟩,hnB,zgm⟩⟩
  have c0:=hb2.q0 rfl;have e0:=hE2.q0 rfl;have e1:=hE2.q1 rfl;have e2:=hE2.q2 rfl;have c4':=hb4.q0 rfl;have f4:=hb4.frozen 0;rw [hX3] at hr4;clear hb ZT hv hnB hbl hpre hi hz0 hz1 hz2 hX1 hbX hzX hE hb1 YZ pF hlt hl1 iO jd hb2 hE2 Yd Kg hX2 hX3 iH hz3 N3 Zt hb3 zxp Y1 hg4 zwe zcs hvB hb4 zqs hgv zgz hb5 WQ zgm hrec hnl hs1 hR hzz hbs hz2' i0;gi_wp2_with (gi_at_builtin;refine nS (.tmp 8) (.tmp 10) 123 rfl rfl _ _ rfl rfl hr4 ?_);rw [<- Lr];exact HF.out
end
end Go.Proofs.YthnenedoblncjaaGreatDoor