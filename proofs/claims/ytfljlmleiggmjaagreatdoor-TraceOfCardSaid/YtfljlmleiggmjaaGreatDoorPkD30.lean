/- TraceOne TraceJoin TraceRep TraceGen TraceReg TraceCol -/
import Derived.Deep.AppendLies
import Derived.LoopIn
import Derived.LoopNIn
import Derived.OwnWalkIn
import Derived.Shelf.Abstract
import Derived.Shelf.RegionOpen
import Derived.TacticsInMore
import Derived.Test.YtfljlmleiggmjaaGreatDoorPkD17
set_option maxRecDepth 1000000
set_option maxHeartbeats 8000000
namespace Go.Proofs.YtfljlmleiggmjaaGreatDoor
open Go.Proofs.Tryz
section
open Go.RowKit Go.Shelf
attribute [local go_sem] Oper.semAt_some
def Zm(Kp:Nat->Prop)(es:List Ev)(w:World)(e:Ending)(w':World):Prop :=
 ∃ fv K,e=.returned fv/\Below w.heap.size w w'/\(∀ k,K k->Kp k\/w.heap.size<=k/\k<w'.heap.size)/\XR K fv es w'
theorem kK(K:Nat->Prop)(bk ba bb:Nat)(k a b:Int)(w:World)(h1:K bk)(h2:K ba)(h3:K bb)(B1:Z6 w bk 3 #[.int .i64 k])(B2:Z6 w ba 3 #[.int .i64 a])(B3:Z6 w bb 3 #[.int .i64 b])(hok:Yu k):
 CW prog K 123 #[.pointer (some ⟨bk,0,none⟩),.pointer (some ⟨ba,0,none⟩),.pointer (some ⟨bb,0,none⟩)] [(k,a,b)] w:=by
 intro l J Jx R W hk iG yt hJ hJx hY h0;have c1:=(B1.kept hk h1).q0 rfl;have c2:=(B2.kept hk h2).q0 rfl;have c3:=(B3.kept hk h3).q0 rfl;obtain ⟨fn,tmps,assign,body,hy,hR⟩:=hY 5 R [] (k,a,b) W yt h0 (by simp) hok;have HR:=hide hR;unfold Hu at hy;clear hR hY hJ hJx h0 iG yt hk B1 B2 B3;refine (callsIn_wide (n:=6)).1 ?_;refine callsIn_of_wp func123 rfl trivial ?_ rfl;simp only [ntmps123,List.size_toArray,List.length_cons,List.length_nil,Nat.reduceAdd,Nat.reduceSub,Array.replicate_succ,Array.replicate_zero,List.push_toArray,List.append_toArray,List.nil_append,List.cons_append];gi_wp2_with fail;refine HR.out.mono ?_;rintro e W3 (⟨rfl,h1,-⟩|⟨rfl,h1,-⟩)
 · have H1:=hide h1;clear h1 HR hy;gi_wp2;go_end0;exact ⟨⟨_,rfl⟩,.inl ⟨_,rfl,H1.out⟩⟩
 · have H1:=hide h1;clear h1 HR hy;gi_wp2;go_end0;exact ⟨⟨_,rfl⟩,.inr H1.out⟩
theorem kL(k a b:Int)(w:World):Calls prog 75 #[.int .i64 k,.int .i64 a,.int .i64 b] w fun e w' =>
 e=.returned (.func (.func 123) #[] #[.pointer (some ⟨w.heap.size,0,none⟩),.pointer (some ⟨w.heap.size+1,0,none⟩),.pointer (some ⟨w.heap.size+2,0,none⟩)]) /\
 w'=((w.alloc (.cells #[.int .i64 k] 3)).alloc (.cells #[.int .i64 a] 3)).alloc (.cells #[.int .i64 b] 3):=by
 go_enter func75,ntmps75;go_wp2;go_ret;exact ⟨rfl,rfl⟩
theorem OQ(k a b:Int)(w:World)(hok:Yu k):Calls prog 75 #[.int .i64 k,.int .i64 a,.int .i64 b] w (Zm (fun _=>False) [(k,a,b)] w):=by
 refine (kL k a b w).mono ?_;rintro e w' ⟨rfl,rfl⟩;refine ⟨_,fun j=>j=w.heap.size\/j=w.heap.size+1\/j=w.heap.size+2,rfl,Z7 (Z7 (bA) _) _,?_,_,_,rfl,enters_of func123 (by kernel_rfl) rfl,?_⟩
 · intro j hj;refine .inr ?_;simp only [World.size_alloc];omega
 · refine kK _ _ _ _ k a b _ (.inl rfl) (.inr (.inl rfl)) (.inr (.inr rfl)) (((Z6.new _ _ _).alloc _).alloc _) ((Z6.new2 _ _ _ _).alloc _) ?_ hok;have h:=Z6.new ((w.alloc (.cells #[.int .i64 k] 3)).alloc (.cells #[.int .i64 a] 3)) 3 #[.int .i64 b];simp only [World.size_alloc] at h;exact h
end
section
open Go.RowKit Go.Shelf
attribute [local go_sem] Oper.semAt_some
def E9(Rr R:Nat->Prop)(s:Nat)(X:World)(k:Nat):Prop:=R k\/Rr k\/(k=s\/k=s+1)/\k<X.heap.size
def JnI(J:(Nat->Prop)->List Ev->World->Prop)(Rr:Nat->Prop)(rG:List Ev)(wc:World)(R:Nat->Prop)(pre:List Ev)(X:World):Prop:=J (E9 Rr R wc.heap.size X) (rG++pre) X/\Z8 Rr wc X
theorem OL{α:Type}{J:(Nat->Prop)->List Ev->World->Prop}{Rr:Nat->Prop}{B:Nat}{wc:World}(f:List α->List Ev)(hJ:Ue B J)(hB:B<=wc.heap.size)(hRr:∀ k,Rr k->k<wc.heap.size):
 Ue wc.heap.size (fun R pre X=>J (E9 Rr R wc.heap.size X) (f pre) X/\Z8 Rr wc X):=by
 rintro R R' s X Y ⟨hj,hk⟩ hst hR;have hXY:=hst.size;have hwX:=hk.size;refine ⟨hJ _ _ _ X Y hj ⟨hst.os,hst.tape,hst.output,hst.size,fun k hkl hc=>hst.block k hkl ?_⟩ ?_,hk.trans ⟨hst.os,hst.tape,hst.output,hst.size,fun k hk=>?_⟩⟩
 · rcases hc with hc|⟨hn,hc⟩
   · exact .inl (by omega)
   · exact .inr ⟨fun h=>hn (.inl h),hc⟩
 · rintro k (h|h|⟨h,h2⟩)
   · obtain ⟨h1,h2⟩:=hR k h;refine ⟨?_,h2⟩;rcases h1 with h1|h1
     · exact .inl (.inl h1)
     · exact .inr h1
   · exact ⟨.inl (.inr (.inl h)),by have:=hRr k h;omega⟩
   · refine ⟨?_,h2⟩
     by_cases hx:k<X.heap.size
     · exact .inl (.inr (.inr ⟨h,hx⟩))
     · exact .inr (by omega)
 · have:=hRr k hk;exact hst.block k (by omega) (.inl this)
structure zwk(J:(Nat->Prop)->List Ev->World->Prop)(R:Nat->Prop)(Y:Nat)(W0:World)(lo:Nat)(L:List (Value × List Ev))(i:Nat)(ds:List Deferred)(Rr:Nat->Prop)(X:World):Prop where
 marks:Marks lo ds X
 dsR:∀ r,{ target:=.collected r,args:=#[] }∈ds->Rr r
 sub:∀ k,R k->Rr k
 hY:Rr Y
 lt:∀ k,Rr k->k<X.heap.size
 j:J Rr ((L.take i).flatMap (·.2)) X
 keep:Z8 (fun k=>R k\/k=Y) W0 X
theorem qy(K:Nat->Prop)(Bx:Nat)(A:Option Addr)(c:Nat)(L:List (Value × List Ev))(w:World)(hBx:K Bx)(hB:Z6 w Bx 168 #[.slice A L.length c])(hs:U2 w K A (L.map (·.1)))(hL:∀ p∈L,XR K p.1 p.2 w)(hlen:L.length<=1000000):
 CW prog K 118 #[.pointer (some ⟨Bx,0,none⟩)] (L.flatMap (·.2)) w:=by
 intro l J Jx R W hk iG yt hJ hJx hY h0;obtain ⟨Y,hYs⟩:=eE W.heap.size;obtain ⟨W0,hW0⟩:=eE (W.alloc (.cells #[.func (.yield l) #[] #[]] 169));have hb0:=bE hW0;have hz0:W0.heap.size=Y+1:=by rw [hW0,hYs];simp
 have BY:Z6 W0 Y 169 #[.func (.yield l) #[] #[]]:=by rw [hW0,hYs];exact Z6.new _ _ _
 have iT:Z8 K w W0:=hk.trans (Z8.of_below hb0 fun k h=>yt k (iG k h));have cB:=(hB.kept iT hBx).q0 rfl;have HS:=hide (hs.kept iT);have HL:=hide (fun p (hp:p∈L)=>(hL p hp).kept iT);have HAT:zwk J R Y W0 Y L 0 [] (fun k=>R k\/k=Y) W0:=⟨trivial,fun r h=>(by cases h),fun k h=>.inl h,.inr rfl,fun k h=>(by rcases h with h|h;exact Nat.lt_of_lt_of_le (yt k h) hb0.size;omega),hJ R _ [] W W0 h0 (YP.of_below hb0 _ _) (fun k h=>(by rcases h with h|h;exact ⟨.inl h,Nat.lt_of_lt_of_le (yt k h) hb0.size⟩;exact ⟨.inr (by omega),by omega⟩)),Z8.refl _ _⟩;have zih:=hide HAT;have HJ:=hide (hYs ▸ hJ:Ue Y J);have fU:=hide (hYs ▸ hJx:Ue Y (fun R _ W=>Jx R W));have HY:=hide hY;have uD:=hide iG;have dO:Hid (∀ k,R k->k<Y):=hide (fun k h=>hYs ▸ yt k h);have HZ0:=hide hz0;clear HAT hk iG yt hJ hJx hY h0 hb0 hz0 iT hB hs hL;refine (callsIn_wide (n:=6)).1 ?_;refine callsIn_of_wp_marks func118 rfl trivial ?_ rfl;simp only [ntmps118,List.size_toArray,List.length_cons,List.length_nil,Nat.reduceAdd,Nat.reduceSub,Array.replicate_succ,Array.replicate_zero,List.push_toArray,List.append_toArray,List.nil_append,List.cons_append];rw [hW0] at cB;gi_wp2;rw [<- hW0,<- hYs];have HW0:=hide hW0;clear hW0 cB hYs
 refine wpIn_loop (fun a' w'=>∃ (i:Nat) (u3 u4 u5 u9 u10 u11 u12 u13 u14 u15 u16 u17 u18:Value) (ds:List Deferred) (Rr:Nat->Prop),i<=L.length/\Hid (zwk J R Y W0 Y L i ds Rr w') /\
  a'={ tmps:=#[.func (.yield l) #[] #[],.pointer (some ⟨Bx,0,none⟩),.pointer (some ⟨Y,0,none⟩),u3,u4,u5,.slice A L.length c,.int .i64 (L.length:Int),.int .i64 (i:Int),u9,u10,u11,u12,u13,u14,u15,u16,u17,u18],defers:=ds })
  (fun a' _=>L.length - (intOf (a'.tmps.getD 8 undef)).toNat) ?_ ?_
 · exact ⟨0,_,_,_,_,_,_,_,_,_,_,_,_,_,[],_,Nat.zero_le _,zih,rfl⟩
 · rintro a' wr ⟨i,u3,u4,u5,u9,u10,u11,u12,u13,u14,u15,u16,u17,u18,ds,Rr,hi,HA,rfl⟩
   by_cases hlt:i<L.length
   · have Uj:(i:Int)<(L.length:Int):=(by omega);obtain ⟨p,hp⟩:∃ p,L[i]?=some p:=⟨_,List.getElem?_eq_getElem hlt⟩;have hmem:=List.mem_of_getElem? hp;have hkr:Z8 K W0 wr:=HA.out.keep.mono fun k h=>.inl (uD.out k h);obtain ⟨gf,lb,hfv,heg,hseq⟩:=(HL.out p hmem).kept hkr;have hsl:=(HS.out.kept hkr);have hget:(L.map (·.1))[i]?=some p.1:=(by rw [List.getElem?_map,hp];rfl);rcases hsl with hsl|⟨b,off,hA,hKb,hc⟩
     · rw [hsl] at hget;simp at hget
     subst hA;have ci:=hc i p.1 hget;rw [hfv] at ci;have zh:Hid ((L.take (i+1)).flatMap (·.2)=(L.take i).flatMap (·.2)++p.2):=hide (by rw [List.take_add_one,hp];simp);have zwc:Hid (((L.take (i+1)).flatMap (·.2)).length<=(L.flatMap (·.2)).length):=hide (List.IsPrefix.length_le ⟨(L.drop (i+1)).flatMap (·.2),by rw [<- List.flatMap_append,List.take_append_drop]⟩);have uI:=hide hseq;have HEG:=hide heg;obtain ⟨es,hes⟩:=eE p.2;rw [<- hes] at uI zh;obtain ⟨rG,hpre0⟩:=eE ((L.take i).flatMap (·.2));have uG:=hide hpre0;rw [<- hpre0] at zh;have zvw:Hid (∀ k,K k->Rr k):=hide fun k h=>HA.out.sub k (uD.out k h);clear hget hc hseq heg hfv hmem hp hkr hes hpre0;gi_wp2;refine UC (K:=K) rfl HEG.out uI.out (fun k h=>HA.out.lt k (zvw.out k h)) (fun _=>rfl) (JnI J Rr rG wr) (fun c R' X=>c=.ret/\Jx (E9 Rr R' wr.heap.size X) X/\Z8 Rr wr X) ?h1 ?h2 ?h3 ?round ?done ?stop
     case h1=>exact OL (fun pre=>rG++pre) HJ.out (by have:=HA.out.keep.size;have:=HZ0.out;omega) HA.out.lt
     case h2 =>
      intro c R1 R2 s X Z ⟨hc,h1,h2⟩ hst hR;obtain ⟨h3,h4⟩:=OL (fun pre:List Ev=>pre) fU.out (by have:=HA.out.keep.size;have:=HZ0.out;omega) HA.out.lt R1 R2 s X Z ⟨h1,h2⟩ hst hR;exact ⟨hc,h3,h4⟩
     case h3 =>
      refine ⟨HJ.out Rr _ _ wr wr ?_ (YP.refl _ _ _) fun k hk=>?_,Z8.refl _ _⟩
      · rw [List.append_nil,uG.out];exact HA.out.j
      · rcases hk with hk|hk|⟨hk,hk2⟩
        · exact ⟨.inl (zvw.out k hk),HA.out.lt k (zvw.out k hk)⟩
        · exact ⟨.inl hk,HA.out.lt k hk⟩
        · omega
     case round =>
      rintro R' pre x X hR' hnl hs1 ⟨rec,hrec⟩ ⟨hj,hkk⟩ hpre hok;have hYX:Z6 X Y 169 #[.func (.yield l) #[] #[]]:=(BY.kept HA.out.keep (.inr rfl)).kept hkk HA.out.hY;have zww:=hYX.lt;have hYs:Y<wr.heap.size:=HA.out.lt Y HA.out.hY;obtain ⟨X1,hX1⟩:=eE (X.alloc (.cells #[.int .i64 x.1,.int .i64 x.2.1,.int .i64 x.2.2] 66));have hbX:=bE hX1;have fu:X1.heap.size=X.heap.size+1:=(by rw [hX1];simp);have hE:Z6 X1 X.heap.size 66 #[.int .i64 x.1,.int .i64 x.2.1,.int .i64 x.2.2]:=(by rw [hX1];exact Z6.new _ _ _);have hl1:X1.heap[wr.heap.size+1]?=some (.loop rec):=(hbX.block _ hs1).trans hrec;have hY1:=hYX.step hbX;unfold Hu;gi_wp2;rw [<- hX1];refine ⟨Z8.of_below hbX (fun k hk=>?_),fun o=>?_⟩
      · rcases hk with hk|hk|hk
        · exact hR' k hk
        · omega
        · omega
      have hst:YP Y (E9 Rr R' wr.heap.size X) X (X1.putObj (wr.heap.size+1) (.loop o)):=(YP.of_below hbX _ _).trans (YP.put (by omega) hl1 rfl (E9 Rr R' wr.heap.size X) _) (fun j h=>.inl h)
      have iI:∀ k,(E9 Rr R' wr.heap.size X k\/k=X.heap.size)->k<X1.heap.size:=fun k hk=>by
       have:=hkk.size;rcases hk with (hk|hk|⟨_,hk⟩)|hk
       · have:=hR' k hk;omega
       · have:=HA.out.lt k hk;omega
       · omega
       · omega
      have hjy:=HJ.out _ (fun k=>E9 Rr R' wr.heap.size X k\/k=X.heap.size) _ X (X1.putObj (wr.heap.size+1) (.loop o)) hj hst (fun k hk=>⟨by rcases hk with hk|hk;exact .inl hk;exact .inr (by omega),by have:=iI k hk;simpa using this⟩);have zpa:(rG++pre).length<(L.flatMap (·.2)).length:=by
       have:=zwc.out;rw [zh.out,List.length_append] at this;rw [List.length_append];omega
      obtain ⟨fn,tmps,assign,body,hy,hRo⟩:=HY.out 1 _ _ x (X1.putObj (wr.heap.size+1) (.loop o)) (fun k hk=>by have:=iI k hk;simpa using this) hjy zpa hok;have yb:Z6 (X1.putObj (wr.heap.size+1) (.loop o)) Y 169 #[.func (.yield l) #[] #[]]:=(World.putObj_heap_other (by omega)).trans hY1;have eb:Z6 (X1.putObj (wr.heap.size+1) (.loop o)) X.heap.size 66 #[.int .i64 x.1,.int .i64 x.2.1,.int .i64 x.2.2]:=(World.putObj_heap_other (by omega)).trans hE;have y0:=yb.q0 rfl;have e0:=eb.q0 rfl;have e1:=eb.q1 rfl;have e2:=eb.q2 rfl;have HKX:Hid (Z8 Rr wr (X1.putObj (wr.heap.size+1) (.loop o))):=hide ((hkk.trans (Z8.of_below hbX fun k hk=>Nat.lt_of_lt_of_le (HA.out.lt k hk) hkk.size)).trans (Z8.putObj _ (fun h=>by have:=HA.out.lt _ h;omega) _));have HR3:Hid (∀ k,(E9 Rr R' wr.heap.size X k\/k=X.heap.size)->k<X.heap.size+1):=hide fun k hk=>by have:=iI k hk;omega
      have Lv:=hide hs1;obtain ⟨X2,hX2⟩:=eE (X1.putObj (wr.heap.size+1) (.loop o));rw [<- hX2] at hy hRo y0 e0 e1 e2 HKX ⊢;have hz2:X2.heap.size=X.heap.size+1:=(by rw [hX2,<- fu];simp);have HZ2:=hide hz2;have tQ:=hide hRo;have JL:=hide hR';unfold Hu at hy;clear hRo hjy zpa hst iI hj hkk hpre hYX zww hYs hX1 hbX fu hE hl1 hY1 hrec hnl hs1 yb eb hX2 hz2 ci hR';gi_wp2_with fail;refine (RoundIn.inRound' _ tQ.out).mono ?_;rintro e X3 (⟨rfl,h1,h2⟩|⟨rfl,h1,h2⟩)
      · have H1:=hide h1;have H2:=hide h2;clear h1 h2 tQ hy y0 e0 e1 e2;gi_wp2;have hz:=H2.out.size;refine ⟨H2.out.mono fun k hk=>?_,HJ.out (fun k=>E9 Rr R' wr.heap.size X k\/k=X.heap.size) _ _ X3 X3 ?_ (YP.refl _ _ _) fun k hk=>?_,HKX.out.trans (H2.out.mono fun k hk=>.inl (.inr (.inl hk)))⟩
        · rcases hk with hk|hk|hk
          · exact .inl (.inl hk)
          · exact .inl (.inr (.inr ⟨.inl hk,by have:=Lv.out;omega⟩))
          · exact .inl (.inr (.inr ⟨.inr hk,by have:=Lv.out;omega⟩))
        · rw [<- List.append_assoc];exact H1.out
        · have hzz:=HZ2.out;rcases hk with hk|hk|⟨hk,hk2⟩
          · exact ⟨.inl (.inl (.inl hk)),by have:=JL.out k hk;omega⟩
          · exact ⟨.inl (.inl (.inr (.inl hk))),by have:=HR3.out k (.inl (.inr (.inl hk)));omega⟩
          · exact ⟨.inl (.inl (.inr (.inr ⟨hk,by have:=Lv.out;omega⟩))),hk2⟩
      · have H1:=hide h1;have H2:=hide h2;clear h1 h2 tQ hy y0 e0 e1 e2;gi_wp2;have hz:=H2.out.size;refine ⟨H2.out.mono fun k hk=>?_,rfl,fU.out _ _ [] X3 X3 H1.out (YP.refl _ _ _) fun k hk=>?_,HKX.out.trans (H2.out.mono fun k hk=>.inl (.inr (.inl hk)))⟩
        · rcases hk with hk|hk|hk
          · exact .inl (.inl hk)
          · exact .inl (.inr (.inr ⟨.inl hk,by have:=Lv.out;omega⟩))
          · exact .inl (.inr (.inr ⟨.inr hk,by have:=Lv.out;omega⟩))
        · have hzz:=HZ2.out;rcases hk with hk|hk|⟨hk,hk2⟩
          · exact ⟨.inl (.inl (.inl hk)),by have:=JL.out k hk;omega⟩
          · exact ⟨.inl (.inl (.inr (.inl hk))),by have:=HR3.out k (.inl (.inr (.inl hk)));omega⟩
          · exact ⟨.inl (.inl (.inr (.inr ⟨hk,by have:=Lv.out;omega⟩))),hk2⟩
     case done =>
      rintro ys X rfl ⟨hj,hkk⟩ hD hsl;have hmk:∀ r,{ target:=.collected r,args:=#[] }∈ds->r<wr.heap.size:=fun r h=>(Array.getElem?_eq_some_iff.1 (HA.out.marks.lt r h).2).1;have hz:=hkk.size
      have NY:Hid (zwk J R Y W0 Y L (i+1) ({ target:=.collected wr.heap.size,args:=#[] }::ds) (fun k=>Rr k\/k=wr.heap.size) X):=hide
       ⟨⟨wr.heap.size,rfl,by have:=HA.out.keep.size;have:=HZ0.out;omega,hD,hmk,HA.out.marks.keep fun r h=>hkk.block r (HA.out.dsR r h)⟩,
        fun r h=>by
         rcases List.mem_cons.1 h with h|h
         · injection h with h _;injection h with h;exact .inr h
         · exact .inl (HA.out.dsR r h),
        fun k h=>.inl (HA.out.sub k h),.inl HA.out.hY,
        fun k h=>by
         rcases h with h|h
         · have:=HA.out.lt k h;omega
         · omega,
        by
         rw [zh.out];refine HJ.out _ _ _ X X hj (YP.refl _ _ _) fun k hk=>?_;rcases hk with hk|hk
         · exact ⟨.inl (.inr (.inl hk)),by have:=HA.out.lt k hk;omega⟩
         · exact ⟨.inl (.inr (.inr ⟨.inl hk,by omega⟩)),by omega⟩,
        HA.out.keep.trans (hkk.mono fun k h=>by
         rcases h with h|h
         · exact HA.out.sub k h
         · rw [h];exact HA.out.hY)⟩
      clear hj hkk hD hsl hmk hz;gi_wp2;refine ⟨⟨i+1,_,_,_,_,_,_,_,_,_,_,_,_,_,_,_,by omega,NY,rfl⟩,?_⟩;simp [intOf];omega
     case stop =>
      rintro c X ⟨rfl,hjx,hkk⟩ hD hsl;have hmk:∀ r,{ target:=.collected r,args:=#[] }∈ds->r<wr.heap.size:=fun r h=>(Array.getElem?_eq_some_iff.1 (HA.out.marks.lt r h).2).1;have hz:=hkk.size;have HM:Hid (Marks Y ({ target:=.collected wr.heap.size,args:=#[] }::ds) X):=hide ⟨wr.heap.size,rfl,by have:=HA.out.keep.size;have:=HZ0.out;omega,hD,hmk,HA.out.marks.keep fun r h=>hkk.block r (HA.out.dsR r h)⟩;have Ac:∀ k,R k->k<X.heap.size:=fun k h=>by have:=HA.out.lt k (HA.out.sub k h);omega
      have HC:Hid (Jx R X/\∀ k,R k->k<X.heap.size):=hide ⟨fU.out _ R [] X X hjx (YP.refl _ _ _) fun k hk=>⟨.inl (.inr (.inl (HA.out.sub k hk))),Ac k hk⟩,Ac⟩;clear hjx hkk hD hsl hmk hz Ac;gi_wp2;refine VB (lo:=Y) (C:=fun X=>Jx R X/\∀ k,R k->k<X.heap.size) ?_ _ X HM.out HC.out ?_
      · rintro X r ⟨h1,h2⟩ hr hl;exact ⟨fU.out R R [] X _ h1 (YP.put hr hl rfl R _) fun k hk=>⟨.inl hk,by have:=h2 k hk;simpa using this⟩,fun k hk=>by have:=h2 k hk;simpa using this⟩
      · rintro X ⟨h1,_⟩;exact ⟨_,results_none rfl _ _ _,⟨_,rfl⟩,.inr h1⟩
   · obtain rfl:i=L.length:=(by omega);have Ac:∀ k,R k->k<wr.heap.size:=fun k h=>HA.out.lt k (HA.out.sub k h)
     have HC:Hid (J R (L.flatMap (·.2)) wr/\∀ k,R k->k<wr.heap.size):=hide ⟨by
      have h:=HJ.out _ R _ wr wr HA.out.j (YP.refl _ _ _) fun k hk=>⟨.inl (HA.out.sub k hk),Ac k hk⟩
      rwa [List.take_length] at h,Ac⟩
     have HM:=hide HA.out.marks;clear Ac;gi_wp2;refine VB (lo:=Y) (C:=fun X=>J R (L.flatMap (·.2)) X/\∀ k,R k->k<X.heap.size) ?_ _ wr HM.out HC.out ?_
     · rintro X r ⟨h1,h2⟩ hr hl;exact ⟨HJ.out R R _ X _ h1 (YP.put hr hl rfl R _) fun k hk=>⟨.inl hk,by have:=h2 k hk;simpa using this⟩,fun k hk=>by have:=h2 k hk;simpa using this⟩
     · rintro X ⟨h1,_⟩;exact ⟨_,results_none rfl _ _ _,⟨_,rfl⟩,.inl ⟨_,rfl,h1⟩⟩
theorem qz(A:Option Addr)(n c:Nat)(w:World):Calls prog 69 #[.slice A n c] w fun e w' =>
 e=.returned (.func (.func 118) #[] #[.pointer (some ⟨w.heap.size,0,none⟩)])/\w'=w.alloc (.cells #[.slice A n c] 168):=by
 go_enter func69,ntmps69;go_wp2;go_ret;exact ⟨rfl,rfl⟩
theorem OM(K:Nat->Prop)(A:Option Addr)(c n:Nat)(L:List (Value × List Ev))(es:List Ev)(w:World)(hK:∀ k,K k->k<w.heap.size)(hn:L.length=n)(he:L.flatMap (·.2)=es)(hs:U2 w K A (L.map (·.1)))(hL:∀ p∈L,XR K p.1 p.2 w)(hlen:n<=1000000):
 Calls prog 69 #[.slice A n c] w (Zm K es w):=by
 subst hn he;refine (qz A L.length c w).mono ?_;rintro e w' ⟨rfl,rfl⟩;have hb:=Z7 (Below.refl w.heap.size w) (.cells #[.slice A L.length c] 168);have hk:=Z8.of_below hb hK;refine ⟨_,fun k=>K k\/k=w.heap.size,rfl,hb,?_,_,_,rfl,enters_of func118 (by kernel_rfl) rfl,?_⟩
 · rintro k (h|h)
   · exact .inl h
   · exact .inr ⟨by omega,by simp only [World.size_alloc];omega⟩
 · exact qy _ w.heap.size A c L _ (.inr rfl) (Z6.new _ _ _) ((hs.kept hk).mono fun k h=>.inl h) (fun p hp=>((hL p hp).kept hk).mono fun k h=>.inl h) hlen
theorem Zm.mono{K K':Nat->Prop}{es:List Ev}{w w':World}{e:Ending}(h:Zm K es w e w')(hK:∀ k,K k->K' k):Zm K' es w e w':=by
 obtain ⟨fv,R,h1,h2,h3,h4⟩:=h;exact ⟨fv,R,h1,h2,fun k hk=>(h3 k hk).imp (hK k) id,h4⟩
end
section
open Go.RowKit Go.Shelf
theorem gW {P:Program} {ops:Array Oper} {rest:List Oper} {o:Oper} {a:Act} {Q:Exit->Act->World->Prop} {w:World} (s x:Operand) (t:TypeId)
 (hop:o.op=Op.call { callee:=Callee.builtin Builtin.append,args:=#[s,x],argTypes:=#[t,t] }) (hw:Region.wanted o (yielded ops a.tmps)=true) (v xv:Value) (hs:a.eval s=v) (hx:a.eval x=xv) {v':Value} {w':World}
 (hrun:(Builtin.append_ #[t,t] o.type #[v,xv]).run P w=.ok v' w') (h:wpList P ops Q rest (a.put o.dst v') w'):wpList P ops Q (o::rest) a w:=by
 unfold wpList;rw [if_pos hw]
 left
 unfold Oper.wp;simp [execOp,hop,resolve,invoke,builtin,hs,hx,hrun,Result.andThen];exact h
theorem su:(prog.info? 68).map (fun i=>(i.zero,i.size,i.bytes))=some (some Value.nilFunc,1,8):=by kernel_rfl
theorem vw{K:Nat->Prop}{fv:Value}{es:List Ev}{w:World}(h:XR K fv es w):fv.oneCell'=true:=by
 obtain ⟨gf,lb,rfl,_⟩:=h;rfl
structure zwm(w:World)(Kp:Nat->Prop)(f:Nat->List Ev)(k:Nat)(v:Value)(L:List (Value × List Ev))(P:Nat->Prop)(X:World):Prop where
 len:L.length=k
 es:L.flatMap (·.2)=(List.range k).flatMap f
 own:X.ownsRow w.heap.size 68 1 v k (L.map (·.1))
 p:∀ j,P j->(Kp j\/w.heap.size<=j)/\j<X.heap.size/\v.ownBlock≠some j
 seq:∀ q∈L,XR P q.1 q.2 X
 bl:Below w.heap.size w X
theorem MU{P:Nat->Prop}{w w':World}{row:Option Nat}(hg:w.grownBy w' row)(hP:∀ k,P k->k<w.heap.size/\row≠some k):Z8 P w w' :=
 ⟨hg.os,hg.tape,hg.output,hg.size,fun k hk=>hg.block k (hP k hk).1 (fun e=>(hP k hk).2 e.symm)⟩
theorem kZ{w:World}{Kp:Nat->Prop}{f:Nat->List Ev}{k:Nat}{v:Value}{L:List (Value × List Ev)}{P:Nat->Prop}{X:World}(iH:∀ j,Kp j->j<w.heap.size)(h:zwm w Kp f k v L P X){e:Ending}{w1:World}(hg:Zm Kp (f k) X e w1)(hk:k<=1000000):
 ∃ g2 FV,e=.returned (.func (.func g2) #[] FV)/\∃ v3 w3,(Builtin.append_ #[168,168] 168 #[v,.slice (some ⟨w1.heap.size,0,none⟩) 1 1]).run prog (w1.alloc (.cells #[.func (.func g2) #[] FV] 68))=.ok v3 w3/\∃ L3 P3,zwm w Kp f (k+1) v3 L3 P3 w3:=by
 obtain ⟨i0,hi,hz0,hz1,hz2⟩:=info_parts su;obtain ⟨hlen,hes,ZQ,hp,hseq,hbl⟩:=h;obtain ⟨fv,K,he,hb1,hK,hev⟩:=hg;obtain ⟨g2,FV,hfv⟩:∃ g2 FV,fv=.func (.func g2) #[] FV:=by obtain ⟨g2,FV,h,_⟩:=hev;exact ⟨g2,FV,h⟩
 subst hfv;have hb2:=Z7 (Below.refl w1.heap.size w1) (.cells #[.func (.func g2) #[] FV] 68);have NG:=Z9 hb1 hb2;have N2:=Z6.new w1 68 #[.func (.func g2) #[] FV];have Zj:=ZO ZQ NG;have hbw:=Z9 hbl NG;obtain ⟨g3,c3,w3,hr3,ZM,ZE,eu,hlt3⟩:=run_append_lies (P:=prog) (w1.alloc (.cells #[.func (.func g2) #[] FV] 68)) 168 168 w.heap.size 68 i0 Value.nilFunc 1 8 underlying168 hi hz0 hz1 hz2 rfl (by decide) v k (L.map (·.1)) Zj ⟨w1.heap.size,0,none⟩ 1 1 [.func (.func g2) #[] FV] rfl (ZI N2) (by intro u hu;simp at hu;subst hu;exact vw hev) (by omega) (by unfold maxLen;omega) (by omega) hbw.size _ rfl;have hs1:=hb1.size;have hs2:(w1.alloc (.cells #[.func (.func g2) #[] FV] 68)).heap.size=w1.heap.size+1:=by simp
 have hs3:=ZE.size;have Sj:∀ j,v.ownBlock=some j->w.heap.size<=j/\j<X.heap.size:=fun j hj=>⟨ZP ZQ hj,OT ZQ hj⟩
 have hKn:∀ j,K j->(Kp j\/w.heap.size<=j)/\j<w1.heap.size/\v.ownBlock≠some j:=fun j hj=>by
  have hw:=hbl.size;rcases hK j hj with h|⟨h,h2⟩
  · have:=iH j h;exact ⟨.inl h,by omega,fun e=>by have:=(Sj j e).1;omega⟩
  · exact ⟨.inr (by omega),h2,fun e=>by have:=(Sj j e).2;omega⟩
 refine ⟨g2,FV,he,_,w3,hr3,L++[(.func (.func g2) #[] FV,f k)],fun j=>P j\/K j,⟨by simp [hlen],?_,?_,?_,?_,?_⟩⟩
 · rw [List.flatMap_append,hes,List.range_succ,List.flatMap_append];simp
 · rw [List.map_append];exact ZM
 · rintro j (hj|hj)
   · obtain ⟨h1,h2,h3⟩:=hp j hj;refine ⟨h1,by omega,fun e=>?_⟩;have e:g3=j:=(by have:some g3=some j:=e;exact Option.some.inj this);rcases eu with h|h
     · exact h3 (by rw [h,e])
     · omega
   · obtain ⟨h1,h2,h3⟩:=hKn j hj;refine ⟨h1,by omega,fun e=>?_⟩;have e:g3=j:=(by have:some g3=some j:=e;exact Option.some.inj this);rcases eu with h|h
     · exact h3 (by rw [h,e])
     · omega
 · intro q hq;rcases List.mem_append.1 hq with hq|hq
   · have hk1:Z8 P X w3:=(Z8.of_below NG fun j hj=>(hp j hj).2.1).trans (MU ZE fun j hj=>⟨by have:=(hp j hj).2.1;omega,(hp j hj).2.2⟩);exact ((hseq q hq).kept hk1).mono fun j hj=>.inl hj
   · rw [List.mem_singleton] at hq;subst hq;have hk1:Z8 K w1 w3:=(Z8.of_below hb2 fun j hj=>(hKn j hj).2.1).trans (MU ZE fun j hj=>⟨by have:=(hKn j hj).2.1;omega,(hKn j hj).2.2⟩);exact (hev.kept hk1).mono fun j hj=>.inr hj
 · exact hbw.grown ZE hbw.size (fun j hj=>ZP Zj hj)
theorem Vl (Kp:Nat->Prop) (f:Nat->List Ev) (n:Nat) (gf:Nat) (lb:Array Value) (w:World) (iH:∀ j,Kp j->j<w.heap.size) (hn:n<=100000) (heg:∀ args w,(callFunc gf args).run prog w=.ok (.enter gf args) w)
 (hpart:∀ i,i<n->∀ W,Z8 Kp w W->Calls prog gf (#[.int .i64 (i:Int)]++lb) W (Zm Kp (f i) W)) :
 Calls prog 73 #[.int .i64 (n:Int),.func (.func gf) #[] lb] w (Zm Kp ((List.range n).flatMap f) w):=by
 have HP:=hide hpart;have fV:=hide iH;clear hpart iH;go_enter func73,ntmps73;go_wp2
 go_loopw [5,8] (fun v i wr=>∃ (k:Nat) (L:List (Value × List Ev)) (P:Nat->Prop),k<=n/\i=.int .i64 (k:Int)/\Hid (zwm w Kp f k v L P wr))
  (fun _ i _=>n - (intOf i).toNat)
 case atStart=>exact ⟨0,[],fun _=>False,Nat.zero_le _,rfl,hide ⟨rfl,rfl,World.ownsRow_nil _ _ _ _,fun j h=>h.elim,fun q h=>(by cases h),Below.refl _ _⟩⟩
 case round =>
  obtain ⟨k,L,P,hk,rfl,HR⟩:=hrel
  by_cases hkn:k<n
  · have hki:(k:Int)<(n:Int):=(by omega);have hc:=HP.out k hkn wr (Z8.of_below HR.out.bl fV.out);go_wp2_with fail;refine hc.mono ?_;intro e w1 hg;obtain ⟨g2,FV,rfl,v3,w3,hrun,L3,P3,HN⟩:=kZ fV.out HR.out hg (by omega);have HN:=hide HN;clear hg hc;go_wp2_with (at_builtin;refine gW (.tmp 11) (.tmp 15) 168 rfl rfl _ _ rfl rfl hrun ?_);go_wp2;go_roundw
    case rel=>exact ⟨k+1,L3,P3,by omega,by go_num,HN⟩
    case measure=>simp [intOf];omega
  · obtain rfl:k=n:=(by omega);have hki:¬ (k:Int)<(k:Int):=(by omega);obtain ⟨hlen,hes,ZQ,hp,hseq,hbl⟩:=HR.out;obtain ⟨A,c,rfl,_⟩:=ZJ ZQ;have hsl:=Sl.YI ZQ
    have hK:∀ j,(P j\/(Value.slice A k c).ownBlock=some j)->j<wr.heap.size:=fun j hj=>by
     rcases hj with hj|hj
     · exact (hp j hj).2.1
     · exact OT ZQ hj
    have zpn:U2 wr (fun j=>P j\/(Value.slice A k c).ownBlock=some j) A (L.map (·.1)):=by
     rcases hsl with h|⟨b,off,hA,hb,hc⟩
     · exact .inl h
     · refine .inr ⟨b,off,hA,.inr ?_,hc⟩;subst hA
       by_cases h0:off=0
       · subst h0;rfl
       · exfalso
         obtain ⟨hl,h2⟩:=ZQ;rcases h2 with ⟨h3,_⟩|⟨g,cap,cur,hv,_⟩
         · cases h3
         · injection hv with h4;injection h4 with h4;injection h4 with _ h4;exact h0 h4
    have J0:=hide (OM _ A c k L _ wr hK hlen hes zpn (fun q hq=>(hseq q hq).mono fun j hj=>.inl hj) (by omega));have HBL:=hide hbl
    have mX:Hid (∀ j,(P j\/(Value.slice A k c).ownBlock=some j)->Kp j\/w.heap.size<=j/\j<wr.heap.size):=hide fun j hj=>by
     rcases hj with hj|hj
     · obtain ⟨h1,h2,_⟩:=hp j hj;rcases h1 with h1|h1
       · exact .inl h1
       · exact .inr ⟨h1,h2⟩
     · exact .inr ⟨ZP ZQ hj,OT ZQ hj⟩
    clear hlen hes ZQ hp hseq hbl hsl hK zpn HR;go_wp2_with fail;refine J0.out.mono ?_;rintro e w2 ⟨fv,K,rfl,hb2,hK2,hev⟩;have HB2:=hide (Z9 HBL.out hb2);have RO:=hide hev
    have mR:Hid (∀ j,K j->Kp j\/w.heap.size<=j/\j<w2.heap.size):=hide fun j hj=>by
     have h1:=HBL.out.size;have h2:=hb2.size;rcases hK2 j hj with h|⟨h,h3⟩
     · rcases mX.out j h with h|⟨h,h3⟩
       · exact .inl h
       · exact .inr ⟨h,by omega⟩
     · exact .inr ⟨by omega,h3⟩
    clear hb2 hK2 hev J0;go_wp2;go_ret;exact ⟨fv,K,rfl,HB2.out,mR.out,RO.out⟩
def sV(n i j:Nat):List Ev:=if j=i\/j=(i+1) % n then [] else [(4,(i:Int),(j:Int))]
theorem Zm.back{Kp Kp':Nat->Prop}{es:List Ev}{w w1 w':World}{e:Ending}(h:Zm Kp' es w1 e w')(hb:Below w.heap.size w w1)(hK:∀ k,Kp' k->Kp k\/w.heap.size<=k/\k<w1.heap.size):Zm Kp es w e w':=by
 obtain ⟨fv,K,h1,h2,h3,h4⟩:=h;have hs:=hb.size;have hs2:=h2.size;refine ⟨fv,K,h1,Z9 hb h2,fun k hk=>?_,h4⟩;rcases h3 k hk with h|⟨h,h5⟩
 · rcases hK k h with h|⟨h,h5⟩
   · exact .inl h
   · exact .inr ⟨h,by omega⟩
 · exact .inr ⟨by omega,h5⟩
theorem join_none(w:World):Calls prog 69 #[.slice none 0 0] w (Zm (fun _=>False) [] w) :=
 OM (fun _=>False) none 0 0 [] [] w (fun _ h=>h.elim) rfl rfl (.inl rfl) (fun p h=>by cases h) (by decide)
theorem FT {Kp K1 K2:Nat->Prop} {g1 g2:Nat} {l1 l2:Array Value} {es1 es2:List Ev} {w0 w1 w2:World} (iH:∀ k,Kp k->k<w0.heap.size) (hb1:Below w0.heap.size w0 w1) (h1:∀ k,K1 k->Kp k\/w0.heap.size<=k/\k<w1.heap.size) (e1:XR K1 (.func (.func g1) #[] l1) es1 w1)
 (hb2:Below w1.heap.size w1 w2) (h2:∀ k,K2 k->Kp k\/w0.heap.size<=k/\k<w2.heap.size) (e2:XR K2 (.func (.func g2) #[] l2) es2 w2) :
 Calls prog 69 #[.slice (some ⟨w2.heap.size,0,none⟩) 2 2] (w2.alloc (.cells #[.func (.func g1) #[] l1,.func (.func g2) #[] l2] 68)) (fun e w'=>Zm Kp (es1++es2) w0 e w'/\Below (w2.alloc (.cells #[.func (.func g1) #[] l1,.func (.func g2) #[] l2] 68)).heap.size (w2.alloc (.cells #[.func (.func g1) #[] l1,.func (.func g2) #[] l2] 68)) w'):=by
 have hb3:=Z7 (Below.refl w2.heap.size w2) (.cells #[.func (.func g1) #[] l1,.func (.func g2) #[] l2] 68);have N3:=Z6.new w2 68 #[.func (.func g1) #[] l1,.func (.func g2) #[] l2];have z1:=hb1.size;have z2:=hb2.size;have z3:(w2.alloc (.cells #[.func (.func g1) #[] l1,.func (.func g2) #[] l2] 68)).heap.size=w2.heap.size+1:=by simp
 have k1:∀ k,K1 k->k<w1.heap.size:=fun k hk=>by
  rcases h1 k hk with h|h
  · have:=iH k h;omega
  · omega
 have k2:∀ k,K2 k->k<w2.heap.size:=fun k hk=>by
  rcases h2 k hk with h|h
  · have:=iH k h;omega
  · omega
 refine (OM (fun k=>K1 k\/K2 k\/k=w2.heap.size) (some ⟨w2.heap.size,0,none⟩) 2 2 [(.func (.func g1) #[] l1,es1),(.func (.func g2) #[] l2,es2)] (es1++es2) _ ?_ rfl (by simp) ?_ ?_ (by decide)).mono fun e w' h=>⟨h.back (Z9 (Z9 hb1 hb2) hb3) ?_,by obtain ⟨_,_,_,h,_⟩:=h;exact h⟩
 · rintro k (h|h|h)
   · have:=k1 k h;omega
   · have:=k2 k h;omega
   · omega
 · exact .inr ⟨w2.heap.size,0,rfl,.inr (.inr rfl),fun j u hu=>by rw [Nat.zero_add];exact N3.cell (by simpa using hu)⟩
 · intro p hp;rcases List.mem_cons.1 hp with rfl|hp
   · exact (e1.kept (Z8.of_below (Z9 hb2 hb3) k1)).mono fun k h=>.inl h
   · rw [List.mem_singleton] at hp;subst hp;exact (e2.kept (Z8.of_below hb3 k2)).mono fun k h=>.inr (.inl h)
 · rintro k (h|h|h)
   · rcases h1 k h with h|h
     · exact .inl h
     · exact .inr (by omega)
   · rcases h2 k h with h|h
     · exact .inl h
     · exact .inr (by omega)
   · exact .inr (by omega)
theorem yC {Kp K1 K2:Nat->Prop} {g1 g2:Nat} {l1 l2:Array Value} {es1 es2:List Ev} {w0 w1 w2:World} (iH:∀ k,Kp k->k<w0.heap.size) (hb1:Below w0.heap.size w0 w1) (h1:∀ k,K1 k->Kp k\/w0.heap.size<=k/\k<w1.heap.size) (e1:XR K1 (.func (.func g1) #[] l1) es1 w1)
 (hb2:Below w1.heap.size w1 w2) (h2:∀ k,K2 k->Kp k\/w0.heap.size<=k/\k<w2.heap.size) (e2:XR K2 (.func (.func g2) #[] l2) es2 w2) :
 Calls prog 69 #[.slice (some ⟨w2.heap.size,0,none⟩) 2 2] (w2.alloc (.cells #[.func (.func g1) #[] l1,.func (.func g2) #[] l2] 68)) (Zm Kp (es1++es2) w0) :=
 (FT iH hb1 h1 e1 hb2 h2 e2).mono fun _ _ h=>h.1
theorem lT(n i j bi b0:Nat)(W:World)(hn:3<=n)(hn2:n<=10000)(hi:i<n)(_hj:j<n)(B1:Z6 W bi 3 #[.int .i64 (i:Int)])(B0:Z6 W b0 3 #[.int .i64 (n:Int)]):
 Calls prog 120 #[.int .i64 (j:Int),.pointer (some ⟨bi,0,none⟩),.pointer (some ⟨b0,0,none⟩)] W (Zm (fun _=>False) (sV n i j) W):=by
 have c1:=B1.q0 rfl;have c0:=B0.q0 rfl;have HJ:=hide (fun w=>join_none w);have HO:=hide (fun w=>OQ 4 (i:Int) (j:Int) w (by unfold Yu;omega));have hm:((i:Int)+1) % (n:Int)=(((i+1) % n:Nat):Int):=rfl;have hml:(i+1) % n<n:=Nat.mod_lt _ (by omega);unfold sV;obtain ⟨nx,hnx⟩:=eE ((i+1) % n);rw [<- hnx] at hm hml ⊢;have hn0:¬ (n:Int)=0:=by omega
 clear hnx
 by_cases h1:j=i
 · rw [if_pos (.inl h1)];have g1:(j:Int)=(i:Int):=(by omega);clear h1 HO;go_enter func120,ntmps120;go_wp2_with fail;refine (HJ.out _).mono ?_;rintro e w' ⟨fv,K,rfl,h⟩;have H:=hide h;clear h;go_wp2;go_ret;exact ⟨fv,K,rfl,H.out⟩
 · have g1:¬ (j:Int)=(i:Int):=by omega
   by_cases h2:j=nx
   · rw [if_pos (.inr h2)];have g2:(j:Int)=(nx:Int):=(by omega);clear h1 h2 HO;go_enter func120,ntmps120;go_wp2_with fail;refine (HJ.out _).mono ?_;rintro e w' ⟨fv,K,rfl,h⟩;have H:=hide h;clear h;go_wp2;go_ret;exact ⟨fv,K,rfl,H.out⟩
   · rw [if_neg (by omega)];have g2:¬ (j:Int)=(nx:Int):=(by omega);have e1:((j:Int) == (i:Int))=false:=(by simpa using g1);have e2:((j:Int) == (nx:Int))=false:=(by simpa using g2);clear h1 h2 HJ;go_enter func120,ntmps120;go_wp2_with fail;refine (HO.out _).mono ?_;rintro e w' ⟨fv,K,rfl,h⟩;have H:=hide h;clear h;go_wp2;go_ret;exact ⟨fv,K,rfl,H.out⟩
theorem dz(n i b0:Nat)(W:World)(hn:3<=n)(hn2:n<=10000)(hi:i<n)(B0:Z6 W b0 3 #[.int .i64 (n:Int)]):
 Calls prog 119 #[.int .i64 (i:Int),.pointer (some ⟨b0,0,none⟩)] W (Zm (fun k=>k=b0) ((List.range n).flatMap (sV n i)) W):=by
 have hlt:=B0.lt;obtain ⟨W1,hW1⟩:=eE (W.alloc (.cells #[.int .i64 (i:Int)] 3));have hb:=bE hW1;have hz:W1.heap.size=W.heap.size+1:=by rw [hW1];simp
 have B1:Z6 W1 W.heap.size 3 #[.int .i64 (i:Int)]:=by rw [hW1];exact Z6.new _ _ _
 have B01:=B0.step hb;have c0:=B01.q0 rfl
 have R:=Vl (fun k=>k=W.heap.size\/k=b0) (sV n i) n 120 #[.pointer (some ⟨W.heap.size,0,none⟩),.pointer (some ⟨b0,0,none⟩)] W1 (fun k hk=>by omega) (by omega) (enters_of func120 (by kernel_rfl) rfl)
  (fun j hj X hX=>(lT n i j W.heap.size b0 X hn hn2 hi hj (B1.kept hX (.inl rfl)) (B01.kept hX (.inr rfl))).mono fun e w' h=>h.mono fun k hk=>hk.elim)
 have HR:=hide R;have HB:=hide hb;have HZ:=hide hz;clear R B1 B01 B0 hb hz;rw [hW1] at c0 HR;go_enter func119,ntmps119;go_wp2_with fail;refine HR.out.mono ?_;rw [<- hW1];intro e w' h;obtain ⟨fv,K,rfl,h2⟩:=Zm.back (Kp:=fun k=>k=b0) h HB.out (fun k hk=>by have:=HZ.out;omega);have H:=hide h2;clear h2;go_wp2;go_ret;exact ⟨fv,K,rfl,H.out⟩
theorem Lh(n:Nat)(w:World)(hn:3<=n)(hn2:n<=10000):Calls prog 70 #[.int .i64 (n:Int)] w (Zm (fun _=>False) ((List.range n).flatMap fun i=>(List.range n).flatMap (sV n i)) w):=by
 obtain ⟨W1,hW1⟩:=eE (w.alloc (.cells #[.int .i64 (n:Int)] 3));have hb:=bE hW1;have hz:W1.heap.size=w.heap.size+1:=by rw [hW1];simp
 have B0:Z6 W1 w.heap.size 3 #[.int .i64 (n:Int)]:=by rw [hW1];exact Z6.new _ _ _
 have c0:=B0.q0 rfl
 have R:=Vl (fun k=>k=w.heap.size) (fun i=>(List.range n).flatMap (sV n i)) n 119 #[.pointer (some ⟨w.heap.size,0,none⟩)] W1 (fun k hk=>by omega) (by omega) (enters_of func119 (by kernel_rfl) rfl)
  (fun i hi X hX=>dz n i w.heap.size X hn hn2 hi (B0.kept hX rfl))
 have HR:=hide R;have HB:=hide hb;have HZ:=hide hz;clear R B0 hb hz;rw [hW1] at c0 HR;go_enter func70,ntmps70;go_wp2_with fail;refine HR.out.mono ?_;rw [<- hW1];intro e w' h;obtain ⟨fv,K,rfl,h2⟩:=Zm.back (Kp:=fun _=>False) h HB.out (fun k hk=>by have:=HZ.out;omega);have H:=hide h2;clear h2;go_wp2;go_ret;exact ⟨fv,K,rfl,H.out⟩
theorem j3(i:Nat)(W:World):Calls prog 121 #[.int .i64 (i:Int)] W (Zm (fun _=>False) [(5,(i:Int),0)] W):=by
 have HO:=hide (OQ 5 (i:Int) 0 W (by unfold Yu;omega));go_enter func121,ntmps121;go_wp2_with fail;refine HO.out.mono ?_;rintro e w' ⟨fv,K,rfl,h⟩;have H:=hide h;clear h;go_wp2;go_ret;exact ⟨fv,K,rfl,H.out⟩
theorem Nn(n:Nat)(w:World)(hn2:n<=10000):Calls prog 71 #[.int .i64 (n:Int)] w (Zm (fun _=>False) ((List.range n).flatMap fun (i:Nat)=>[(5,(i:Int),0)]) w):=by
 have HR:=hide (Vl (fun _=>False) (fun (i:Nat)=>[(5,(i:Int),0)]) n 121 #[] w (fun k hk=>hk.elim) (by omega) (enters_of func121 (by kernel_rfl) rfl) (fun i _ X _=>j3 i X));go_enter func71,ntmps71;go_wp2_with fail;refine HR.out.mono ?_;rintro e w' ⟨fv,K,rfl,h⟩;have H:=hide h;clear h;go_wp2;go_ret;exact ⟨fv,K,rfl,H.out⟩
end
section
open Go.RowKit Go.Shelf
def xE(rs:List Rg)(j:Nat):Int:=(rs[j]?.map (·.v)).getD 0
theorem GV{rs:List Rg}{j:Nat}{r:Rg}(h:rs[j]?=some r):xE rs j=r.v:=by unfold xE;rw [h];rfl
theorem sO{rs:List Rg}(h:∀ r∈rs,r.v=0\/3<=r.v/\r.v<=64)(j:Nat):xE rs j=0\/3<=xE rs j/\xE rs j<=64:=by
 unfold xE;cases hj:rs[j]? with
 | none=>exact .inl rfl
 | some r=>exact h r (List.mem_of_getElem? hj)
def rE(loc:Bool)(v:Int):List Ev:=if v=0 then (bif loc then [(6,0,0)] else [(4,0,2)]) else (bif loc then ((List.range v.toNat).flatMap fun (i:Nat)=>[(5,(i:Int),0)]) else ((List.range v.toNat).flatMap fun i=>(List.range v.toNat).flatMap (sV v.toNat i)))
def Fe(loc:Bool)(rs:List Rg)(i:Nat):List Ev:=(7,(i:Int),bif loc then 1 else 0)::rE loc (xE rs i)
theorem Zm.open_{Kp:Nat->Prop}{es:List Ev}{w w':World}{e:Ending}(h:Zm Kp es w e w'):∃ g l K,e=.returned (.func (.func g) #[] l)/\Below w.heap.size w w'/\(∀ k,K k->Kp k\/w.heap.size<=k/\k<w'.heap.size)/\XR K (.func (.func g) #[] l) es w':=by
 obtain ⟨fv,K,h1,h2,h3,g,l,rfl,h5⟩:=h;exact ⟨g,l,K,h1,h2,h3,g,l,rfl,h5⟩
section
variable (P:Nat->Prop)(rs:List Rg)(HA:Option Addr)(hc:Nat)
theorem rV(loc:Bool)(i b0 b1:Nat)(W:World)(hi:i<rs.length)(hok:∀ r∈rs,r.v=0\/3<=r.v/\r.v<=64)(hs:Sl W W.heap.size HA (rgCells rs))(B0:Z6 W b0 22 #[.slice HA rs.length hc])(B1:Z6 W b1 4 #[.bool loc]):
 Calls prog 122 #[.int .i64 (i:Int),.pointer (some ⟨b0,0,none⟩),.pointer (some ⟨b1,0,none⟩)] W (Zm (fun _=>False) (Fe loc rs i) W):=by
 obtain ⟨r,hr⟩:∃ r,rs[i]?=some r:=⟨_,List.getElem?_eq_getElem hi⟩;obtain ⟨b,off,hA,hB,q0,q1,q2⟩:=hs.rg hr;have hv:=hok r (List.mem_of_getElem? hr);have hva:=GV hr;have c0:=B0.q0 rfl;have c1:=B1.q0 rfl;have hii:(i:Int)<(rs.length:Int):=by omega
 have hi0:¬ (i:Int)<0:=by omega
 subst hA;obtain ⟨d,v,RA,rn,rc⟩:=r;dsimp only at q0 q1 q2 hv hva;unfold Fe;rw [hva];have HO:=hide (fun k a b w (hk:Yu k)=>OQ k a b w hk);clear B0 B1 hs hr hok hva q0 q2
 by_cases hv0:v=0
 · subst hv0;unfold rE;rw [if_pos rfl];cases loc with
   | true =>
     dsimp only [cond_true];go_enter func122,ntmps122;go_wp2_with fail;refine (HO.out 7 (i:Int) 1 _ (by unfold Yu;omega)).mono ?_;intro e w1 h;obtain ⟨g1,l1,K1,rfl,hb1,hk1,he1⟩:=h.open_;have HB1:=hide hb1;have Np:=hide hk1;have NZ:=hide he1;clear h hb1 hk1 he1;go_wp2_with fail;refine (HO.out 6 0 0 _ (by unfold Yu;omega)).mono ?_;intro e w2 h;obtain ⟨g2,l2,K2,rfl,hb2,hk2,he2⟩:=h.open_;have J:=hide (yC (fun k h=>h.elim) HB1.out Np.out NZ.out hb2 (fun k hk=>(hk2 k hk).imp id fun h=>⟨Nat.le_trans HB1.out.size h.1,h.2⟩) he2);clear h hb2 hk2 he2;go_wp2_with fail;refine J.out.mono ?_;rintro e w' ⟨fv,K,rfl,h2⟩;have H:=hide h2;clear h2;go_wp2;go_ret;exact ⟨fv,K,rfl,H.out⟩
   | false =>
     dsimp only [cond_false];go_enter func122,ntmps122;go_wp2_with fail;refine (HO.out 7 (i:Int) 0 _ (by unfold Yu;omega)).mono ?_;intro e w1 h;obtain ⟨g1,l1,K1,rfl,hb1,hk1,he1⟩:=h.open_;have HB1:=hide hb1;have Np:=hide hk1;have NZ:=hide he1;clear h hb1 hk1 he1;go_wp2_with fail;refine (HO.out 4 0 2 _ (by unfold Yu;omega)).mono ?_;intro e w2 h;obtain ⟨g2,l2,K2,rfl,hb2,hk2,he2⟩:=h.open_;have J:=hide (yC (fun k h=>h.elim) HB1.out Np.out NZ.out hb2 (fun k hk=>(hk2 k hk).imp id fun h=>⟨Nat.le_trans HB1.out.size h.1,h.2⟩) he2);clear h hb2 hk2 he2;go_wp2_with fail;refine J.out.mono ?_;rintro e w' ⟨fv,K,rfl,h2⟩;have H:=hide h2;clear h2;go_wp2;go_ret;exact ⟨fv,K,rfl,H.out⟩
 · have hvr:3<=v/\v<=64:=(by omega);obtain ⟨n,rfl⟩:∃ n:Nat,v=(n:Int):=⟨v.toNat,by omega⟩;unfold rE;rw [if_neg hv0,Int.toNat_natCast];have HV:=hide (fun w=>Lh n w (by omega) (by omega));have HL:=hide (fun w=>Nn n w (by omega));clear hv hvr;have hne:((n:Int) == 0)=false:=(by simpa using hv0);cases loc with
   | true =>
     dsimp only [cond_true];clear HV;go_enter func122,ntmps122;go_wp2_with fail;refine (HO.out 7 (i:Int) 1 _ (by unfold Yu;omega)).mono ?_;intro e w1 h;obtain ⟨g1,l1,K1,rfl,hb1,hk1,he1⟩:=h.open_;have HB1:=hide hb1;have Np:=hide hk1;have NZ:=hide he1;clear h hb1 hk1 he1;go_wp2_with fail;refine (HL.out _).mono ?_;intro e w2 h;obtain ⟨g2,l2,K2,rfl,hb2,hk2,he2⟩:=h.open_;have J:=hide (yC (fun k h=>h.elim) HB1.out Np.out NZ.out hb2 (fun k hk=>(hk2 k hk).imp id fun h=>⟨Nat.le_trans HB1.out.size h.1,h.2⟩) he2);clear h hb2 hk2 he2;go_wp2_with fail;refine J.out.mono ?_;rintro e w' ⟨fv,K,rfl,h2⟩;have H:=hide h2;clear h2;go_wp2;go_ret;exact ⟨fv,K,rfl,H.out⟩
   | false =>
     dsimp only [cond_false];clear HL;go_enter func122,ntmps122;go_wp2_with fail;refine (HO.out 7 (i:Int) 0 _ (by unfold Yu;omega)).mono ?_;intro e w1 h;obtain ⟨g1,l1,K1,rfl,hb1,hk1,he1⟩:=h.open_;have HB1:=hide hb1;have Np:=hide hk1;have NZ:=hide he1;clear h hb1 hk1 he1;go_wp2_with fail;refine (HV.out _).mono ?_;intro e w2 h;obtain ⟨g2,l2,K2,rfl,hb2,hk2,he2⟩:=h.open_;have J:=hide (yC (fun k h=>h.elim) HB1.out Np.out NZ.out hb2 (fun k hk=>(hk2 k hk).imp id fun h=>⟨Nat.le_trans HB1.out.size h.1,h.2⟩) he2);clear h hb2 hk2 he2;go_wp2_with fail;refine J.out.mono ?_;rintro e w' ⟨fv,K,rfl,h2⟩;have H:=hide h2;clear h2;go_wp2;go_ret;exact ⟨fv,K,rfl,H.out⟩
theorem Pm(loc:Bool)(w:World)(hlen:rs.length<=1000)(hok:∀ r∈rs,r.v=0\/3<=r.v/\r.v<=64)(hP:∀ k,P k->k<w.heap.size)(hs:U2 w P HA (rgCells rs)):
 Calls prog 72 #[.slice HA rs.length hc,.bool loc] w (Zm P ((List.range rs.length).flatMap (Fe loc rs)) w):=by
 obtain ⟨W1,hW1⟩:=eE ((w.alloc (.cells #[.slice HA rs.length hc] 22)).alloc (.cells #[.bool loc] 4));have hb:=bF hW1;have hz:W1.heap.size=w.heap.size+2:=by rw [hW1];simp
 have B0:Z6 W1 w.heap.size 22 #[.slice HA rs.length hc]:=by rw [hW1];exact (Z6.new _ _ _).alloc _
 have B1:Z6 W1 (w.heap.size+1) 4 #[.bool loc]:=by rw [hW1];exact Z6.new2 _ _ _ _
 have c0:=B0.q0 rfl;have hs1:=hs.kept (Z8.of_below hb hP)
 have R:=Vl (fun k=>P k\/k=w.heap.size\/k=w.heap.size+1) (Fe loc rs) rs.length 122 #[.pointer (some ⟨w.heap.size,0,none⟩),.pointer (some ⟨w.heap.size+1,0,none⟩)] W1 (fun k hk=>by rcases hk with hk|hk;have:=hP k hk;omega;omega) (by omega) (enters_of func122 (by kernel_rfl) rfl)
  (fun i hi X hX=>(rV rs HA hc loc i w.heap.size (w.heap.size+1) X hi hok ((hs1.kept (hX.mono fun k h=>.inl h)).sl fun k hk=>by have:=hP k hk;have:=hX.size;omega) (B0.kept hX (.inr (.inl rfl))) (B1.kept hX (.inr (.inr rfl)))).mono fun e w' h=>h.mono fun k hk=>hk.elim)
 have HR:=hide R;have HB:=hide hb;have HZ:=hide hz;clear R B0 B1 hb hz hs1 hs hP hok;rw [hW1] at c0 HR;go_enter func72,ntmps72;go_wp2_with fail;refine HR.out.mono ?_;rw [<- hW1];intro e w' h;obtain ⟨fv,K,rfl,h2⟩:=Zm.back (Kp:=P) h HB.out (fun k hk=>by have:=HZ.out;rcases hk with hk|hk;exact .inl hk;exact .inr (by omega));have H:=hide h2;clear h2;go_wp2;go_ret;exact ⟨fv,K,rfl,H.out⟩
end
end
section
open Go.RowKit Go.Shelf
attribute [local go_sem] Oper.semAt_some
theorem uL {F:Fence} {n:Nat} {P:Program} {ops:Array Oper} {rest:List Oper} {o:Oper} {a:Act} {Q:Exit->Act->World->Prop} {w:World} (s x:Operand) (t:TypeId)
 (hg:o.guard=none) (hop:o.op=Op.call { callee:=Callee.builtin Builtin.append,args:=#[s,x],argTypes:=#[t,t] }) (v xv:Value) (hs:a.eval s=v) (hx:a.eval x=xv) {v':Value} {w':World}
 (hrun:(Builtin.append_ #[t,t] o.type #[v,xv]).run P w=.ok v' w') (h:wpListIn F n P ops Q rest (a.put o.dst v') w'):wpListIn F n P ops Q (o::rest) a w:=by
 refine wpListIn_plain hg fun K hK'=>?_;unfold Oper.wpIn;refine ⟨?_,?_⟩
 · simp [Oper.about,hop,resolve,Target.leads,Sem.run_pure]
 · rw [Oper.semAt_plain F _ _ (by rw [hop];intro c hc';cases hc')];simp [execOp,hop,resolve,invoke,builtin,hs,hx,hrun,Result.andThen];exact hK' _ _ h
structure xJ(w:World)(Bs lo:Nat)(R:Nat->Prop)(es:List Ev)(X:World):Prop where
 box:∃ v,Z6 X Bs 27 #[v]/\X.ownsRow (Bs+1) 66 3 v es.length (Y5 es)/\∀ b,v.ownBlock=some b->¬ R b/\lo<=b
 nR:¬ R Bs
 bl:Below w.heap.size w X
theorem wJ{X Y:World}{base:Nat}{e:TypeId}{size:Nat}{v:Value}{k B:Nat}{xs:List Value}{R:Nat->Prop}(h:X.ownsRow base e size v k xs)(hst:YP B R X Y)(hn:∀ b,v.ownBlock=some b->¬ R b):Y.ownsRow base e size v k xs:=by
 refine ⟨h.1,?_⟩;rcases h.2 with h0|⟨g',cap,cur,hv,hb1,hh,r⟩
 · exact .inl h0
 · exact .inr ⟨g',cap,cur,hv,hb1,(hst.block g' (Z6.lt hh) (.inr ⟨hn g' (by rw [hv];simp [Value.ownBlock]),_,hh,rfl⟩)).trans hh,r⟩
theorem uW(w:World)(Bs lo B:Nat)(h1:w.heap.size<=B)(h2:Bs<B):Ue B (xJ w Bs lo):=by
 rintro R R' es X Y ⟨⟨v,hb,ZQ,hv⟩,hn,hbl⟩ hst hR
 have hnR:∀ k,k<X.heap.size->¬ R k->¬ R' k:=fun k hk hr h=>by
  rcases (hR k h).1 with h|h
  · exact hr h
  · omega
 refine ⟨⟨v,(hst.block Bs hb.lt (.inl h2)).trans hb,wJ ZQ hst fun b e=>(hv b e).1,fun b e=>⟨hnR b (OT ZQ e) (hv b e).1,(hv b e).2⟩⟩,hnR Bs hb.lt hn,⟨hst.os.trans hbl.os,hst.tape.trans hbl.tape,hst.output.trans hbl.output,Nat.le_trans hbl.size hst.size,fun k hk=>(hst.block k (Nat.lt_of_lt_of_le hk hbl.size) (.inl (by omega))).trans (hbl.block k hk)⟩⟩
theorem Jm(K:Nat->Prop)(fv:Value)(es:List Ev)(w:World)(hK:∀ k,K k->k<w.heap.size)(hev:XR K fv es w)(hlen:es.length<=2000000):
 Calls prog 68 #[.slice none 0 0,fv] w fun e w'=>∃ v,e=.returned v/\w'.ownsRow w.heap.size 66 3 v es.length (Y5 es)/\Below w.heap.size w w':=by
 obtain ⟨gf,lb,rfl,heg,hseq⟩:=hev;obtain ⟨Bs,oF⟩:=eE w.heap.size;obtain ⟨w1,hw1⟩:=eE (w.alloc (.cells #[.slice none 0 0] 27));have hb1:=bE hw1;have hz1:w1.heap.size=Bs+1:=by rw [hw1,oF];simp
 have N1:Z6 w1 Bs 27 #[.slice none 0 0]:=by rw [hw1,oF];exact Z6.new _ _ _
 have uI:Hid (CW prog K gf lb es w1):=hide fun l J Jx R W hW=>hseq l J Jx R W ((Z8.of_below hb1 hK).trans hW);have HEG:=hide heg;have Qo:Hid (xJ w Bs (w1.heap.size+2) K [] w1):=hide ⟨⟨_,N1,World.ownsRow_nil _ _ _ _,fun b h=>(by cases h)⟩,fun h=>by have:=hK _ h;omega,hb1⟩;have HK:=hide (fun k (h:K k)=>Nat.lt_of_lt_of_le (hK k h) hb1.size);have HZ1:=hide hz1;have L8:=hide oF;clear hseq heg hb1 hz1 N1 hK;refine (callsIn_wide (n:=6)).1 ?_;refine callsIn_of_wp_marks func68 rfl trivial ?_ rfl;simp only [ntmps68,List.size_toArray,List.length_cons,List.length_nil,Nat.reduceAdd,Nat.reduceSub,Array.replicate_succ,Array.replicate_zero,List.push_toArray,List.append_toArray,List.nil_append,List.cons_append];gi_wp2;rw [<- hw1,<- oF];have HW1:=hide hw1;clear hw1 oF;refine UC (K:=K) rfl HEG.out uI.out HK.out (fun _=>rfl) (xJ w Bs (w1.heap.size+2)) (fun _ _ _=>False) ?h1 ?h2 Qo.out ?round ?done ?stop
 case h1=>exact uW w Bs _ _ (by have:=HZ1.out;have:=L8.out;omega) (by have:=HZ1.out;omega)
 case h2=>exact fun _ _ _ _ _ _ h _ _=>h
 case stop=>exact fun _ _ h=>h.elim
 case done =>
  rintro ys X rfl ⟨⟨v,hb,ZQ,hv⟩,-,hbl⟩ hD -;have c0:=hb.q0 rfl;have hown':X.ownsRow w.heap.size 66 3 v ys.length (Y5 ys):=by
   refine ⟨ZQ.1,?_⟩;rcases ZQ.2 with h0|⟨g',cap,cur,h1,h2,r⟩
   · exact .inl h0
   · exact .inr ⟨g',cap,cur,h1,by have:=L8.out;omega,r⟩
  have hne:v.ownBlock=none\/v.ownBlock≠some w1.heap.size:=by
   cases h:v.ownBlock with
   | none=>exact .inl rfl
   | some b=>refine .inr fun e=>?_;cases e;have:=(hv _ h).2;omega
  have HOW:=hide hown';have Od:=hide hne;have HBL:=hide hbl;have HD:=hide hD;clear hb ZQ hv hbl hown' hne hD;gi_wp2;refine ⟨by simp,.inl ⟨_,_,rfl,run_takeDeferred HD.out,?_⟩⟩;refine ⟨_,results_tmp rfl _ _ _,_,rfl,HOW.out.kept (grownBy_putObj' _ _ _) Od.out,?_⟩;exact HBL.out.grown (grownBy_putObj' _ _ _) HBL.out.size (fun k e=>by cases e;have:=HZ1.out;have:=L8.out;omega)
 case round =>
  rintro R pre x X hR hnl hs1 ⟨rec,hrec⟩ ⟨⟨v,hb,ZQ,hv⟩,hnB,hbl⟩ hpre -;obtain ⟨i0,hi,hz0,hz1,hz2⟩:=info_parts V8;obtain ⟨k,a,b⟩:=x;have hzz:w1.heap.size<=Bs+1/\Bs+1<=w1.heap.size:=by have:=HZ1.out;omega
  have hbs:Bs<=w.heap.size/\w.heap.size<=Bs:=by have:=L8.out;omega
  obtain ⟨X1,hX1⟩:=eE (X.alloc (.cells #[.int .i64 k,.int .i64 a,.int .i64 b] 66));have hbX:=bE hX1;have fu:X1.heap.size=X.heap.size+1:=by rw [hX1];simp
  have hE:Z6 X1 X.heap.size 66 #[.int .i64 k,.int .i64 a,.int .i64 b]:=by rw [hX1];exact Z6.new _ _ _
  have hb1:=hb.step hbX;have Zn:=ZO ZQ hbX;have zwx:=Z9 hbl hbX;have hlt:=hb.lt;unfold Hu;dsimp only;gi_wp2;rw [<- hX1];refine ⟨Z8.of_below hbX (fun k hk=>?_),fun o=>?_⟩
  · rcases hk with hk|hk|hk
    · exact hR k hk
    · omega
    · omega
  obtain ⟨X2,hX2⟩:=eE (X1.putObj (w1.heap.size+1) (.loop o));have hl1:X1.heap[w1.heap.size+1]?=some (.loop rec):=(hbX.block _ hs1).trans hrec;have hgp:X1.grownBy X2 (some (w1.heap.size+1)):=by rw [hX2];exact grownBy_putObj' _ _ _
  have hvn:v.ownBlock≠some (w1.heap.size+1):=fun e=>by have:=(hv _ e).2;omega
  have hb2:Z6 X2 Bs 27 #[v]:=by rw [hX2];exact (World.putObj_heap_other (by omega)).trans hb1
  have hE2:Z6 X2 X.heap.size 66 #[.int .i64 k,.int .i64 a,.int .i64 b]:=by rw [hX2];exact (World.putObj_heap_other (by omega)).trans hE
  have Zj:=Zn.kept hgp (.inr hvn);have zwy:Below w.heap.size w X2:=zwx.grown hgp zwx.size (fun j e=>by cases e;omega);have hz2':X2.heap.size=X.heap.size+1:=by rw [hX2,<- fu];simp
  rw [<- hX2];obtain ⟨X3,hX3⟩:=eE (X2.alloc (.cells #[.int .i64 k,.int .i64 a,.int .i64 b] 66));have oV:=bE hX3;have hz3:X3.heap.size=X2.heap.size+1:=by rw [hX3];simp
  have N3:Z6 X3 X2.heap.size 66 #[.int .i64 k,.int .i64 a,.int .i64 b]:=by rw [hX3];exact Z6.new _ _ _
  have ZM:=ZO Zj oV;have hb3:=hb2.step oV;have Mg:=Z9 zwy oV;obtain ⟨g4,c4,X4,hr4,Y9,hg4,eB,zkb⟩:=run_append_lies (P:=prog) X3 27 27 (Bs+1) 66 i0 (.agg #[.int .i64 0,.int .i64 0,.int .i64 0]) 3 24 underlying27 hi hz0 hz1 hz2 rfl (by decide) v pre.length (Y5 pre) ZM ⟨X2.heap.size,0,none⟩ 1 1 [.int .i64 k,.int .i64 a,.int .i64 b] rfl (ZI N3) (by simp [Value.oneCell']) (by omega) (by unfold maxLen;omega) (by omega) (by omega) _ rfl;have hvB:v.ownBlock≠some Bs:=fun e=>by have:=ZP ZM e;omega
  have hb4:Z6 X4 Bs 27 #[v]:=hb3.grown hg4 (Ne.symm hvB);have zkp:=hg4.size;have hgv:∀ j,v.ownBlock=some j->¬ R j/\w1.heap.size+2<=j:=hv;have zok:¬ R g4/\w1.heap.size+2<=g4:=by
   rcases eB with h|h
   · exact hv g4 h
   · refine ⟨fun hr=>?_,?_⟩
     · have:=hR g4 hr;omega
     · omega
  have zjw:g4≠Bs:=by omega
  obtain ⟨X5,hX5⟩:=eE (X4.setCell ⟨Bs,0,none⟩ (.slice (some ⟨g4,0,none⟩) (pre.length+1) c4));have hb5:Z6 X5 Bs 27 #[.slice (some ⟨g4,0,none⟩) (pre.length+1) c4]:=by rw [hX5];exact hb4.set 0 _
  have DI:X5.ownsRow (Bs+1) 66 3 (.slice (some ⟨g4,0,none⟩) (pre.length+1) c4) (pre++[(k,a,b)]).length (Y5 (pre++[(k,a,b)])):=by
   have e:(pre++[(k,a,b)]).length=pre.length+1:=(by simp);rw [Yb,e,hX5];exact LU Y9 (by simpa [Value.ownBlock] using zjw) _
  have oW:Below w.heap.size w X5:=by
   rw [hX5];exact (Mg.grown hg4 Mg.size (fun j e=>by have:=(hv j e).2;omega)).grown (grownBy_setCell' _ _ _) (by have:=Mg.size;omega) (fun j e=>by cases e;omega)
  have HF:Hid (Z8 (Bk R w1.heap.size) X2 X5/\xJ w Bs (w1.heap.size+2) R (pre++[(k,a,b)]) X5):=hide ⟨by
   rw [hX5];refine ((Z8.of_below oV fun j hj=>?_).trans ⟨hg4.os,hg4.tape,hg4.output,hg4.size,fun j hj=>hg4.block j ?_ ?_⟩).trans (Z8.setCell ?_ _ _ _)
   · rcases hj with hj|hj|hj
     · have:=hR j hj;omega
     · omega
     · omega
   · rcases hj with hj|hj|hj
     · have:=hR j hj;omega
     · omega
     · omega
   · intro e;obtain ⟨h1,h2⟩:=hv j e.symm;rcases hj with hj|hj|hj
     · exact h1 hj
     · omega
     · omega
   · rintro (hj|hj|hj)
     · exact hnB hj
     · omega
     · omega,
   ⟨⟨_,hb5,DI,fun j e=>by
     have:g4=j:=(by have:some g4=some j:=e;exact Option.some.inj this);subst this
     exact zok⟩,hnB,oW⟩⟩
  have c0:=hb2.q0 rfl;have e0:=hE2.q0 rfl;have e1:=hE2.q1 rfl;have e2:=hE2.q2 rfl;have c4':=hb4.q0 rfl;have f4:=hb4.frozen 0;rw [hX3] at hr4;clear hb ZQ hv hnB hbl hpre hi hz0 hz1 hz2 hX1 hbX fu hE hb1 Zn zwx hlt hl1 hgp hvn hb2 hE2 Zj zwy hX2 hX3 oV hz3 N3 ZM hb3 Mg Y9 hg4 eB zkb hvB hb4 zkp hgv zok hb5 DI oW hrec hnl hs1 hR hzz hbs hz2' i0;gi_wp2_with (gi_at_builtin;refine uL (.tmp 8) (.tmp 10) 27 rfl rfl _ _ rfl rfl hr4 ?_);rw [<- hX5];exact HF.out
end
end Go.Proofs.YtfljlmleiggmjaaGreatDoor