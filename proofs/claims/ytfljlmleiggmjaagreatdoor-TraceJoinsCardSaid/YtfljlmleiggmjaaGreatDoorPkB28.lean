/- TraceJoin TraceRep -/
import Derived.Deep.AppendLies
import Derived.Test.YtfljlmleiggmjaaGreatDoorPkB27
set_option maxRecDepth 1000000
set_option maxHeartbeats 8000000
namespace Go.Proofs.YtfljlmleiggmjaaGreatDoor
section
open Go.RowKit Go.Shelf
attribute [local go_sem] Oper.semAt_some
def JnR (Rr R:Nat→Prop) (s:Nat) (X:World) (k:Nat):Prop:=R k∨Rr k∨(k=s∨k=s+1)∧k<X.heap.size
def JnI (J:(Nat→Prop)→List Ev→World→Prop) (Rr:Nat→Prop) (pre0:List Ev) (wc:World) (R:Nat→Prop) (pre:List Ev) (X:World):Prop:=J (JnR Rr R wc.heap.size X) (pre0++pre) X∧KeepP Rr wc X
theorem jn_rests {α:Type} {J:(Nat→Prop)→List Ev→World→Prop} {Rr:Nat→Prop} {B:Nat} {wc:World} (f:List α→List Ev) (hJ:Rests B J) (hB:B≤wc.heap.size) (hRr:∀ k,Rr k→k<wc.heap.size) :
 Rests wc.heap.size (fun R pre X=>J (JnR Rr R wc.heap.size X) (f pre) X∧KeepP Rr wc X):=by
 rintro R R' s X Y ⟨hj,hk⟩ hst hR
 have hXY:=hst.size
 have hwX:=hk.size
 refine ⟨hJ _ _ _ X Y hj ⟨hst.os,hst.tape,hst.output,hst.size,fun k hkl hc=>hst.block k hkl ?_⟩ ?_,hk.trans ⟨hst.os,hst.tape,hst.output,hst.size,fun k hk=>?_⟩⟩
 · rcases hc with hc | ⟨hn,hc⟩
   · exact .inl (by omega)
   · exact .inr ⟨fun h=>hn (.inl h),hc⟩
 · rintro k (h | h | ⟨h,h2⟩)
   · obtain ⟨h1,h2⟩:=hR k h
     refine ⟨?_,h2⟩
     rcases h1 with h1 | h1
     · exact .inl (.inl h1)
     · exact .inr h1
   · exact ⟨.inl (.inr (.inl h)),by have:=hRr k h;omega⟩
   · refine ⟨?_,h2⟩
     by_cases hx:k<X.heap.size
     · exact .inl (.inr (.inr ⟨h,hx⟩))
     · exact .inr (by omega)
 · have:=hRr k hk
   exact hst.block k (by omega) (.inl this)
structure JnAt (J:(Nat→Prop)→List Ev→World→Prop) (R:Nat→Prop) (Y:Nat) (W0:World) (lo:Nat) (L:List (Value × List Ev)) (i:Nat) (ds:List Deferred) (Rr:Nat→Prop) (X:World):Prop where
 marks:Marks lo ds X
 dsR:∀ r,{ target:=.collected r,args:=#[] }∈ds→Rr r
 sub:∀ k,R k→Rr k
 hY:Rr Y
 lt:∀ k,Rr k→k<X.heap.size
 j:J Rr ((L.take i).flatMap (·.2)) X
 keep:KeepP (fun k=>R k∨k=Y) W0 X
theorem join1_at (K:Nat→Prop) (Bx:Nat) (A:Option Addr) (c:Nat) (L:List (Value × List Ev)) (w:World) (hBx:K Bx) (hB:Blk w Bx 168 #[.slice A L.length c]) (hs:SlP w K A (L.map (·.1))) (hL:∀ p∈L,EvSeq K p.1 p.2 w) (hlen:L.length≤1000000) :
 SeqAt Tryz.prog K 118 #[.pointer (some ⟨Bx,0,none⟩)] (L.flatMap (·.2)) w:=by
 intro l J Jx R W hk hKR hRW hJ hJx hY h0
 obtain ⟨Y,hYs⟩:∃ Y,Y=W.heap.size:=⟨_,rfl⟩
 obtain ⟨W0,hW0⟩:∃ W0,W0=W.alloc (.cells #[.func (.yield l) #[] #[]] 169):=⟨_,rfl⟩
 have hb0:Below W.heap.size W W0:=by rw [hW0];exact bA
 have hz0:W0.heap.size=Y+1:=by rw [hW0,hYs];simp
 have BY:Blk W0 Y 169 #[.func (.yield l) #[] #[]]:=by rw [hW0,hYs];exact Blk.new _ _ _
 have hkw0:KeepP K w W0:=hk.trans (KeepP.of_below hb0 fun k h=>hRW k (hKR k h))
 have cB:=(hB.kept hkw0 hBx).cell (i:=0) rfl
 have HS:=hide (hs.kept hkw0)
 have HL:=hide (fun p (hp:p∈L)=>(hL p hp).kept hkw0)
 have HAT:JnAt J R Y W0 Y L 0 [] (fun k=>R k∨k=Y) W0:=⟨trivial,fun r h=>(by cases h),fun k h=>.inl h,.inr rfl,fun k h=>(by rcases h with h | h;exact Nat.lt_of_lt_of_le (hRW k h) hb0.size;omega),hJ R _ [] W W0 h0 (Stirs.of_below hb0 _ _) (fun k h=>(by rcases h with h | h;exact ⟨.inl h,Nat.lt_of_lt_of_le (hRW k h) hb0.size⟩;exact ⟨.inr (by omega),by omega⟩)),KeepP.refl _ _⟩
 have HATh:=hide HAT
 have HJ:=hide (hYs ▸ hJ:Rests Y J);have HJX:=hide (hYs ▸ hJx:Rests Y (fun R _ W=>Jx R W));have HY:=hide hY;have HKR:=hide hKR;have HRY:Hid (∀ k,R k→k<Y):=hide (fun k h=>hYs ▸ hRW k h)
 have HZ0:=hide hz0
 clear HAT hk hKR hRW hJ hJx hY h0 hb0 hz0 hkw0 hB hs hL
 refine (callsIn_wide (n:=6)).1 ?_
 refine callsIn_of_wp_marks Tryz.func118 rfl trivial ?_ rfl
 simp only [Tryz.ntmps118,List.size_toArray,List.length_cons,List.length_nil,Nat.reduceAdd,Nat.reduceSub,Array.replicate_succ,Array.replicate_zero,List.push_toArray,List.append_toArray,List.nil_append,List.cons_append]
 rw [hW0] at cB
 gi_wp2
 rw [← hW0,← hYs]
 have HW0:=hide hW0
 clear hW0 cB hYs
 refine wpIn_loop (fun a' w'=>∃ (i:Nat) (u3 u4 u5 u9 u10 u11 u12 u13 u14 u15 u16 u17 u18:Value) (ds:List Deferred) (Rr:Nat→Prop),i≤L.length∧Hid (JnAt J R Y W0 Y L i ds Rr w') ∧
  a'={ tmps:=#[.func (.yield l) #[] #[],.pointer (some ⟨Bx,0,none⟩),.pointer (some ⟨Y,0,none⟩),u3,u4,u5,.slice A L.length c,.int .i64 (L.length:Int),.int .i64 (i:Int),u9,u10,u11,u12,u13,u14,u15,u16,u17,u18],defers:=ds })
  (fun a' _=>L.length - (intOf (a'.tmps.getD 8 undef)).toNat) ?_ ?_
 · exact ⟨0,_,_,_,_,_,_,_,_,_,_,_,_,_,[],_,Nat.zero_le _,HATh,rfl⟩
 · rintro a' wr ⟨i,u3,u4,u5,u9,u10,u11,u12,u13,u14,u15,u16,u17,u18,ds,Rr,hi,HA,rfl⟩
   by_cases hlt:i<L.length
   · have hlti:(i:Int)<(L.length:Int):=by omega
     obtain ⟨p,hp⟩:∃ p,L[i]?=some p:=⟨_,List.getElem?_eq_getElem hlt⟩
     have hmem:=List.mem_of_getElem? hp
     have hkr:KeepP K W0 wr:=HA.out.keep.mono fun k h=>.inl (HKR.out k h)
     obtain ⟨gf,lb,hfv,heg,hseq⟩:=(HL.out p hmem).kept hkr
     have hsl:=(HS.out.kept hkr)
     have hget:(L.map (·.1))[i]?=some p.1:=by rw [List.getElem?_map,hp];rfl
     rcases hsl with hsl | ⟨b,off,hA,hKb,hc⟩
     · rw [hsl] at hget;simp at hget
     subst hA
     have ci:=hc i p.1 hget
     rw [hfv] at ci
     have HNX:Hid ((L.take (i+1)).flatMap (·.2)=(L.take i).flatMap (·.2)++p.2):=hide (by rw [List.take_add_one,hp];simp)
     have HPRE:Hid (((L.take (i+1)).flatMap (·.2)).length≤(L.flatMap (·.2)).length):=hide (List.IsPrefix.length_le ⟨(L.drop (i+1)).flatMap (·.2),by rw [← List.flatMap_append,List.take_append_drop]⟩)
     have HSEQ:=hide hseq
     have HEG:=hide heg
     obtain ⟨es,hes⟩:∃ es,es=p.2:=⟨_,rfl⟩
     rw [← hes] at HSEQ HNX
     obtain ⟨pre0,hpre0⟩:∃ pre0,pre0=(L.take i).flatMap (·.2):=⟨_,rfl⟩
     have HP0:=hide hpre0
     rw [← hpre0] at HNX
     have HKRR:Hid (∀ k,K k→Rr k):=hide fun k h=>HA.out.sub k (HKR.out k h)
     clear hget hc hseq heg hfv hmem hp hkr hes hpre0
     gi_wp2
     refine wpIn_range_seq (K:=K) rfl HEG.out HSEQ.out (fun k h=>HA.out.lt k (HKRR.out k h)) (fun _=>rfl) (JnI J Rr pre0 wr) (fun c R' X=>c=.ret∧Jx (JnR Rr R' wr.heap.size X) X∧KeepP Rr wr X) ?h1 ?h2 ?h3 ?round ?done ?stop
     case h1=>exact jn_rests (fun pre=>pre0++pre) HJ.out (by have:=HA.out.keep.size;have:=HZ0.out;omega) HA.out.lt
     case h2 =>
      intro c R1 R2 s X Z ⟨hc,h1,h2⟩ hst hR
      obtain ⟨h3,h4⟩:=jn_rests (fun pre:List Ev=>pre) HJX.out (by have:=HA.out.keep.size;have:=HZ0.out;omega) HA.out.lt R1 R2 s X Z ⟨h1,h2⟩ hst hR
      exact ⟨hc,h3,h4⟩
     case h3 =>
      refine ⟨HJ.out Rr _ _ wr wr ?_ (Stirs.refl _ _ _) fun k hk=>?_,KeepP.refl _ _⟩
      · rw [List.append_nil,HP0.out];exact HA.out.j
      · rcases hk with hk | hk | ⟨hk,hk2⟩
        · exact ⟨.inl (HKRR.out k hk),HA.out.lt k (HKRR.out k hk)⟩
        · exact ⟨.inl hk,HA.out.lt k hk⟩
        · omega
     case round =>
      rintro R' pre x X hR' hnl hs1 ⟨rec,hrec⟩ ⟨hj,hkk⟩ hpre hok
      have hYX:Blk X Y 169 #[.func (.yield l) #[] #[]]:=(BY.kept HA.out.keep (.inr rfl)).kept hkk HA.out.hY
      have hYlt:=hYX.lt
      have hYs:Y<wr.heap.size:=HA.out.lt Y HA.out.hY
      obtain ⟨X1,hX1⟩:∃ X1,X1=X.alloc (.cells #[.int .i64 x.1,.int .i64 x.2.1,.int .i64 x.2.2] 66):=⟨_,rfl⟩
      have hbX:Below X.heap.size X X1:=by rw [hX1];exact bA
      have hzX:X1.heap.size=X.heap.size+1:=by rw [hX1];simp
      have hE:Blk X1 X.heap.size 66 #[.int .i64 x.1,.int .i64 x.2.1,.int .i64 x.2.2]:=by rw [hX1];exact Blk.new _ _ _
      have hl1:X1.heap[wr.heap.size+1]?=some (.loop rec):=(hbX.block _ hs1).trans hrec
      have hY1:=hYX.step hbX
      unfold encEv
      gi_wp2
      rw [← hX1]
      refine ⟨KeepP.of_below hbX (fun k hk=>?_),fun o=>?_⟩
      · rcases hk with hk | hk | hk
        · exact hR' k hk
        · omega
        · omega
      have hst:Stirs Y (JnR Rr R' wr.heap.size X) X (X1.putObj (wr.heap.size+1) (.loop o)):=(Stirs.of_below hbX _ _).trans (Stirs.put (by omega) hl1 rfl (JnR Rr R' wr.heap.size X) _) (fun j h=>.inl h)
      have hR3:∀ k,(JnR Rr R' wr.heap.size X k∨k=X.heap.size)→k<X1.heap.size:=fun k hk=>by
       have:=hkk.size
       rcases hk with (hk | hk | ⟨_,hk⟩) | hk
       · have:=hR' k hk;omega
       · have:=HA.out.lt k hk;omega
       · omega
       · omega
      have hjy:=HJ.out _ (fun k=>JnR Rr R' wr.heap.size X k∨k=X.heap.size) _ X (X1.putObj (wr.heap.size+1) (.loop o)) hj hst (fun k hk=>⟨by rcases hk with hk | hk;exact .inl hk;exact .inr (by omega),by have:=hR3 k hk;simpa using this⟩)
      have hpr2:(pre0++pre).length<(L.flatMap (·.2)).length:=by
       have:=HPRE.out
       rw [HNX.out,List.length_append] at this
       rw [List.length_append];omega
      obtain ⟨fn,tmps,assign,body,hy,hRo⟩:=HY.out 1 _ _ x (X1.putObj (wr.heap.size+1) (.loop o)) (fun k hk=>by have:=hR3 k hk;simpa using this) hjy hpr2 hok
      have yb:Blk (X1.putObj (wr.heap.size+1) (.loop o)) Y 169 #[.func (.yield l) #[] #[]]:=(World.putObj_heap_other (by omega)).trans hY1
      have eb:Blk (X1.putObj (wr.heap.size+1) (.loop o)) X.heap.size 66 #[.int .i64 x.1,.int .i64 x.2.1,.int .i64 x.2.2]:=(World.putObj_heap_other (by omega)).trans hE
      have y0:=yb.cell (i:=0) rfl
      have e0:=eb.cell (i:=0) rfl
      have e1:=eb.cell (i:=1) rfl
      have e2:=eb.cell (i:=2) rfl
      have HKX:Hid (KeepP Rr wr (X1.putObj (wr.heap.size+1) (.loop o))):=hide ((hkk.trans (KeepP.of_below hbX fun k hk=>Nat.lt_of_lt_of_le (HA.out.lt k hk) hkk.size)).trans (KeepP.putObj _ (fun h=>by have:=HA.out.lt _ h;omega) _))
      have HR3:Hid (∀ k,(JnR Rr R' wr.heap.size X k∨k=X.heap.size)→k<X.heap.size+1):=hide fun k hk=>by have:=hR3 k hk;omega
      have HS1:=hide hs1
      obtain ⟨X2,hX2⟩:∃ X2,X2=X1.putObj (wr.heap.size+1) (.loop o):=⟨_,rfl⟩
      rw [← hX2] at hy hRo y0 e0 e1 e2 HKX ⊢
      have hz2:X2.heap.size=X.heap.size+1:=by rw [hX2,← hzX];simp
      have HZ2:=hide hz2
      have HRO:=hide hRo
      have HRB:=hide hR'
      unfold encEv at hy
      clear hRo hjy hpr2 hst hR3 hj hkk hpre hYX hYlt hYs hX1 hbX hzX hE hl1 hY1 hrec hnl hs1 yb eb hX2 hz2 ci hR'
      gi_wp2_with fail
      refine (RoundIn.inRound' _ HRO.out).mono ?_
      rintro e X3 (⟨rfl,h1,h2⟩ | ⟨rfl,h1,h2⟩)
      · have H1:=hide h1;have H2:=hide h2
        clear h1 h2 HRO hy y0 e0 e1 e2
        gi_wp2
        have hz:=H2.out.size
        refine ⟨H2.out.mono fun k hk=>?_,HJ.out (fun k=>JnR Rr R' wr.heap.size X k∨k=X.heap.size) _ _ X3 X3 ?_ (Stirs.refl _ _ _) fun k hk=>?_,HKX.out.trans (H2.out.mono fun k hk=>.inl (.inr (.inl hk)))⟩
        · rcases hk with hk | hk | hk
          · exact .inl (.inl hk)
          · exact .inl (.inr (.inr ⟨.inl hk,by have:=HS1.out;omega⟩))
          · exact .inl (.inr (.inr ⟨.inr hk,by have:=HS1.out;omega⟩))
        · rw [← List.append_assoc];exact H1.out
        · have hzz:=HZ2.out
          rcases hk with hk | hk | ⟨hk,hk2⟩
          · exact ⟨.inl (.inl (.inl hk)),by have:=HRB.out k hk;omega⟩
          · exact ⟨.inl (.inl (.inr (.inl hk))),by have:=HR3.out k (.inl (.inr (.inl hk)));omega⟩
          · exact ⟨.inl (.inl (.inr (.inr ⟨hk,by have:=HS1.out;omega⟩))),hk2⟩
      · have H1:=hide h1;have H2:=hide h2
        clear h1 h2 HRO hy y0 e0 e1 e2
        gi_wp2
        have hz:=H2.out.size
        refine ⟨H2.out.mono fun k hk=>?_,rfl,HJX.out _ _ [] X3 X3 H1.out (Stirs.refl _ _ _) fun k hk=>?_,HKX.out.trans (H2.out.mono fun k hk=>.inl (.inr (.inl hk)))⟩
        · rcases hk with hk | hk | hk
          · exact .inl (.inl hk)
          · exact .inl (.inr (.inr ⟨.inl hk,by have:=HS1.out;omega⟩))
          · exact .inl (.inr (.inr ⟨.inr hk,by have:=HS1.out;omega⟩))
        · have hzz:=HZ2.out
          rcases hk with hk | hk | ⟨hk,hk2⟩
          · exact ⟨.inl (.inl (.inl hk)),by have:=HRB.out k hk;omega⟩
          · exact ⟨.inl (.inl (.inr (.inl hk))),by have:=HR3.out k (.inl (.inr (.inl hk)));omega⟩
          · exact ⟨.inl (.inl (.inr (.inr ⟨hk,by have:=HS1.out;omega⟩))),hk2⟩
     case done =>
      rintro ys X rfl ⟨hj,hkk⟩ hD hsl
      have hmk:∀ r,{ target:=.collected r,args:=#[] }∈ds→r<wr.heap.size:=fun r h=>(Array.getElem?_eq_some_iff.1 (HA.out.marks.lt r h).2).1
      have hz:=hkk.size
      have HAN:Hid (JnAt J R Y W0 Y L (i+1) ({ target:=.collected wr.heap.size,args:=#[] }::ds) (fun k=>Rr k∨k=wr.heap.size) X):=hide
       ⟨⟨wr.heap.size,rfl,by have:=HA.out.keep.size;have:=HZ0.out;omega,hD,hmk,HA.out.marks.keep fun r h=>hkk.block r (HA.out.dsR r h)⟩,
        fun r h=>by
         rcases List.mem_cons.1 h with h | h
         · injection h with h _;injection h with h;exact .inr h
         · exact .inl (HA.out.dsR r h),
        fun k h=>.inl (HA.out.sub k h),.inl HA.out.hY,
        fun k h=>by
         rcases h with h | h
         · have:=HA.out.lt k h;omega
         · omega,
        by
         rw [HNX.out]
         refine HJ.out _ _ _ X X hj (Stirs.refl _ _ _) fun k hk=>?_
         rcases hk with hk | hk
         · exact ⟨.inl (.inr (.inl hk)),by have:=HA.out.lt k hk;omega⟩
         · exact ⟨.inl (.inr (.inr ⟨.inl hk,by omega⟩)),by omega⟩,
        HA.out.keep.trans (hkk.mono fun k h=>by
         rcases h with h | h
         · exact HA.out.sub k h
         · rw [h];exact HA.out.hY)⟩
      clear hj hkk hD hsl hmk hz
      gi_wp2
      refine ⟨⟨i+1,_,_,_,_,_,_,_,_,_,_,_,_,_,_,_,by omega,HAN,rfl⟩,?_⟩
      simp [intOf];omega
     case stop =>
      rintro c X ⟨rfl,hjx,hkk⟩ hD hsl
      have hmk:∀ r,{ target:=.collected r,args:=#[] }∈ds→r<wr.heap.size:=fun r h=>(Array.getElem?_eq_some_iff.1 (HA.out.marks.lt r h).2).1
      have hz:=hkk.size
      have HM:Hid (Marks Y ({ target:=.collected wr.heap.size,args:=#[] }::ds) X):=hide ⟨wr.heap.size,rfl,by have:=HA.out.keep.size;have:=HZ0.out;omega,hD,hmk,HA.out.marks.keep fun r h=>hkk.block r (HA.out.dsR r h)⟩
      have hRx:∀ k,R k→k<X.heap.size:=fun k h=>by have:=HA.out.lt k (HA.out.sub k h);omega
      have HC:Hid (Jx R X∧∀ k,R k→k<X.heap.size):=hide ⟨HJX.out _ R [] X X hjx (Stirs.refl _ _ _) fun k hk=>⟨.inl (.inr (.inl (HA.out.sub k hk))),hRx k hk⟩,hRx⟩
      clear hjx hkk hD hsl hmk hz hRx
      gi_wp2
      refine leaves_marks (lo:=Y) (C:=fun X=>Jx R X∧∀ k,R k→k<X.heap.size) ?_ _ X HM.out HC.out ?_
      · rintro X r ⟨h1,h2⟩ hr hl
        exact ⟨HJX.out R R [] X _ h1 (Stirs.put hr hl rfl R _) fun k hk=>⟨.inl hk,by have:=h2 k hk;simpa using this⟩,fun k hk=>by have:=h2 k hk;simpa using this⟩
      · rintro X ⟨h1,_⟩
        exact ⟨_,results_none rfl _ _ _,⟨_,rfl⟩,.inr h1⟩
   · obtain rfl:i=L.length:=by omega
     have hRx:∀ k,R k→k<wr.heap.size:=fun k h=>HA.out.lt k (HA.out.sub k h)
     have HC:Hid (J R (L.flatMap (·.2)) wr∧∀ k,R k→k<wr.heap.size):=hide ⟨by
      have h:=HJ.out _ R _ wr wr HA.out.j (Stirs.refl _ _ _) fun k hk=>⟨.inl (HA.out.sub k hk),hRx k hk⟩
      rwa [List.take_length] at h,hRx⟩
     have HM:=hide HA.out.marks
     clear hRx
     gi_wp2
     refine leaves_marks (lo:=Y) (C:=fun X=>J R (L.flatMap (·.2)) X∧∀ k,R k→k<X.heap.size) ?_ _ wr HM.out HC.out ?_
     · rintro X r ⟨h1,h2⟩ hr hl
       exact ⟨HJ.out R R _ X _ h1 (Stirs.put hr hl rfl R _) fun k hk=>⟨.inl hk,by have:=h2 k hk;simpa using this⟩,fun k hk=>by have:=h2 k hk;simpa using this⟩
     · rintro X ⟨h1,_⟩
       exact ⟨_,results_none rfl _ _ _,⟨_,rfl⟩,.inl ⟨_,rfl,h1⟩⟩
theorem join_raw (A:Option Addr) (n c:Nat) (w:World):Calls Tryz.prog 69 #[.slice A n c] w fun e w' =>
 e=.returned (.func (.func 118) #[] #[.pointer (some ⟨w.heap.size,0,none⟩)])∧w'=w.alloc (.cells #[.slice A n c] 168):=by
 go_enter Tryz.func69,Tryz.ntmps69
 go_wp2
 go_ret
 exact ⟨rfl,rfl⟩
theorem join_any (K:Nat→Prop) (A:Option Addr) (c n:Nat) (L:List (Value × List Ev)) (es:List Ev) (w:World) (hK:∀ k,K k→k<w.heap.size) (hn:L.length=n) (he:L.flatMap (·.2)=es) (hs:SlP w K A (L.map (·.1))) (hL:∀ p∈L,EvSeq K p.1 p.2 w) (hlen:n≤1000000) :
 Calls Tryz.prog 69 #[.slice A n c] w (GaveSeq K es w):=by
 subst hn he
 refine (join_raw A L.length c w).mono ?_
 rintro e w' ⟨rfl,rfl⟩
 have hb:=bl_alloc (Below.refl w.heap.size w) (.cells #[.slice A L.length c] 168)
 have hk:=KeepP.of_below hb hK
 refine ⟨_,fun k=>K k∨k=w.heap.size,rfl,hb,?_,_,_,rfl,enters_of Tryz.func118 (by kernel_rfl) rfl,?_⟩
 · rintro k (h | h)
   · exact .inl h
   · exact .inr ⟨by omega,by simp only [World.size_alloc];omega⟩
 · exact join1_at _ w.heap.size A c L _ (.inr rfl) (Blk.new _ _ _) ((hs.kept hk).mono fun k h=>.inl h) (fun p hp=>((hL p hp).kept hk).mono fun k h=>.inl h) hlen
theorem GaveSeq.mono {K K':Nat→Prop} {es:List Ev} {w w':World} {e:Ending} (h:GaveSeq K es w e w') (hK:∀ k,K k→K' k):GaveSeq K' es w e w':=by
 obtain ⟨fv,R,h1,h2,h3,h4⟩:=h
 exact ⟨fv,R,h1,h2,fun k hk=>(h3 k hk).imp (hK k) id,h4⟩
end
section
open Go.RowKit Go.Shelf
theorem app_run {P:Program} {ops:Array Oper} {rest:List Oper} {o:Oper} {a:Act} {Q:Exit→Act→World→Prop} {w:World} (s x:Operand) (t:TypeId)
 (hop:o.op=Op.call { callee:=Callee.builtin Builtin.append,args:=#[s,x],argTypes:=#[t,t] }) (hw:Region.wanted o (yielded ops a.tmps)=true) (v xv:Value) (hs:a.eval s=v) (hx:a.eval x=xv) {v':Value} {w':World}
 (hrun:(Builtin.append_ #[t,t] o.type #[v,xv]).run P w=.ok v' w') (h:wpList P ops Q rest (a.put o.dst v') w'):wpList P ops Q (o::rest) a w:=by
 unfold wpList
 rw [if_pos hw]
 left
 unfold Oper.wp
 simp [execOp,hop,resolve,invoke,builtin,hs,hx,hrun,Result.andThen]
 exact h
theorem seq_info:(Tryz.prog.info? 68).map (fun i=>(i.zero,i.size,i.bytes))=some (some Value.nilFunc,1,8):=by kernel_rfl
theorem evSeq_one {K:Nat→Prop} {fv:Value} {es:List Ev} {w:World} (h:EvSeq K fv es w):fv.oneCell'=true:=by
 obtain ⟨gf,lb,rfl,_⟩:=h;rfl
structure RpAt (w:World) (Kp:Nat→Prop) (f:Nat→List Ev) (k:Nat) (v:Value) (L:List (Value × List Ev)) (P:Nat→Prop) (X:World):Prop where
 len:L.length=k
 es:L.flatMap (·.2)=(List.range k).flatMap f
 own:X.ownsRow w.heap.size 68 1 v k (L.map (·.1))
 p:∀ j,P j→(Kp j∨w.heap.size≤j)∧j<X.heap.size∧v.ownBlock≠some j
 seq:∀ q∈L,EvSeq P q.1 q.2 X
 bl:Below w.heap.size w X
theorem keepP_grown {P:Nat→Prop} {w w':World} {row:Option Nat} (hg:w.grownBy w' row) (hP:∀ k,P k→k<w.heap.size∧row≠some k):KeepP P w w' :=
 ⟨hg.os,hg.tape,hg.output,hg.size,fun k hk=>hg.block k (hP k hk).1 (fun e=>(hP k hk).2 e.symm)⟩
theorem rp_step {w:World} {Kp:Nat→Prop} {f:Nat→List Ev} {k:Nat} {v:Value} {L:List (Value × List Ev)} {P:Nat→Prop} {X:World} (hKp:∀ j,Kp j→j<w.heap.size) (h:RpAt w Kp f k v L P X) {e:Ending} {w1:World} (hg:GaveSeq Kp (f k) X e w1) (hk:k≤1000000) :
 ∃ g2 lb2,e=.returned (.func (.func g2) #[] lb2)∧∃ v3 w3,(Builtin.append_ #[168,168] 168 #[v,.slice (some ⟨w1.heap.size,0,none⟩) 1 1]).run Tryz.prog (w1.alloc (.cells #[.func (.func g2) #[] lb2] 68))=.ok v3 w3∧∃ L3 P3,RpAt w Kp f (k+1) v3 L3 P3 w3:=by
 obtain ⟨i0,hi,hz0,hz1,hz2⟩:=info_parts seq_info
 obtain ⟨hlen,hes,hown,hp,hseq,hbl⟩:=h
 obtain ⟨fv,K,he,hb1,hK,hev⟩:=hg
 obtain ⟨g2,lb2,hfv⟩:∃ g2 lb2,fv=.func (.func g2) #[] lb2:=by obtain ⟨g2,lb2,h,_⟩:=hev;exact ⟨g2,lb2,h⟩
 subst hfv
 have hb2:=bl_alloc (Below.refl w1.heap.size w1) (.cells #[.func (.func g2) #[] lb2] 68)
 have hb12:=bl_step hb1 hb2
 have N2:=Blk.new w1 68 #[.func (.func g2) #[] lb2]
 have hown2:=own_step hown hb12
 have hbw:=bl_step hbl hb12
 obtain ⟨g3,c3,w3,hr3,hown3,hgrow3,hloc3,hlt3⟩:=run_append_lies (P:=Tryz.prog) (w1.alloc (.cells #[.func (.func g2) #[] lb2] 68)) 168 168 w.heap.size 68 i0 Value.nilFunc 1 8 Tryz.underlying168 hi hz0 hz1 hz2 rfl (by decide) v k (L.map (·.1)) hown2 ⟨w1.heap.size,0,none⟩ 1 1 [.func (.func g2) #[] lb2] rfl (blk_cells N2) (by intro u hu;simp at hu;subst hu;exact evSeq_one hev) (by omega) (by unfold maxLen;omega) (by omega) hbw.size _ rfl
 have hs1:=hb1.size
 have hs2:(w1.alloc (.cells #[.func (.func g2) #[] lb2] 68)).heap.size=w1.heap.size+1:=by simp
 have hs3:=hgrow3.size
 have hob:∀ j,v.ownBlock=some j→w.heap.size≤j∧j<X.heap.size:=fun j hj=>⟨own_base hown hj,own_lt' hown hj⟩
 have hKn:∀ j,K j→(Kp j∨w.heap.size≤j)∧j<w1.heap.size∧v.ownBlock≠some j:=fun j hj=>by
  have hw:=hbl.size
  rcases hK j hj with h | ⟨h,h2⟩
  · have:=hKp j h
    exact ⟨.inl h,by omega,fun e=>by have:=(hob j e).1;omega⟩
  · exact ⟨.inr (by omega),h2,fun e=>by have:=(hob j e).2;omega⟩
 refine ⟨g2,lb2,he,_,w3,hr3,L++[(.func (.func g2) #[] lb2,f k)],fun j=>P j∨K j,⟨by simp [hlen],?_,?_,?_,?_,?_⟩⟩
 · rw [List.flatMap_append,hes,List.range_succ,List.flatMap_append];simp
 · rw [List.map_append];exact hown3
 · rintro j (hj | hj)
   · obtain ⟨h1,h2,h3⟩:=hp j hj
     refine ⟨h1,by omega,fun e=>?_⟩
     have e:g3=j:=by have:some g3=some j:=e;exact Option.some.inj this
     rcases hloc3 with h | h
     · exact h3 (by rw [h,e])
     · omega
   · obtain ⟨h1,h2,h3⟩:=hKn j hj
     refine ⟨h1,by omega,fun e=>?_⟩
     have e:g3=j:=by have:some g3=some j:=e;exact Option.some.inj this
     rcases hloc3 with h | h
     · exact h3 (by rw [h,e])
     · omega
 · intro q hq
   rcases List.mem_append.1 hq with hq | hq
   · have hk1:KeepP P X w3:=(KeepP.of_below hb12 fun j hj=>(hp j hj).2.1).trans (keepP_grown hgrow3 fun j hj=>⟨by have:=(hp j hj).2.1;omega,(hp j hj).2.2⟩)
     exact ((hseq q hq).kept hk1).mono fun j hj=>.inl hj
   · rw [List.mem_singleton] at hq
     subst hq
     have hk1:KeepP K w1 w3:=(KeepP.of_below hb2 fun j hj=>(hKn j hj).2.1).trans (keepP_grown hgrow3 fun j hj=>⟨by have:=(hKn j hj).2.1;omega,(hKn j hj).2.2⟩)
     exact (hev.kept hk1).mono fun j hj=>.inr hj
 · exact hbw.grown hgrow3 hbw.size (fun j hj=>own_base hown2 hj)
theorem repeat_any (Kp:Nat→Prop) (f:Nat→List Ev) (n:Nat) (gf:Nat) (lb:Array Value) (w:World) (hKp:∀ j,Kp j→j<w.heap.size) (hn:n≤100000) (heg:∀ args w,(callFunc gf args).run Tryz.prog w=.ok (.enter gf args) w)
 (hpart:∀ i,i<n→∀ W,KeepP Kp w W→Calls Tryz.prog gf (#[.int .i64 (i:Int)]++lb) W (GaveSeq Kp (f i) W)) :
 Calls Tryz.prog 73 #[.int .i64 (n:Int),.func (.func gf) #[] lb] w (GaveSeq Kp ((List.range n).flatMap f) w):=by
 have HP:=hide hpart
 have HKP:=hide hKp
 clear hpart hKp
 go_enter Tryz.func73,Tryz.ntmps73
 go_wp2
 go_loopw [5,8] (fun v i wr=>∃ (k:Nat) (L:List (Value × List Ev)) (P:Nat→Prop),k≤n∧i=.int .i64 (k:Int)∧Hid (RpAt w Kp f k v L P wr))
  (fun _ i _=>n - (intOf i).toNat)
 case atStart=>exact ⟨0,[],fun _=>False,Nat.zero_le _,rfl,hide ⟨rfl,rfl,World.ownsRow_nil _ _ _ _,fun j h=>h.elim,fun q h=>(by cases h),Below.refl _ _⟩⟩
 case round =>
  obtain ⟨k,L,P,hk,rfl,HR⟩:=hrel
  by_cases hkn:k<n
  · have hki:(k:Int)<(n:Int):=by omega
    have hc:=HP.out k hkn wr (KeepP.of_below HR.out.bl HKP.out)
    go_wp2_with fail
    refine hc.mono ?_
    intro e w1 hg
    obtain ⟨g2,lb2,rfl,v3,w3,hrun,L3,P3,HN⟩:=rp_step HKP.out HR.out hg (by omega)
    have HN:=hide HN
    clear hg hc
    go_wp2_with (at_builtin;refine app_run (.tmp 11) (.tmp 15) 168 rfl rfl _ _ rfl rfl hrun ?_)
    go_wp2
    go_roundw
    case rel=>exact ⟨k+1,L3,P3,by omega,by go_num,HN⟩
    case measure=>simp [intOf];omega
  · obtain rfl:k=n:=by omega
    have hki:¬ (k:Int)<(k:Int):=by omega
    obtain ⟨hlen,hes,hown,hp,hseq,hbl⟩:=HR.out
    obtain ⟨A,c,rfl,_⟩:=own_slice hown
    have hsl:=Sl.of_own hown
    have hK:∀ j,(P j∨(Value.slice A k c).ownBlock=some j)→j<wr.heap.size:=fun j hj=>by
     rcases hj with hj | hj
     · exact (hp j hj).2.1
     · exact own_lt' hown hj
    have hslp:SlP wr (fun j=>P j∨(Value.slice A k c).ownBlock=some j) A (L.map (·.1)):=by
     rcases hsl with h | ⟨b,off,hA,hb,hc⟩
     · exact .inl h
     · refine .inr ⟨b,off,hA,.inr ?_,hc⟩
       subst hA
       by_cases h0:off=0
       · subst h0;rfl
       · exfalso
         obtain ⟨hl,h2⟩:=hown
         rcases h2 with ⟨h3,_⟩ | ⟨g,cap,cur,hv,_⟩
         · cases h3
         · injection hv with h4;injection h4 with h4;injection h4 with _ h4;exact h0 h4
    have J0:=hide (join_any _ A c k L _ wr hK hlen hes hslp (fun q hq=>(hseq q hq).mono fun j hj=>.inl hj) (by omega))
    have HBL:=hide hbl
    have HPP:Hid (∀ j,(P j∨(Value.slice A k c).ownBlock=some j)→Kp j∨w.heap.size≤j∧j<wr.heap.size):=hide fun j hj=>by
     rcases hj with hj | hj
     · obtain ⟨h1,h2,_⟩:=hp j hj
       rcases h1 with h1 | h1
       · exact .inl h1
       · exact .inr ⟨h1,h2⟩
     · exact .inr ⟨own_base hown hj,own_lt' hown hj⟩
    clear hlen hes hown hp hseq hbl hsl hK hslp HR
    go_wp2_with fail
    refine J0.out.mono ?_
    rintro e w2 ⟨fv,K,rfl,hb2,hK2,hev⟩
    have HB2:=hide (bl_step HBL.out hb2)
    have HEV:=hide hev
    have HK2:Hid (∀ j,K j→Kp j∨w.heap.size≤j∧j<w2.heap.size):=hide fun j hj=>by
     have h1:=HBL.out.size
     have h2:=hb2.size
     rcases hK2 j hj with h | ⟨h,h3⟩
     · rcases HPP.out j h with h | ⟨h,h3⟩
       · exact .inl h
       · exact .inr ⟨h,by omega⟩
     · exact .inr ⟨by omega,h3⟩
    clear hb2 hK2 hev J0
    go_wp2
    go_ret
    exact ⟨fv,K,rfl,HB2.out,HK2.out,HEV.out⟩
end
end Go.Proofs.YtfljlmleiggmjaaGreatDoor
