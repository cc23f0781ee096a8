/- TraceJoin TraceRep TraceGen TraceReg -/
import Derived.Deep.AppendLies
import Derived.Test.YthnenedoblncjaaGreatDoorPkR19
set_option maxRecDepth 1000000
set_option maxHeartbeats 8000000
namespace Go.Proofs.YthnenedoblncjaaGreatDoor
open Go.Proofs.Tryz
section
open Go.RowKit Go.Shelf
attribute [local go_sem] Oper.semAt_some
def D6(Rr R:Nat->Prop)(s:Nat)(X:World)(k:Nat):Prop:=R k\/Rr k\/(k=s\/k=s+1)/\k<X.heap.size
def JnI(J:(Nat->Prop)->List Ev->World->Prop)(Rr:Nat->Prop)(kI:List Ev)(wc:World)(R:Nat->Prop)(pre:List Ev)(X:World):Prop:=J (D6 Rr R wc.heap.size X) (kI++pre) X/\Z9 Rr wc X
theorem OG{α:Type}{J:(Nat->Prop)->List Ev->World->Prop}{Rr:Nat->Prop}{B:Nat}{wc:World}(f:List α->List Ev)(hJ:Ut B J)(hB:B<=wc.heap.size)(hRr:∀ k,Rr k->k<wc.heap.size):
 Ut wc.heap.size (fun R pre X=>J (D6 Rr R wc.heap.size X) (f pre) X/\Z9 Rr wc X):=by
 rintro R R' s X Y ⟨hj,hk⟩ hst hR;have hXY:=hst.size;have hwX:=hk.size;refine ⟨hJ _ _ _ X Y hj ⟨hst.os,hst.tape,hst.output,hst.size,fun k hkl hc=>hst.block k hkl ?_⟩ ?_,hk.trans ⟨hst.os,hst.tape,hst.output,hst.size,fun k hk=>?_⟩⟩
 · rcases hc with hc|⟨hn,hc⟩
   · exact .inl (by omega)
   · exact .inr ⟨fun h=>hn (.inl h),hc⟩
 · rintro k (h|h|⟨h,h2⟩)
   · obtain ⟨h1,h2⟩:=hR k h;refine ⟨?_,h2⟩;rcases h1 with h1|h1
     · exact .inl (.inl h1)
     · exact .inr h1
   · exact ⟨.inl (.inr (.inl h)),by have:=hRr k h;omega⟩
   · refine ⟨?_,h2⟩
     by_cases hx:k<X.heap.size
     · exact .inl (.inr (.inr ⟨h,hx⟩))
     · exact .inr (by omega)
 · have:=hRr k hk;exact hst.block k (by omega) (.inl this)
structure zoy(J:(Nat->Prop)->List Ev->World->Prop)(R:Nat->Prop)(Y:Nat)(W0:World)(lo:Nat)(L:List (Value × List Ev))(i:Nat)(ds:List Deferred)(Rr:Nat->Prop)(X:World):Prop where
 marks:Marks lo ds X
 dsR:∀ r,{ target:=.collected r,args:=#[] }∈ds->Rr r
 sub:∀ k,R k->Rr k
 hY:Rr Y
 lt:∀ k,Rr k->k<X.heap.size
 j:J Rr ((L.take i).flatMap (·.2)) X
 keep:Z9 (fun k=>R k\/k=Y) W0 X
theorem jI(K:Nat->Prop)(Bx:Nat)(A:Option Addr)(c:Nat)(L:List (Value × List Ev))(w:World)(hBx:K Bx)(hB:Z7 w Bx 400 #[.slice A L.length c])(hs:Wp w K A (L.map (·.1)))(hL:∀ p∈L,Yn K p.1 p.2 w)(hlen:L.length<=1000000):
 Ab prog K 342 #[.pointer (some ⟨Bx,0,none⟩)] (L.flatMap (·.2)) w:=by
 intro l J Jx R W hk zR GQ hJ hJx hY h0;obtain ⟨Y,hYs⟩:=eE W.heap.size;obtain ⟨W0,hW0⟩:=eE (W.alloc (.cells #[.func (.yield l) #[] #[]] 401));have hb0:=bE hW0;have hz0:W0.heap.size=Y+1:=by rw [hW0,hYs];simp
 have BY:Z7 W0 Y 401 #[.func (.yield l) #[] #[]]:=by rw [hW0,hYs];exact Z7.new _ _ _
 have zxu:Z9 K w W0:=hk.trans (Z9.of_below hb0 fun k h=>GQ k (zR k h));have cB:=(hB.kept zxu hBx).q0 rfl;have HS:=hide (hs.kept zxu);have HL:=hide (fun p (hp:p∈L)=>(hL p hp).kept zxu);have HAT:zoy J R Y W0 Y L 0 [] (fun k=>R k\/k=Y) W0:=⟨trivial,fun r h=>(by cases h),fun k h=>.inl h,.inr rfl,fun k h=>(by rcases h with h|h;exact Nat.lt_of_lt_of_le (GQ k h) hb0.size;omega),hJ R _ [] W W0 h0 (Zi.of_below hb0 _ _) (fun k h=>(by rcases h with h|h;exact ⟨.inl h,Nat.lt_of_lt_of_le (GQ k h) hb0.size⟩;exact ⟨.inr (by omega),by omega⟩)),Z9.refl _ _⟩;have zar:=hide HAT;have HJ:=hide (hYs ▸ hJ:Ut Y J);have HJX:=hide (hYs ▸ hJx:Ut Y (fun R _ W=>Jx R W));have HY:=hide hY;have dU:=hide zR;have HRY:Hid (∀ k,R k->k<Y):=hide (fun k h=>hYs ▸ GQ k h);have HZ0:=hide hz0;clear HAT hk zR GQ hJ hJx hY h0 hb0 hz0 zxu hB hs hL;refine (callsIn_wide (n:=6)).1 ?_;refine callsIn_of_wp_marks func342 rfl trivial ?_ rfl;simp only [ntmps342,List.size_toArray,List.length_cons,List.length_nil,Nat.reduceAdd,Nat.reduceSub,Array.replicate_succ,Array.replicate_zero,List.push_toArray,List.append_toArray,List.nil_append,List.cons_append];rw [hW0] at cB;gi_wp2;rw [<- hW0,<- hYs];have HW0:=hide hW0;clear hW0 cB hYs
 refine wpIn_loop (fun a' w'=>∃ (i:Nat) (u3 u4 u5 u9 u10 u11 u12 u13 u14 u15 u16 u17 u18:Value) (ds:List Deferred) (Rr:Nat->Prop),i<=L.length/\Hid (zoy J R Y W0 Y L i ds Rr w') /\
  a'={ tmps:=#[.func (.yield l) #[] #[],.pointer (some ⟨Bx,0,none⟩),.pointer (some ⟨Y,0,none⟩),u3,u4,u5,.slice A L.length c,.int .i64 (L.length:Int),.int .i64 (i:Int),u9,u10,u11,u12,u13,u14,u15,u16,u17,u18],defers:=ds })
  (fun a' _=>L.length - (intOf (a'.tmps.getD 8 undef)).toNat) ?_ ?_
 · exact ⟨0,_,_,_,_,_,_,_,_,_,_,_,_,_,[],_,Nat.zero_le _,zar,rfl⟩
 · rintro a' wr ⟨i,u3,u4,u5,u9,u10,u11,u12,u13,u14,u15,u16,u17,u18,ds,Rr,hi,HA,rfl⟩
   by_cases hlt:i<L.length
   · have Nv:(i:Int)<(L.length:Int):=(by omega);obtain ⟨p,hp⟩:∃ p,L[i]?=some p:=⟨_,List.getElem?_eq_getElem hlt⟩;have hmem:=List.mem_of_getElem? hp;have hkr:Z9 K W0 wr:=HA.out.keep.mono fun k h=>.inl (dU.out k h);obtain ⟨gf,lb,hfv,ng,hseq⟩:=(HL.out p hmem).kept hkr;have hsl:=(HS.out.kept hkr);have hget:(L.map (·.1))[i]?=some p.1:=(by rw [List.getElem?_map,hp];rfl);rcases hsl with hsl|⟨b,off,hA,hKb,hc⟩
     · rw [hsl] at hget;simp at hget
     subst hA;have ci:=hc i p.1 hget;rw [hfv] at ci;have zP:Hid ((L.take (i+1)).flatMap (·.2)=(L.take i).flatMap (·.2)++p.2):=hide (by rw [List.take_add_one,hp];simp);have zY:Hid (((L.take (i+1)).flatMap (·.2)).length<=(L.flatMap (·.2)).length):=hide (List.IsPrefix.length_le ⟨(L.drop (i+1)).flatMap (·.2),by rw [<- List.flatMap_append,List.take_append_drop]⟩);have Jq:=hide hseq;have HEG:=hide ng;obtain ⟨es,hes⟩:=eE p.2;rw [<- hes] at Jq zP;obtain ⟨kI,hpre0⟩:=eE ((L.take i).flatMap (·.2));have II:=hide hpre0;rw [<- hpre0] at zP;have zoo:Hid (∀ k,K k->Rr k):=hide fun k h=>HA.out.sub k (dU.out k h);clear hget hc hseq ng hfv hmem hp hkr hes hpre0;gi_wp2;refine Vd (K:=K) rfl HEG.out Jq.out (fun k h=>HA.out.lt k (zoo.out k h)) (fun _=>rfl) (JnI J Rr kI wr) (fun c R' X=>c=.ret/\Jx (D6 Rr R' wr.heap.size X) X/\Z9 Rr wr X) ?h1 ?h2 ?h3 ?round ?done ?stop
     case h1=>exact OG (fun pre=>kI++pre) HJ.out (by have:=HA.out.keep.size;have:=HZ0.out;omega) HA.out.lt
     case h2 =>
      intro c R1 R2 s X Z ⟨hc,h1,h2⟩ hst hR;obtain ⟨h3,h4⟩:=OG (fun pre:List Ev=>pre) HJX.out (by have:=HA.out.keep.size;have:=HZ0.out;omega) HA.out.lt R1 R2 s X Z ⟨h1,h2⟩ hst hR;exact ⟨hc,h3,h4⟩
     case h3 =>
      refine ⟨HJ.out Rr _ _ wr wr ?_ (Zi.refl _ _ _) fun k hk=>?_,Z9.refl _ _⟩
      · rw [List.append_nil,II.out];exact HA.out.j
      · rcases hk with hk|hk|⟨hk,hk2⟩
        · exact ⟨.inl (zoo.out k hk),HA.out.lt k (zoo.out k hk)⟩
        · exact ⟨.inl hk,HA.out.lt k hk⟩
        · omega
     case round =>
      rintro R' pre x X hR' hnl hs1 ⟨rec,hrec⟩ ⟨hj,hkk⟩ hpre hok;have hYX:Z7 X Y 401 #[.func (.yield l) #[] #[]]:=(BY.kept HA.out.keep (.inr rfl)).kept hkk HA.out.hY;have zpz:=hYX.lt;have hYs:Y<wr.heap.size:=HA.out.lt Y HA.out.hY;obtain ⟨X1,hX1⟩:=eE (X.alloc (.cells #[.int .i64 x.1,.int .i64 x.2.1,.int .i64 x.2.2] 273));have hbX:=bE hX1;have hzX:X1.heap.size=X.heap.size+1:=(by rw [hX1];simp);have hE:Z7 X1 X.heap.size 273 #[.int .i64 x.1,.int .i64 x.2.1,.int .i64 x.2.2]:=(by rw [hX1];exact Z7.new _ _ _);have hl1:X1.heap[wr.heap.size+1]?=some (.loop rec):=(hbX.block _ hs1).trans hrec;have hY1:=hYX.step hbX;unfold Gv;gi_wp2;rw [<- hX1];refine ⟨Z9.of_below hbX (fun k hk=>?_),fun o=>?_⟩
      · rcases hk with hk|hk|hk
        · exact hR' k hk
        · omega
        · omega
      have hst:Zi Y (D6 Rr R' wr.heap.size X) X (X1.putObj (wr.heap.size+1) (.loop o)):=(Zi.of_below hbX _ _).trans (Zi.put (by omega) hl1 rfl (D6 Rr R' wr.heap.size X) _) (fun j h=>.inl h)
      have o9:∀ k,(D6 Rr R' wr.heap.size X k\/k=X.heap.size)->k<X1.heap.size:=fun k hk=>by
       have:=hkk.size;rcases hk with (hk|hk|⟨_,hk⟩)|hk
       · have:=hR' k hk;omega
       · have:=HA.out.lt k hk;omega
       · omega
       · omega
      have hjy:=HJ.out _ (fun k=>D6 Rr R' wr.heap.size X k\/k=X.heap.size) _ X (X1.putObj (wr.heap.size+1) (.loop o)) hj hst (fun k hk=>⟨by rcases hk with hk|hk;exact .inl hk;exact .inr (by omega),by have:=o9 k hk;simpa using this⟩);have zhp:(kI++pre).length<(L.flatMap (·.2)).length:=by
       have:=zY.out;rw [zP.out,List.length_append] at this;rw [List.length_append];omega
      obtain ⟨fn,tmps,assign,body,hy,hRo⟩:=HY.out 1 _ _ x (X1.putObj (wr.heap.size+1) (.loop o)) (fun k hk=>by have:=o9 k hk;simpa using this) hjy zhp hok;have yb:Z7 (X1.putObj (wr.heap.size+1) (.loop o)) Y 401 #[.func (.yield l) #[] #[]]:=(World.putObj_heap_other (by omega)).trans hY1;have eb:Z7 (X1.putObj (wr.heap.size+1) (.loop o)) X.heap.size 273 #[.int .i64 x.1,.int .i64 x.2.1,.int .i64 x.2.2]:=(World.putObj_heap_other (by omega)).trans hE;have y0:=yb.q0 rfl;have e0:=eb.q0 rfl;have e1:=eb.q1 rfl;have e2:=eb.q2 rfl;have HKX:Hid (Z9 Rr wr (X1.putObj (wr.heap.size+1) (.loop o))):=hide ((hkk.trans (Z9.of_below hbX fun k hk=>Nat.lt_of_lt_of_le (HA.out.lt k hk) hkk.size)).trans (Z9.putObj _ (fun h=>by have:=HA.out.lt _ h;omega) _));have HR3:Hid (∀ k,(D6 Rr R' wr.heap.size X k\/k=X.heap.size)->k<X.heap.size+1):=hide fun k hk=>by have:=o9 k hk;omega
      have LU:=hide hs1;obtain ⟨X2,hX2⟩:=eE (X1.putObj (wr.heap.size+1) (.loop o));rw [<- hX2] at hy hRo y0 e0 e1 e2 HKX ⊢;have hz2:X2.heap.size=X.heap.size+1:=(by rw [hX2,<- hzX];simp);have HZ2:=hide hz2;have HRO:=hide hRo;have Gc:=hide hR';unfold Gv at hy;clear hRo hjy zhp hst o9 hj hkk hpre hYX zpz hYs hX1 hbX hzX hE hl1 hY1 hrec hnl hs1 yb eb hX2 hz2 ci hR';gi_wp2_with fail;refine (RoundIn.inRound' _ HRO.out).mono ?_;rintro e X3 (⟨rfl,h1,h2⟩|⟨rfl,h1,h2⟩)
      · have H1:=hide h1;have H2:=hide h2;clear h1 h2 HRO hy y0 e0 e1 e2;gi_wp2;have hz:=H2.out.size;refine ⟨H2.out.mono fun k hk=>?_,HJ.out (fun k=>D6 Rr R' wr.heap.size X k\/k=X.heap.size) _ _ X3 X3 ?_ (Zi.refl _ _ _) fun k hk=>?_,HKX.out.trans (H2.out.mono fun k hk=>.inl (.inr (.inl hk)))⟩
        · rcases hk with hk|hk|hk
          · exact .inl (.inl hk)
          · exact .inl (.inr (.inr ⟨.inl hk,by have:=LU.out;omega⟩))
          · exact .inl (.inr (.inr ⟨.inr hk,by have:=LU.out;omega⟩))
        · rw [<- List.append_assoc];exact H1.out
        · have hzz:=HZ2.out;rcases hk with hk|hk|⟨hk,hk2⟩
          · exact ⟨.inl (.inl (.inl hk)),by have:=Gc.out k hk;omega⟩
          · exact ⟨.inl (.inl (.inr (.inl hk))),by have:=HR3.out k (.inl (.inr (.inl hk)));omega⟩
          · exact ⟨.inl (.inl (.inr (.inr ⟨hk,by have:=LU.out;omega⟩))),hk2⟩
      · have H1:=hide h1;have H2:=hide h2;clear h1 h2 HRO hy y0 e0 e1 e2;gi_wp2;have hz:=H2.out.size;refine ⟨H2.out.mono fun k hk=>?_,rfl,HJX.out _ _ [] X3 X3 H1.out (Zi.refl _ _ _) fun k hk=>?_,HKX.out.trans (H2.out.mono fun k hk=>.inl (.inr (.inl hk)))⟩
        · rcases hk with hk|hk|hk
          · exact .inl (.inl hk)
          · exact .inl (.inr (.inr ⟨.inl hk,by have:=LU.out;omega⟩))
          · exact .inl (.inr (.inr ⟨.inr hk,by have:=LU.out;omega⟩))
        · have hzz:=HZ2.out;rcases hk with hk|hk|⟨hk,hk2⟩
          · exact ⟨.inl (.inl (.inl hk)),by have:=Gc.out k hk;omega⟩
          · exact ⟨.inl (.inl (.inr (.inl hk))),by have:=HR3.out k (.inl (.inr (.inl hk)));omega⟩
          · exact ⟨.inl (.inl (.inr (.inr ⟨hk,by have:=LU.out;omega⟩))),hk2⟩
     case done =>
      rintro ys X rfl ⟨hj,hkk⟩ hD hsl;have hmk:∀ r,{ target:=.collected r,args:=#[] }∈ds->r<wr.heap.size:=fun r h=>(Array.getElem?_eq_some_iff.1 (HA.out.marks.lt r h).2).1;have hz:=hkk.size
      have zN:Hid (zoy J R Y W0 Y L (i+1) ({ target:=.collected wr.heap.size,args:=#[] }::ds) (fun k=>Rr k\/k=wr.heap.size) X):=hide
       ⟨⟨wr.heap.size,rfl,by have:=HA.out.keep.size;have:=HZ0.out;omega,hD,hmk,HA.out.marks.keep fun r h=>hkk.block r (HA.out.dsR r h)⟩,
        fun r h=>by
         rcases List.mem_cons.1 h with h|h
         · injection h with h _;injection h with h;exact .inr h
         · exact .inl (HA.out.dsR r h),
        fun k h=>.inl (HA.out.sub k h),.inl HA.out.hY,
        fun k h=>by
         rcases h with h|h
         · have:=HA.out.lt k h;omega
         · omega,
        by
         rw [zP.out];refine HJ.out _ _ _ X X hj (Zi.refl _ _ _) fun k hk=>?_;rcases hk with hk|hk
         · exact ⟨.inl (.inr (.inl hk)),by have:=HA.out.lt k hk;omega⟩
         · exact ⟨.inl (.inr (.inr ⟨.inl hk,by omega⟩)),by omega⟩,
        HA.out.keep.trans (hkk.mono fun k h=>by
         rcases h with h|h
         · exact HA.out.sub k h
         · rw [h];exact HA.out.hY)⟩
      clear hj hkk hD hsl hmk hz;gi_wp2;refine ⟨⟨i+1,_,_,_,_,_,_,_,_,_,_,_,_,_,_,_,by omega,zN,rfl⟩,?_⟩;simp [intOf];omega
     case stop =>
      rintro c X ⟨rfl,hjx,hkk⟩ hD hsl;have hmk:∀ r,{ target:=.collected r,args:=#[] }∈ds->r<wr.heap.size:=fun r h=>(Array.getElem?_eq_some_iff.1 (HA.out.marks.lt r h).2).1;have hz:=hkk.size;have HM:Hid (Marks Y ({ target:=.collected wr.heap.size,args:=#[] }::ds) X):=hide ⟨wr.heap.size,rfl,by have:=HA.out.keep.size;have:=HZ0.out;omega,hD,hmk,HA.out.marks.keep fun r h=>hkk.block r (HA.out.dsR r h)⟩;have xA:∀ k,R k->k<X.heap.size:=fun k h=>by have:=HA.out.lt k (HA.out.sub k h);omega
      have HC:Hid (Jx R X/\∀ k,R k->k<X.heap.size):=hide ⟨HJX.out _ R [] X X hjx (Zi.refl _ _ _) fun k hk=>⟨.inl (.inr (.inl (HA.out.sub k hk))),xA k hk⟩,xA⟩;clear hjx hkk hD hsl hmk hz xA;gi_wp2;refine WE (lo:=Y) (C:=fun X=>Jx R X/\∀ k,R k->k<X.heap.size) ?_ _ X HM.out HC.out ?_
      · rintro X r ⟨h1,h2⟩ hr hl;exact ⟨HJX.out R R [] X _ h1 (Zi.put hr hl rfl R _) fun k hk=>⟨.inl hk,by have:=h2 k hk;simpa using this⟩,fun k hk=>by have:=h2 k hk;simpa using this⟩
      · rintro X ⟨h1,_⟩;exact ⟨_,results_none rfl _ _ _,⟨_,rfl⟩,.inr h1⟩
   · obtain rfl:i=L.length:=(by omega);have xA:∀ k,R k->k<wr.heap.size:=fun k h=>HA.out.lt k (HA.out.sub k h)
     have HC:Hid (J R (L.flatMap (·.2)) wr/\∀ k,R k->k<wr.heap.size):=hide ⟨by
      have h:=HJ.out _ R _ wr wr HA.out.j (Zi.refl _ _ _) fun k hk=>⟨.inl (HA.out.sub k hk),xA k hk⟩
      rwa [List.take_length] at h,xA⟩
     have HM:=hide HA.out.marks;clear xA;gi_wp2;refine WE (lo:=Y) (C:=fun X=>J R (L.flatMap (·.2)) X/\∀ k,R k->k<X.heap.size) ?_ _ wr HM.out HC.out ?_
     · rintro X r ⟨h1,h2⟩ hr hl;exact ⟨HJ.out R R _ X _ h1 (Zi.put hr hl rfl R _) fun k hk=>⟨.inl hk,by have:=h2 k hk;simpa using this⟩,fun k hk=>by have:=h2 k hk;simpa using this⟩
     · rintro X ⟨h1,_⟩;exact ⟨_,results_none rfl _ _ _,⟨_,rfl⟩,.inl ⟨_,rfl,h1⟩⟩
theorem jJ(A:Option Addr)(n c:Nat)(w:World):Calls prog 319 #[.slice A n c] w fun e w' =>
 e=.returned (.func (.func 342) #[] #[.pointer (some ⟨w.heap.size,0,none⟩)])/\w'=w.alloc (.cells #[.slice A n c] 400):=by
 go_enter func319,ntmps319;go_wp2;go_ret;exact ⟨rfl,rfl⟩
theorem OH(K:Nat->Prop)(A:Option Addr)(c n:Nat)(L:List (Value × List Ev))(es:List Ev)(w:World)(hK:∀ k,K k->k<w.heap.size)(hn:L.length=n)(he:L.flatMap (·.2)=es)(hs:Wp w K A (L.map (·.1)))(hL:∀ p∈L,Yn K p.1 p.2 w)(hlen:n<=1000000):
 Calls prog 319 #[.slice A n c] w (ZC K es w):=by
 subst hn he;refine (jJ A L.length c w).mono ?_;rintro e w' ⟨rfl,rfl⟩;have hb:=Z5 (Below.refl w.heap.size w) (.cells #[.slice A L.length c] 400);have hk:=Z9.of_below hb hK;refine ⟨_,fun k=>K k\/k=w.heap.size,rfl,hb,?_,_,_,rfl,enters_of func342 (by kernel_rfl) rfl,?_⟩
 · rintro k (h|h)
   · exact .inl h
   · exact .inr ⟨by omega,by simp only [World.size_alloc];omega⟩
 · exact jI _ w.heap.size A c L _ (.inr rfl) (Z7.new _ _ _) ((hs.kept hk).mono fun k h=>.inl h) (fun p hp=>((hL p hp).kept hk).mono fun k h=>.inl h) hlen
theorem ZC.mono{K K':Nat->Prop}{es:List Ev}{w w':World}{e:Ending}(h:ZC K es w e w')(hK:∀ k,K k->K' k):ZC K' es w e w':=by
 obtain ⟨fv,R,h1,h2,h3,h4⟩:=h;exact ⟨fv,R,h1,h2,fun k hk=>(h3 k hk).imp (hK k) id,h4⟩
end
section
open Go.RowKit Go.Shelf
theorem zwx {P:Program} {ops:Array Oper} {rest:List Oper} {o:Oper} {a:Act} {Q:Exit->Act->World->Prop} {w:World} (s x:Operand) (t:TypeId)
 (hop:o.op=Op.call { callee:=Callee.builtin Builtin.append,args:=#[s,x],argTypes:=#[t,t] }) (hw:Region.wanted o (yielded ops a.tmps)=true) (v xv:Value) (hs:a.eval s=v) (hx:a.eval x=xv) {v':Value} {w':World}
 (hrun:(Builtin.append_ #[t,t] o.type #[v,xv]).run P w=.ok v' w') (h:wpList P ops Q rest (a.put o.dst v') w'):wpList P ops Q (o::rest) a w:=by
 unfold wpList;rw [if_pos hw]
 left
 unfold Oper.wp;simp [execOp,hop,resolve,invoke,builtin,hs,hx,hrun,Result.andThen];exact h
theorem lM:(prog.info? 335).map (fun i=>(i.zero,i.size,i.bytes))=some (some Value.nilFunc,1,8):=by kernel_rfl
theorem oM{K:Nat->Prop}{fv:Value}{es:List Ev}{w:World}(h:Yn K fv es w):fv.oneCell'=true:=by
 obtain ⟨gf,lb,rfl,_⟩:=h;rfl
structure zpb(w:World)(Kp:Nat->Prop)(f:Nat->List Ev)(k:Nat)(v:Value)(L:List (Value × List Ev))(P:Nat->Prop)(X:World):Prop where
 len:L.length=k
 es:L.flatMap (·.2)=(List.range k).flatMap f
 own:X.ownsRow w.heap.size 335 1 v k (L.map (·.1))
 p:∀ j,P j->(Kp j\/w.heap.size<=j)/\j<X.heap.size/\v.ownBlock≠some j
 seq:∀ q∈L,Yn P q.1 q.2 X
 bl:Below w.heap.size w X
theorem MJ{P:Nat->Prop}{w w':World}{row:Option Nat}(hg:w.grownBy w' row)(hP:∀ k,P k->k<w.heap.size/\row≠some k):Z9 P w w' :=
 ⟨hg.os,hg.tape,hg.output,hg.size,fun k hk=>hg.block k (hP k hk).1 (fun e=>(hP k hk).2 e.symm)⟩
theorem bq{w:World}{Kp:Nat->Prop}{f:Nat->List Ev}{k:Nat}{v:Value}{L:List (Value × List Ev)}{P:Nat->Prop}{X:World}(hKp:∀ j,Kp j->j<w.heap.size)(h:zpb w Kp f k v L P X){e:Ending}{w1:World}(hg:ZC Kp (f k) X e w1)(hk:k<=1000000):
 ∃ g2 yt,e=.returned (.func (.func g2) #[] yt)/\∃ v3 w3,(Builtin.append_ #[400,400] 400 #[v,.slice (some ⟨w1.heap.size,0,none⟩) 1 1]).run prog (w1.alloc (.cells #[.func (.func g2) #[] yt] 335))=.ok v3 w3/\∃ L3 P3,zpb w Kp f (k+1) v3 L3 P3 w3:=by
 obtain ⟨i0,hi,hz0,hz1,hz2⟩:=info_parts lM;obtain ⟨hlen,hes,ZT,hp,hseq,hbl⟩:=h;obtain ⟨fv,K,he,hb1,hK,hev⟩:=hg;obtain ⟨g2,yt,hfv⟩:∃ g2 yt,fv=.func (.func g2) #[] yt:=by obtain ⟨g2,yt,h,_⟩:=hev;exact ⟨g2,yt,h⟩
 subst hfv;have hb2:=Z5 (Below.refl w1.heap.size w1) (.cells #[.func (.func g2) #[] yt] 335);have Vx:=Z8 hb1 hb2;have N2:=Z7.new w1 335 #[.func (.func g2) #[] yt];have Yd:=ZI ZT Vx;have hbw:=Z8 hbl Vx;obtain ⟨g3,c3,w3,hr3,Zt,Zx,zwd,hlt3⟩:=run_append_lies (P:=prog) (w1.alloc (.cells #[.func (.func g2) #[] yt] 335)) 400 400 w.heap.size 335 i0 Value.nilFunc 1 8 underlying400 hi hz0 hz1 hz2 rfl (by decide) v k (L.map (·.1)) Yd ⟨w1.heap.size,0,none⟩ 1 1 [.func (.func g2) #[] yt] rfl (ZB N2) (by intro u hu;simp at hu;subst hu;exact oM hev) (by omega) (by unfold maxLen;omega) (by omega) hbw.size _ rfl;have hs1:=hb1.size;have hs2:(w1.alloc (.cells #[.func (.func g2) #[] yt] 335)).heap.size=w1.heap.size+1:=by simp
 have hs3:=Zx.size;have Sq:∀ j,v.ownBlock=some j->w.heap.size<=j/\j<X.heap.size:=fun j hj=>⟨ZN ZT hj,Yk ZT hj⟩
 have hKn:∀ j,K j->(Kp j\/w.heap.size<=j)/\j<w1.heap.size/\v.ownBlock≠some j:=fun j hj=>by
  have hw:=hbl.size;rcases hK j hj with h|⟨h,h2⟩
  · have:=hKp j h;exact ⟨.inl h,by omega,fun e=>by have:=(Sq j e).1;omega⟩
  · exact ⟨.inr (by omega),h2,fun e=>by have:=(Sq j e).2;omega⟩
 refine ⟨g2,yt,he,_,w3,hr3,L++[(.func (.func g2) #[] yt,f k)],fun j=>P j\/K j,⟨by simp [hlen],?_,?_,?_,?_,?_⟩⟩
 · rw [List.flatMap_append,hes,List.range_succ,List.flatMap_append];simp
 · rw [List.map_append];exact Zt
 · rintro j (hj|hj)
   · obtain ⟨h1,h2,h3⟩:=hp j hj;refine ⟨h1,by omega,fun e=>?_⟩;have e:g3=j:=(by have:some g3=some j:=e;exact Option.some.inj this);rcases zwd with h|h
     · exact h3 (by rw [h,e])
     · omega
   · obtain ⟨h1,h2,h3⟩:=hKn j hj;refine ⟨h1,by omega,fun e=>?_⟩;have e:g3=j:=(by have:some g3=some j:=e;exact Option.some.inj this);rcases zwd with h|h
     · exact h3 (by rw [h,e])
     · omega
 · intro q hq;rcases List.mem_append.1 hq with hq|hq
   · have hk1:Z9 P X w3:=(Z9.of_below Vx fun j hj=>(hp j hj).2.1).trans (MJ Zx fun j hj=>⟨by have:=(hp j hj).2.1;omega,(hp j hj).2.2⟩);exact ((hseq q hq).kept hk1).mono fun j hj=>.inl hj
   · rw [List.mem_singleton] at hq;subst hq;have hk1:Z9 K w1 w3:=(Z9.of_below hb2 fun j hj=>(hKn j hj).2.1).trans (MJ Zx fun j hj=>⟨by have:=(hKn j hj).2.1;omega,(hKn j hj).2.2⟩);exact (hev.kept hk1).mono fun j hj=>.inr hj
 · exact hbw.grown Zx hbw.size (fun j hj=>ZN Yd hj)
theorem Wj (Kp:Nat->Prop) (f:Nat->List Ev) (n:Nat) (gf:Nat) (lb:Array Value) (w:World) (hKp:∀ j,Kp j->j<w.heap.size) (hn:n<=100000) (ng:∀ args w,(callFunc gf args).run prog w=.ok (.enter gf args) w)
 (hpart:∀ i,i<n->∀ W,Z9 Kp w W->Calls prog gf (#[.int .i64 (i:Int)]++lb) W (ZC Kp (f i) W)) :
 Calls prog 323 #[.int .i64 (n:Int),.func (.func gf) #[] lb] w (ZC Kp ((List.range n).flatMap f) w):=by
 have HP:=hide hpart;have mP:=hide hKp;clear hpart hKp;go_enter func323,ntmps323;go_wp2
 go_loopw [5,8] (fun v i wr=>∃ (k:Nat) (L:List (Value × List Ev)) (P:Nat->Prop),k<=n/\i=.int .i64 (k:Int)/\Hid (zpb w Kp f k v L P wr))
  (fun _ i _=>n - (intOf i).toNat)
 case atStart=>exact ⟨0,[],fun _=>False,Nat.zero_le _,rfl,hide ⟨rfl,rfl,World.ownsRow_nil _ _ _ _,fun j h=>h.elim,fun q h=>(by cases h),Below.refl _ _⟩⟩
 case round =>
  obtain ⟨k,L,P,hk,rfl,HR⟩:=hrel
  by_cases hkn:k<n
  · have hki:(k:Int)<(n:Int):=(by omega);have hc:=HP.out k hkn wr (Z9.of_below HR.out.bl mP.out);go_wp2_with fail;refine hc.mono ?_;intro e w1 hg;obtain ⟨g2,yt,rfl,v3,w3,hrun,L3,P3,HN⟩:=bq mP.out HR.out hg (by omega);have HN:=hide HN;clear hg hc;go_wp2_with (at_builtin;refine zwx (.tmp 11) (.tmp 15) 400 rfl rfl _ _ rfl rfl hrun ?_);go_wp2;go_roundw
    case rel=>exact ⟨k+1,L3,P3,by omega,by go_num,HN⟩
    case measure=>simp [intOf];omega
  · obtain rfl:k=n:=(by omega);have hki:¬ (k:Int)<(k:Int):=(by omega);obtain ⟨hlen,hes,ZT,hp,hseq,hbl⟩:=HR.out;obtain ⟨A,c,rfl,_⟩:=ZP ZT;have hsl:=Sl.Zv ZT
    have hK:∀ j,(P j\/(Value.slice A k c).ownBlock=some j)->j<wr.heap.size:=fun j hj=>by
     rcases hj with hj|hj
     · exact (hp j hj).2.1
     · exact Yk ZT hj
    have zih:Wp wr (fun j=>P j\/(Value.slice A k c).ownBlock=some j) A (L.map (·.1)):=by
     rcases hsl with h|⟨b,off,hA,hb,hc⟩
     · exact .inl h
     · refine .inr ⟨b,off,hA,.inr ?_,hc⟩;subst hA
       by_cases h0:off=0
       · subst h0;rfl
       · exfalso
         obtain ⟨hl,h2⟩:=ZT;rcases h2 with ⟨h3,_⟩|⟨g,cap,cur,hv,_⟩
         · cases h3
         · injection hv with h4;injection h4 with h4;injection h4 with _ h4;exact h0 h4
    have J0:=hide (OH _ A c k L _ wr hK hlen hes zih (fun q hq=>(hseq q hq).mono fun j hj=>.inl hj) (by omega));have zX:=hide hbl
    have eD:Hid (∀ j,(P j\/(Value.slice A k c).ownBlock=some j)->Kp j\/w.heap.size<=j/\j<wr.heap.size):=hide fun j hj=>by
     rcases hj with hj|hj
     · obtain ⟨h1,h2,_⟩:=hp j hj;rcases h1 with h1|h1
       · exact .inl h1
       · exact .inr ⟨h1,h2⟩
     · exact .inr ⟨ZN ZT hj,Yk ZT hj⟩
    clear hlen hes ZT hp hseq hbl hsl hK zih HR;go_wp2_with fail;refine J0.out.mono ?_;rintro e w2 ⟨fv,K,rfl,hb2,hK2,hev⟩;have HB2:=hide (Z8 zX.out hb2);have Qa:=hide hev
    have Ef:Hid (∀ j,K j->Kp j\/w.heap.size<=j/\j<w2.heap.size):=hide fun j hj=>by
     have h1:=zX.out.size;have h2:=hb2.size;rcases hK2 j hj with h|⟨h,h3⟩
     · rcases eD.out j h with h|⟨h,h3⟩
       · exact .inl h
       · exact .inr ⟨h,by omega⟩
     · exact .inr ⟨by omega,h3⟩
    clear hb2 hK2 hev J0;go_wp2;go_ret;exact ⟨fv,K,rfl,HB2.out,Ef.out,Qa.out⟩
def sV(n i j:Nat):List Ev:=if j=i\/j=(i+1) % n then [] else [(4,(i:Int),(j:Int))]
theorem ZC.back{Kp Kp':Nat->Prop}{es:List Ev}{w w1 w':World}{e:Ending}(h:ZC Kp' es w1 e w')(hb:Below w.heap.size w w1)(hK:∀ k,Kp' k->Kp k\/w.heap.size<=k/\k<w1.heap.size):ZC Kp es w e w':=by
 obtain ⟨fv,K,h1,h2,h3,h4⟩:=h;have hs:=hb.size;have hs2:=h2.size;refine ⟨fv,K,h1,Z8 hb h2,fun k hk=>?_,h4⟩;rcases h3 k hk with h|⟨h,h5⟩
 · rcases hK k h with h|⟨h,h5⟩
   · exact .inl h
   · exact .inr ⟨h,by omega⟩
 · exact .inr ⟨by omega,h5⟩
theorem join_none(w:World):Calls prog 319 #[.slice none 0 0] w (ZC (fun _=>False) [] w) :=
 OH (fun _=>False) none 0 0 [] [] w (fun _ h=>h.elim) rfl rfl (.inl rfl) (fun p h=>by cases h) (by decide)
theorem Fg {Kp K1 K2:Nat->Prop} {g1 g2:Nat} {l1 l2:Array Value} {es1 es2:List Ev} {w0 w1 w2:World} (hKp:∀ k,Kp k->k<w0.heap.size) (hb1:Below w0.heap.size w0 w1) (h1:∀ k,K1 k->Kp k\/w0.heap.size<=k/\k<w1.heap.size) (e1:Yn K1 (.func (.func g1) #[] l1) es1 w1)
 (hb2:Below w1.heap.size w1 w2) (h2:∀ k,K2 k->Kp k\/w0.heap.size<=k/\k<w2.heap.size) (e2:Yn K2 (.func (.func g2) #[] l2) es2 w2) :
 Calls prog 319 #[.slice (some ⟨w2.heap.size,0,none⟩) 2 2] (w2.alloc (.cells #[.func (.func g1) #[] l1,.func (.func g2) #[] l2] 335)) (fun e w'=>ZC Kp (es1++es2) w0 e w'/\Below (w2.alloc (.cells #[.func (.func g1) #[] l1,.func (.func g2) #[] l2] 335)).heap.size (w2.alloc (.cells #[.func (.func g1) #[] l1,.func (.func g2) #[] l2] 335)) w'):=by
 have hb3:=Z5 (Below.refl w2.heap.size w2) (.cells #[.func (.func g1) #[] l1,.func (.func g2) #[] l2] 335);have N3:=Z7.new w2 335 #[.func (.func g1) #[] l1,.func (.func g2) #[] l2];have z1:=hb1.size;have z2:=hb2.size;have z3:(w2.alloc (.cells #[.func (.func g1) #[] l1,.func (.func g2) #[] l2] 335)).heap.size=w2.heap.size+1:=by simp
 have k1:∀ k,K1 k->k<w1.heap.size:=fun k hk=>by
  rcases h1 k hk with h|h
  · have:=hKp k h;omega
  · omega
 have k2:∀ k,K2 k->k<w2.heap.size:=fun k hk=>by
  rcases h2 k hk with h|h
  · have:=hKp k h;omega
  · omega
 refine (OH (fun k=>K1 k\/K2 k\/k=w2.heap.size) (some ⟨w2.heap.size,0,none⟩) 2 2 [(.func (.func g1) #[] l1,es1),(.func (.func g2) #[] l2,es2)] (es1++es2) _ ?_ rfl (by simp) ?_ ?_ (by decide)).mono fun e w' h=>⟨h.back (Z8 (Z8 hb1 hb2) hb3) ?_,by obtain ⟨_,_,_,h,_⟩:=h;exact h⟩
 · rintro k (h|h|h)
   · have:=k1 k h;omega
   · have:=k2 k h;omega
   · omega
 · exact .inr ⟨w2.heap.size,0,rfl,.inr (.inr rfl),fun j u hu=>by rw [Nat.zero_add];exact N3.cell (by simpa using hu)⟩
 · intro p hp;rcases List.mem_cons.1 hp with rfl|hp
   · exact (e1.kept (Z9.of_below (Z8 hb2 hb3) k1)).mono fun k h=>.inl h
   · rw [List.mem_singleton] at hp;subst hp;exact (e2.kept (Z9.of_below hb3 k2)).mono fun k h=>.inr (.inl h)
 · rintro k (h|h|h)
   · rcases h1 k h with h|h
     · exact .inl h
     · exact .inr (by omega)
   · rcases h2 k h with h|h
     · exact .inl h
     · exact .inr (by omega)
   · exact .inr (by omega)
theorem uG {Kp K1 K2:Nat->Prop} {g1 g2:Nat} {l1 l2:Array Value} {es1 es2:List Ev} {w0 w1 w2:World} (hKp:∀ k,Kp k->k<w0.heap.size) (hb1:Below w0.heap.size w0 w1) (h1:∀ k,K1 k->Kp k\/w0.heap.size<=k/\k<w1.heap.size) (e1:Yn K1 (.func (.func g1) #[] l1) es1 w1)
 (hb2:Below w1.heap.size w1 w2) (h2:∀ k,K2 k->Kp k\/w0.heap.size<=k/\k<w2.heap.size) (e2:Yn K2 (.func (.func g2) #[] l2) es2 w2) :
 Calls prog 319 #[.slice (some ⟨w2.heap.size,0,none⟩) 2 2] (w2.alloc (.cells #[.func (.func g1) #[] l1,.func (.func g2) #[] l2] 335)) (ZC Kp (es1++es2) w0) :=
 (Fg hKp hb1 h1 e1 hb2 h2 e2).mono fun _ _ h=>h.1
theorem bP(n i j bi b0:Nat)(W:World)(hn:3<=n)(hn2:n<=10000)(hi:i<n)(_hj:j<n)(B1:Z7 W bi 3 #[.int .i64 (i:Int)])(B0:Z7 W b0 3 #[.int .i64 (n:Int)]):
 Calls prog 344 #[.int .i64 (j:Int),.pointer (some ⟨bi,0,none⟩),.pointer (some ⟨b0,0,none⟩)] W (ZC (fun _=>False) (sV n i j) W):=by
 have c1:=B1.q0 rfl;have c0:=B0.q0 rfl;have HJ:=hide (fun w=>join_none w);have HO:=hide (fun w=>OM 4 (i:Int) (j:Int) w (by unfold Zg;omega));have hm:((i:Int)+1) % (n:Int)=(((i+1) % n:Nat):Int):=rfl;have hml:(i+1) % n<n:=Nat.mod_lt _ (by omega);unfold sV;obtain ⟨nx,hnx⟩:=eE ((i+1) % n);rw [<- hnx] at hm hml ⊢;have hn0:¬ (n:Int)=0:=by omega
 clear hnx
 by_cases h1:j=i
 · rw [if_pos (.inl h1)];have g1:(j:Int)=(i:Int):=(by omega);clear h1 HO;go_enter func344,ntmps344;go_wp2_with fail;refine (HJ.out _).mono ?_;rintro e w' ⟨fv,K,rfl,h⟩;have H:=hide h;clear h;go_wp2;go_ret;exact ⟨fv,K,rfl,H.out⟩
 · have g1:¬ (j:Int)=(i:Int):=by omega
   by_cases h2:j=nx
   · rw [if_pos (.inr h2)];have g2:(j:Int)=(nx:Int):=(by omega);clear h1 h2 HO;go_enter func344,ntmps344;go_wp2_with fail;refine (HJ.out _).mono ?_;rintro e w' ⟨fv,K,rfl,h⟩;have H:=hide h;clear h;go_wp2;go_ret;exact ⟨fv,K,rfl,H.out⟩
   · rw [if_neg (by omega)];have g2:¬ (j:Int)=(nx:Int):=(by omega);have e1:((j:Int) == (i:Int))=false:=(by simpa using g1);have e2:((j:Int) == (nx:Int))=false:=(by simpa using g2);clear h1 h2 HJ;go_enter func344,ntmps344;go_wp2_with fail;refine (HO.out _).mono ?_;rintro e w' ⟨fv,K,rfl,h⟩;have H:=hide h;clear h;go_wp2;go_ret;exact ⟨fv,K,rfl,H.out⟩
theorem zvs(n i b0:Nat)(W:World)(hn:3<=n)(hn2:n<=10000)(hi:i<n)(B0:Z7 W b0 3 #[.int .i64 (n:Int)]):
 Calls prog 343 #[.int .i64 (i:Int),.pointer (some ⟨b0,0,none⟩)] W (ZC (fun k=>k=b0) ((List.range n).flatMap (sV n i)) W):=by
 have hlt:=B0.lt;obtain ⟨W1,hW1⟩:=eE (W.alloc (.cells #[.int .i64 (i:Int)] 3));have hb:=bE hW1;have hz:W1.heap.size=W.heap.size+1:=by rw [hW1];simp
 have B1:Z7 W1 W.heap.size 3 #[.int .i64 (i:Int)]:=by rw [hW1];exact Z7.new _ _ _
 have B01:=B0.step hb;have c0:=B01.q0 rfl
 have R:=Wj (fun k=>k=W.heap.size\/k=b0) (sV n i) n 344 #[.pointer (some ⟨W.heap.size,0,none⟩),.pointer (some ⟨b0,0,none⟩)] W1 (fun k hk=>by omega) (by omega) (enters_of func344 (by kernel_rfl) rfl)
  (fun j hj X hX=>(bP n i j W.heap.size b0 X hn hn2 hi hj (B1.kept hX (.inl rfl)) (B01.kept hX (.inr rfl))).mono fun e w' h=>h.mono fun k hk=>hk.elim)
 have HR:=hide R;have HB:=hide hb;have HZ:=hide hz;clear R B1 B01 B0 hb hz;rw [hW1] at c0 HR;go_enter func343,ntmps343;go_wp2_with fail;refine HR.out.mono ?_;rw [<- hW1];intro e w' h;obtain ⟨fv,K,rfl,h2⟩:=ZC.back (Kp:=fun k=>k=b0) h HB.out (fun k hk=>by have:=HZ.out;omega);have H:=hide h2;clear h2;go_wp2;go_ret;exact ⟨fv,K,rfl,H.out⟩
theorem La(n:Nat)(w:World)(hn:3<=n)(hn2:n<=10000):Calls prog 320 #[.int .i64 (n:Int)] w (ZC (fun _=>False) ((List.range n).flatMap fun i=>(List.range n).flatMap (sV n i)) w):=by
 obtain ⟨W1,hW1⟩:=eE (w.alloc (.cells #[.int .i64 (n:Int)] 3));have hb:=bE hW1;have hz:W1.heap.size=w.heap.size+1:=by rw [hW1];simp
 have B0:Z7 W1 w.heap.size 3 #[.int .i64 (n:Int)]:=by rw [hW1];exact Z7.new _ _ _
 have c0:=B0.q0 rfl
 have R:=Wj (fun k=>k=w.heap.size) (fun i=>(List.range n).flatMap (sV n i)) n 343 #[.pointer (some ⟨w.heap.size,0,none⟩)] W1 (fun k hk=>by omega) (by omega) (enters_of func343 (by kernel_rfl) rfl)
  (fun i hi X hX=>zvs n i w.heap.size X hn hn2 hi (B0.kept hX rfl))
 have HR:=hide R;have HB:=hide hb;have HZ:=hide hz;clear R B0 hb hz;rw [hW1] at c0 HR;go_enter func320,ntmps320;go_wp2_with fail;refine HR.out.mono ?_;rw [<- hW1];intro e w' h;obtain ⟨fv,K,rfl,h2⟩:=ZC.back (Kp:=fun _=>False) h HB.out (fun k hk=>by have:=HZ.out;omega);have H:=hide h2;clear h2;go_wp2;go_ret;exact ⟨fv,K,rfl,H.out⟩
theorem zzq(i:Nat)(W:World):Calls prog 345 #[.int .i64 (i:Int)] W (ZC (fun _=>False) [(5,(i:Int),0)] W):=by
 have HO:=hide (OM 5 (i:Int) 0 W (by unfold Zg;omega));go_enter func345,ntmps345;go_wp2_with fail;refine HO.out.mono ?_;rintro e w' ⟨fv,K,rfl,h⟩;have H:=hide h;clear h;go_wp2;go_ret;exact ⟨fv,K,rfl,H.out⟩
theorem M7(n:Nat)(w:World)(hn2:n<=10000):Calls prog 321 #[.int .i64 (n:Int)] w (ZC (fun _=>False) ((List.range n).flatMap fun (i:Nat)=>[(5,(i:Int),0)]) w):=by
 have HR:=hide (Wj (fun _=>False) (fun (i:Nat)=>[(5,(i:Int),0)]) n 345 #[] w (fun k hk=>hk.elim) (by omega) (enters_of func345 (by kernel_rfl) rfl) (fun i _ X _=>zzq i X));go_enter func321,ntmps321;go_wp2_with fail;refine HR.out.mono ?_;rintro e w' ⟨fv,K,rfl,h⟩;have H:=hide h;clear h;go_wp2;go_ret;exact ⟨fv,K,rfl,H.out⟩
end
section
open Go.RowKit Go.Shelf
def sF(rs:List Rg)(j:Nat):Int:=(rs[j]?.map (·.v)).getD 0
theorem F3{rs:List Rg}{j:Nat}{r:Rg}(h:rs[j]?=some r):sF rs j=r.v:=by unfold sF;rw [h];rfl
theorem mG{rs:List Rg}(h:∀ r∈rs,r.v=0\/3<=r.v/\r.v<=64)(j:Nat):sF rs j=0\/3<=sF rs j/\sF rs j<=64:=by
 unfold sF;cases hj:rs[j]? with
 | none=>exact .inl rfl
 | some r=>exact h r (List.mem_of_getElem? hj)
def rE(loc:Bool)(v:Int):List Ev:=if v=0 then (bif loc then [(6,0,0)] else [(4,0,2)]) else (bif loc then ((List.range v.toNat).flatMap fun (i:Nat)=>[(5,(i:Int),0)]) else ((List.range v.toNat).flatMap fun i=>(List.range v.toNat).flatMap (sV v.toNat i)))
def Eb(loc:Bool)(rs:List Rg)(i:Nat):List Ev:=(7,(i:Int),bif loc then 1 else 0)::rE loc (sF rs i)
theorem ZC.open_{Kp:Nat->Prop}{es:List Ev}{w w':World}{e:Ending}(h:ZC Kp es w e w'):∃ g l K,e=.returned (.func (.func g) #[] l)/\Below w.heap.size w w'/\(∀ k,K k->Kp k\/w.heap.size<=k/\k<w'.heap.size)/\Yn K (.func (.func g) #[] l) es w':=by
 obtain ⟨fv,K,h1,h2,h3,g,l,rfl,h5⟩:=h;exact ⟨g,l,K,h1,h2,h3,g,l,rfl,h5⟩
section
variable (P:Nat->Prop)(rs:List Rg)(HA:Option Addr)(hc:Nat)
theorem kV(loc:Bool)(i b0 b1:Nat)(W:World)(hi:i<rs.length)(hok:∀ r∈rs,r.v=0\/3<=r.v/\r.v<=64)(hs:Sl W W.heap.size HA (rgCells rs))(B0:Z7 W b0 32 #[.slice HA rs.length hc])(B1:Z7 W b1 4 #[.bool loc]):
 Calls prog 346 #[.int .i64 (i:Int),.pointer (some ⟨b0,0,none⟩),.pointer (some ⟨b1,0,none⟩)] W (ZC (fun _=>False) (Eb loc rs i) W):=by
 obtain ⟨r,hr⟩:∃ r,rs[i]?=some r:=⟨_,List.getElem?_eq_getElem hi⟩;obtain ⟨b,off,hA,hB,q0,q1,q2⟩:=hs.rg hr;have hv:=hok r (List.mem_of_getElem? hr);have hva:=F3 hr;have c0:=B0.q0 rfl;have c1:=B1.q0 rfl;have hii:(i:Int)<(rs.length:Int):=by omega
 have hi0:¬ (i:Int)<0:=by omega
 subst hA;obtain ⟨d,v,RA,rn,rc⟩:=r;dsimp only at q0 q1 q2 hv hva;unfold Eb;rw [hva];have HO:=hide (fun k a b w (hk:Zg k)=>OM k a b w hk);clear B0 B1 hs hr hok hva q0 q2
 by_cases hv0:v=0
 · subst hv0;unfold rE;rw [if_pos rfl];cases loc with
   | true =>
     dsimp only [cond_true];go_enter func346,ntmps346;go_wp2_with fail;refine (HO.out 7 (i:Int) 1 _ (by unfold Zg;omega)).mono ?_;intro e w1 h;obtain ⟨g1,l1,K1,rfl,hb1,hk1,he1⟩:=h.open_;have HB1:=hide hb1;have Po:=hide hk1;have RO:=hide he1;clear h hb1 hk1 he1;go_wp2_with fail;refine (HO.out 6 0 0 _ (by unfold Zg;omega)).mono ?_;intro e w2 h;obtain ⟨g2,l2,K2,rfl,hb2,hk2,he2⟩:=h.open_;have J:=hide (uG (fun k h=>h.elim) HB1.out Po.out RO.out hb2 (fun k hk=>(hk2 k hk).imp id fun h=>⟨Nat.le_trans HB1.out.size h.1,h.2⟩) he2);clear h hb2 hk2 he2;go_wp2_with fail;refine J.out.mono ?_;rintro e w' ⟨fv,K,rfl,h2⟩;have H:=hide h2;clear h2;go_wp2;go_ret;exact ⟨fv,K,rfl,H.out⟩
   | false =>
     dsimp only [cond_false];go_enter func346,ntmps346;go_wp2_with fail;refine (HO.out 7 (i:Int) 0 _ (by unfold Zg;omega)).mono ?_;intro e w1 h;obtain ⟨g1,l1,K1,rfl,hb1,hk1,he1⟩:=h.open_;have HB1:=hide hb1;have Po:=hide hk1;have RO:=hide he1;clear h hb1 hk1 he1;go_wp2_with fail;refine (HO.out 4 0 2 _ (by unfold Zg;omega)).mono ?_;intro e w2 h;obtain ⟨g2,l2,K2,rfl,hb2,hk2,he2⟩:=h.open_;have J:=hide (uG (fun k h=>h.elim) HB1.out Po.out RO.out hb2 (fun k hk=>(hk2 k hk).imp id fun h=>⟨Nat.le_trans HB1.out.size h.1,h.2⟩) he2);clear h hb2 hk2 he2;go_wp2_with fail;refine J.out.mono ?_;rintro e w' ⟨fv,K,rfl,h2⟩;have H:=hide h2;clear h2;go_wp2;go_ret;exact ⟨fv,K,rfl,H.out⟩
 · have hvr:3<=v/\v<=64:=(by omega);obtain ⟨n,rfl⟩:∃ n:Nat,v=(n:Int):=⟨v.toNat,by omega⟩;unfold rE;rw [if_neg hv0,Int.toNat_natCast];have HV:=hide (fun w=>La n w (by omega) (by omega));have HL:=hide (fun w=>M7 n w (by omega));clear hv hvr;have hne:((n:Int) == 0)=false:=(by simpa using hv0);cases loc with
   | true =>
     dsimp only [cond_true];clear HV;go_enter func346,ntmps346;go_wp2_with fail;refine (HO.out 7 (i:Int) 1 _ (by unfold Zg;omega)).mono ?_;intro e w1 h;obtain ⟨g1,l1,K1,rfl,hb1,hk1,he1⟩:=h.open_;have HB1:=hide hb1;have Po:=hide hk1;have RO:=hide he1;clear h hb1 hk1 he1;go_wp2_with fail;refine (HL.out _).mono ?_;intro e w2 h;obtain ⟨g2,l2,K2,rfl,hb2,hk2,he2⟩:=h.open_;have J:=hide (uG (fun k h=>h.elim) HB1.out Po.out RO.out hb2 (fun k hk=>(hk2 k hk).imp id fun h=>⟨Nat.le_trans HB1.out.size h.1,h.2⟩) he2);clear h hb2 hk2 he2;go_wp2_with fail;refine J.out.mono ?_;rintro e w' ⟨fv,K,rfl,h2⟩;have H:=hide h2;clear h2;go_wp2;go_ret;exact ⟨fv,K,rfl,H.out⟩
   | false =>
     dsimp only [cond_false];clear HL;go_enter func346,ntmps346;go_wp2_with fail;refine (HO.out 7 (i:Int) 0 _ (by unfold Zg;omega)).mono ?_;intro e w1 h;obtain ⟨g1,l1,K1,rfl,hb1,hk1,he1⟩:=h.open_;have HB1:=hide hb1;have Po:=hide hk1;have RO:=hide he1;clear h hb1 hk1 he1;go_wp2_with fail;refine (HV.out _).mono ?_;intro e w2 h;obtain ⟨g2,l2,K2,rfl,hb2,hk2,he2⟩:=h.open_;have J:=hide (uG (fun k h=>h.elim) HB1.out Po.out RO.out hb2 (fun k hk=>(hk2 k hk).imp id fun h=>⟨Nat.le_trans HB1.out.size h.1,h.2⟩) he2);clear h hb2 hk2 he2;go_wp2_with fail;refine J.out.mono ?_;rintro e w' ⟨fv,K,rfl,h2⟩;have H:=hide h2;clear h2;go_wp2;go_ret;exact ⟨fv,K,rfl,H.out⟩
theorem Pb(loc:Bool)(w:World)(hlen:rs.length<=1000)(hok:∀ r∈rs,r.v=0\/3<=r.v/\r.v<=64)(hP:∀ k,P k->k<w.heap.size)(hs:Wp w P HA (rgCells rs)):
 Calls prog 322 #[.slice HA rs.length hc,.bool loc] w (ZC P ((List.range rs.length).flatMap (Eb loc rs)) w):=by
 obtain ⟨W1,hW1⟩:=eE ((w.alloc (.cells #[.slice HA rs.length hc] 32)).alloc (.cells #[.bool loc] 4));have hb:=bF hW1;have hz:W1.heap.size=w.heap.size+2:=by rw [hW1];simp
 have B0:Z7 W1 w.heap.size 32 #[.slice HA rs.length hc]:=by rw [hW1];exact (Z7.new _ _ _).alloc _
 have B1:Z7 W1 (w.heap.size+1) 4 #[.bool loc]:=by rw [hW1];exact Z7.new2 _ _ _ _
 have c0:=B0.q0 rfl;have hs1:=hs.kept (Z9.of_below hb hP)
 have R:=Wj (fun k=>P k\/k=w.heap.size\/k=w.heap.size+1) (Eb loc rs) rs.length 346 #[.pointer (some ⟨w.heap.size,0,none⟩),.pointer (some ⟨w.heap.size+1,0,none⟩)] W1 (fun k hk=>by rcases hk with hk|hk;have:=hP k hk;omega;omega) (by omega) (enters_of func346 (by kernel_rfl) rfl)
  (fun i hi X hX=>(kV rs HA hc loc i w.heap.size (w.heap.size+1) X hi hok ((hs1.kept (hX.mono fun k h=>.inl h)).sl fun k hk=>by have:=hP k hk;have:=hX.size;omega) (B0.kept hX (.inr (.inl rfl))) (B1.kept hX (.inr (.inr rfl)))).mono fun e w' h=>h.mono fun k hk=>hk.elim)
 have HR:=hide R;have HB:=hide hb;have HZ:=hide hz;clear R B0 B1 hb hz hs1 hs hP hok;rw [hW1] at c0 HR;go_enter func322,ntmps322;go_wp2_with fail;refine HR.out.mono ?_;rw [<- hW1];intro e w' h;obtain ⟨fv,K,rfl,h2⟩:=ZC.back (Kp:=P) h HB.out (fun k hk=>by have:=HZ.out;rcases hk with hk|hk;exact .inl hk;exact .inr (by omega));have H:=hide h2;clear h2;go_wp2;go_ret;exact ⟨fv,K,rfl,H.out⟩
end
end
end Go.Proofs.YthnenedoblncjaaGreatDoor