/- TracePairs TraceExp RefEv20 RefEv20B EvMath21 TraceEv TraceExp2 TraceExp3 RefEv20C TrLen -/
import Derived.Deep.RegionHeld3
import Derived.Test.YthnenedoblncjaaGreatDoorPkR38
import Derived.Test.YthnenedoblncjaaGreatDoorPkR40
set_option maxRecDepth 1000000
set_option maxHeartbeats 8000000
namespace Go.Proofs.YthnenedoblncjaaGreatDoor
open Go.Proofs.Tryz
section
open Go.RowKit Go.Shelf
attribute [local go_sem] Oper.semAt_some
theorem zds(Bv:Nat)(m:Nat)(hm:m<=12)(w:World)(xq:Z7 w Bv 3 #[.int .i64 ((2 ^ m:Nat):Int)]):
 zws prog (fun _=>True) (AX (m:=m)) (fun k=>k=Bv) 310 #[.pointer (some ⟨Bv,0,none⟩)] (fun ys=>Ub ys=YK m) (YK m).length w :=
 Jc fun W hW=>Hl 5 (by omega) Bv (fun k=>k=Bv) m hm W (fun k hk=>by have:=(xq.kept hW rfl).lt;omega) rfl (xq.kept hW rfl)
def evC{m:Nat}(c:sJ m):Ev:=(3,(c.1.1:Int),(c.1.2:Int))
theorem zxk{m:Nat}(ys:List (sJ m)):ys.map evC=Y3 (Ub ys):=by unfold Y3 Ub;rw [List.map_map];rfl
theorem qI(n Bn:Nat)(w:World)(h1:1<=n)(h2:n<=4096)(hB:Z7 w Bn 3 #[.int .i64 (n:Int)]):
 Ab prog (fun k=>k=Bn) 348 #[.pointer (some ⟨Bn,0,none⟩)] (Y3 (YK (lg n))) w:=by
 intro l J Jx R W hk zR GQ hJ hJx hY h0;have hlen:(Y3 (YK (lg n))).length=(YK (lg n)).length:=by unfold Y3;rw [List.length_map]
 rw [hlen] at hY;obtain ⟨Y,hYs⟩:=eE W.heap.size;obtain ⟨W0,hW0⟩:=eE (W.alloc (.cells #[.func (.yield l) #[] #[]] 401));have hb0:=bE hW0;have hz0:W0.heap.size=Y+1:=by rw [hW0,hYs];simp
 have BY:Z7 W0 Y 401 #[.func (.yield l) #[] #[]]:=by rw [hW0,hYs];exact Z7.new _ _ _
 have cB:=((hB.kept hk rfl).step hb0).q0 rfl;have Qx:=hide (fun w=>Ho n h1 h2 w);have HLG:=hide (jT h2);have HJ:=hide (hYs ▸ hJ:Ut Y J);have HJX:=hide (hYs ▸ hJx:Ut Y (fun R (_:List Ev) W=>Jx R W));have HY:=hide hY;have HRY:Hid (∀ k,R k->k<Y):=hide (fun k h=>hYs ▸ GQ k h);obtain ⟨m,hm⟩:=eE (lg n);rw [<- hm] at Qx HLG HY ⊢;obtain ⟨N2,hN2⟩:∃ N2:Int,N2=((2 ^ m:Nat):Int):=⟨_,rfl⟩;rw [<- hN2] at Qx;obtain ⟨wr,hwr⟩:=eE (W0.alloc (.cells #[.int .i64 N2] 3));have hbr:=bE hwr;have hzr:wr.heap.size=Y+2:=by rw [hwr];simp [hz0]
 have BN:Z7 wr (Y+1) 3 #[.int .i64 ((2 ^ m:Nat):Int)]:=by rw [hwr,<- hN2,<- hz0];exact Z7.new _ _ _
 have BYr:=BY.step hbr;have hbW:=Z8 hb0 hbr;have Jq:=hide (zds (Y+1) m HLG.out wr BN)
 have HJ0:Hid (J (D6 (fun k=>R k\/k=Y) (fun k=>k=Y+1) wr.heap.size wr) [] wr):=hide (HJ.out R _ [] W wr h0 (Zi.of_below hbW _ _) (fun k hk=>by
  rcases hk with hk|(hk|hk)|⟨hk,hk2⟩
  · exact ⟨.inr (by omega),by omega⟩
  · exact ⟨.inl hk,Nat.lt_of_lt_of_le (GQ k hk) hbW.size⟩
  · exact ⟨.inr (by omega),by omega⟩
  · exact ⟨.inr (by omega),hk2⟩))
 have mX:=hide hzr;have Uq:=hide BYr;clear hJ hJx hY GQ h0 zR hk hB hb0 hbr hbW BN BYr BY hzr;refine (callsIn_wide (n:=6)).1 ?_;refine callsIn_of_wp_marks func348 rfl trivial ?_ rfl;simp only [ntmps348,List.size_toArray,List.length_cons,List.length_nil,Nat.reduceAdd,Nat.reduceSub,Array.replicate_succ,Array.replicate_zero,List.push_toArray,List.append_toArray,List.nil_append,List.cons_append];rw [hW0] at cB;gi_wp2_with fail;rw [<- hW0,<- hYs];have HW0:=hide hW0;clear hW0 cB hYs hN2 hm;refine ⟨trivial,?_⟩;refine (callsIn_wide.2 (Qx.out _)).mono ?_;rintro e w1 ⟨rfl,rfl⟩;gi_wp2_with fail;refine ⟨trivial,?_⟩;refine (callsIn_wide.2 (Cy N2 _)).mono ?_;rintro e w1 ⟨rfl,rfl⟩;rw [<- hwr,hz0];have HWR:=hide hwr;clear hwr hz0;gi_wp2_with fail;refine Vd (K:=fun k=>k=Y+1) (encs:=AX (m:=m)) rfl (enters_of func310 (by kernel_rfl) rfl) Jq.out (fun k h=>by have:=mX.out;omega) (fun _=>rfl) (fun R' pre X=>J (D6 (fun k=>R k\/k=Y) R' wr.heap.size X) (pre.map evC) X/\Z9 (fun k=>R k\/k=Y) wr X) (fun c R' X=>c=.ret/\Jx (D6 (fun k=>R k\/k=Y) R' wr.heap.size X) X/\Z9 (fun k=>R k\/k=Y) wr X) ?h1 ?h2 ?h3 ?round ?done ?stop
 case h1=>exact OG (fun pre:List (sJ m)=>pre.map evC) HJ.out (by have:=mX.out;omega) (fun k hk=>by have:=mX.out;rcases hk with hk|hk;have:=HRY.out k hk;omega;omega)
 case h2 =>
  intro c R1 R2 s X Z ⟨hc,h1,h2⟩ hst hR;obtain ⟨h3,h4⟩:=OG (fun _:List (sJ m)=>[]) HJX.out (by have:=mX.out;omega) (fun k hk=>by have:=mX.out;rcases hk with hk|hk;have:=HRY.out k hk;omega;omega) R1 R2 s X Z ⟨h1,h2⟩ hst hR;exact ⟨hc,h3,h4⟩
 case h3=>exact ⟨HJ0.out,Z9.refl _ _⟩
 case round =>
  rintro R' pre x X hR' hnl hs1 ⟨rec,hrec⟩ ⟨hj,hkk⟩ hpre -;have hYX:Z7 X Y 401 #[.func (.yield l) #[] #[]]:=Uq.out.kept hkk (.inr rfl);have zpz:=hYX.lt;have hzr:=mX.out;obtain ⟨⟨x1,x2⟩,hx⟩:=x;obtain ⟨X1,hX1⟩:=eE (X.alloc (.cells #[.int .i64 (x1:Int),.int .i64 (x2:Int)] 326));have hbX:=bE hX1;have hzX:X1.heap.size=X.heap.size+1:=by rw [hX1];simp
  have hE:Z7 X1 X.heap.size 326 #[.int .i64 (x1:Int),.int .i64 (x2:Int)]:=by rw [hX1];exact Z7.new _ _ _
  have hl1:X1.heap[wr.heap.size+1]?=some (.loop rec):=(hbX.block _ hs1).trans hrec;have hY1:=hYX.step hbX;unfold AX;dsimp only;gi_wp2;rw [<- hX1];refine ⟨Z9.of_below hbX (fun k hk=>?_),fun o=>?_⟩
  · rcases hk with hk|hk|hk
    · exact hR' k hk
    · omega
    · omega
  have hst:Zi Y (D6 (fun k=>R k\/k=Y) R' wr.heap.size X) X (X1.putObj (wr.heap.size+1) (.loop o)):=(Zi.of_below hbX _ _).trans (Zi.put (by omega) hl1 rfl (D6 (fun k=>R k\/k=Y) R' wr.heap.size X) _) (fun j h=>.inl h)
  have o9:∀ k,(D6 (fun k=>R k\/k=Y) R' wr.heap.size X k\/k=X.heap.size)->k<X1.heap.size:=fun k hk=>by
   have:=hkk.size;rcases hk with (hk|(hk|hk)|⟨_,hk⟩)|hk
   · have:=hR' k hk;omega
   · have:=HRY.out k hk;omega
   · omega
   · omega
   · omega
  have hjy:=HJ.out _ (fun k=>D6 (fun k=>R k\/k=Y) R' wr.heap.size X k\/k=X.heap.size) _ X (X1.putObj (wr.heap.size+1) (.loop o)) hj hst (fun k hk=>⟨by rcases hk with hk|hk;exact .inl hk;exact .inr (by omega),by have:=o9 k hk;simpa using this⟩);obtain ⟨fn,tmps,assign,body,hy,hRo⟩:=HY.out 1 _ _ (evC (m:=m) ⟨(x1,x2),hx⟩) (X1.putObj (wr.heap.size+1) (.loop o)) (fun k hk=>by have:=o9 k hk;simpa using this) hjy (by rw [List.length_map];exact hpre) (by unfold evC Zg;dsimp only;omega);have yb:Z7 (X1.putObj (wr.heap.size+1) (.loop o)) Y 401 #[.func (.yield l) #[] #[]]:=(World.putObj_heap_other (by omega)).trans hY1;have eb:Z7 (X1.putObj (wr.heap.size+1) (.loop o)) X.heap.size 326 #[.int .i64 (x1:Int),.int .i64 (x2:Int)]:=(World.putObj_heap_other (by omega)).trans hE;have y0:=yb.q0 rfl;have e0:=eb.q0 rfl;have e1:=eb.q1 rfl;have HKX:Hid (Z9 (fun k=>R k\/k=Y) wr (X1.putObj (wr.heap.size+1) (.loop o))):=hide ((hkk.trans (Z9.of_below hbX fun k hk=>by have:=hkk.size;rcases hk with hk|hk;have:=HRY.out k hk;omega;omega)).trans (Z9.putObj _ (fun h=>by rcases h with h|h;have:=HRY.out _ h;omega;omega) _));have HR3:Hid (∀ k,(D6 (fun k=>R k\/k=Y) R' wr.heap.size X k\/k=X.heap.size)->k<X.heap.size+1):=hide fun k hk=>by have:=o9 k hk;omega
  have LU:=hide hs1;obtain ⟨X2,hX2⟩:=eE (X1.putObj (wr.heap.size+1) (.loop o));rw [<- hX2] at hy hRo y0 e0 e1 HKX ⊢;have hz2:X2.heap.size=X.heap.size+1:=by rw [hX2,<- hzX];simp
  have HZ2:=hide hz2;have HRO:=hide hRo;have Gc:=hide hR';have zbi:Hid (pre.map evC++[evC (m:=m) ⟨(x1,x2),hx⟩]=(pre++[(⟨(x1,x2),hx⟩:sJ m)]).map evC):=hide (by simp);unfold evC Gv at hy;dsimp only at hy;clear hRo hjy hst o9 hj hkk hpre hYX zpz hX1 hbX hzX hE hl1 hY1 hrec hnl hs1 yb eb hX2 hz2 hR' hzr;gi_wp2_with fail;refine (RoundIn.inRound' _ HRO.out).mono ?_;rintro e X3 (⟨rfl,h1,h2⟩|⟨rfl,h1,h2⟩)
  · have H1:=hide h1;have H2:=hide h2;clear h1 h2 HRO hy y0 e0 e1;gi_wp2;have hz:=H2.out.size;refine ⟨H2.out.mono fun k hk=>?_,HJ.out (fun k=>D6 (fun k=>R k\/k=Y) R' wr.heap.size X k\/k=X.heap.size) _ _ X3 X3 ?_ (Zi.refl _ _ _) fun k hk=>?_,HKX.out.trans (H2.out.mono fun k hk=>.inl (.inr (.inl hk)))⟩
    · rcases hk with hk|hk|hk
      · exact .inl (.inl hk)
      · exact .inl (.inr (.inr ⟨.inl hk,by have:=LU.out;omega⟩))
      · exact .inl (.inr (.inr ⟨.inr hk,by have:=LU.out;omega⟩))
    · rw [<- zbi.out];exact H1.out
    · have hzz:=HZ2.out;rcases hk with hk|hk|⟨hk,hk2⟩
      · exact ⟨.inl (.inl (.inl hk)),by have:=Gc.out k hk;omega⟩
      · exact ⟨.inl (.inl (.inr (.inl hk))),by have:=HR3.out k (.inl (.inr (.inl hk)));omega⟩
      · exact ⟨.inl (.inl (.inr (.inr ⟨hk,by have:=LU.out;omega⟩))),hk2⟩
  · have H1:=hide h1;have H2:=hide h2;clear h1 h2 HRO hy y0 e0 e1;gi_wp2;have hz:=H2.out.size;refine ⟨H2.out.mono fun k hk=>?_,rfl,HJX.out _ _ [] X3 X3 H1.out (Zi.refl _ _ _) fun k hk=>?_,HKX.out.trans (H2.out.mono fun k hk=>.inl (.inr (.inl hk)))⟩
    · rcases hk with hk|hk|hk
      · exact .inl (.inl hk)
      · exact .inl (.inr (.inr ⟨.inl hk,by have:=LU.out;omega⟩))
      · exact .inl (.inr (.inr ⟨.inr hk,by have:=LU.out;omega⟩))
    · have hzz:=HZ2.out;rcases hk with hk|hk|⟨hk,hk2⟩
      · exact ⟨.inl (.inl (.inl hk)),by have:=Gc.out k hk;omega⟩
      · exact ⟨.inl (.inl (.inr (.inl hk))),by have:=HR3.out k (.inl (.inr (.inl hk)));omega⟩
      · exact ⟨.inl (.inl (.inr (.inr ⟨hk,by have:=LU.out;omega⟩))),hk2⟩
 case done =>
  rintro ys X hys ⟨hj,hkk⟩ hD hsl;have hz:=hkk.size;have xA:∀ k,R k->k<X.heap.size:=fun k h=>by have:=HRY.out k h;have:=mX.out;omega
  have HC:Hid (J R (Y3 (YK m)) X/\∀ k,R k->k<X.heap.size):=hide ⟨by
   rw [zxk,hys] at hj
   exact HJ.out _ R _ X X hj (Zi.refl _ _ _) fun k hk=>⟨.inl (.inr (.inl (.inl hk))),xA k hk⟩,xA⟩
  have HM:Hid (Marks Y [{ target:=.collected wr.heap.size,args:=#[] }] X):=hide ⟨wr.heap.size,rfl,by have:=mX.out;omega,hD,fun r h=>(by cases h),trivial⟩;clear hj hkk hD hsl hz xA hys;gi_wp2;refine WE (lo:=Y) (C:=fun X=>J R (Y3 (YK m)) X/\∀ k,R k->k<X.heap.size) ?_ _ X HM.out HC.out ?_
  · rintro X r ⟨h1,h2⟩ hr hl;exact ⟨HJ.out R R _ X _ h1 (Zi.put hr hl rfl R _) fun k hk=>⟨.inl hk,by have:=h2 k hk;simpa using this⟩,fun k hk=>by have:=h2 k hk;simpa using this⟩
  · rintro X ⟨h1,_⟩;exact ⟨_,results_none rfl _ _ _,⟨_,rfl⟩,.inl ⟨_,rfl,h1⟩⟩
 case stop =>
  rintro c X ⟨rfl,hjx,hkk⟩ hD hsl;have hz:=hkk.size;have xA:∀ k,R k->k<X.heap.size:=fun k h=>by have:=HRY.out k h;have:=mX.out;omega
  have HC:Hid (Jx R X/\∀ k,R k->k<X.heap.size):=hide ⟨HJX.out _ R [] X X hjx (Zi.refl _ _ _) fun k hk=>⟨.inl (.inr (.inl (.inl hk))),xA k hk⟩,xA⟩;have HM:Hid (Marks Y [{ target:=.collected wr.heap.size,args:=#[] }] X):=hide ⟨wr.heap.size,rfl,by have:=mX.out;omega,hD,fun r h=>(by cases h),trivial⟩;clear hjx hkk hD hsl hz xA;gi_wp2;refine WE (lo:=Y) (C:=fun X=>Jx R X/\∀ k,R k->k<X.heap.size) ?_ _ X HM.out HC.out ?_
  · rintro X r ⟨h1,h2⟩ hr hl;exact ⟨HJX.out R R [] X _ h1 (Zi.put hr hl rfl R _) fun k hk=>⟨.inl hk,by have:=h2 k hk;simpa using this⟩,fun k hk=>by have:=h2 k hk;simpa using this⟩
  · rintro X ⟨h1,_⟩;exact ⟨_,results_none rfl _ _ _,⟨_,rfl⟩,.inr h1⟩
theorem qJ(n:Int)(w:World):Calls prog 327 #[.int .i64 n] w fun e w' =>
 e=.returned (.func (.func 348) #[] #[.pointer (some ⟨w.heap.size,0,none⟩)])/\w'=w.alloc (.cells #[.int .i64 n] 3):=by
 go_enter func327,ntmps327;go_wp2;go_ret;exact ⟨rfl,rfl⟩
theorem zA(n:Nat)(w:World)(h1:1<=n)(h2:n<=4096):Calls prog 327 #[.int .i64 (n:Int)] w (ZC (fun _=>False) (Y3 (YK (lg n))) w):=by
 refine (qJ n w).mono ?_;rintro e w' ⟨rfl,rfl⟩;refine ⟨_,fun k=>k=w.heap.size,rfl,bA,fun k hk=>.inr ⟨by omega,by simp only [World.size_alloc];omega⟩,_,_,rfl,enters_of func348 (by kernel_rfl) rfl,?_⟩;exact qI n w.heap.size _ h1 h2 (Z7.new _ _ _)
end
section
open Go.RowKit Go.Shelf
def Jr(w0:World)(b:Nat)(v:Value)(w':World):Prop:=Below w0.heap.size w0 w'/\w'.cell? ⟨b,0,none⟩=some v
theorem Jr.keep{w0 wk w':World}{b:Nat}{v:Value}(h:Jr w0 b v wk)(hb:Below wk.heap.size wk w'):Jr w0 b v w' :=
 ⟨Z8 h.1 hb,(hb.cell (p:=⟨_,_,none⟩) (Zz h.2)).trans h.2⟩
theorem ZC.zH{Kp:Nat->Prop}{es:List Ev}{w w':World}{e:Ending}(h:ZC Kp es w.drew e w'):ZC Kp es w e w':=by
 obtain ⟨fv,K,h1,h2,h3,h4⟩:=h;exact ⟨fv,K,h1,Ye h2,h3,h4⟩
theorem oN(i bm gm:Nat)(lm:Array Value)(Km:Nat->Prop)(em:List Ev)(W:World)(hKm:∀ k,Km k->k<W.heap.size)(hev:Yn Km (.func (.func gm) #[] lm) em W)(B:Z7 W bm 335 #[.func (.func gm) #[] lm]):
 Calls prog 324 #[.int .i64 (i:Int),.pointer (some ⟨bm,0,none⟩)] W (ZC Km ((8,(i:Int),0)::em) W):=by
 have c0:=B.q0 rfl;have h00:Jr W bm (.func (.func gm) #[] lm) W:=⟨Below.refl _ _,c0⟩;have hd0:Jr W bm (.func (.func gm) #[] lm) W.drew:=h00.keep (ZV (Below.refl _ _));have HO:=hide (fun w=>OM 8 (i:Int) 0 w (by unfold Zg;omega));have HE:Hid (∀ w1,Below W.heap.size W w1->Yn Km (.func (.func gm) #[] lm) em w1):=hide fun w1 hb=>hev.kept (Z9.of_below hb hKm)
 have HJ:Hid (∀ (w1:World) (g1:Nat) (l1:Array Value) (K1:Nat->Prop),Below W.drew.heap.size W.drew w1->(∀ k,K1 k->False\/W.drew.heap.size<=k/\k<w1.heap.size)->Yn K1 (.func (.func g1) #[] l1) [(8,(i:Int),0)] w1 ->
  Calls prog 319 #[.slice (some ⟨w1.heap.size,0,none⟩) 2 2] (w1.alloc (.cells #[.func (.func g1) #[] l1,.func (.func gm) #[] lm] 335)) (fun e w'=>ZC Km ((8,(i:Int),0)::em) W e w'/\Below (w1.alloc (.cells #[.func (.func g1) #[] l1,.func (.func gm) #[] lm] 335)).heap.size (w1.alloc (.cells #[.func (.func g1) #[] l1,.func (.func gm) #[] lm] 335)) w')):=hide fun w1 g1 l1 K1 hb hk he =>
  (Fg (Kp:=Km) (w0:=W.drew) hKm hb (fun k h=>.inr ((hk k h).resolve_left id)) he (Below.refl _ _) (fun k h=>.inl h) (HE.out w1 (Ye hb))).mono fun e w' h=>⟨h.1.zH,h.2⟩
 clear hKm hev B;go_enter func324,ntmps324;go_wp2
 go_region_held3 (fun w'=>Below W.heap.size W w'/\w'.cell? ⟨bm,0,none⟩=some (.func (.func gm) #[] lm))
  (first|exact hd0|exact h00|exact Jr.keep (by assumption) (by assumption)|exact Jr.keep (by assumption) (bA)|exact hd0.keep (by assumption))
  (first
    | (go_at_call 325;((with_reducible refine (HO.out _).mono ?_);intro e w1 h;obtain ⟨g1,l1,K1,rfl,hb1,hk1,he1⟩:=h.open_))
    | (go_at_call 319;((with_reducible refine (HJ.out w1 g1 l1 K1 hb1 hk1 he1).mono ?_);rintro e w' ⟨⟨fv,K,rfl,h2⟩,hb2⟩)))
 all_goals
  have H:=hide h2;clear h2 h hb1 hk1 he1;go_wp2;go_ret;exact ⟨fv,K,rfl,H.out⟩
theorem zjc(K:Nat->Prop)(L:List (Value × List Ev))(es:List Ev)(w2:World)(n:Nat)(cs:Array Value)(hn:L.length=n)(hn2:n<=100)(hcs:cs=(L.map (·.1)).toArray)(he:L.flatMap (·.2)=es)(hK:∀ k,K k->k<w2.heap.size)(hL:∀ p∈L,Yn K p.1 p.2 w2):
 Calls prog 319 #[.slice (some ⟨w2.heap.size,0,none⟩) n n] (w2.alloc (.cells cs 335)) (fun e w'=>ZC K es w2 e w'/\Below (w2.alloc (.cells cs 335)).heap.size (w2.alloc (.cells cs 335)) w'):=by
 have hb3:=Z5 (Below.refl w2.heap.size w2) (.cells cs 335);have N3:=Z7.new w2 335 cs;have z3:(w2.alloc (.cells cs 335)).heap.size=w2.heap.size+1:=by simp
 refine (OH (fun k=>K k\/k=w2.heap.size) (some ⟨w2.heap.size,0,none⟩) n n L es _ ?_ hn he ?_ ?_ (by omega)).mono fun e w' h=>⟨h.back hb3 ?_,by obtain ⟨_,_,_,h,_⟩:=h;exact h⟩
 · rintro k (h|h)
   · have:=hK k h;omega
   · omega
 · exact .inr ⟨w2.heap.size,0,rfl,.inr rfl,fun j u hu=>by rw [Nat.zero_add];refine N3.cell ?_;rw [hcs];simpa using hu⟩
 · exact fun p hp=>((hL p hp).kept (Z9.of_below hb3 hK)).mono fun k h=>.inl h
 · rintro k (h|h)
   · exact .inl h
   · exact .inr (by omega)
def Sj(w0:World)(b:Nat)(v1 v2 v3:Value)(w':World):Prop:=Below w0.heap.size w0 w'/\w'.cell? ⟨b,1,none⟩=some v1/\w'.cell? ⟨b,2,none⟩=some v2/\w'.cell? ⟨b,3,none⟩=some v3
theorem Sj.keep{w0 wk w':World}{b:Nat}{v1 v2 v3:Value}(h:Sj w0 b v1 v2 v3 wk)(hb:Below wk.heap.size wk w'):Sj w0 b v1 v2 v3 w':=by
 have on:∀ {b o:Nat} {v:Value},wk.cell? ⟨b,o,none⟩=some v->w'.cell? ⟨b,o,none⟩=some v:=fun h=>(hb.cell (p:=⟨_,_,none⟩) (Zz h)).trans h;exact ⟨Z8 h.1 hb,on h.2.1,on h.2.2.1,on h.2.2.2⟩
section
variable (op vs ZY:Int)(rs:List Rg)(HA:Option Addr)(hc:Nat)(P:Nat->Prop)(w:World)
theorem J4(h3:op≠3)(h4:op≠4)(h5:op≠5):Calls prog 285 #[.agg #[.int .i64 op,.int .i64 vs,.slice HA rs.length hc,.int .i64 ZY]] w (ZC P [] w):=by
 have hb0:=Z5 (Below.refl w.heap.size w) (.cells #[.int .i64 op,.int .i64 vs,.slice HA rs.length hc,.int .i64 ZY] 53);have N0:=Z7.new w 53 #[.int .i64 op,.int .i64 vs,.slice HA rs.length hc,.int .i64 ZY];have c0:=N0.q0 rfl;have HJ:=hide (join_none (w.alloc (.cells #[.int .i64 op,.int .i64 vs,.slice HA rs.length hc,.int .i64 ZY] 53)));have HB:=hide hb0;clear N0 hb0;go_enter func285,ntmps285;go_wp2_with fail;refine HJ.out.mono ?_;intro e w' h;obtain ⟨fv,K,rfl,h2⟩:=(h.mono (K':=P) fun _ h=>h.elim).back HB.out fun k h=>.inl h;have H:=hide h2;clear h2;go_wp2;go_ret;exact ⟨fv,K,rfl,H.out⟩
theorem wO(n:Nat)(h1:3<=n)(h2:n<=64):Calls prog 285 #[.agg #[.int .i64 3,.int .i64 (n:Int),.slice HA rs.length hc,.int .i64 ZY]] w (ZC P (((List.range n).flatMap fun i=>(List.range n).flatMap (sV n i))++(List.range n).flatMap fun (i:Nat)=>[(5,(i:Int),0)]) w):=by
 obtain ⟨w0,hw0⟩:=eE (w.alloc (.cells #[.int .i64 3,.int .i64 (n:Int),.slice HA rs.length hc,.int .i64 ZY] 53));have hb0:=bE hw0;have N0:Z7 w0 w.heap.size 53 #[.int .i64 3,.int .i64 (n:Int),.slice HA rs.length hc,.int .i64 ZY]:=by rw [hw0];exact Z7.new _ _ _
 have c0:=N0.q0 rfl;have h00:Sj w0 w.heap.size (.int .i64 (n:Int)) (.slice HA rs.length hc) (.int .i64 ZY) w0:=⟨Below.refl _ _,N0.q1 rfl,N0.q2 rfl,N0.q3 rfl⟩;have hd0:=h00.keep (ZV (Below.refl _ _));have HV:=hide (fun w=>La n w h1 (by omega));have HL:=hide (fun w=>M7 n w (by omega));obtain ⟨e1,he1⟩:=eE ((List.range n).flatMap fun i=>(List.range n).flatMap (sV n i));obtain ⟨e2,he2⟩:=eE ((List.range n).flatMap fun (i:Nat)=>[((5,(i:Int),0):Ev)]);rw [<- he1,<- he2];rw [<- he1] at HV;rw [<- he2] at HL
 have HJ:Hid (∀ (w1:World) (g1:Nat) (l1:Array Value) (K1:Nat->Prop) (w2:World) (g2:Nat) (l2:Array Value) (K2:Nat->Prop),Below w0.drew.heap.size w0.drew w1->(∀ k,K1 k->False\/w0.drew.heap.size<=k/\k<w1.heap.size)->Yn K1 (.func (.func g1) #[] l1) e1 w1 ->
  Below w1.heap.size w1 w2->(∀ k,K2 k->False\/w1.heap.size<=k/\k<w2.heap.size)->Yn K2 (.func (.func g2) #[] l2) e2 w2 ->
  Calls prog 319 #[.slice (some ⟨w2.heap.size,0,none⟩) 2 2] (w2.alloc (.cells #[.func (.func g1) #[] l1,.func (.func g2) #[] l2] 335)) (fun e w'=>ZC P (e1++e2) w e w'/\Below (w2.alloc (.cells #[.func (.func g1) #[] l1,.func (.func g2) #[] l2] 335)).heap.size (w2.alloc (.cells #[.func (.func g1) #[] l1,.func (.func g2) #[] l2] 335)) w')):=hide fun w1 g1 l1 K1 w2 g2 l2 K2 a1 a2 a3 a4 a5 a6 =>
  (Fg (Kp:=fun _=>False) (w0:=w0.drew) (fun _ h=>h.elim) a1 a2 a3 a4 (fun k h=>(a5 k h).imp id fun h=>⟨Nat.le_trans a1.size h.1,h.2⟩) a6).mono fun e w' h=>⟨(h.1.zH.mono (K':=P) fun _ h=>h.elim).back hb0 fun k h=>.inl h,h.2⟩
 clear N0 he1 he2 hb0;rw [hw0] at c0;go_enter func285,ntmps285;go_wp2;rw [<- hw0];clear c0 hw0
 go_region_held3 (fun w'=>Below w0.heap.size w0 w'/\w'.cell? ⟨w.heap.size,1,none⟩=some (.int .i64 (n:Int))/\w'.cell? ⟨w.heap.size,2,none⟩=some (.slice HA rs.length hc)/\w'.cell? ⟨w.heap.size,3,none⟩=some (.int .i64 ZY))
  (first|exact hd0|exact h00|exact Sj.keep (by assumption) (by assumption)|exact Sj.keep (by assumption) (bA)|exact hd0.keep (by assumption))
  (first
    | (go_at_call 320;((with_reducible refine (HV.out _).mono ?_);intro e w1 k1;obtain ⟨g1,l1,K1,rfl,a1,a2,a3⟩:=k1.open_))
    | (go_at_call 321;((with_reducible refine (HL.out _).mono ?_);intro e w2 k2;obtain ⟨g2,l2,K2,rfl,a4,a5,a6⟩:=k2.open_))
    | (go_at_call 319;((with_reducible refine (HJ.out w1 g1 l1 K1 w2 g2 l2 K2 a1 a2 a3 a4 a5 a6).mono ?_);rintro e w' ⟨⟨fv,K,rfl,hh⟩,hb2⟩)))
 all_goals
  have H:=hide hh;clear hh k1 k2 a1 a2 a3 a4 a5 a6;go_wp2;go_ret;exact ⟨fv,K,rfl,H.out⟩
end
end
section
open Go.RowKit Go.Shelf
theorem oo(k:Nat):(Xb k).length=k:=by unfold Xb;rw [List.length_map,List.length_range]
theorem yK(cs:List (Nat × Nat)):(Y3 cs).length=cs.length:=by simp [Y3]
end
section
open Go.RowKit
def Ta(rs:List Rg)(n:Nat):List Ev:=(List.range n).flatMap fun (i:Nat)=>(8,(i:Int),0)::Qv 0 rs
def evB(rs:List Rg)(n:Nat):List Ev:=PN 0 rs++Ta rs n++Xb n++Y3 (YK (lg n))
def JX(op vs:Int)(rs:List Rg)(ZY:Int):List Ev:=if op=5 then evB rs ZY.toNat else evH op vs rs
theorem Dk{rs:List Rg}(h:rs.any Zq=false):∀ r∈rs,r.v=0\/3<=r.v/\r.v<=64:=fun r hr=>by
 have hw:Zq r=false:=by
  rw [List.any_eq_false] at h;simpa using h r hr
 unfold Zq at hw;have hs0:ZJ r.v≠0:=by simpa using hw
 unfold ZJ at hs0
 by_cases h0:r.v=0
 · exact .inl h0
 · rw [if_neg h0] at hs0
   by_cases hb:3<=r.v/\r.v<=64
   · exact .inr hb
   · rw [if_neg hb] at hs0;exact absurd rfl hs0
theorem Ba(x nx:Nat):∀ k,Jj x nx k=(List.range k).flatMap fun j=>if j=x\/j=nx then [] else [(4,(x:Int),(j:Int))]
 | 0=>rfl
 | k+1=>by
   rw [List.range_succ,List.flatMap_append,<- Ba x nx k]
   by_cases h:k=x\/k=nx
   · rw [JZ h];simp [h]
   · rw [Bb (fun e=>h (.inl e)) (fun e=>h (.inr e))];simp [h]
theorem mH(n:Nat):RX n (List.range n)=(List.range n).flatMap fun i=>(List.range n).flatMap (sV n i):=by
 unfold RX;have:(fun x=>Jj x ((x+1) % n) n)=fun i=>(List.range n).flatMap (sV n i):=by
  funext x;exact Ba x ((x+1) % n) n
 rw [this]
theorem yx(n:Nat):Yo (List.range n)=(List.range n).flatMap fun (i:Nat)=>[(5,(i:Int),0)]:=by
 unfold Yo;rw [List.map_eq_flatMap]
theorem wD(n:Nat):Xb n=(List.range n).flatMap fun (i:Nat)=>[(1,(i:Int),0)]:=by
 unfold Xb;rw [List.map_eq_flatMap]
theorem Iu{rs:List Rg}{k:Nat}{r:Rg}(h:rs[k]?=some r):rs.take (k+1)=rs.take k++[r]:=by
 rw [List.take_add_one,h];rfl
theorem pX(rs:List Rg):PN 0 rs=(List.range rs.length).flatMap fun (i:Nat)=>(7,(i:Int),0)::Oy (sF rs i):=by
 have key:∀ k,k<=rs.length->PN 0 (rs.take k)=(List.range k).flatMap fun (i:Nat)=>(7,(i:Int),0)::Oy (sF rs i):=by
  intro k
  induction k with
  | zero=>intro _;rfl
  | succ k ih =>
    intro hk;obtain ⟨r,hr⟩:∃ r,rs[k]?=some r:=⟨_,List.getElem?_eq_getElem (by omega)⟩;rw [Iu hr,GZ,ih (by omega),List.range_succ,List.flatMap_append,List.length_take,Nat.min_eq_left (by omega),<- F3 hr];simp
 have h:=key rs.length (Nat.le_refl _);rwa [List.take_length] at h
theorem pR(rs:List Rg):Qv 0 rs=(List.range rs.length).flatMap fun (i:Nat)=>(7,(i:Int),1)::Ov (sF rs i):=by
 have key:∀ k,k<=rs.length->Qv 0 (rs.take k)=(List.range k).flatMap fun (i:Nat)=>(7,(i:Int),1)::Ov (sF rs i):=by
  intro k
  induction k with
  | zero=>intro _;rfl
  | succ k ih =>
    intro hk;obtain ⟨r,hr⟩:∃ r,rs[k]?=some r:=⟨_,List.getElem?_eq_getElem (by omega)⟩;rw [Iu hr,GX,ih (by omega),List.range_succ,List.flatMap_append,List.length_take,Nat.min_eq_left (by omega),<- F3 hr];simp
 have h:=key rs.length (Nat.le_refl _);rwa [List.take_length] at h
theorem gN{v:Nat}(h:3<=v/\v<=64):Zy v=v:=by unfold Zy;rw [if_pos h]
theorem Ia{n:Nat}(h:3<=n/\n<=64):RX n (List.range (Zy n))=((List.range n).flatMap fun i=>(List.range n).flatMap (sV n i))/\Yo (List.range (Zy n))=(List.range n).flatMap fun (i:Nat)=>[(5,(i:Int),0)]:=by
 rw [gN h];exact ⟨mH n,yx n⟩
theorem zwl{v:Int}(h:v=0\/3<=v/\v<=64):Oy v=rE false v/\Ov v=rE true v:=by
 unfold Oy Ov rE;rcases h with rfl|h
 · exact ⟨rfl,rfl⟩
 · have h0:¬ v=0:=(by omega);rw [if_neg h0,if_neg h0,if_neg h0,if_neg h0];exact Ia (by omega)
theorem Ie{rs:List Rg}(hok:∀ r∈rs,r.v=0\/3<=r.v/\r.v<=64):PN 0 rs=(List.range rs.length).flatMap (Eb false rs)/\Qv 0 rs=(List.range rs.length).flatMap (Eb true rs):=by
 rw [pX,pR];have e1:(fun (i:Nat)=>((7,(i:Int),0):Ev)::Oy (sF rs i))=Eb false rs:=by
  funext i;unfold Eb;rw [(zwl (mG hok i)).1];rfl
 have e2:(fun (i:Nat)=>((7,(i:Int),1):Ev)::Ov (sF rs i))=Eb true rs:=by
  funext i;unfold Eb;rw [(zwl (mG hok i)).2];rfl
 rw [e1,e2];exact ⟨rfl,rfl⟩
end
section
open Go.RowKit Go.Shelf
theorem FQ{P:Program}{w:World}{a:Addr}{m:Mode}(f:Fn)(cs lb:Array Value):(store a (.func f cs lb) m).run P w=stored P w a (.func f cs lb) m:=run_store P w a _ m rfl
attribute [local go_sem] FQ
theorem oO(i:Nat)(W:World):Calls prog 326 #[.int .i64 (i:Int)] W (ZC (fun _=>False) [(1,(i:Int),0)] W):=by
 have HO:=hide (OM 1 (i:Int) 0 W (by unfold Zg;omega));go_enter func326,ntmps326;go_wp2_with fail;refine HO.out.mono ?_;rintro e w' ⟨fv,K,rfl,h⟩;have H:=hide h;clear h;go_wp2;go_ret;exact ⟨fv,K,rfl,H.out⟩
section
variable (op vs ZY:Int)(rs:List Rg)(HA:Option Addr)(hc:Nat)(P:Nat->Prop)(w:World)
variable (hP:∀ k,P k->k<w.heap.size)(hs:Wp w P HA (rgCells rs))(hlen:rs.length<=1000)(hok:∀ r∈rs,r.v=0\/3<=r.v/\r.v<=64)
include hP hs hlen hok
theorem wP:Calls prog 285 #[.agg #[.int .i64 4,.int .i64 vs,.slice HA rs.length hc,.int .i64 ZY]] w (ZC P ((List.range rs.length).flatMap (Eb false rs)++(List.range rs.length).flatMap (Eb true rs)) w):=by
 obtain ⟨w0,hw0⟩:=eE (w.alloc (.cells #[.int .i64 4,.int .i64 vs,.slice HA rs.length hc,.int .i64 ZY] 53));have hb0:=bE hw0;have N0:Z7 w0 w.heap.size 53 #[.int .i64 4,.int .i64 vs,.slice HA rs.length hc,.int .i64 ZY]:=by rw [hw0];exact Z7.new _ _ _
 have c0:=N0.q0 rfl;have h00:Sj w0 w.heap.size (.int .i64 vs) (.slice HA rs.length hc) (.int .i64 ZY) w0:=⟨Below.refl _ _,N0.q1 rfl,N0.q2 rfl,N0.q3 rfl⟩;have hd0:=h00.keep (ZV (Below.refl _ _));have Sm:∀ k,P k->k<w0.heap.size:=fun k hk=>Nat.lt_of_lt_of_le (hP k hk) hb0.size;have HR:=hide (fun (loc:Bool) (w':World) (hb:Below w0.heap.size w0 w')=>Pb P rs HA hc loc w' hlen hok (fun k hk=>Nat.lt_of_lt_of_le (Sm k hk) hb.size) (hs.kept ((Z9.of_below hb0 hP).trans (Z9.of_below hb Sm))));have HF:=hide (HR.out false);have HT:=hide (HR.out true);obtain ⟨e1,he1⟩:=eE ((List.range rs.length).flatMap (Eb false rs));obtain ⟨e2,he2⟩:=eE ((List.range rs.length).flatMap (Eb true rs));rw [<- he1,<- he2];rw [<- he1] at HF;rw [<- he2] at HT;have HD:Hid (Below w0.heap.size w0 w0.drew):=hide (ZV (Below.refl _ _))
 have HJ:Hid (∀ (w1:World) (g1:Nat) (l1:Array Value) (K1:Nat->Prop) (w2:World) (g2:Nat) (l2:Array Value) (K2:Nat->Prop),Below w0.drew.heap.size w0.drew w1->(∀ k,K1 k->P k\/w0.drew.heap.size<=k/\k<w1.heap.size)->Yn K1 (.func (.func g1) #[] l1) e1 w1 ->
  Below w1.heap.size w1 w2->(∀ k,K2 k->P k\/w1.heap.size<=k/\k<w2.heap.size)->Yn K2 (.func (.func g2) #[] l2) e2 w2 ->
  Calls prog 319 #[.slice (some ⟨w2.heap.size,0,none⟩) 2 2] (w2.alloc (.cells #[.func (.func g1) #[] l1,.func (.func g2) #[] l2] 335)) (fun e w'=>ZC P (e1++e2) w e w'/\Below (w2.alloc (.cells #[.func (.func g1) #[] l1,.func (.func g2) #[] l2] 335)).heap.size (w2.alloc (.cells #[.func (.func g1) #[] l1,.func (.func g2) #[] l2] 335)) w')):=hide fun w1 g1 l1 K1 w2 g2 l2 K2 a1 a2 a3 a4 a5 a6 =>
  (Fg (Kp:=P) (w0:=w0.drew) Sm a1 a2 a3 a4 (fun k h=>(a5 k h).imp id fun h=>⟨Nat.le_trans a1.size h.1,h.2⟩) a6).mono fun e w' h=>⟨h.1.zH.back hb0 fun k h=>.inl h,h.2⟩
 have HSt:Hid (∀ w1,Below w0.drew.heap.size w0.drew w1->Below w0.heap.size w0 w1):=hide fun w1 h=>Ye h;clear N0 he1 he2 hb0 Sm hP hs hlen hok HR;rw [hw0] at c0;go_enter func285,ntmps285;go_wp2;rw [<- hw0];clear c0 hw0
 go_region_held3 (fun w'=>Below w0.heap.size w0 w'/\w'.cell? ⟨w.heap.size,1,none⟩=some (.int .i64 vs)/\w'.cell? ⟨w.heap.size,2,none⟩=some (.slice HA rs.length hc)/\w'.cell? ⟨w.heap.size,3,none⟩=some (.int .i64 ZY))
  (first|exact hd0|exact h00|exact Sj.keep (by assumption) (by assumption)|exact Sj.keep (by assumption) (bA)|exact hd0.keep (by assumption))
  (first
    | (go_at_call 322;((with_reducible refine (HF.out _ HD.out).mono ?_);intro e w1 k1;obtain ⟨g1,l1,K1,rfl,a1,a2,a3⟩:=k1.open_))
    | (go_at_call 322;((with_reducible refine (HT.out w1 (HSt.out w1 a1)).mono ?_);intro e w2 k2;obtain ⟨g2,l2,K2,rfl,a4,a5,a6⟩:=k2.open_))
    | (go_at_call 319;((with_reducible refine (HJ.out w1 g1 l1 K1 w2 g2 l2 K2 a1 a2 a3 a4 a5 a6).mono ?_);rintro e w' ⟨⟨fv,K,rfl,hh⟩,hb2⟩)))
 all_goals
  have H:=hide hh;clear hh k1 k2 a1 a2 a3 a4 a5 a6;go_wp2;go_ret;exact ⟨fv,K,rfl,H.out⟩
theorem wQ(n:Nat)(h1:1<=n)(h2:n<=4096):Calls prog 285 #[.agg #[.int .i64 5,.int .i64 vs,.slice HA rs.length hc,.int .i64 (n:Int)]] w (ZC P ((List.range rs.length).flatMap (Eb false rs)++(((List.range n).flatMap fun (i:Nat)=>(8,(i:Int),0)::(List.range rs.length).flatMap (Eb true rs))++(((List.range n).flatMap fun (i:Nat)=>[(1,(i:Int),0)])++(Y3 (YK (lg n))++[])))) w):=by
 obtain ⟨w0,hw0⟩:=eE (w.alloc (.cells #[.int .i64 5,.int .i64 vs,.slice HA rs.length hc,.int .i64 (n:Int)] 53));have hb0:=bE hw0;have N0:Z7 w0 w.heap.size 53 #[.int .i64 5,.int .i64 vs,.slice HA rs.length hc,.int .i64 (n:Int)]:=by rw [hw0];exact Z7.new _ _ _
 have c0:=N0.q0 rfl;have c2:=N0.q2 rfl;have Sm:∀ k,P k->k<w0.heap.size:=fun k hk=>Nat.lt_of_lt_of_le (hP k hk) hb0.size;have HR:=hide (fun (loc:Bool) (w':World) (hb:Below w0.heap.size w0 w')=>Pb P rs HA hc loc w' hlen hok (fun k hk=>Nat.lt_of_lt_of_le (Sm k hk) hb.size) (hs.kept ((Z9.of_below hb0 hP).trans (Z9.of_below hb Sm))));have HF:=hide (HR.out false);have HT:=hide (HR.out true w0 (Below.refl _ _));have sS:=hide (fun w=>zA n w h1 h2);obtain ⟨e1,he1⟩:=eE ((List.range rs.length).flatMap (Eb false rs));obtain ⟨e2,he2⟩:=eE ((List.range rs.length).flatMap (Eb true rs));rw [<- he1,<- he2];rw [<- he1] at HF;rw [<- he2] at HT;obtain ⟨e3,he3⟩:=eE ((List.range n).flatMap fun (i:Nat)=>((8,(i:Int),0):Ev)::e2);obtain ⟨e4,he4⟩:=eE ((List.range n).flatMap fun (i:Nat)=>[((1,(i:Int),0):Ev)]);obtain ⟨e5,he5⟩:=eE (Y3 (YK (lg n)));rw [<- he3,<- he4,<- he5];rw [<- he5] at sS;have HD3:=hide he3;have HD4:=hide he4;clear he3 he4 he5;have II:=hide Sm;have HB0:=hide hb0;have H2:=hide h2;have HN:=hide N0;clear N0 he1 he2 hb0 Sm hP hs hlen hok HR h2;rw [hw0] at c0 c2 HT;go_enter func285,ntmps285;go_wp2_with fail;refine HT.out.mono ?_;rw [<- hw0];intro e w1 k1;obtain ⟨gm,lm,Km,rfl,a1,a2,a3⟩:=k1.open_;have HHw:=hide hw0;clear c0 c2 hw0 HT k1;obtain ⟨w2,hw2⟩:=eE (w1.alloc (.cells #[.func (.func gm) #[] lm] 335));have hb2:=bE hw2;have hz2:w2.heap.size=w1.heap.size+1:=by rw [hw2];simp
 have N2:Z7 w2 w1.heap.size 335 #[.func (.func gm) #[] lm]:=by rw [hw2];exact Z7.new _ _ _
 have Po:Hid (∀ k,Km k->k<w1.heap.size):=hide fun k hk=>by
  rcases a2 k hk with h|h
  · have:=II.out k h;have:=a1.size;omega
  · exact h.2
 have zgv:Yn Km (.func (.func gm) #[] lm) e2 w2:=a3.kept (Z9.of_below hb2 Po.out)
 have RI:=Wj (fun k=>Km k\/k=w1.heap.size) (fun (i:Nat)=>(8,(i:Int),0)::e2) n 324 #[.pointer (some ⟨w1.heap.size,0,none⟩)] w2 (fun k hk=>by rcases hk with hk|hk;have:=Po.out k hk;omega;omega) (by have:=H2.out;omega) (enters_of func324 (by kernel_rfl) rfl)
  (fun i _ X hX=>(oN i w1.heap.size gm lm Km e2 X (fun k hk=>by have:=Po.out k hk;have:=hX.size;omega) (zgv.kept (hX.mono fun k h=>.inl h)) (N2.kept hX (.inr rfl))).mono fun e w' h=>h.mono fun k hk=>.inl hk)
 rw [<- HD3.out] at RI;have HRI:=hide RI;have HB2:=hide (Z8 a1 hb2);have m2:=(HN.out.step a1).step hb2;have d3:=m2.q3 rfl;have HM2:=hide m2
 have HKm:Hid (∀ k,Km k\/k=w1.heap.size->P k\/w0.heap.size<=k/\k<w2.heap.size):=hide fun k hk=>by
  have z1:=a1.size;rcases hk with hk|hk
  · rcases a2 k hk with h|h
    · exact .inl h
    · exact .inr (by omega)
  · exact .inr (by omega)
 clear a1 a2 a3 hb2 hz2 N2 zgv RI m2 HN;rw [hw2] at d3 HRI;go_wp2_with fail;refine HRI.out.mono ?_;rw [<- hw2];intro e w3 k3;obtain ⟨g3,l3,K3,rfl,b1,b2,b3⟩:=k3.open_;have HB3:=hide (Z8 HB2.out b1);have m3:=HM2.out.step b1;have d3:=m3.q3 rfl;have HM3:=hide m3
 have Pp:Hid (∀ k,K3 k->P k\/w0.heap.size<=k/\k<w3.heap.size):=hide fun k hk=>by
  have z1:=b1.size;have z2:=HB2.out.size;rcases b2 k hk with h|h
  · rcases HKm.out k h with h|h
    · exact .inl h
    · exact .inr (by omega)
  · exact .inr (by omega)
 have HE3:=hide b3;have R4:=(Wj (fun _=>False) (fun (i:Nat)=>[(1,(i:Int),0)]) n 326 #[] w3 (fun k hk=>hk.elim) (by have:=H2.out;omega) (enters_of func326 (by kernel_rfl) rfl) (fun i _ X _=>oO i X));rw [<- HD4.out] at R4;have R4:=hide R4;clear hw2 k3 b1 b2 b3 m3 HRI HM2;go_wp2_with fail;refine R4.out.mono ?_;intro e w4 k4;obtain ⟨g4,l4,K4,rfl,b1,b2,b3⟩:=k4.open_;have LM:=hide (Z8 HB3.out b1);have m4:=HM3.out.step b1;have h00:Sj w4 w.heap.size (.int .i64 vs) (.slice HA rs.length hc) (.int .i64 (n:Int)) w4:=⟨Below.refl _ _,m4.q1 rfl,m4.q2 rfl,m4.q3 rfl⟩;have hd0:=h00.keep (ZV (Below.refl _ _));have HE4:=hide b3
 have zbd:Hid (Yn K3 (.func (.func g3) #[] l3) e3 w4):=hide (HE3.out.kept (Z9.of_below b1 fun k hk=>by
  rcases Pp.out k hk with h|h
  · have:=II.out k h;have:=HB3.out.size;omega
  · omega))
 have zez:Hid (∀ k,K3 k\/K4 k->P k\/w0.heap.size<=k/\k<w4.heap.size):=hide fun k hk=>by
  have z1:=b1.size;have z2:=HB3.out.size;rcases hk with hk|hk
  · rcases Pp.out k hk with h|h
    · exact .inl h
    · exact .inr (by omega)
  · rcases b2 k hk with h|h
    · exact h.elim
    · exact .inr (by omega)
 have HD:Hid (Below w0.heap.size w0 w4.drew):=hide (ZV LM.out)
 have HJ:Hid (∀ (w5:World) (g5:Nat) (l5:Array Value) (K5:Nat->Prop) (w6:World) (g6:Nat) (l6:Array Value) (K6:Nat->Prop),Below w4.drew.heap.size w4.drew w5->(∀ k,K5 k->P k\/w4.drew.heap.size<=k/\k<w5.heap.size)->Yn K5 (.func (.func g5) #[] l5) e1 w5 ->
  Below w5.heap.size w5 w6->(∀ k,K6 k->False\/w5.heap.size<=k/\k<w6.heap.size)->Yn K6 (.func (.func g6) #[] l6) e5 w6 ->
  Calls prog 319 #[.slice (some ⟨w6.heap.size,0,none⟩) 4 4] (w6.alloc (.cells #[.func (.func g5) #[] l5,.func (.func g3) #[] l3,.func (.func g4) #[] l4,.func (.func g6) #[] l6] 335)) (fun e w'=>ZC P (e1++(e3++(e4++(e5++[])))) w e w'/\Below (w6.alloc (.cells #[.func (.func g5) #[] l5,.func (.func g3) #[] l3,.func (.func g4) #[] l4,.func (.func g6) #[] l6] 335)).heap.size (w6.alloc (.cells #[.func (.func g5) #[] l5,.func (.func g3) #[] l3,.func (.func g4) #[] l4,.func (.func g6) #[] l6] 335)) w')):=hide fun w5 g5 l5 K5 w6 g6 l6 K6 a1 a2 a3 a4 a5 a6=>by
  have z4:w4.drew.heap.size=w4.heap.size:=rfl;have z5:=a1.size;have z6:=a4.size;have z04:=LM.out.size;have hb6:Below w4.heap.size w4 w6:=Z8 (Ye a1) a4
  have k34:∀ k,K3 k\/K4 k->k<w4.heap.size:=fun k hk=>by
   rcases zez.out k hk with h|h
   · have:=II.out k h;omega
   · omega
  have k5:∀ k,K5 k->k<w5.heap.size:=fun k hk=>by
   rcases a2 k hk with h|h
   · have:=II.out k h;omega
   · omega
  refine (zjc (fun k=>K5 k\/(K3 k\/K4 k)\/K6 k) [(.func (.func g5) #[] l5,e1),(.func (.func g3) #[] l3,e3),(.func (.func g4) #[] l4,e4),(.func (.func g6) #[] l6,e5)] (e1++(e3++(e4++(e5++[])))) w6 4 _ rfl (by decide) rfl (by simp) ?_ ?_).mono fun e w' h=>⟨h.1.back (Z8 HB0.out (Z8 LM.out hb6)) ?_,h.2⟩
  · rintro k (hk|hk|hk)
    · have:=k5 k hk;omega
    · have:=k34 k hk;omega
    · rcases a5 k hk with h|h
      · exact h.elim
      · omega
  · intro p hp;rcases List.mem_cons.1 hp with rfl|hp
    · exact (a3.kept (Z9.of_below a4 k5)).mono fun k h=>.inl h
    · rcases List.mem_cons.1 hp with rfl|hp
      · exact (zbd.out.kept (Z9.of_below hb6 fun k h=>k34 k (.inl h))).mono fun k h=>.inr (.inl (.inl h))
      · rcases List.mem_cons.1 hp with rfl|hp
        · exact (HE4.out.kept (Z9.of_below hb6 fun k h=>k34 k (.inr h))).mono fun k h=>.inr (.inl (.inr h))
        · rw [List.mem_singleton] at hp;subst hp;exact a6.mono fun k h=>.inr (.inr h)
  · have z0:=HB0.out.size;rintro k (hk|hk|hk)
    · rcases a2 k hk with h|h
      · exact .inl h
      · exact .inr (by omega)
    · rcases zez.out k hk with h|h
      · exact .inl h
      · exact .inr (by omega)
    · rcases a5 k hk with h|h
      · exact h.elim
      · exact .inr (by omega)
 clear k4 b1 b2 b3 m4 d3 R4 HM3 HKm;go_wp2
 go_region_held3 (fun w'=>Below w4.heap.size w4 w'/\w'.cell? ⟨w.heap.size,1,none⟩=some (.int .i64 vs)/\w'.cell? ⟨w.heap.size,2,none⟩=some (.slice HA rs.length hc)/\w'.cell? ⟨w.heap.size,3,none⟩=some (.int .i64 (n:Int)))
  (first|exact hd0|exact h00|exact Sj.keep (by assumption) (by assumption)|exact Sj.keep (by assumption) (bA)|exact hd0.keep (by assumption))
  (first
    | (go_at_call 322;((with_reducible refine (HF.out _ HD.out).mono ?_);intro e w5 k5;obtain ⟨g5,l5,K5,rfl,a1,a2,a3⟩:=k5.open_))
    | (go_at_call 327;((with_reducible refine (sS.out _).mono ?_);intro e w6 k6;obtain ⟨g6,l6,K6,rfl,a4,a5,a6⟩:=k6.open_))
    | (go_at_call 319;((with_reducible refine (HJ.out w5 g5 l5 K5 w6 g6 l6 K6 a1 a2 a3 a4 a5 a6).mono ?_);rintro e w' ⟨⟨fv,K,rfl,hh⟩,hb2⟩)))
 all_goals
  have H:=hide hh;clear hh k5 k6 a1 a2 a3 a4 a5 a6;go_wp2;go_ret;exact ⟨fv,K,rfl,H.out⟩
end
end
section
open Go.RowKit Go.Shelf
theorem Ez(op vs ZY:Int)(rs:List Rg)(HA:Option Addr)(hc:Nat)(P:Nat->Prop)(w:World)(hP:∀ k,P k->k<w.heap.size)(hs:Wp w P HA (rgCells rs))(hz:ZM op vs rs ZY=0):
 Calls prog 285 #[.agg #[.int .i64 op,.int .i64 vs,.slice HA rs.length hc,.int .i64 ZY]] w (ZC P (JX op vs rs ZY) w):=by
 obtain ⟨o1,o2,c3,c4,c5,c6,c7,_⟩:=ZA hz;unfold JX
 by_cases h5:op=5
 · subst h5;rw [if_pos rfl];obtain ⟨l1,l64,hwr⟩:=c5 (by omega);obtain ⟨p1,p2⟩:=c7 rfl;obtain ⟨n,rfl⟩:∃ n:Nat,ZY=(n:Int):=⟨ZY.toNat,by omega⟩;have hok:=Dk hwr;have h:=wQ vs rs HA hc P w hP hs (by omega) hok n (by omega) (by omega);obtain ⟨r1,r2⟩:=Ie hok;rw [<- r1,<- r2,<- wD] at h;have e:evB rs (n:Int).toNat=PN 0 rs++(((List.range n).flatMap fun (i:Nat)=>(8,(i:Int),0)::Qv 0 rs)++(Xb n++(Y3 (YK (lg n))++[]))):=by
    unfold evB Ta;rw [Int.toNat_natCast,List.append_nil,List.append_assoc,List.append_assoc]
   rw [e];exact h
 · rw [if_neg h5];unfold evH
   by_cases h3:op=3
   · subst h3;rw [if_pos rfl];obtain ⟨v1,v2⟩:=c3 rfl;obtain ⟨n,rfl⟩:∃ n:Nat,vs=(n:Int):=⟨vs.toNat,by omega⟩;obtain ⟨r1,r2⟩:=Ia (n:=n) (by omega);rw [Int.toNat_natCast,r1,r2];exact wO ZY rs HA hc P w n (by omega) (by omega)
   · rw [if_neg h3]
     by_cases h4:op=4
     · subst h4;rw [if_pos rfl];obtain ⟨l1,l64,hwr⟩:=c5 (by omega);have hok:=Dk hwr;obtain ⟨r1,r2⟩:=Ie hok;rw [r1,r2];exact wP vs ZY rs HA hc P w hP hs (by omega) hok
     · rw [if_neg h4];exact J4 op vs ZY rs HA hc P w h3 h4 h5
theorem FW(K:Nat->Prop)(fv:Value)(es:List Ev)(w:World)(hK:∀ k,K k->k<w.heap.size)(hev:Yn K fv es w)(hlen:es.length<=2000000):
 Calls prog 284 #[fv] w fun e w'=>∃ v,e=.returned v/\w'.ownsRow w.heap.size 273 3 v es.length (SV es)/\Below w.heap.size w w':=by
 have HA:=hide (IL K fv es w hK hev hlen);clear hK hev;go_enter func284,ntmps284;go_wp2_with fail;refine HA.out.mono ?_;rintro e w' ⟨v,rfl,h1,h2⟩;have H1:=hide h1;have H2:=hide h2;clear h1 h2 HA;go_wp2;go_ret;exact ⟨v,rfl,H1.out,H2.out⟩
def Mi(op vs:Int)(rs:List Rg)(ZY:Int):List Ev:=if ZM op vs rs ZY=0 then JX op vs rs ZY else []
section
variable (op vs ZY:Int)(rs:List Rg)(HA:Option Addr)(hc:Nat)(w:World)(hs:Sl w w.heap.size HA (rgCells rs))(hn:rs.length<=maxLen)(hlen:(Mi op vs rs ZY).length<=2000000)
include hs hn hlen
theorem Jh:Calls prog 221 #[.agg #[.int .i64 op,.int .i64 vs,.slice HA rs.length hc,.int .i64 ZY]] w fun e w' =>
 ∃ v,e=.returned (.tuple #[v,.int .i64 (ZM op vs rs ZY)])/\w'.ownsRow w.heap.size 273 3 v (Mi op vs rs ZY).length (SV (Mi op vs rs ZY))/\Below w.heap.size w w':=by
 obtain ⟨w0,hw0⟩:=eE (w.alloc (.cells #[.int .i64 op,.int .i64 vs,.slice HA rs.length hc,.int .i64 ZY] 53));have hb0:=bE hw0;have N0:Z7 w0 w.heap.size 53 #[.int .i64 op,.int .i64 vs,.slice HA rs.length hc,.int .i64 ZY]:=by rw [hw0];exact Z7.new _ _ _
 have HFM:=hide (SX vs rs HA hc ZY w0 ((hs.below hb0).more hb0.size) hn op);have b0:=N0.q0 rfl;have b1:=N0.q1 rfl;have b2:=N0.q2 rfl;have b3:=N0.q3 rfl
 by_cases hz:ZM op vs rs ZY=0
 · have ht:Mi op vs rs ZY=JX op vs rs ZY:=if_pos hz;rw [ht] at hlen ⊢;have hf:(Ze op vs rs ZY).2=0:=(by unfold Ze;rw [if_pos hz]);have HX:=hide (fun (w':World) (hb:Below w.heap.size w w')=>Ez op vs ZY rs HA hc (fun k=>k<w'.heap.size) w' (fun _ h=>h) (((hs.below hb).more hb.size).lX fun _ h=>h) hz);obtain ⟨ev,hev⟩:=eE (JX op vs rs ZY);rw [<- hev] at hlen HX ⊢;have HLEN:=hide hlen;rw [hz];clear hs hn hlen hz ht hev;rw [hw0] at b0 b1 b2 b3 HFM;go_enter func221,ntmps221;go_wp2_with fail;refine HFM.out.mono ?_;rw [<- hw0];rintro e w1 ⟨fv,rfl,-,hb1⟩;rw [hf];have HB1:=hide (Z8 hb0 hb1);have N1:=N0.step hb1;clear b0 b1 b2 b3 N0 hb0 hb1 HFM hw0 hf;have b0:=N1.q0 rfl;have b1:=N1.q1 rfl;have b2:=N1.q2 rfl;have b3:=N1.q3 rfl;clear N1;go_wp2_with fail;refine (HX.out w1 HB1.out).mono ?_;rintro e w2 ⟨sv,K,rfl,hb2,hK,hes⟩;have C:=hide (FW K sv ev w2 (fun k hk=>(hK k hk).elim (fun h=>Nat.lt_of_lt_of_le h hb2.size) fun h=>h.2) hes HLEN.out);have HB2:=hide (Z8 HB1.out hb2);clear hb2 hK hes b0 b1 b2 b3;go_wp2_with fail;refine C.out.mono ?_;rintro e w3 ⟨v,rfl,ZT,hb3⟩
   have HO:Hid (w3.ownsRow w.heap.size 273 3 v ev.length (SV ev)):=hide ⟨ZT.1,by
    rcases ZT.2 with h0|⟨g',cap,cur,h1,h2,r⟩
    · exact .inl h0
    · exact .inr ⟨g',cap,cur,h1,Nat.le_trans HB2.out.size h2,r⟩⟩
   have HB3:=hide (Z8 HB2.out hb3);clear ZT hb3 C;go_wp2;go_ret2;exact ⟨v,rfl,HO.out,HB3.out⟩
 · have ht:Mi op vs rs ZY=[]:=if_neg hz;rw [ht];have hf:(Ze op vs rs ZY).2=ZM op vs rs ZY:=(by unfold Ze;rw [if_neg hz]);obtain ⟨er,her⟩:=eE (ZM op vs rs ZY);rw [<- her] at hz hf ⊢;have hne:(er != 0)=true:=(by simpa using hz);clear hs hn hlen hz ht her;rw [hw0] at b0 b1 b2 b3 HFM;go_enter func221,ntmps221;go_wp2_with fail;refine HFM.out.mono ?_;rw [<- hw0];rintro e w1 ⟨fv,rfl,-,hb1⟩;rw [hf];have HB1:=hide (Z8 hb0 hb1);clear b0 b1 b2 b3 N0 hb0 hb1 HFM hw0 hf;go_wp2;go_ret2;exact ⟨_,rfl,World.ownsRow_nil _ _ _ _,HB1.out⟩
theorem zx:Calls prog 155 #[.agg #[.int .i64 op,.int .i64 vs,.slice HA rs.length hc,.int .i64 ZY]] w fun e w' =>
 e=.returned (.tuple #[.int .i64 ((Mi op vs rs ZY).length:Int),.int .i64 (ZM op vs rs ZY)])/\Below w.heap.size w w':=by
 obtain ⟨w0,hw0⟩:=eE (w.alloc (.cells #[.int .i64 op,.int .i64 vs,.slice HA rs.length hc,.int .i64 ZY] 53));have hb0:=bE hw0;have N0:Z7 w0 w.heap.size 53 #[.int .i64 op,.int .i64 vs,.slice HA rs.length hc,.int .i64 ZY]:=by rw [hw0];exact Z7.new _ _ _
 have HE:=hide (Jh op vs ZY rs HA hc w0 ((hs.below hb0).more hb0.size) hn hlen);have b0:=N0.q0 rfl;have b1:=N0.q1 rfl;have b2:=N0.q2 rfl;have b3:=N0.q3 rfl;obtain ⟨ev,hev⟩:=eE (Mi op vs rs ZY);obtain ⟨er,her⟩:=eE (ZM op vs rs ZY);rw [<- hev,<- her] at HE ⊢;have HB0:=hide hb0;clear hs hn hlen hev her N0 hb0;rw [hw0] at b0 b1 b2 b3 HE;go_enter func155,ntmps155;go_wp2_with fail;refine HE.out.mono ?_;rw [<- hw0];rintro e w1 ⟨v,rfl,ZT,hb1⟩;obtain ⟨A,c,rfl,_⟩:=ZP ZT;have HB1:=hide (Z8 HB0.out hb1);clear b0 b1 b2 b3 hb1 HE hw0 ZT;go_wp2;go_ret2;exact ⟨rfl,HB1.out⟩
end
end
section
open Go.RowKit Go.Shelf
theorem EL(rs:List Rg)(k:Nat):Ta rs (k+1)=Ta rs k++[(8,(k:Int),0)]++Qv 0 rs:=by
 unfold Ta;rw [List.range_succ,List.flatMap_append];simp
theorem iQ(v:Int):(Ov v).length<=64:=by
 unfold Ov;split
 · simp
 · rw [OJ,List.length_range];unfold Zy;split <;> omega
theorem EM:∀ (i:Nat) (l:List Rg),(Qv i l).length<=65*l.length
 | i,[]=>by simp [Qv]
 | i,x::l=>by
   have h:=EM (i+1) l;have h2:=iQ x.v;simp only [Qv,List.length_cons,List.length_append];omega
theorem MC{rs:List Rg}(h:rs.length<=64):∀ k,(Ta rs k).length<=4161*k
 | 0=>by simp [Ta]
 | k+1=>by
   have h1:=MC h k;have h2:=EM 0 rs;rw [EL,List.length_append,List.length_append,List.length_singleton];omega
theorem j6{n:Nat}(h:n<=100):(YK (lg n)).length<=20000:=by
 have h1:∀ m:Fin 101,(YK (lg m.val)).length<=20000:=by decide +kernel
 exact h1 ⟨n,by omega⟩
theorem oL{op vs:Int}{rs:List Rg}{ZY:Int}(hz:ZM op vs rs ZY=0)(hp:op=5->ZY<=100):(JX op vs rs ZY).length<=1000000:=by
 obtain ⟨_,_,c3,_,c5,_,c7,_⟩:=ZA hz;unfold JX
 by_cases h5:op=5
 · rw [if_pos h5];have h1:=hp h5;have h2:=c7 h5;obtain ⟨_,l64,_⟩:=c5 (by omega);have a1:=Rh 0 rs;have a2:=MC l64 ZY.toNat;have a3:=oo ZY.toNat;have a4:=yK (YK (lg ZY.toNat));have a5:=j6 (n:=ZY.toNat) (by omega);unfold evB;rw [List.length_append,List.length_append,List.length_append];omega
 · rw [if_neg h5];unfold evH;split
   · have a1:=Ih vs.toNat;have a2:=OJ (List.range (Zy vs.toNat));have a3:=(JV vs.toNat).2;rw [List.length_range] at a2;rw [List.length_append];omega
   · split
     · obtain ⟨_,l64,_⟩:=c5 (by omega);have a1:=Rh 0 rs;have a2:=EM 0 rs;rw [List.length_append];omega
     · simp
theorem mo{op vs:Int}{rs:List Rg}{ZY:Int}(hp:op=5->ZY<=100):(Mi op vs rs ZY).length<=1000000:=by
 unfold Mi;split
 · rename_i hz;exact oL hz hp
 · simp
end
end Go.Proofs.YthnenedoblncjaaGreatDoor