/- TracePairs TraceExp -/
import Derived.Deep.RegionHeld3
import Derived.Test.YtfljlmleiggmjaaGreatDoorPkD29
import Derived.Test.YtfljlmleiggmjaaGreatDoorPkD30
set_option maxRecDepth 1000000
set_option maxHeartbeats 8000000
namespace Go.Proofs.YtfljlmleiggmjaaGreatDoor
open Go.Proofs.Tryz
section
open Go.RowKit Go.Shelf
attribute [local go_sem] Oper.semAt_some
theorem zky(Bv:Nat)(m:Nat)(hm:m<=12)(w:World)(zY:Z6 w Bv 3 #[.int .i64 ((2 ^ m:Nat):Int)]):
 gN prog (fun _=>True) (Dn (m:=m)) (fun k=>k=Bv) 160 #[.pointer (some ⟨Bv,0,none⟩)] (fun ys=>TS ys=YZ m) (YZ m).length w :=
 JF fun W hW=>IB 5 (by omega) Bv (fun k=>k=Bv) m hm W (fun k hk=>by have:=(zY.kept hW rfl).lt;omega) rfl (zY.kept hW rfl)
def iA{m:Nat}(c:xI m):Ev:=(3,(c.1.1:Int),(c.1.2:Int))
theorem iB{m:Nat}(ys:List (xI m)):ys.map iA=Y3 (TS ys):=by unfold Y3 TS;rw [List.map_map];rfl
theorem wK(n Bn:Nat)(w:World)(h1:1<=n)(h2:n<=4096)(hB:Z6 w Bn 3 #[.int .i64 (n:Int)]):
 CW prog (fun k=>k=Bn) 124 #[.pointer (some ⟨Bn,0,none⟩)] (Y3 (YZ (lg n))) w:=by
 intro l J Jx R W hk iG yt hJ hJx hY h0;have hlen:(Y3 (YZ (lg n))).length=(YZ (lg n)).length:=by unfold Y3;rw [List.length_map]
 rw [hlen] at hY;obtain ⟨Y,hYs⟩:=eE W.heap.size;obtain ⟨W0,hW0⟩:=eE (W.alloc (.cells #[.func (.yield l) #[] #[]] 169));have hb0:=bE hW0;have hz0:W0.heap.size=Y+1:=by rw [hW0,hYs];simp
 have BY:Z6 W0 Y 169 #[.func (.yield l) #[] #[]]:=by rw [hW0,hYs];exact Z6.new _ _ _
 have cB:=((hB.kept hk rfl).step hb0).q0 rfl;have Vu:=hide (fun w=>IC n h1 h2 w);have HLG:=hide (yG h2);have HJ:=hide (hYs ▸ hJ:Ue Y J);have fU:=hide (hYs ▸ hJx:Ue Y (fun R (_:List Ev) W=>Jx R W));have HY:=hide hY;have dO:Hid (∀ k,R k->k<Y):=hide (fun k h=>hYs ▸ yt k h);obtain ⟨m,hm⟩:=eE (lg n);rw [<- hm] at Vu HLG HY ⊢;obtain ⟨N2,tY⟩:∃ N2:Int,N2=((2 ^ m:Nat):Int):=⟨_,rfl⟩;rw [<- tY] at Vu;obtain ⟨wr,hwr⟩:=eE (W0.alloc (.cells #[.int .i64 N2] 3));have hbr:=bE hwr;have hzr:wr.heap.size=Y+2:=by rw [hwr];simp [hz0]
 have BN:Z6 wr (Y+1) 3 #[.int .i64 ((2 ^ m:Nat):Int)]:=by rw [hwr,<- tY,<- hz0];exact Z6.new _ _ _
 have BYr:=BY.step hbr;have hbW:=Z9 hb0 hbr;have uI:=hide (zky (Y+1) m HLG.out wr BN)
 have HJ0:Hid (J (E9 (fun k=>R k\/k=Y) (fun k=>k=Y+1) wr.heap.size wr) [] wr):=hide (HJ.out R _ [] W wr h0 (YP.of_below hbW _ _) (fun k hk=>by
  rcases hk with hk|(hk|hk)|⟨hk,hk2⟩
  · exact ⟨.inr (by omega),by omega⟩
  · exact ⟨.inl hk,Nat.lt_of_lt_of_le (yt k hk) hbW.size⟩
  · exact ⟨.inr (by omega),by omega⟩
  · exact ⟨.inr (by omega),hk2⟩))
 have tT:=hide hzr;have Lr:=hide BYr;clear hJ hJx hY yt h0 iG hk hB hb0 hbr hbW BN BYr BY hzr;refine (callsIn_wide (n:=6)).1 ?_;refine callsIn_of_wp_marks func124 rfl trivial ?_ rfl;simp only [ntmps124,List.size_toArray,List.length_cons,List.length_nil,Nat.reduceAdd,Nat.reduceSub,Array.replicate_succ,Array.replicate_zero,List.push_toArray,List.append_toArray,List.nil_append,List.cons_append];rw [hW0] at cB;gi_wp2_with fail;rw [<- hW0,<- hYs];have HW0:=hide hW0;clear hW0 cB hYs tY hm;refine ⟨trivial,?_⟩;refine (callsIn_wide.2 (Vu.out _)).mono ?_;rintro e w1 ⟨rfl,rfl⟩;gi_wp2_with fail;refine ⟨trivial,?_⟩;refine (callsIn_wide.2 (D7 N2 _)).mono ?_;rintro e w1 ⟨rfl,rfl⟩;rw [<- hwr,hz0];have HWR:=hide hwr;clear hwr hz0;gi_wp2_with fail;refine UC (K:=fun k=>k=Y+1) (encs:=Dn (m:=m)) rfl (enters_of func160 (by kernel_rfl) rfl) uI.out (fun k h=>by have:=tT.out;omega) (fun _=>rfl) (fun R' pre X=>J (E9 (fun k=>R k\/k=Y) R' wr.heap.size X) (pre.map iA) X/\Z8 (fun k=>R k\/k=Y) wr X) (fun c R' X=>c=.ret/\Jx (E9 (fun k=>R k\/k=Y) R' wr.heap.size X) X/\Z8 (fun k=>R k\/k=Y) wr X) ?h1 ?h2 ?h3 ?round ?done ?stop
 case h1=>exact OL (fun pre:List (xI m)=>pre.map iA) HJ.out (by have:=tT.out;omega) (fun k hk=>by have:=tT.out;rcases hk with hk|hk;have:=dO.out k hk;omega;omega)
 case h2 =>
  intro c R1 R2 s X Z ⟨hc,h1,h2⟩ hst hR;obtain ⟨h3,h4⟩:=OL (fun _:List (xI m)=>[]) fU.out (by have:=tT.out;omega) (fun k hk=>by have:=tT.out;rcases hk with hk|hk;have:=dO.out k hk;omega;omega) R1 R2 s X Z ⟨h1,h2⟩ hst hR;exact ⟨hc,h3,h4⟩
 case h3=>exact ⟨HJ0.out,Z8.refl _ _⟩
 case round =>
  rintro R' pre x X hR' hnl hs1 ⟨rec,hrec⟩ ⟨hj,hkk⟩ hpre -;have hYX:Z6 X Y 169 #[.func (.yield l) #[] #[]]:=Lr.out.kept hkk (.inr rfl);have zww:=hYX.lt;have hzr:=tT.out;obtain ⟨⟨x1,x2⟩,hx⟩:=x;obtain ⟨X1,hX1⟩:=eE (X.alloc (.cells #[.int .i64 (x1:Int),.int .i64 (x2:Int)] 174));have hbX:=bE hX1;have fu:X1.heap.size=X.heap.size+1:=by rw [hX1];simp
  have hE:Z6 X1 X.heap.size 174 #[.int .i64 (x1:Int),.int .i64 (x2:Int)]:=by rw [hX1];exact Z6.new _ _ _
  have hl1:X1.heap[wr.heap.size+1]?=some (.loop rec):=(hbX.block _ hs1).trans hrec;have hY1:=hYX.step hbX;unfold Dn;dsimp only;gi_wp2;rw [<- hX1];refine ⟨Z8.of_below hbX (fun k hk=>?_),fun o=>?_⟩
  · rcases hk with hk|hk|hk
    · exact hR' k hk
    · omega
    · omega
  have hst:YP Y (E9 (fun k=>R k\/k=Y) R' wr.heap.size X) X (X1.putObj (wr.heap.size+1) (.loop o)):=(YP.of_below hbX _ _).trans (YP.put (by omega) hl1 rfl (E9 (fun k=>R k\/k=Y) R' wr.heap.size X) _) (fun j h=>.inl h)
  have iI:∀ k,(E9 (fun k=>R k\/k=Y) R' wr.heap.size X k\/k=X.heap.size)->k<X1.heap.size:=fun k hk=>by
   have:=hkk.size;rcases hk with (hk|(hk|hk)|⟨_,hk⟩)|hk
   · have:=hR' k hk;omega
   · have:=dO.out k hk;omega
   · omega
   · omega
   · omega
  have hjy:=HJ.out _ (fun k=>E9 (fun k=>R k\/k=Y) R' wr.heap.size X k\/k=X.heap.size) _ X (X1.putObj (wr.heap.size+1) (.loop o)) hj hst (fun k hk=>⟨by rcases hk with hk|hk;exact .inl hk;exact .inr (by omega),by have:=iI k hk;simpa using this⟩);obtain ⟨fn,tmps,assign,body,hy,hRo⟩:=HY.out 1 _ _ (iA (m:=m) ⟨(x1,x2),hx⟩) (X1.putObj (wr.heap.size+1) (.loop o)) (fun k hk=>by have:=iI k hk;simpa using this) hjy (by rw [List.length_map];exact hpre) (by unfold iA Yu;dsimp only;omega);have yb:Z6 (X1.putObj (wr.heap.size+1) (.loop o)) Y 169 #[.func (.yield l) #[] #[]]:=(World.putObj_heap_other (by omega)).trans hY1;have eb:Z6 (X1.putObj (wr.heap.size+1) (.loop o)) X.heap.size 174 #[.int .i64 (x1:Int),.int .i64 (x2:Int)]:=(World.putObj_heap_other (by omega)).trans hE;have y0:=yb.q0 rfl;have e0:=eb.q0 rfl;have e1:=eb.q1 rfl;have HKX:Hid (Z8 (fun k=>R k\/k=Y) wr (X1.putObj (wr.heap.size+1) (.loop o))):=hide ((hkk.trans (Z8.of_below hbX fun k hk=>by have:=hkk.size;rcases hk with hk|hk;have:=dO.out k hk;omega;omega)).trans (Z8.putObj _ (fun h=>by rcases h with h|h;have:=dO.out _ h;omega;omega) _));have HR3:Hid (∀ k,(E9 (fun k=>R k\/k=Y) R' wr.heap.size X k\/k=X.heap.size)->k<X.heap.size+1):=hide fun k hk=>by have:=iI k hk;omega
  have Lv:=hide hs1;obtain ⟨X2,hX2⟩:=eE (X1.putObj (wr.heap.size+1) (.loop o));rw [<- hX2] at hy hRo y0 e0 e1 HKX ⊢;have hz2:X2.heap.size=X.heap.size+1:=by rw [hX2,<- fu];simp
  have HZ2:=hide hz2;have tQ:=hide hRo;have JL:=hide hR';have ziu:Hid (pre.map iA++[iA (m:=m) ⟨(x1,x2),hx⟩]=(pre++[(⟨(x1,x2),hx⟩:xI m)]).map iA):=hide (by simp);unfold iA Hu at hy;dsimp only at hy;clear hRo hjy hst iI hj hkk hpre hYX zww hX1 hbX fu hE hl1 hY1 hrec hnl hs1 yb eb hX2 hz2 hR' hzr;gi_wp2_with fail;refine (RoundIn.inRound' _ tQ.out).mono ?_;rintro e X3 (⟨rfl,h1,h2⟩|⟨rfl,h1,h2⟩)
  · have H1:=hide h1;have H2:=hide h2;clear h1 h2 tQ hy y0 e0 e1;gi_wp2;have hz:=H2.out.size;refine ⟨H2.out.mono fun k hk=>?_,HJ.out (fun k=>E9 (fun k=>R k\/k=Y) R' wr.heap.size X k\/k=X.heap.size) _ _ X3 X3 ?_ (YP.refl _ _ _) fun k hk=>?_,HKX.out.trans (H2.out.mono fun k hk=>.inl (.inr (.inl hk)))⟩
    · rcases hk with hk|hk|hk
      · exact .inl (.inl hk)
      · exact .inl (.inr (.inr ⟨.inl hk,by have:=Lv.out;omega⟩))
      · exact .inl (.inr (.inr ⟨.inr hk,by have:=Lv.out;omega⟩))
    · rw [<- ziu.out];exact H1.out
    · have hzz:=HZ2.out;rcases hk with hk|hk|⟨hk,hk2⟩
      · exact ⟨.inl (.inl (.inl hk)),by have:=JL.out k hk;omega⟩
      · exact ⟨.inl (.inl (.inr (.inl hk))),by have:=HR3.out k (.inl (.inr (.inl hk)));omega⟩
      · exact ⟨.inl (.inl (.inr (.inr ⟨hk,by have:=Lv.out;omega⟩))),hk2⟩
  · have H1:=hide h1;have H2:=hide h2;clear h1 h2 tQ hy y0 e0 e1;gi_wp2;have hz:=H2.out.size;refine ⟨H2.out.mono fun k hk=>?_,rfl,fU.out _ _ [] X3 X3 H1.out (YP.refl _ _ _) fun k hk=>?_,HKX.out.trans (H2.out.mono fun k hk=>.inl (.inr (.inl hk)))⟩
    · rcases hk with hk|hk|hk
      · exact .inl (.inl hk)
      · exact .inl (.inr (.inr ⟨.inl hk,by have:=Lv.out;omega⟩))
      · exact .inl (.inr (.inr ⟨.inr hk,by have:=Lv.out;omega⟩))
    · have hzz:=HZ2.out;rcases hk with hk|hk|⟨hk,hk2⟩
      · exact ⟨.inl (.inl (.inl hk)),by have:=JL.out k hk;omega⟩
      · exact ⟨.inl (.inl (.inr (.inl hk))),by have:=HR3.out k (.inl (.inr (.inl hk)));omega⟩
      · exact ⟨.inl (.inl (.inr (.inr ⟨hk,by have:=Lv.out;omega⟩))),hk2⟩
 case done =>
  rintro ys X hys ⟨hj,hkk⟩ hD hsl;have hz:=hkk.size;have Ac:∀ k,R k->k<X.heap.size:=fun k h=>by have:=dO.out k h;have:=tT.out;omega
  have HC:Hid (J R (Y3 (YZ m)) X/\∀ k,R k->k<X.heap.size):=hide ⟨by
   rw [iB,hys] at hj
   exact HJ.out _ R _ X X hj (YP.refl _ _ _) fun k hk=>⟨.inl (.inr (.inl (.inl hk))),Ac k hk⟩,Ac⟩
  have HM:Hid (Marks Y [{ target:=.collected wr.heap.size,args:=#[] }] X):=hide ⟨wr.heap.size,rfl,by have:=tT.out;omega,hD,fun r h=>(by cases h),trivial⟩;clear hj hkk hD hsl hz Ac hys;gi_wp2;refine VB (lo:=Y) (C:=fun X=>J R (Y3 (YZ m)) X/\∀ k,R k->k<X.heap.size) ?_ _ X HM.out HC.out ?_
  · rintro X r ⟨h1,h2⟩ hr hl;exact ⟨HJ.out R R _ X _ h1 (YP.put hr hl rfl R _) fun k hk=>⟨.inl hk,by have:=h2 k hk;simpa using this⟩,fun k hk=>by have:=h2 k hk;simpa using this⟩
  · rintro X ⟨h1,_⟩;exact ⟨_,results_none rfl _ _ _,⟨_,rfl⟩,.inl ⟨_,rfl,h1⟩⟩
 case stop =>
  rintro c X ⟨rfl,hjx,hkk⟩ hD hsl;have hz:=hkk.size;have Ac:∀ k,R k->k<X.heap.size:=fun k h=>by have:=dO.out k h;have:=tT.out;omega
  have HC:Hid (Jx R X/\∀ k,R k->k<X.heap.size):=hide ⟨fU.out _ R [] X X hjx (YP.refl _ _ _) fun k hk=>⟨.inl (.inr (.inl (.inl hk))),Ac k hk⟩,Ac⟩;have HM:Hid (Marks Y [{ target:=.collected wr.heap.size,args:=#[] }] X):=hide ⟨wr.heap.size,rfl,by have:=tT.out;omega,hD,fun r h=>(by cases h),trivial⟩;clear hjx hkk hD hsl hz Ac;gi_wp2;refine VB (lo:=Y) (C:=fun X=>Jx R X/\∀ k,R k->k<X.heap.size) ?_ _ X HM.out HC.out ?_
  · rintro X r ⟨h1,h2⟩ hr hl;exact ⟨fU.out R R [] X _ h1 (YP.put hr hl rfl R _) fun k hk=>⟨.inl hk,by have:=h2 k hk;simpa using this⟩,fun k hk=>by have:=h2 k hk;simpa using this⟩
  · rintro X ⟨h1,_⟩;exact ⟨_,results_none rfl _ _ _,⟨_,rfl⟩,.inr h1⟩
theorem wL(n:Int)(w:World):Calls prog 77 #[.int .i64 n] w fun e w' =>
 e=.returned (.func (.func 124) #[] #[.pointer (some ⟨w.heap.size,0,none⟩)])/\w'=w.alloc (.cells #[.int .i64 n] 3):=by
 go_enter func77,ntmps77;go_wp2;go_ret;exact ⟨rfl,rfl⟩
theorem Cj(n:Nat)(w:World)(h1:1<=n)(h2:n<=4096):Calls prog 77 #[.int .i64 (n:Int)] w (Zm (fun _=>False) (Y3 (YZ (lg n))) w):=by
 refine (wL n w).mono ?_;rintro e w' ⟨rfl,rfl⟩;refine ⟨_,fun k=>k=w.heap.size,rfl,bA,fun k hk=>.inr ⟨by omega,by simp only [World.size_alloc];omega⟩,_,_,rfl,enters_of func124 (by kernel_rfl) rfl,?_⟩;exact wK n w.heap.size _ h1 h2 (Z6.new _ _ _)
end
section
open Go.RowKit Go.Shelf
def JQ(w0:World)(b:Nat)(v:Value)(w':World):Prop:=Below w0.heap.size w0 w'/\w'.cell? ⟨b,0,none⟩=some v
theorem JQ.keep{w0 wk w':World}{b:Nat}{v:Value}(h:JQ w0 b v wk)(hb:Below wk.heap.size wk w'):JQ w0 b v w' :=
 ⟨Z9 h.1 hb,(hb.cell (p:=⟨_,_,none⟩) (Zv h.2)).trans h.2⟩
theorem Zm.Co{Kp:Nat->Prop}{es:List Ev}{w w':World}{e:Ending}(h:Zm Kp es w.drew e w'):Zm Kp es w e w':=by
 obtain ⟨fv,K,h1,h2,h3,h4⟩:=h;exact ⟨fv,K,h1,XG h2,h3,h4⟩
theorem vB(i bm gm:Nat)(lm:Array Value)(Km:Nat->Prop)(em:List Ev)(W:World)(hKm:∀ k,Km k->k<W.heap.size)(hev:XR Km (.func (.func gm) #[] lm) em W)(B:Z6 W bm 68 #[.func (.func gm) #[] lm]):
 Calls prog 74 #[.int .i64 (i:Int),.pointer (some ⟨bm,0,none⟩)] W (Zm Km ((8,(i:Int),0)::em) W):=by
 have c0:=B.q0 rfl;have h00:JQ W bm (.func (.func gm) #[] lm) W:=⟨Below.refl _ _,c0⟩;have hd0:JQ W bm (.func (.func gm) #[] lm) W.drew:=h00.keep (ZV (Below.refl _ _));have HO:=hide (fun w=>OQ 8 (i:Int) 0 w (by unfold Yu;omega));have HE:Hid (∀ w1,Below W.heap.size W w1->XR Km (.func (.func gm) #[] lm) em w1):=hide fun w1 hb=>hev.kept (Z8.of_below hb hKm)
 have HJ:Hid (∀ (w1:World) (g1:Nat) (l1:Array Value) (K1:Nat->Prop),Below W.drew.heap.size W.drew w1->(∀ k,K1 k->False\/W.drew.heap.size<=k/\k<w1.heap.size)->XR K1 (.func (.func g1) #[] l1) [(8,(i:Int),0)] w1 ->
  Calls prog 69 #[.slice (some ⟨w1.heap.size,0,none⟩) 2 2] (w1.alloc (.cells #[.func (.func g1) #[] l1,.func (.func gm) #[] lm] 68)) (fun e w'=>Zm Km ((8,(i:Int),0)::em) W e w'/\Below (w1.alloc (.cells #[.func (.func g1) #[] l1,.func (.func gm) #[] lm] 68)).heap.size (w1.alloc (.cells #[.func (.func g1) #[] l1,.func (.func gm) #[] lm] 68)) w')):=hide fun w1 g1 l1 K1 hb hk he =>
  (FT (Kp:=Km) (w0:=W.drew) hKm hb (fun k h=>.inr ((hk k h).resolve_left id)) he (Below.refl _ _) (fun k h=>.inl h) (HE.out w1 (XG hb))).mono fun e w' h=>⟨h.1.Co,h.2⟩
 clear hKm hev B;go_enter func74,ntmps74;go_wp2
 go_region_held3 (fun w'=>Below W.heap.size W w'/\w'.cell? ⟨bm,0,none⟩=some (.func (.func gm) #[] lm))
  (first|exact hd0|exact h00|exact JQ.keep (by assumption) (by assumption)|exact JQ.keep (by assumption) (bA)|exact hd0.keep (by assumption))
  (first
    | (go_at_call 75;((with_reducible refine (HO.out _).mono ?_);intro e w1 h;obtain ⟨g1,l1,K1,rfl,hb1,hk1,he1⟩:=h.open_))
    | (go_at_call 69;((with_reducible refine (HJ.out w1 g1 l1 K1 hb1 hk1 he1).mono ?_);rintro e w' ⟨⟨fv,K,rfl,h2⟩,hb2⟩)))
 all_goals
  have H:=hide h2;clear h2 h hb1 hk1 he1;go_wp2;go_ret;exact ⟨fv,K,rfl,H.out⟩
theorem zqm(K:Nat->Prop)(L:List (Value × List Ev))(es:List Ev)(w2:World)(n:Nat)(cs:Array Value)(hn:L.length=n)(hn2:n<=100)(hcs:cs=(L.map (·.1)).toArray)(he:L.flatMap (·.2)=es)(hK:∀ k,K k->k<w2.heap.size)(hL:∀ p∈L,XR K p.1 p.2 w2):
 Calls prog 69 #[.slice (some ⟨w2.heap.size,0,none⟩) n n] (w2.alloc (.cells cs 68)) (fun e w'=>Zm K es w2 e w'/\Below (w2.alloc (.cells cs 68)).heap.size (w2.alloc (.cells cs 68)) w'):=by
 have hb3:=Z7 (Below.refl w2.heap.size w2) (.cells cs 68);have N3:=Z6.new w2 68 cs;have z3:(w2.alloc (.cells cs 68)).heap.size=w2.heap.size+1:=by simp
 refine (OM (fun k=>K k\/k=w2.heap.size) (some ⟨w2.heap.size,0,none⟩) n n L es _ ?_ hn he ?_ ?_ (by omega)).mono fun e w' h=>⟨h.back hb3 ?_,by obtain ⟨_,_,_,h,_⟩:=h;exact h⟩
 · rintro k (h|h)
   · have:=hK k h;omega
   · omega
 · exact .inr ⟨w2.heap.size,0,rfl,.inr rfl,fun j u hu=>by rw [Nat.zero_add];refine N3.cell ?_;rw [hcs];simpa using hu⟩
 · exact fun p hp=>((hL p hp).kept (Z8.of_below hb3 hK)).mono fun k h=>.inl h
 · rintro k (h|h)
   · exact .inl h
   · exact .inr (by omega)
def Sc(w0:World)(b:Nat)(v1 v2 v3:Value)(w':World):Prop:=Below w0.heap.size w0 w'/\w'.cell? ⟨b,1,none⟩=some v1/\w'.cell? ⟨b,2,none⟩=some v2/\w'.cell? ⟨b,3,none⟩=some v3
theorem Sc.keep{w0 wk w':World}{b:Nat}{v1 v2 v3:Value}(h:Sc w0 b v1 v2 v3 wk)(hb:Below wk.heap.size wk w'):Sc w0 b v1 v2 v3 w':=by
 have on:∀ {b o:Nat} {v:Value},wk.cell? ⟨b,o,none⟩=some v->w'.cell? ⟨b,o,none⟩=some v:=fun h=>(hb.cell (p:=⟨_,_,none⟩) (Zv h)).trans h;exact ⟨Z9 h.1 hb,on h.2.1,on h.2.2.1,on h.2.2.2⟩
section
variable (op vs Z0:Int)(rs:List Rg)(HA:Option Addr)(hc:Nat)(P:Nat->Prop)(w:World)
theorem Kl(h3:op≠3)(h4:op≠4)(h5:op≠5):Calls prog 37 #[.agg #[.int .i64 op,.int .i64 vs,.slice HA rs.length hc,.int .i64 Z0]] w (Zm P [] w):=by
 have hb0:=Z7 (Below.refl w.heap.size w) (.cells #[.int .i64 op,.int .i64 vs,.slice HA rs.length hc,.int .i64 Z0] 24);have N0:=Z6.new w 24 #[.int .i64 op,.int .i64 vs,.slice HA rs.length hc,.int .i64 Z0];have c0:=N0.q0 rfl;have HJ:=hide (join_none (w.alloc (.cells #[.int .i64 op,.int .i64 vs,.slice HA rs.length hc,.int .i64 Z0] 24)));have HB:=hide hb0;clear N0 hb0;go_enter func37,ntmps37;go_wp2_with fail;refine HJ.out.mono ?_;intro e w' h;obtain ⟨fv,K,rfl,h2⟩:=(h.mono (K':=P) fun _ h=>h.elim).back HB.out fun k h=>.inl h;have H:=hide h2;clear h2;go_wp2;go_ret;exact ⟨fv,K,rfl,H.out⟩
theorem zN(n:Nat)(h1:3<=n)(h2:n<=64):Calls prog 37 #[.agg #[.int .i64 3,.int .i64 (n:Int),.slice HA rs.length hc,.int .i64 Z0]] w (Zm P (((List.range n).flatMap fun i=>(List.range n).flatMap (sV n i))++(List.range n).flatMap fun (i:Nat)=>[(5,(i:Int),0)]) w):=by
 obtain ⟨w0,hw0⟩:=eE (w.alloc (.cells #[.int .i64 3,.int .i64 (n:Int),.slice HA rs.length hc,.int .i64 Z0] 24));have hb0:=bE hw0;have N0:Z6 w0 w.heap.size 24 #[.int .i64 3,.int .i64 (n:Int),.slice HA rs.length hc,.int .i64 Z0]:=by rw [hw0];exact Z6.new _ _ _
 have c0:=N0.q0 rfl;have h00:Sc w0 w.heap.size (.int .i64 (n:Int)) (.slice HA rs.length hc) (.int .i64 Z0) w0:=⟨Below.refl _ _,N0.q1 rfl,N0.q2 rfl,N0.q3 rfl⟩;have hd0:=h00.keep (ZV (Below.refl _ _));have HV:=hide (fun w=>Lh n w h1 (by omega));have HL:=hide (fun w=>Nn n w (by omega));obtain ⟨e1,he1⟩:=eE ((List.range n).flatMap fun i=>(List.range n).flatMap (sV n i));obtain ⟨e2,he2⟩:=eE ((List.range n).flatMap fun (i:Nat)=>[((5,(i:Int),0):Ev)]);rw [<- he1,<- he2];rw [<- he1] at HV;rw [<- he2] at HL
 have HJ:Hid (∀ (w1:World) (g1:Nat) (l1:Array Value) (K1:Nat->Prop) (w2:World) (g2:Nat) (l2:Array Value) (K2:Nat->Prop),Below w0.drew.heap.size w0.drew w1->(∀ k,K1 k->False\/w0.drew.heap.size<=k/\k<w1.heap.size)->XR K1 (.func (.func g1) #[] l1) e1 w1 ->
  Below w1.heap.size w1 w2->(∀ k,K2 k->False\/w1.heap.size<=k/\k<w2.heap.size)->XR K2 (.func (.func g2) #[] l2) e2 w2 ->
  Calls prog 69 #[.slice (some ⟨w2.heap.size,0,none⟩) 2 2] (w2.alloc (.cells #[.func (.func g1) #[] l1,.func (.func g2) #[] l2] 68)) (fun e w'=>Zm P (e1++e2) w e w'/\Below (w2.alloc (.cells #[.func (.func g1) #[] l1,.func (.func g2) #[] l2] 68)).heap.size (w2.alloc (.cells #[.func (.func g1) #[] l1,.func (.func g2) #[] l2] 68)) w')):=hide fun w1 g1 l1 K1 w2 g2 l2 K2 a1 a2 a3 a4 a5 a6 =>
  (FT (Kp:=fun _=>False) (w0:=w0.drew) (fun _ h=>h.elim) a1 a2 a3 a4 (fun k h=>(a5 k h).imp id fun h=>⟨Nat.le_trans a1.size h.1,h.2⟩) a6).mono fun e w' h=>⟨(h.1.Co.mono (K':=P) fun _ h=>h.elim).back hb0 fun k h=>.inl h,h.2⟩
 clear N0 he1 he2 hb0;rw [hw0] at c0;go_enter func37,ntmps37;go_wp2;rw [<- hw0];clear c0 hw0
 go_region_held3 (fun w'=>Below w0.heap.size w0 w'/\w'.cell? ⟨w.heap.size,1,none⟩=some (.int .i64 (n:Int))/\w'.cell? ⟨w.heap.size,2,none⟩=some (.slice HA rs.length hc)/\w'.cell? ⟨w.heap.size,3,none⟩=some (.int .i64 Z0))
  (first|exact hd0|exact h00|exact Sc.keep (by assumption) (by assumption)|exact Sc.keep (by assumption) (bA)|exact hd0.keep (by assumption))
  (first
    | (go_at_call 70;((with_reducible refine (HV.out _).mono ?_);intro e w1 k1;obtain ⟨g1,l1,K1,rfl,a1,a2,a3⟩:=k1.open_))
    | (go_at_call 71;((with_reducible refine (HL.out _).mono ?_);intro e w2 k2;obtain ⟨g2,l2,K2,rfl,a4,a5,a6⟩:=k2.open_))
    | (go_at_call 69;((with_reducible refine (HJ.out w1 g1 l1 K1 w2 g2 l2 K2 a1 a2 a3 a4 a5 a6).mono ?_);rintro e w' ⟨⟨fv,K,rfl,hh⟩,hb2⟩)))
 all_goals
  have H:=hide hh;clear hh k1 k2 a1 a2 a3 a4 a5 a6;go_wp2;go_ret;exact ⟨fv,K,rfl,H.out⟩
end
end
end Go.Proofs.YtfljlmleiggmjaaGreatDoor