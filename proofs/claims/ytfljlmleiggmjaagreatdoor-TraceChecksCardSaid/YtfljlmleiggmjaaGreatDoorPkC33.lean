/- TracePairs TraceExp -/
import Derived.Deep.RegionHeld3
import Derived.Test.YtfljlmleiggmjaaGreatDoorPkC31
import Derived.Test.YtfljlmleiggmjaaGreatDoorPkC32
set_option maxRecDepth 1000000
set_option maxHeartbeats 8000000
namespace Go.Proofs.YtfljlmleiggmjaaGreatDoor
section
open Go.RowKit Go.Shelf
attribute [local go_sem] Oper.semAt_some
theorem netG (Bv:Nat) (m:Nat) (hm:m≤12) (w:World) (hBv:Blk w Bv 3 #[.int .i64 ((2 ^ m:Nat):Int)]) :
 SeqG Tryz.prog (fun _=>True) (encC (m:=m)) (fun k=>k=Bv) 160 #[.pointer (some ⟨Bv,0,none⟩)] (fun ys=>cUp ys=netw m) (netw m).length w :=
 seqG_of_stops fun W hW=>net_stops 5 (by omega) Bv (fun k=>k=Bv) m hm W (fun k hk=>by have:=(hBv.kept hW rfl).lt;omega) rfl (hBv.kept hW rfl)
def evC {m:Nat} (c:Cmp m):Ev:=(3,(c.1.1:Int),(c.1.2:Int))
theorem evC_map {m:Nat} (ys:List (Cmp m)):ys.map evC=pairEv (cUp ys):=by unfold pairEv cUp;rw [List.map_map];rfl
theorem pairs1_at (n Bn:Nat) (w:World) (h1:1≤n) (h2:n≤4096) (hB:Blk w Bn 3 #[.int .i64 (n:Int)]) :
 SeqAt Tryz.prog (fun k=>k=Bn) 124 #[.pointer (some ⟨Bn,0,none⟩)] (pairEv (netw (lg n))) w:=by
 intro l J Jx R W hk hKR hRW hJ hJx hY h0
 have hlen:(pairEv (netw (lg n))).length=(netw (lg n)).length:=by unfold pairEv;rw [List.length_map]
 rw [hlen] at hY
 obtain ⟨Y,hYs⟩:∃ Y,Y=W.heap.size:=⟨_,rfl⟩
 obtain ⟨W0,hW0⟩:∃ W0,W0=W.alloc (.cells #[.func (.yield l) #[] #[]] 169):=⟨_,rfl⟩
 have hb0:Below W.heap.size W W0:=by rw [hW0];exact bA
 have hz0:W0.heap.size=Y+1:=by rw [hW0,hYs];simp
 have BY:Blk W0 Y 169 #[.func (.yield l) #[] #[]]:=by rw [hW0,hYs];exact Blk.new _ _ _
 have cB:=((hB.kept hk rfl).step hb0).cell (i:=0) rfl
 have HSZ:=hide (fun w=>nsize_any n h1 h2 w)
 have HLG:=hide (lg_le h2)
 have HJ:=hide (hYs ▸ hJ:Rests Y J);have HJX:=hide (hYs ▸ hJx:Rests Y (fun R (_:List Ev) W=>Jx R W));have HY:=hide hY;have HRY:Hid (∀ k,R k→k<Y):=hide (fun k h=>hYs ▸ hRW k h)
 obtain ⟨m,hm⟩:∃ m,m=lg n:=⟨_,rfl⟩
 rw [← hm] at HSZ HLG HY ⊢
 obtain ⟨N2,hN2⟩:∃ N2:Int,N2=((2 ^ m:Nat):Int):=⟨_,rfl⟩
 rw [← hN2] at HSZ
 obtain ⟨wr,hwr⟩:∃ wr,wr=W0.alloc (.cells #[.int .i64 N2] 3):=⟨_,rfl⟩
 have hbr:Below W0.heap.size W0 wr:=by rw [hwr];exact bA
 have hzr:wr.heap.size=Y+2:=by rw [hwr];simp [hz0]
 have BN:Blk wr (Y+1) 3 #[.int .i64 ((2 ^ m:Nat):Int)]:=by rw [hwr,← hN2,← hz0];exact Blk.new _ _ _
 have BYr:=BY.step hbr
 have hbW:=bl_step hb0 hbr
 have HSEQ:=hide (netG (Y+1) m HLG.out wr BN)
 have HJ0:Hid (J (JnR (fun k=>R k∨k=Y) (fun k=>k=Y+1) wr.heap.size wr) [] wr):=hide (HJ.out R _ [] W wr h0 (Stirs.of_below hbW _ _) (fun k hk=>by
  rcases hk with hk | (hk | hk) | ⟨hk,hk2⟩
  · exact ⟨.inr (by omega),by omega⟩
  · exact ⟨.inl hk,Nat.lt_of_lt_of_le (hRW k hk) hbW.size⟩
  · exact ⟨.inr (by omega),by omega⟩
  · exact ⟨.inr (by omega),hk2⟩))
 have HZR:=hide hzr
 have HBY:=hide BYr
 clear hJ hJx hY hRW h0 hKR hk hB hb0 hbr hbW BN BYr BY hzr
 refine (callsIn_wide (n:=6)).1 ?_
 refine callsIn_of_wp_marks Tryz.func124 rfl trivial ?_ rfl
 simp only [Tryz.ntmps124,List.size_toArray,List.length_cons,List.length_nil,Nat.reduceAdd,Nat.reduceSub,Array.replicate_succ,Array.replicate_zero,List.push_toArray,List.append_toArray,List.nil_append,List.cons_append]
 rw [hW0] at cB
 gi_wp2_with fail
 rw [← hW0,← hYs]
 have HW0:=hide hW0
 clear hW0 cB hYs hN2 hm
 refine ⟨trivial,?_⟩
 refine (callsIn_wide.2 (HSZ.out _)).mono ?_
 rintro e w1 ⟨rfl,rfl⟩
 gi_wp2_with fail
 refine ⟨trivial,?_⟩
 refine (callsIn_wide.2 (nall_any N2 _)).mono ?_
 rintro e w1 ⟨rfl,rfl⟩
 rw [← hwr,hz0]
 have HWR:=hide hwr
 clear hwr hz0
 gi_wp2_with fail
 refine wpIn_range_seq (K:=fun k=>k=Y+1) (encs:=encC (m:=m)) rfl (enters_of Tryz.func160 (by kernel_rfl) rfl) HSEQ.out (fun k h=>by have:=HZR.out;omega) (fun _=>rfl) (fun R' pre X=>J (JnR (fun k=>R k∨k=Y) R' wr.heap.size X) (pre.map evC) X∧KeepP (fun k=>R k∨k=Y) wr X) (fun c R' X=>c=.ret∧Jx (JnR (fun k=>R k∨k=Y) R' wr.heap.size X) X∧KeepP (fun k=>R k∨k=Y) wr X) ?h1 ?h2 ?h3 ?round ?done ?stop
 case h1=>exact jn_rests (fun pre:List (Cmp m)=>pre.map evC) HJ.out (by have:=HZR.out;omega) (fun k hk=>by have:=HZR.out;rcases hk with hk | hk;have:=HRY.out k hk;omega;omega)
 case h2 =>
  intro c R1 R2 s X Z ⟨hc,h1,h2⟩ hst hR
  obtain ⟨h3,h4⟩:=jn_rests (fun _:List (Cmp m)=>[]) HJX.out (by have:=HZR.out;omega) (fun k hk=>by have:=HZR.out;rcases hk with hk | hk;have:=HRY.out k hk;omega;omega) R1 R2 s X Z ⟨h1,h2⟩ hst hR
  exact ⟨hc,h3,h4⟩
 case h3=>exact ⟨HJ0.out,KeepP.refl _ _⟩
 case round =>
  rintro R' pre x X hR' hnl hs1 ⟨rec,hrec⟩ ⟨hj,hkk⟩ hpre -
  have hYX:Blk X Y 169 #[.func (.yield l) #[] #[]]:=HBY.out.kept hkk (.inr rfl)
  have hYlt:=hYX.lt
  have hzr:=HZR.out
  obtain ⟨⟨x1,x2⟩,hx⟩:=x
  obtain ⟨X1,hX1⟩:∃ X1,X1=X.alloc (.cells #[.int .i64 (x1:Int),.int .i64 (x2:Int)] 174):=⟨_,rfl⟩
  have hbX:Below X.heap.size X X1:=by rw [hX1];exact bA
  have hzX:X1.heap.size=X.heap.size+1:=by rw [hX1];simp
  have hE:Blk X1 X.heap.size 174 #[.int .i64 (x1:Int),.int .i64 (x2:Int)]:=by rw [hX1];exact Blk.new _ _ _
  have hl1:X1.heap[wr.heap.size+1]?=some (.loop rec):=(hbX.block _ hs1).trans hrec
  have hY1:=hYX.step hbX
  unfold encC
  dsimp only
  gi_wp2
  rw [← hX1]
  refine ⟨KeepP.of_below hbX (fun k hk=>?_),fun o=>?_⟩
  · rcases hk with hk | hk | hk
    · exact hR' k hk
    · omega
    · omega
  have hst:Stirs Y (JnR (fun k=>R k∨k=Y) R' wr.heap.size X) X (X1.putObj (wr.heap.size+1) (.loop o)):=(Stirs.of_below hbX _ _).trans (Stirs.put (by omega) hl1 rfl (JnR (fun k=>R k∨k=Y) R' wr.heap.size X) _) (fun j h=>.inl h)
  have hR3:∀ k,(JnR (fun k=>R k∨k=Y) R' wr.heap.size X k∨k=X.heap.size)→k<X1.heap.size:=fun k hk=>by
   have:=hkk.size
   rcases hk with (hk | (hk | hk) | ⟨_,hk⟩) | hk
   · have:=hR' k hk;omega
   · have:=HRY.out k hk;omega
   · omega
   · omega
   · omega
  have hjy:=HJ.out _ (fun k=>JnR (fun k=>R k∨k=Y) R' wr.heap.size X k∨k=X.heap.size) _ X (X1.putObj (wr.heap.size+1) (.loop o)) hj hst (fun k hk=>⟨by rcases hk with hk | hk;exact .inl hk;exact .inr (by omega),by have:=hR3 k hk;simpa using this⟩)
  obtain ⟨fn,tmps,assign,body,hy,hRo⟩:=HY.out 1 _ _ (evC (m:=m) ⟨(x1,x2),hx⟩) (X1.putObj (wr.heap.size+1) (.loop o)) (fun k hk=>by have:=hR3 k hk;simpa using this) hjy (by rw [List.length_map];exact hpre) (by unfold evC I64w;dsimp only;omega)
  have yb:Blk (X1.putObj (wr.heap.size+1) (.loop o)) Y 169 #[.func (.yield l) #[] #[]]:=(World.putObj_heap_other (by omega)).trans hY1
  have eb:Blk (X1.putObj (wr.heap.size+1) (.loop o)) X.heap.size 174 #[.int .i64 (x1:Int),.int .i64 (x2:Int)]:=(World.putObj_heap_other (by omega)).trans hE
  have y0:=yb.cell (i:=0) rfl
  have e0:=eb.cell (i:=0) rfl
  have e1:=eb.cell (i:=1) rfl
  have HKX:Hid (KeepP (fun k=>R k∨k=Y) wr (X1.putObj (wr.heap.size+1) (.loop o))):=hide ((hkk.trans (KeepP.of_below hbX fun k hk=>by have:=hkk.size;rcases hk with hk | hk;have:=HRY.out k hk;omega;omega)).trans (KeepP.putObj _ (fun h=>by rcases h with h | h;have:=HRY.out _ h;omega;omega) _))
  have HR3:Hid (∀ k,(JnR (fun k=>R k∨k=Y) R' wr.heap.size X k∨k=X.heap.size)→k<X.heap.size+1):=hide fun k hk=>by have:=hR3 k hk;omega
  have HS1:=hide hs1
  obtain ⟨X2,hX2⟩:∃ X2,X2=X1.putObj (wr.heap.size+1) (.loop o):=⟨_,rfl⟩
  rw [← hX2] at hy hRo y0 e0 e1 HKX ⊢
  have hz2:X2.heap.size=X.heap.size+1:=by rw [hX2,← hzX];simp
  have HZ2:=hide hz2
  have HRO:=hide hRo
  have HRB:=hide hR'
  have HMAP:Hid (pre.map evC++[evC (m:=m) ⟨(x1,x2),hx⟩]=(pre++[(⟨(x1,x2),hx⟩:Cmp m)]).map evC):=hide (by simp)
  unfold evC encEv at hy
  dsimp only at hy
  clear hRo hjy hst hR3 hj hkk hpre hYX hYlt hX1 hbX hzX hE hl1 hY1 hrec hnl hs1 yb eb hX2 hz2 hR' hzr
  gi_wp2_with fail
  refine (RoundIn.inRound' _ HRO.out).mono ?_
  rintro e X3 (⟨rfl,h1,h2⟩ | ⟨rfl,h1,h2⟩)
  · have H1:=hide h1;have H2:=hide h2
    clear h1 h2 HRO hy y0 e0 e1
    gi_wp2
    have hz:=H2.out.size
    refine ⟨H2.out.mono fun k hk=>?_,HJ.out (fun k=>JnR (fun k=>R k∨k=Y) R' wr.heap.size X k∨k=X.heap.size) _ _ X3 X3 ?_ (Stirs.refl _ _ _) fun k hk=>?_,HKX.out.trans (H2.out.mono fun k hk=>.inl (.inr (.inl hk)))⟩
    · rcases hk with hk | hk | hk
      · exact .inl (.inl hk)
      · exact .inl (.inr (.inr ⟨.inl hk,by have:=HS1.out;omega⟩))
      · exact .inl (.inr (.inr ⟨.inr hk,by have:=HS1.out;omega⟩))
    · rw [← HMAP.out];exact H1.out
    · have hzz:=HZ2.out
      rcases hk with hk | hk | ⟨hk,hk2⟩
      · exact ⟨.inl (.inl (.inl hk)),by have:=HRB.out k hk;omega⟩
      · exact ⟨.inl (.inl (.inr (.inl hk))),by have:=HR3.out k (.inl (.inr (.inl hk)));omega⟩
      · exact ⟨.inl (.inl (.inr (.inr ⟨hk,by have:=HS1.out;omega⟩))),hk2⟩
  · have H1:=hide h1;have H2:=hide h2
    clear h1 h2 HRO hy y0 e0 e1
    gi_wp2
    have hz:=H2.out.size
    refine ⟨H2.out.mono fun k hk=>?_,rfl,HJX.out _ _ [] X3 X3 H1.out (Stirs.refl _ _ _) fun k hk=>?_,HKX.out.trans (H2.out.mono fun k hk=>.inl (.inr (.inl hk)))⟩
    · rcases hk with hk | hk | hk
      · exact .inl (.inl hk)
      · exact .inl (.inr (.inr ⟨.inl hk,by have:=HS1.out;omega⟩))
      · exact .inl (.inr (.inr ⟨.inr hk,by have:=HS1.out;omega⟩))
    · have hzz:=HZ2.out
      rcases hk with hk | hk | ⟨hk,hk2⟩
      · exact ⟨.inl (.inl (.inl hk)),by have:=HRB.out k hk;omega⟩
      · exact ⟨.inl (.inl (.inr (.inl hk))),by have:=HR3.out k (.inl (.inr (.inl hk)));omega⟩
      · exact ⟨.inl (.inl (.inr (.inr ⟨hk,by have:=HS1.out;omega⟩))),hk2⟩
 case done =>
  rintro ys X hys ⟨hj,hkk⟩ hD hsl
  have hz:=hkk.size
  have hRx:∀ k,R k→k<X.heap.size:=fun k h=>by have:=HRY.out k h;have:=HZR.out;omega
  have HC:Hid (J R (pairEv (netw m)) X∧∀ k,R k→k<X.heap.size):=hide ⟨by
   rw [evC_map,hys] at hj
   exact HJ.out _ R _ X X hj (Stirs.refl _ _ _) fun k hk=>⟨.inl (.inr (.inl (.inl hk))),hRx k hk⟩,hRx⟩
  have HM:Hid (Marks Y [{ target:=.collected wr.heap.size,args:=#[] }] X):=hide ⟨wr.heap.size,rfl,by have:=HZR.out;omega,hD,fun r h=>(by cases h),trivial⟩
  clear hj hkk hD hsl hz hRx hys
  gi_wp2
  refine leaves_marks (lo:=Y) (C:=fun X=>J R (pairEv (netw m)) X∧∀ k,R k→k<X.heap.size) ?_ _ X HM.out HC.out ?_
  · rintro X r ⟨h1,h2⟩ hr hl
    exact ⟨HJ.out R R _ X _ h1 (Stirs.put hr hl rfl R _) fun k hk=>⟨.inl hk,by have:=h2 k hk;simpa using this⟩,fun k hk=>by have:=h2 k hk;simpa using this⟩
  · rintro X ⟨h1,_⟩
    exact ⟨_,results_none rfl _ _ _,⟨_,rfl⟩,.inl ⟨_,rfl,h1⟩⟩
 case stop =>
  rintro c X ⟨rfl,hjx,hkk⟩ hD hsl
  have hz:=hkk.size
  have hRx:∀ k,R k→k<X.heap.size:=fun k h=>by have:=HRY.out k h;have:=HZR.out;omega
  have HC:Hid (Jx R X∧∀ k,R k→k<X.heap.size):=hide ⟨HJX.out _ R [] X X hjx (Stirs.refl _ _ _) fun k hk=>⟨.inl (.inr (.inl (.inl hk))),hRx k hk⟩,hRx⟩
  have HM:Hid (Marks Y [{ target:=.collected wr.heap.size,args:=#[] }] X):=hide ⟨wr.heap.size,rfl,by have:=HZR.out;omega,hD,fun r h=>(by cases h),trivial⟩
  clear hjx hkk hD hsl hz hRx
  gi_wp2
  refine leaves_marks (lo:=Y) (C:=fun X=>Jx R X∧∀ k,R k→k<X.heap.size) ?_ _ X HM.out HC.out ?_
  · rintro X r ⟨h1,h2⟩ hr hl
    exact ⟨HJX.out R R [] X _ h1 (Stirs.put hr hl rfl R _) fun k hk=>⟨.inl hk,by have:=h2 k hk;simpa using this⟩,fun k hk=>by have:=h2 k hk;simpa using this⟩
  · rintro X ⟨h1,_⟩
    exact ⟨_,results_none rfl _ _ _,⟨_,rfl⟩,.inr h1⟩
theorem pairs_raw (n:Int) (w:World):Calls Tryz.prog 77 #[.int .i64 n] w fun e w' =>
 e=.returned (.func (.func 124) #[] #[.pointer (some ⟨w.heap.size,0,none⟩)])∧w'=w.alloc (.cells #[.int .i64 n] 3):=by
 go_enter Tryz.func77,Tryz.ntmps77
 go_wp2
 go_ret
 exact ⟨rfl,rfl⟩
theorem tpairs_any (n:Nat) (w:World) (h1:1≤n) (h2:n≤4096):Calls Tryz.prog 77 #[.int .i64 (n:Int)] w (GaveSeq (fun _=>False) (pairEv (netw (lg n))) w):=by
 refine (pairs_raw n w).mono ?_
 rintro e w' ⟨rfl,rfl⟩
 refine ⟨_,fun k=>k=w.heap.size,rfl,bA,fun k hk=>.inr ⟨by omega,by simp only [World.size_alloc];omega⟩,_,_,rfl,enters_of Tryz.func124 (by kernel_rfl) rfl,?_⟩
 exact pairs1_at n w.heap.size _ h1 h2 (Blk.new _ _ _)
end
section
open Go.RowKit Go.Shelf
def HeldM (w0:World) (b:Nat) (v:Value) (w':World):Prop:=Below w0.heap.size w0 w'∧w'.cell? ⟨b,0,none⟩=some v
theorem HeldM.keep {w0 wk w':World} {b:Nat} {v:Value} (h:HeldM w0 b v wk) (hb:Below wk.heap.size wk w'):HeldM w0 b v w' :=
 ⟨bl_step h.1 hb,(hb.cell (p:=⟨_,_,none⟩) (cell_lt h.2)).trans h.2⟩
theorem GaveSeq.undrew {Kp:Nat→Prop} {es:List Ev} {w w':World} {e:Ending} (h:GaveSeq Kp es w.drew e w'):GaveSeq Kp es w e w':=by
 obtain ⟨fv,K,h1,h2,h3,h4⟩:=h
 exact ⟨fv,K,h1,below_of_drew h2,h3,h4⟩
theorem expected1 (i bm gm:Nat) (lm:Array Value) (Km:Nat→Prop) (em:List Ev) (W:World) (hKm:∀ k,Km k→k<W.heap.size) (hev:EvSeq Km (.func (.func gm) #[] lm) em W) (B:Blk W bm 68 #[.func (.func gm) #[] lm]) :
 Calls Tryz.prog 74 #[.int .i64 (i:Int),.pointer (some ⟨bm,0,none⟩)] W (GaveSeq Km ((8,(i:Int),0)::em) W):=by
 have c0:=B.cell (i:=0) rfl
 have h00:HeldM W bm (.func (.func gm) #[] lm) W:=⟨Below.refl _ _,c0⟩
 have hd0:HeldM W bm (.func (.func gm) #[] lm) W.drew:=h00.keep (bl_drew (Below.refl _ _))
 have HO:=hide (fun w=>one_any 8 (i:Int) 0 w (by unfold I64w;omega))
 have HE:Hid (∀ w1,Below W.heap.size W w1→EvSeq Km (.func (.func gm) #[] lm) em w1):=hide fun w1 hb=>hev.kept (KeepP.of_below hb hKm)
 have HJ:Hid (∀ (w1:World) (g1:Nat) (l1:Array Value) (K1:Nat→Prop),Below W.drew.heap.size W.drew w1→(∀ k,K1 k→False∨W.drew.heap.size≤k∧k<w1.heap.size)→EvSeq K1 (.func (.func g1) #[] l1) [(8,(i:Int),0)] w1 →
  Calls Tryz.prog 69 #[.slice (some ⟨w1.heap.size,0,none⟩) 2 2] (w1.alloc (.cells #[.func (.func g1) #[] l1,.func (.func gm) #[] lm] 68)) (fun e w'=>GaveSeq Km ((8,(i:Int),0)::em) W e w'∧Below (w1.alloc (.cells #[.func (.func g1) #[] l1,.func (.func gm) #[] lm] 68)).heap.size (w1.alloc (.cells #[.func (.func g1) #[] l1,.func (.func gm) #[] lm] 68)) w')):=hide fun w1 g1 l1 K1 hb hk he =>
  (join2b (Kp:=Km) (w0:=W.drew) hKm hb (fun k h=>.inr ((hk k h).resolve_left id)) he (Below.refl _ _) (fun k h=>.inl h) (HE.out w1 (below_of_drew hb))).mono fun e w' h=>⟨h.1.undrew,h.2⟩
 clear hKm hev B
 go_enter Tryz.func74,Tryz.ntmps74
 go_wp2
 go_region_held3 (fun w'=>Below W.heap.size W w'∧w'.cell? ⟨bm,0,none⟩=some (.func (.func gm) #[] lm))
  (first | exact hd0 | exact h00 | exact HeldM.keep (by assumption) (by assumption) | exact HeldM.keep (by assumption) (bA) | exact hd0.keep (by assumption))
  (first
    | (go_at_call 75;((with_reducible refine (HO.out _).mono ?_);intro e w1 h;obtain ⟨g1,l1,K1,rfl,hb1,hk1,he1⟩:=h.open_))
    | (go_at_call 69;((with_reducible refine (HJ.out w1 g1 l1 K1 hb1 hk1 he1).mono ?_);rintro e w' ⟨⟨fv,K,rfl,h2⟩,hb2⟩)))
 all_goals
  have H:=hide h2
  clear h2 h hb1 hk1 he1
  go_wp2
  go_ret
  exact ⟨fv,K,rfl,H.out⟩
theorem joinN (K:Nat→Prop) (L:List (Value × List Ev)) (es:List Ev) (w2:World) (n:Nat) (cs:Array Value) (hn:L.length=n) (hn2:n≤100) (hcs:cs=(L.map (·.1)).toArray) (he:L.flatMap (·.2)=es) (hK:∀ k,K k→k<w2.heap.size) (hL:∀ p∈L,EvSeq K p.1 p.2 w2) :
 Calls Tryz.prog 69 #[.slice (some ⟨w2.heap.size,0,none⟩) n n] (w2.alloc (.cells cs 68)) (fun e w'=>GaveSeq K es w2 e w'∧Below (w2.alloc (.cells cs 68)).heap.size (w2.alloc (.cells cs 68)) w'):=by
 have hb3:=bl_alloc (Below.refl w2.heap.size w2) (.cells cs 68)
 have N3:=Blk.new w2 68 cs
 have z3:(w2.alloc (.cells cs 68)).heap.size=w2.heap.size+1:=by simp
 refine (join_any (fun k=>K k∨k=w2.heap.size) (some ⟨w2.heap.size,0,none⟩) n n L es _ ?_ hn he ?_ ?_ (by omega)).mono fun e w' h=>⟨h.back hb3 ?_,by obtain ⟨_,_,_,h,_⟩:=h;exact h⟩
 · rintro k (h | h)
   · have:=hK k h;omega
   · omega
 · exact .inr ⟨w2.heap.size,0,rfl,.inr rfl,fun j u hu=>by rw [Nat.zero_add];refine N3.cell ?_;rw [hcs];simpa using hu⟩
 · exact fun p hp=>((hL p hp).kept (KeepP.of_below hb3 hK)).mono fun k h=>.inl h
 · rintro k (h | h)
   · exact .inl h
   · exact .inr (by omega)
def HeldX (w0:World) (b:Nat) (v1 v2 v3:Value) (w':World):Prop:=Below w0.heap.size w0 w'∧w'.cell? ⟨b,1,none⟩=some v1∧w'.cell? ⟨b,2,none⟩=some v2∧w'.cell? ⟨b,3,none⟩=some v3
theorem HeldX.keep {w0 wk w':World} {b:Nat} {v1 v2 v3:Value} (h:HeldX w0 b v1 v2 v3 wk) (hb:Below wk.heap.size wk w'):HeldX w0 b v1 v2 v3 w':=by
 have on:∀ {b o:Nat} {v:Value},wk.cell? ⟨b,o,none⟩=some v→w'.cell? ⟨b,o,none⟩=some v:=fun h=>(hb.cell (p:=⟨_,_,none⟩) (cell_lt h)).trans h
 exact ⟨bl_step h.1 hb,on h.2.1,on h.2.2.1,on h.2.2.2⟩
section
variable (op vs pts:Int) (rs:List Rg) (HA:Option Addr) (hc:Nat) (P:Nat→Prop) (w:World)
theorem expected_other (h3:op≠3) (h4:op≠4) (h5:op≠5):Calls Tryz.prog 37 #[.agg #[.int .i64 op,.int .i64 vs,.slice HA rs.length hc,.int .i64 pts]] w (GaveSeq P [] w):=by
 have hb0:=bl_alloc (Below.refl w.heap.size w) (.cells #[.int .i64 op,.int .i64 vs,.slice HA rs.length hc,.int .i64 pts] 24)
 have N0:=Blk.new w 24 #[.int .i64 op,.int .i64 vs,.slice HA rs.length hc,.int .i64 pts]
 have c0:=N0.cell (i:=0) rfl
 have HJ:=hide (join_none (w.alloc (.cells #[.int .i64 op,.int .i64 vs,.slice HA rs.length hc,.int .i64 pts] 24)))
 have HB:=hide hb0
 clear N0 hb0
 go_enter Tryz.func37,Tryz.ntmps37
 go_wp2_with fail
 refine HJ.out.mono ?_
 intro e w' h
 obtain ⟨fv,K,rfl,h2⟩:=(h.mono (K':=P) fun _ h=>h.elim).back HB.out fun k h=>.inl h
 have H:=hide h2
 clear h2
 go_wp2
 go_ret
 exact ⟨fv,K,rfl,H.out⟩
theorem expected_3 (n:Nat) (h1:3≤n) (h2:n≤64):Calls Tryz.prog 37 #[.agg #[.int .i64 3,.int .i64 (n:Int),.slice HA rs.length hc,.int .i64 pts]] w (GaveSeq P (((List.range n).flatMap fun i=>(List.range n).flatMap (sV n i))++(List.range n).flatMap fun (i:Nat)=>[(5,(i:Int),0)]) w):=by
 obtain ⟨w0,hw0⟩:∃ w0,w0=w.alloc (.cells #[.int .i64 3,.int .i64 (n:Int),.slice HA rs.length hc,.int .i64 pts] 24):=⟨_,rfl⟩
 have hb0:Below w.heap.size w w0:=by rw [hw0];exact bA
 have N0:Blk w0 w.heap.size 24 #[.int .i64 3,.int .i64 (n:Int),.slice HA rs.length hc,.int .i64 pts]:=by rw [hw0];exact Blk.new _ _ _
 have c0:=N0.cell (i:=0) rfl
 have h00:HeldX w0 w.heap.size (.int .i64 (n:Int)) (.slice HA rs.length hc) (.int .i64 pts) w0:=⟨Below.refl _ _,N0.cell (i:=1) rfl,N0.cell (i:=2) rfl,N0.cell (i:=3) rfl⟩
 have hd0:=h00.keep (bl_drew (Below.refl _ _))
 have HV:=hide (fun w=>tvalid_any n w h1 (by omega))
 have HL:=hide (fun w=>tlocate_any n w (by omega))
 obtain ⟨e1,he1⟩:∃ e1,e1=(List.range n).flatMap fun i=>(List.range n).flatMap (sV n i):=⟨_,rfl⟩
 obtain ⟨e2,he2⟩:∃ e2,e2=(List.range n).flatMap fun (i:Nat)=>[((5,(i:Int),0):Ev)]:=⟨_,rfl⟩
 rw [← he1,← he2]
 rw [← he1] at HV
 rw [← he2] at HL
 have HJ:Hid (∀ (w1:World) (g1:Nat) (l1:Array Value) (K1:Nat→Prop) (w2:World) (g2:Nat) (l2:Array Value) (K2:Nat→Prop),Below w0.drew.heap.size w0.drew w1→(∀ k,K1 k→False∨w0.drew.heap.size≤k∧k<w1.heap.size)→EvSeq K1 (.func (.func g1) #[] l1) e1 w1 →
  Below w1.heap.size w1 w2→(∀ k,K2 k→False∨w1.heap.size≤k∧k<w2.heap.size)→EvSeq K2 (.func (.func g2) #[] l2) e2 w2 →
  Calls Tryz.prog 69 #[.slice (some ⟨w2.heap.size,0,none⟩) 2 2] (w2.alloc (.cells #[.func (.func g1) #[] l1,.func (.func g2) #[] l2] 68)) (fun e w'=>GaveSeq P (e1++e2) w e w'∧Below (w2.alloc (.cells #[.func (.func g1) #[] l1,.func (.func g2) #[] l2] 68)).heap.size (w2.alloc (.cells #[.func (.func g1) #[] l1,.func (.func g2) #[] l2] 68)) w')):=hide fun w1 g1 l1 K1 w2 g2 l2 K2 a1 a2 a3 a4 a5 a6 =>
  (join2b (Kp:=fun _=>False) (w0:=w0.drew) (fun _ h=>h.elim) a1 a2 a3 a4 (fun k h=>(a5 k h).imp id fun h=>⟨Nat.le_trans a1.size h.1,h.2⟩) a6).mono fun e w' h=>⟨(h.1.undrew.mono (K':=P) fun _ h=>h.elim).back hb0 fun k h=>.inl h,h.2⟩
 clear N0 he1 he2 hb0
 rw [hw0] at c0
 go_enter Tryz.func37,Tryz.ntmps37
 go_wp2
 rw [← hw0]
 clear c0 hw0
 go_region_held3 (fun w'=>Below w0.heap.size w0 w'∧w'.cell? ⟨w.heap.size,1,none⟩=some (.int .i64 (n:Int))∧w'.cell? ⟨w.heap.size,2,none⟩=some (.slice HA rs.length hc)∧w'.cell? ⟨w.heap.size,3,none⟩=some (.int .i64 pts))
  (first | exact hd0 | exact h00 | exact HeldX.keep (by assumption) (by assumption) | exact HeldX.keep (by assumption) (bA) | exact hd0.keep (by assumption))
  (first
    | (go_at_call 70;((with_reducible refine (HV.out _).mono ?_);intro e w1 k1;obtain ⟨g1,l1,K1,rfl,a1,a2,a3⟩:=k1.open_))
    | (go_at_call 71;((with_reducible refine (HL.out _).mono ?_);intro e w2 k2;obtain ⟨g2,l2,K2,rfl,a4,a5,a6⟩:=k2.open_))
    | (go_at_call 69;((with_reducible refine (HJ.out w1 g1 l1 K1 w2 g2 l2 K2 a1 a2 a3 a4 a5 a6).mono ?_);rintro e w' ⟨⟨fv,K,rfl,hh⟩,hb2⟩)))
 all_goals
  have H:=hide hh
  clear hh k1 k2 a1 a2 a3 a4 a5 a6
  go_wp2
  go_ret
  exact ⟨fv,K,rfl,H.out⟩
end
end
end Go.Proofs.YtfljlmleiggmjaaGreatDoor
