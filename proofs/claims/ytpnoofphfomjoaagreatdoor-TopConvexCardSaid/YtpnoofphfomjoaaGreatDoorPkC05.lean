/- Concat RevPts -/
import Derived.Lib.AppendZerosOnto
import Derived.Test.YtpnoofphfomjoaaGreatDoorPkM07
import Derived.Test.YtpnoofphfomjoaaGreatDoorPkM09
import Derived.Test.YtpnoofphfomjoaaGreatDoorPkM25
import Derived.Test.YtpnoofphfomjoaaGreatDoorPkM30
import Derived.Test.YtpnoofphfomjoaaGreatDoorPkC02
set_option maxRecDepth 1000000
set_option maxHeartbeats 8000000
namespace Go.Proofs.YtpnoofphfomjoaaGreatDoor
section
open Go.RowKit Go.Shelf
theorem wpList_append_run2 {P:Program} {ops:Array Oper} {rest:List Oper} {o:Oper} {a:Act} {Q:Exit→Act→World→Prop} {w:World} (s x:Operand) (t t2:TypeId)
 (hop:o.op=Op.call { callee:=Callee.builtin Builtin.append,args:=#[s,x],argTypes:=#[t,t2] }) (hw:Region.wanted o (yielded ops a.tmps)=true) (v xv:Value) (hs:a.eval s=v) (hx:a.eval x=xv) {v':Value} {w':World}
 (hrun:(Builtin.append_ #[t,t2] o.type #[v,xv]).run P w=.ok v' w') (h:wpList P ops Q rest (a.put o.dst v') w'):wpList P ops Q (o::rest) a w:=by
 unfold wpList
 rw [if_pos hw]
 left
 unfold Oper.wp
 simp [execOp,hop,resolve,invoke,builtin,hs,hx,hrun,Result.andThen]
 exact h
theorem growP (n:Nat) (h0:0<n) (hn:n≤100000) (w:World):Calls Tryz.prog 81 #[.slice none 0 0,.int .i64 (n:Int)] w fun e w'=>∃ v,e=.returned v∧w'.ownsRow w.heap.size 69 2 v 0 []∧Below w.heap.size w w':=by
 obtain ⟨i0,hi,hz0,hz1,hz2⟩:=info_parts pt_info
 have hrun:=Lib.run_append_grow_zeros (P:=Tryz.prog) w 25 3 25 69 i0 (.agg #[.int .i64 0,.int .i64 0]) .i64 .i64 Tryz.underlying25 Tryz.underlying3 hi hz0 none 0 0 [] (run_firstCells_none w.drew i0.size 0 0 0) n h0 (by omega) (by omega) (by omega) (by rw [hz2];omega) (growslice_fits (by omega) (by rw [hz2];omega))
 have hge:0+n≤grownCap w (0+n) 0 69:=grownCap_ge w _ _ _
 have hle:grownCap w (0+n) 0 69≤maxLen:=grownCap_le_maxLen w (0+n) 0 69 (by unfold maxLen;omega)
 obtain ⟨G,hG⟩:∃ G,G=grownCap w (0+n) 0 69:=⟨_,rfl⟩
 rw [← hG] at hrun hge hle
 rw [Nat.zero_add] at hrun hge
 clear hG
 obtain ⟨w2,hw2⟩:∃ w2,w2=w.drew.alloc (.cells (([]:List Value).toArray++Builtin.zeroCells (Value.cells (.agg #[.int .i64 0,.int .i64 0])) n++Builtin.zeroCells (Value.cells (.agg #[.int .i64 0,.int .i64 0])) (G - n)) 69):=⟨_,rfl⟩
 rw [← hw2] at hrun
 have hb2:Below w.heap.size w w2:=by rw [hw2];exact bl_alloc (bl_drew (Below.refl _ _)) _
 have hown:w2.ownsRow w.heap.size 69 2 (.slice (some ⟨w.heap.size,0,none⟩) 0 G) 0 []:=by
  rw [hw2]
  refine ⟨rfl,.inr ⟨w.heap.size,G,_,rfl,Nat.le_refl _,Blk.new w.drew 69 _,Nat.zero_le _,hle,?_,by simp⟩⟩
  simp [Builtin.zeroCells,Value.cells]
  omega
 have hni:¬ ((n:Int)<0):=by omega
 have hnp:(0:Int)<(n:Int):=by omega
 have hGi:(0:Int)≤(G:Int):=by omega
 clear hw2 hle
 go_enter Tryz.func81,Tryz.ntmps81
 go_wp2_with (at_builtin;refine wpList_append_run2 (.tmp 20) (.tmp 21) 25 3 rfl rfl _ _ rfl rfl hrun ?_)
 clear hrun
 go_wp2
 go_ret
 exact ⟨_,rfl,hown,hb2⟩
theorem appSlP (v:Value) (n m:Nat) (xs ys:List Value) (A:Option Addr) (c:Nat) (B:Nat) (w:World) (h1:w.ownsRow B 69 2 v n xs) (hs:Sl w w.heap.size A ys) (hy:ys.length=m*2) (oy:∀ u∈ys,u.oneCell'=true) (hn:n+m≤1000000) (hB:B≤w.heap.size) :
 ∃ v3 w3,(Builtin.append_ #[25,25] 25 #[v,.slice A m c]).run Tryz.prog w=.ok v3 w3∧w3.ownsRow B 69 2 v3 (n+m) (xs++ys)∧∀ w0:World,Below w0.heap.size w0 w→w0.heap.size≤B→Below w0.heap.size w0 w3:=by
 obtain ⟨i0,hi,hz0',hz1',hz2'⟩:=info_parts pt_info
 cases A with
 | none =>
   have he:ys=[]:=by
    rcases hs with h | ⟨b,off,hA,_⟩
    · exact h
    · cases hA
   subst he
   have hm:m=0:=by simp at hy;omega
   subst hm
   rw [List.append_nil]
   exact ⟨v,w,run_append_owned_none (P:=Tryz.prog) w B 25 25 69 i0 2 Tryz.underlying25 hi _ _ _ h1,h1,fun w h _=>h⟩
 | some a =>
   have hcells:∀ j u,ys[j]?=some u→w.cell? (a.add j)=some u:=fun j u hu=>by
    rcases hs with h | ⟨b',off',hA,_,hc⟩
    · rw [h] at hu;simp at hu
    · cases hA
      have e:(⟨b',off',none⟩:Addr).add j=⟨b',off'+j,none⟩:=by unfold Addr.add;split <;> simp_all
      rw [e]
      exact hc j u hu
   obtain ⟨v3,w3,hrun,hown3,hgrow3,_⟩:=run_append_own (P:=Tryz.prog) w B 25 25 69 i0 (.agg #[.int .i64 0,.int .i64 0]) 2 16 Tryz.underlying25 hi hz0' hz1' hz2' rfl (by decide) v n xs h1 a m c ys hy hcells oy (by unfold maxLen;omega) (by omega) hB
   exact ⟨v3,w3,hrun,hown3,fun w0 h hwB=>h.grown hgrow3 h.size (fun j hj=>Nat.le_trans hwB (own_base h1 hj))⟩
theorem concatP (xs ys:List Value) (n1 n2:Nat) (hx:xs.length=n1*2) (hy:ys.length=n2*2) (ox:∀ u∈xs,u.oneCell'=true) (oy:∀ u∈ys,u.oneCell'=true) (A1 A2:Option Addr) (c1 c2 b:Nat) (w:World)
 (B:Blk w b 25 #[.slice A1 n1 c1,.slice A2 n2 c2]) (h1:Sl w w.heap.size A1 xs) (h2:Sl w w.heap.size A2 ys) (hpos:0<n1+n2) (hn:n1+n2≤100000) :
 Calls Tryz.prog 38 #[.slice (some ⟨b,0,none⟩) 2 2] w fun e w'=>∃ v,e=.returned v∧w'.ownsRow w.heap.size 69 2 v (n1+n2) (xs++ys)∧Below w.heap.size w w':=by
 have HG:=hide (growP (n1+n2) hpos (by omega) w)
 have H1:=hide h1;have H2:=hide h2;have HX:=hide hx;have HY:=hide hy;have OX:=hide ox;have OY:=hide oy
 have c0:=B.cell (i:=0) rfl
 have c1':=B.cell (i:=1) rfl
 have HBB:=hide B
 have HBB0:=hide B
 have HBL:=hide B.lt
 clear h1 h2 hx hy ox oy B
 go_enter Tryz.func38,Tryz.ntmps38
 go_wp2
 go_loopw [3,11] (fun s i wr=>∃ k:Nat,k≤2∧i=.int .i64 (k:Int)∧s=.int .i64 ((if k=0 then 0 else if k=1 then n1 else n1+n2:Nat):Int)∧wr=w)
  (fun _ i _=>2 - (intOf i).toNat)
 case atStart=>exact ⟨0,by omega,rfl,rfl,rfl⟩
 case round =>
  obtain ⟨k,hk,rfl,rfl,hwz⟩:=hrel
  have hwz2:=hwz.symm
  clear hwz
  subst hwz2
  rcases (by omega:k=0∨k=1∨k=2) with rfl | rfl | rfl
  · go_wp2
    go_roundw
    case rel=>exact ⟨1,by omega,by go_num,by go_num,trivial⟩
    case measure=>simp [intOf]
  · go_wp2
    go_roundw
    case rel=>exact ⟨2,by omega,by go_num,by go_num,trivial⟩
    case measure=>simp [intOf]
  · go_wp2_with fail
    refine HG.out.mono ?_
    rintro e w1 ⟨v1,rfl,hown1,hb1⟩
    have HO1:=hide hown1
    clear hown1 HG
    have HBB1:=hide (HBB.out.step hb1)
    clear c0 c1' HBB
    go_wp2
    go_loopw [6,27] (fun v i wr=>∃ k:Nat,k≤2∧i=.int .i64 (k:Int)∧wr.ownsRow w.heap.size 69 2 v (if k=0 then 0 else if k=1 then n1 else n1+n2) (if k=0 then [] else if k=1 then xs else xs++ys)∧Below w.heap.size w wr)
     (fun _ i _=>2 - (intOf i).toNat)
    case atStart=>exact ⟨0,by omega,rfl,HO1.out,hb1⟩
    case round =>
     clear HO1
     obtain ⟨k,hk,rfl,hown,hbr⟩:=hrel
     have hBr:Blk wr b 25 #[.slice A1 n1 c1,.slice A2 n2 c2]:=HBB0.out.below hbr HBL.out
     have c0:=hBr.cell (i:=0) rfl
     have c1':=hBr.cell (i:=1) rfl
     rcases (by omega:k=0∨k=1∨k=2) with rfl | rfl | rfl
     · obtain ⟨v3,w3,hrun,hown3,hbl3⟩:=appSlP _ 0 n1 [] xs A1 c1 w.heap.size wr hown ((H1.out.below hbr).more hbr.size) HX.out OX.out (by omega) hbr.size
       have HB3:=hbl3 w hbr (Nat.le_refl _)
       rw [Nat.zero_add,List.nil_append] at hown3
       have HO3:=hide hown3
       clear hown3 hown hbl3
       go_wp2_with (at_builtin;refine wpList_append_run (.tmp 31) (.tmp 32) 25 rfl rfl _ _ rfl rfl hrun ?_)
       clear hrun
       go_wp2
       go_roundw
       case rel=>exact ⟨1,by omega,by go_num,HO3.out,HB3⟩
       case measure=>simp [intOf]
     · obtain ⟨v3,w3,hrun,hown3,hbl3⟩:=appSlP _ n1 n2 xs ys A2 c2 w.heap.size wr hown ((H2.out.below hbr).more hbr.size) HY.out OY.out (by omega) hbr.size
       have HB3:=hbl3 w hbr (Nat.le_refl _)
       have HO3:=hide hown3
       clear hown3 hown hbl3
       go_wp2_with (at_builtin;refine wpList_append_run (.tmp 31) (.tmp 32) 25 rfl rfl _ _ rfl rfl hrun ?_)
       clear hrun
       go_wp2
       go_roundw
       case rel=>exact ⟨2,by omega,by go_num,HO3.out,HB3⟩
       case measure=>simp [intOf]
     · have HO3:=hide hown
       clear hown
       go_wp2
       go_ret
       exact ⟨_,rfl,HO3.out,hbr⟩
end
section
open Go.RowKit Go.Shelf
def rvQ (p:Nat→Pt) (n k j:Nat):Pt:=if j<k∨n<j+k+1 then p (n - 1 - j) else p j
def RvC (p:Nat→Pt) (n k:Nat) (cs:Array Value):Prop:=∀ j,j<n→cs[j*2]?=some (.int .i64 (rvQ p n k j).1)∧cs[j*2+1]?=some (.int .i64 (rvQ p n k j).2)
theorem rv_end {p:Nat→Pt} {n k:Nat} {cs:Array Value} (h:RvC p n k cs) (hk:n≤2*k+1):∀ j,j<n→cs[j*2]?=some (.int .i64 (p (n - 1 - j)).1)∧cs[j*2+1]?=some (.int .i64 (p (n - 1 - j)).2):=fun j hj=>by
 have h1:=h j hj
 unfold rvQ at h1
 by_cases c:j<k∨n<j+k+1
 · rw [if_pos c] at h1;exact h1
 · rw [if_neg c] at h1
   have:n - 1 - j=j:=by omega
   rw [this];exact h1
theorem rv_step {p:Nat→Pt} {n k:Nat} {cs cs':Array Value} (h:RvC p n k cs) (hk:2*k+1<n)
 (h1:cs'[k*2]?=some (.int .i64 (p (n - 1 - k)).1)) (h2:cs'[k*2+1]?=some (.int .i64 (p (n - 1 - k)).2)) (h3:cs'[(n - 1 - k)*2]?=some (.int .i64 (p k).1)) (h4:cs'[(n - 1 - k)*2+1]?=some (.int .i64 (p k).2))
 (ho:∀ x,x≠k*2→x≠k*2+1→x≠(n - 1 - k)*2→x≠(n - 1 - k)*2+1→cs'[x]?=cs[x]?):RvC p n (k+1) cs':=fun j hj=>by
 by_cases e1:j=k
 · subst e1
   unfold rvQ
   rw [if_pos (by omega)]
   exact ⟨h1,h2⟩
 by_cases e2:j=n - 1 - k
 · subst e2
   have:n - 1 - (n - 1 - k)=k:=by omega
   unfold rvQ
   rw [if_pos (by omega),this]
   exact ⟨h3,h4⟩
 rw [ho _ (by omega) (by omega) (by omega) (by omega),ho _ (by omega) (by omega) (by omega) (by omega)]
 have h0:=h j hj
 unfold rvQ at h0 ⊢
 by_cases c:j<k∨n<j+k+1
 · rw [if_pos c] at h0;rw [if_pos (by omega)];exact h0
 · rw [if_neg c] at h0;rw [if_neg (by omega)];exact h0
theorem revPts (p:Nat→Pt) (n cap g:Nat) (cs:Array Value) (w:World) (hn:n≤1000) (h1:1≤n) (B:Blk w g 69 cs) (hc:RvC p n 0 cs) :
 Calls Tryz.prog 41 #[.slice (some ⟨g,0,none⟩) n cap] w fun e w'=>e=.returned (.tuple #[])∧KeepP (fun b=>b≠g) w w'∧∃ cs',Blk w' g 69 cs'∧∀ j,j<n→cs'[j*2]?=some (.int .i64 (p (n - 1 - j)).1)∧cs'[j*2+1]?=some (.int .i64 (p (n - 1 - j)).2):=by
 have HC:=hide hc;have HB:=hide B
 clear hc B
 go_enter Tryz.func41,Tryz.ntmps41
 go_wp2
 go_loopw [2,3] (fun i j wr=>∃ (k:Nat) (cr:Array Value),2*k≤n∧i=.int .i64 (k:Int)∧j=.int .i64 ((n:Int) - 1 - (k:Int))∧Blk wr g 69 cr∧RvC p n k cr∧KeepP (fun b=>b≠g) w wr)
  (fun i _ _=>n - (intOf i).toNat)
 case atStart=>exact ⟨0,cs,by omega,rfl,by go_num,HB.out,HC.out,KeepP.refl _ _⟩
 case round =>
  obtain ⟨k,cr,hk,rfl,rfl,Br,hcr,hbr⟩:=hrel
  by_cases hkn:2*k+1<n
  · have hlt:(k:Int)<(n:Int) - 1 - (k:Int):=by omega
    obtain ⟨m,hm⟩:∃ m:Nat,m=n - 1 - k:=⟨_,rfl⟩
    have hmi:(n:Int) - 1 - (k:Int)=(m:Int):=by omega
    rw [hmi] at hlt ⊢
    obtain ⟨x,hx⟩:∃ x,x=p k:=⟨_,rfl⟩
    obtain ⟨y,hy⟩:∃ y,y=p m:=⟨_,rfl⟩
    have e1:=hcr k (by omega)
    have e2:=hcr m (by omega)
    unfold rvQ at e1 e2
    rw [if_neg (by omega),← hx] at e1
    rw [if_neg (by omega),← hy] at e2
    obtain ⟨x0,x1⟩:=x
    obtain ⟨y0,y1⟩:=y
    dsimp only at e1 e2
    have c0:=Br.cell e1.1
    have c1:=Br.cell e1.2
    have c2:=Br.cell e2.1
    have c3:=Br.cell e2.2
    have f0:=Br.frozen (k*2)
    have f1:=Br.frozen (k*2+1)
    have f2:=Br.frozen (m*2)
    have f3:=Br.frozen (m*2+1)
    have hkm:k<m:=by omega
    have hmn:m<n:=by omega
    have HR:=hide hcr;have HBr:=hide Br;have HBB:=hide hbr;have HE1:=hide e1;have HE2:=hide e2;have HM:=hide hm;have HX:=hide hx;have HY:=hide hy;have HMI:=hide hmi
    clear hcr Br hbr e1 e2 hm hx hy hmi
    go_wp2_with fail
    go_region
    have Bf:=((((HBr.out.set (k*2) (.int .i64 y0)).set (k*2+1) (.int .i64 y1)).set (m*2) (.int .i64 x0)).set (m*2+1) (.int .i64 x1)).drew
    have hng:¬ ((fun b=>b≠g) g):=fun h=>h rfl
    have hbf:=((((HBB.out.trans (KeepP.setCell (P:=fun b=>b≠g) hng (k*2) (.int .i64 y0) _)).trans (KeepP.setCell (P:=fun b=>b≠g) hng (k*2+1) (.int .i64 y1) _)).trans (KeepP.setCell (P:=fun b=>b≠g) hng (m*2) (.int .i64 x0) _)).trans (KeepP.setCell (P:=fun b=>b≠g) hng (m*2+1) (.int .i64 x1) _)).trans (KeepP.drew _ _)
    have hsz:m*2+1<cr.size:=(Array.getElem?_eq_some_iff.1 HE2.out.2).1
    have hR:RvC p n (k+1) ((((cr.setIfInBounds (k*2) (.int .i64 y0)).setIfInBounds (k*2+1) (.int .i64 y1)).setIfInBounds (m*2) (.int .i64 x0)).setIfInBounds (m*2+1) (.int .i64 x1)):=by
     refine rv_step HR.out (by omega) ?_ ?_ ?_ ?_ ?_
     · rw [← HM.out,← HY.out]
       rw [Array.getElem?_setIfInBounds,if_neg (by omega),Array.getElem?_setIfInBounds,if_neg (by omega),Array.getElem?_setIfInBounds,if_neg (by omega),Array.getElem?_setIfInBounds,if_pos rfl,if_pos (by omega)]
     · rw [← HM.out,← HY.out]
       rw [Array.getElem?_setIfInBounds,if_neg (by omega),Array.getElem?_setIfInBounds,if_neg (by omega),Array.getElem?_setIfInBounds,if_pos rfl,if_pos (by simp;omega)]
     · rw [← HM.out,← HX.out]
       rw [Array.getElem?_setIfInBounds,if_neg (by omega),Array.getElem?_setIfInBounds,if_pos rfl,if_pos (by simp;omega)]
     · rw [← HM.out,← HX.out]
       rw [Array.getElem?_setIfInBounds,if_pos rfl,if_pos (by simp;omega)]
     · intro z z1 z2 z3 z4
       rw [← HM.out] at z3 z4
       rw [Array.getElem?_setIfInBounds,if_neg (by omega),Array.getElem?_setIfInBounds,if_neg (by omega),Array.getElem?_setIfInBounds,if_neg (by omega),Array.getElem?_setIfInBounds,if_neg (by omega)]
    have HREL:=hide (And.intro Bf (And.intro hR hbf))
    have hm2:(m:Int) - 1=(n:Int) - 1 - ((k+1:Nat):Int):=by have:=HM.out;omega
    clear Bf hR hbf f0 f1 f2 f3 c0 c1 c2 c3 hsz
    go_wp2
    go_roundw
    case rel=>exact ⟨k+1,_,by omega,by go_num,by rw [← hm2];go_num,HREL.out.1,HREL.out.2.1,HREL.out.2.2⟩
    case measure=>simp [intOf];omega
  · have hge:¬ (k:Int)<(n:Int) - 1 - (k:Int):=by omega
    have hE:=rv_end hcr (by omega)
    have HREL:=hide (And.intro hbr (And.intro Br hE))
    clear hcr Br hbr hE
    go_wp2
    go_end0
    exact ⟨rfl,HREL.out.1,cr,HREL.out.2.1,HREL.out.2.2⟩
end
end Go.Proofs.YtpnoofphfomjoaaGreatDoor
