/- Concat -/
import Derived.Lib.AppendZerosOnto
import Derived.Test.YtfljlmleiggmjaaGreatDoorPkA08
import Derived.Test.YtfljlmleiggmjaaGreatDoorPkA29
set_option maxRecDepth 1000000
set_option maxHeartbeats 8000000
namespace Go.Proofs.YtfljlmleiggmjaaGreatDoor
section
open Go.RowKit Go.Shelf
theorem wpList_append_run2 {P:Program} {ops:Array Oper} {rest:List Oper} {o:Oper} {a:Act} {Q:Exit→Act→World→Prop} {w:World} (s x:Operand) (t t2:TypeId)
 (hop:o.op=Op.call { callee:=Callee.builtin Builtin.append,args:=#[s,x],argTypes:=#[t,t2] }) (hw:Region.wanted o (yielded ops a.tmps)=true) (v xv:Value) (hs:a.eval s=v) (hx:a.eval x=xv) {v':Value} {w':World}
 (hrun:(Builtin.append_ #[t,t2] o.type #[v,xv]).run P w=.ok v' w') (h:wpList P ops Q rest (a.put o.dst v') w'):wpList P ops Q (o::rest) a w:=by
 unfold wpList
 rw [if_pos hw]
 left
 unfold Oper.wp
 simp [execOp,hop,resolve,invoke,builtin,hs,hx,hrun,Result.andThen]
 exact h
theorem growB (n:Nat) (h0:0<n) (hn:n≤100000) (w:World):Calls Tryz.prog 61 #[.slice none 0 0,.int .i64 (n:Int)] w fun e w'=>∃ v,e=.returned v∧w'.ownsRow w.heap.size 5 1 v 0 []∧Below w.heap.size w w':=by
 obtain ⟨i0,hi,hz0,hz1,hz2⟩:=info_parts u8_info
 have hrun:=Lib.run_append_grow_zeros (P:=Tryz.prog) w 36 3 36 5 i0 (.int .u8 0) .i64 .i64 Tryz.underlying36 Tryz.underlying3 hi hz0 none 0 0 [] (run_firstCells_none w.drew i0.size 0 0 0) n h0 (by omega) (by omega) (by omega) (by rw [hz2];omega) (growslice_fits (by omega) (by rw [hz2];omega))
 have hge:0+n≤grownCap w (0+n) 0 5:=grownCap_ge w _ _ _
 have hle:grownCap w (0+n) 0 5≤maxLen:=grownCap_le_maxLen w (0+n) 0 5 (by unfold maxLen;omega)
 obtain ⟨G,hG⟩:∃ G,G=grownCap w (0+n) 0 5:=⟨_,rfl⟩
 rw [← hG] at hrun hge hle
 rw [Nat.zero_add] at hrun hge
 clear hG
 obtain ⟨w2,hw2⟩:∃ w2,w2=w.drew.alloc (.cells (([]:List Value).toArray++Builtin.zeroCells (Value.cells (.int .u8 0)) n++Builtin.zeroCells (Value.cells (.int .u8 0)) (G - n)) 5):=⟨_,rfl⟩
 rw [← hw2] at hrun
 have hb2:Below w.heap.size w w2:=by rw [hw2];exact bl_alloc (bl_drew (Below.refl _ _)) _
 have hown:w2.ownsRow w.heap.size 5 1 (.slice (some ⟨w.heap.size,0,none⟩) 0 G) 0 []:=by
  rw [hw2]
  refine ⟨rfl,.inr ⟨w.heap.size,G,_,rfl,Nat.le_refl _,Blk.new w.drew 5 _,Nat.zero_le _,hle,?_,by simp⟩⟩
  simp [Builtin.zeroCells,Value.cells]
  omega
 have hni:¬ ((n:Int)<0):=by omega
 have hnp:(0:Int)<(n:Int):=by omega
 have hGi:(0:Int)≤(G:Int):=by omega
 clear hw2 hle
 go_enter Tryz.func61,Tryz.ntmps61
 go_wp2_with (at_builtin;refine wpList_append_run2 (.tmp 20) (.tmp 21) 36 3 rfl rfl _ _ rfl rfl hrun ?_)
 clear hrun
 go_wp2
 go_ret
 exact ⟨_,rfl,hown,hb2⟩
theorem appSlB (v:Value) (n m:Nat) (xs ys:List Value) (A:Option Addr) (c:Nat) (B:Nat) (w:World) (h1:w.ownsRow B 5 1 v n xs) (hs:Sl w w.heap.size A ys) (hy:ys.length=m*1) (oy:∀ u∈ys,u.oneCell'=true) (hn:n+m≤1000000) (hB:B≤w.heap.size) :
 ∃ v3 w3,(Builtin.append_ #[36,36] 36 #[v,.slice A m c]).run Tryz.prog w=.ok v3 w3∧w3.ownsRow B 5 1 v3 (n+m) (xs++ys)∧∀ w0:World,Below w0.heap.size w0 w→w0.heap.size≤B→Below w0.heap.size w0 w3:=by
 obtain ⟨i0,hi,hz0',hz1',hz2'⟩:=info_parts u8_info
 cases A with
 | none =>
   have he:ys=[]:=by
    rcases hs with h | ⟨b,off,hA,_⟩
    · exact h
    · cases hA
   subst he
   have hm:m=0:=by simp at hy;omega
   subst hm
   rw [List.append_nil]
   exact ⟨v,w,run_append_owned_none (P:=Tryz.prog) w B 36 36 5 i0 1 Tryz.underlying36 hi _ _ _ h1,h1,fun w h _=>h⟩
 | some a =>
   have hcells:∀ j u,ys[j]?=some u→w.cell? (a.add j)=some u:=fun j u hu=>by
    rcases hs with h | ⟨b',off',hA,_,hc⟩
    · rw [h] at hu;simp at hu
    · cases hA
      have e:(⟨b',off',none⟩:Addr).add j=⟨b',off'+j,none⟩:=by unfold Addr.add;split <;> simp_all
      rw [e]
      exact hc j u hu
   obtain ⟨v3,w3,hrun,hown3,hgrow3,_⟩:=run_append_own (P:=Tryz.prog) w B 36 36 5 i0 (.int .u8 0) 1 1 Tryz.underlying36 hi hz0' hz1' hz2' rfl (by decide) v n xs h1 a m c ys hy hcells oy (by unfold maxLen;omega) (by omega) hB
   exact ⟨v3,w3,hrun,hown3,fun w0 h hwB=>h.grown hgrow3 h.size (fun j hj=>Nat.le_trans hwB (own_base h1 hj))⟩
theorem concatB (xs ys:List Value) (n1 n2:Nat) (hx:xs.length=n1*1) (hy:ys.length=n2*1) (ox:∀ u∈xs,u.oneCell'=true) (oy:∀ u∈ys,u.oneCell'=true) (A1 A2:Option Addr) (c1 c2 b:Nat) (w:World)
 (B:Blk w b 36 #[.slice A1 n1 c1,.slice A2 n2 c2]) (h1:Sl w w.heap.size A1 xs) (h2:Sl w w.heap.size A2 ys) (hpos:0<n1+n2) (hn:n1+n2≤100000) :
 Calls Tryz.prog 31 #[.slice (some ⟨b,0,none⟩) 2 2] w fun e w'=>∃ v,e=.returned v∧w'.ownsRow w.heap.size 5 1 v (n1+n2) (xs++ys)∧Below w.heap.size w w':=by
 have HG:=hide (growB (n1+n2) hpos (by omega) w)
 have H1:=hide h1;have H2:=hide h2;have HX:=hide hx;have HY:=hide hy;have OX:=hide ox;have OY:=hide oy
 have c0:=B.cell (i:=0) rfl
 have c1':=B.cell (i:=1) rfl
 have HBB:=hide B
 have HBB0:=hide B
 have HBL:=hide B.lt
 clear h1 h2 hx hy ox oy B
 go_enter Tryz.func31,Tryz.ntmps31
 go_wp2
 go_loopw [3,11] (fun s i wr=>∃ k:Nat,k≤2∧i=.int .i64 (k:Int)∧s=.int .i64 ((if k=0 then 0 else if k=1 then n1 else n1+n2:Nat):Int)∧wr=w)
  (fun _ i _=>2 - (intOf i).toNat)
 case atStart=>exact ⟨0,by omega,rfl,rfl,rfl⟩
 case round =>
  obtain ⟨k,hk,rfl,rfl,hwz⟩:=hrel
  have hwz2:=hwz.symm
  clear hwz
  subst hwz2
  rcases (by omega:k=0∨k=1∨k=2) with rfl | rfl | rfl
  · go_wp2
    go_roundw
    case rel=>exact ⟨1,by omega,by go_num,by go_num,trivial⟩
    case measure=>simp [intOf]
  · go_wp2
    go_roundw
    case rel=>exact ⟨2,by omega,by go_num,by go_num,trivial⟩
    case measure=>simp [intOf]
  · go_wp2_with fail
    refine HG.out.mono ?_
    rintro e w1 ⟨v1,rfl,hown1,hb1⟩
    have HO1:=hide hown1
    clear hown1 HG
    have HBB1:=hide (HBB.out.step hb1)
    clear c0 c1' HBB
    go_wp2
    go_loopw [6,27] (fun v i wr=>∃ k:Nat,k≤2∧i=.int .i64 (k:Int)∧wr.ownsRow w.heap.size 5 1 v (if k=0 then 0 else if k=1 then n1 else n1+n2) (if k=0 then [] else if k=1 then xs else xs++ys)∧Below w.heap.size w wr)
     (fun _ i _=>2 - (intOf i).toNat)
    case atStart=>exact ⟨0,by omega,rfl,HO1.out,hb1⟩
    case round =>
     clear HO1
     obtain ⟨k,hk,rfl,hown,hbr⟩:=hrel
     have hBr:Blk wr b 36 #[.slice A1 n1 c1,.slice A2 n2 c2]:=HBB0.out.below hbr HBL.out
     have c0:=hBr.cell (i:=0) rfl
     have c1':=hBr.cell (i:=1) rfl
     rcases (by omega:k=0∨k=1∨k=2) with rfl | rfl | rfl
     · obtain ⟨v3,w3,hrun,hown3,hbl3⟩:=appSlB _ 0 n1 [] xs A1 c1 w.heap.size wr hown ((H1.out.below hbr).more hbr.size) HX.out OX.out (by omega) hbr.size
       have HB3:=hbl3 w hbr (Nat.le_refl _)
       rw [Nat.zero_add,List.nil_append] at hown3
       have HO3:=hide hown3
       clear hown3 hown hbl3
       go_wp2_with (at_builtin;refine wpList_append_run (.tmp 31) (.tmp 32) 36 rfl rfl _ _ rfl rfl hrun ?_)
       clear hrun
       go_wp2
       go_roundw
       case rel=>exact ⟨1,by omega,by go_num,HO3.out,HB3⟩
       case measure=>simp [intOf]
     · obtain ⟨v3,w3,hrun,hown3,hbl3⟩:=appSlB _ n1 n2 xs ys A2 c2 w.heap.size wr hown ((H2.out.below hbr).more hbr.size) HY.out OY.out (by omega) hbr.size
       have HB3:=hbl3 w hbr (Nat.le_refl _)
       have HO3:=hide hown3
       clear hown3 hown hbl3
       go_wp2_with (at_builtin;refine wpList_append_run (.tmp 31) (.tmp 32) 36 rfl rfl _ _ rfl rfl hrun ?_)
       clear hrun
       go_wp2
       go_roundw
       case rel=>exact ⟨2,by omega,by go_num,HO3.out,HB3⟩
       case measure=>simp [intOf]
     · have HO3:=hide hown
       clear hown
       go_wp2
       go_ret
       exact ⟨_,rfl,HO3.out,hbr⟩
end
end Go.Proofs.YtfljlmleiggmjaaGreatDoor
