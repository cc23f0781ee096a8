/- Take Points -/
import Derived.Deep.AppendLies
import Derived.Test.YtfljlmleiggmjaaGreatDoorPkC08
set_option maxRecDepth 1000000
set_option maxHeartbeats 8000000
namespace Go.Proofs.YtfljlmleiggmjaaGreatDoor
section
open Go.RowKit
def eight (bs:List Int) (k:Nat):List Int:=(bs.drop k).take 8
theorem eight_len {bs:List Int} {k:Nat} (h:k+8≤bs.length):(eight bs k).length=8:=by unfold eight;rw [List.length_take,List.length_drop];omega
theorem eight_by {bs:List Int} (h:By bs) (k:Nat):By (eight bs k):=(h.drop _).take _
theorem eight_split (bs:List Int) (k:Nat):bs.drop k=eight bs k++bs.drop (k+8):=by
 unfold eight
 rw [← List.drop_drop,List.take_append_drop]
def ptRd (bs:List Int) (i:Nat):Int × Int:=(i64w (le (eight bs (16*i))),i64w (le (eight bs (16*i+8))))
def quAt (bs:List Int) (i:Nat):(Int × Int) × Int:=((i64w (le (eight bs (24*i))),i64w (le (eight bs (24*i+8)))),le (eight bs (24*i+16)))
def ptsOf (bs:List Int) (n:Nat):List (Int × Int):=(List.range n).map (ptRd bs)
def qusOf (bs:List Int) (n:Nat):List ((Int × Int) × Int):=(List.range n).map (quAt bs)
theorem ptsOf_length (bs:List Int) (n:Nat):(ptsOf bs n).length=n:=by simp [ptsOf]
theorem ptsOf_get (bs:List Int) {n i:Nat} (h:i<n):(ptsOf bs n)[i]?=some (ptRd bs i):=by simp [ptsOf,h]
theorem qusOf_length (bs:List Int) (n:Nat):(qusOf bs n).length=n:=by simp [qusOf]
theorem qusOf_get (bs:List Int) {n i:Nat} (h:i<n):(qusOf bs n)[i]?=some (quAt bs i):=by simp [qusOf,h]
theorem pt_split (bs:List Int) (k:Nat):bs.drop (16*k)=eight bs (16*k)++(eight bs (16*k+8)++bs.drop (16*(k+1))):=by
 rw [show 16*(k+1)=16*k+8+8 by omega,← eight_split,← eight_split]
theorem qu_split (bs:List Int) (k:Nat):bs.drop (24*k)=eight bs (24*k)++(eight bs (24*k+8)++(eight bs (24*k+16)++bs.drop (24*(k+1)))):=by
 rw [show 24*(k+1)=24*k+16+8 by omega,← eight_split,show 24*k+16=24*k+8+8 by omega,← eight_split,← eight_split]
theorem pt_info:(Tryz.prog.info? 123).map (fun i=>(i.zero,i.size,i.bytes))=some (some (.agg #[.int .i64 0,.int .i64 0]),2,16):=by kernel_rfl
theorem make_pts (n:Nat) (hn:n≤1000000) (w:World):(Instr.makeSlice 59 (.int .i64 (n:Int)) (.int .i64 (n:Int))).run Tryz.prog w=.ok (.slice (some ⟨w.heap.size,0,none⟩) n n) (w.alloc (.cells (madeCells #[.int .i64 0,.int .i64 0] (n*2)) 123)):=by
 obtain ⟨i,hi,hz0,hz1,hz2⟩:=info_parts pt_info
 have h:=run_make (P:=Tryz.prog) w 59 123 i _ Tryz.underlying59 hi hz0 .i64 .i64 n n (by omega) (Int.le_refl _) (by rw [hz2];omega) (by omega)
 rw [hz1] at h
 simpa [Value.cells] using h
def TookPt (P:Nat→Prop) (B g:Nat) (bs:List Int) (n:Nat) (w:World) (e:Ending) (w':World):Prop :=
 ∃ A,e=.returned (.slice A n n)∧KeepP P w w'∧RS w' P B g (bs.drop (16*n))∧Sl w' w'.heap.size A (ptCs (ptsOf bs n))∧∀ x,A=some x→w.heap.size≤x.block∧x.block≠g
section
variable (P:Nat→Prop) (B g:Nat) (w:World) (hB:∀ k,k<B→P k)
include hB
theorem takePt_any (bs:List Int) (n:Nat) (hn:16*n≤bs.length) (hbl:bs.length≤700000) (hby:By bs) (hP:∀ k,P k→k<w.heap.size) (hr:RS w P B g bs) :
 Calls Tryz.prog 98 #[.int .i64 (n:Int),.func (.func 99) #[.pointer (some ⟨g,0,none⟩)] #[]] w (TookPt P B g bs n w):=by
 have hmk:=make_pts n (by omega)
 obtain ⟨w0,hw0⟩:∃ w0,w0=w.alloc (.cells (madeCells #[.int .i64 0,.int .i64 0] (n*2)) 123):=⟨_,rfl⟩
 have hb:Below w.heap.size w w0:=by rw [hw0];exact bA
 have hz:w0.heap.size=w.heap.size+1:=by rw [hw0];simp
 have B0:Blk w0 w.heap.size 123 (madeCells #[.int .i64 0,.int .i64 0] (n*2)):=by rw [hw0];exact Blk.new _ _ _
 have hgs:g≠w.heap.size:=by have:=hr.lt;omega
 have hnP:¬ P w.heap.size:=fun h=>by have:=hP _ h;omega
 have hr0:RS w0 P B g bs:=hr.step hb hB hP
 have hP0:∀ k,Plus P w.heap.size k→k<w0.heap.size:=fun k hk=>by
  rcases hk with hk | hk
  · have:=hP k hk;omega
  · omega
 have hBp:∀ k,k<B→Plus P w.heap.size k:=fun k hk=>.inl (hB k hk)
 have k0:KeepP P w w0:=KeepP.of_below hb hP
 have HP:=hide hP;have HP0:=hide hP0;have HB:=hide hB;have HBP:=hide hBp;have HZ:=hide hz;have HBY:=hide hby;have HGS:=hide hgs;have HNP:=hide hnP
 clear hP hP0 hB hBp hz hby hgs hnP
 go_enter Tryz.func98,Tryz.ntmps98
 go_wp2
 rw [← hw0]
 have HW0:=hide hw0;clear hw0
 go_loopw [11] (fun i wr=>∃ (k:Nat) (cs:Array Value),k≤n∧i=.int .i64 k∧KeepP P w wr∧RS wr P B g (bs.drop (16*k))∧Blk wr w.heap.size 123 cs∧cs.size=n*2∧∀ j,j<k→cs[j*2]?=some (.int .i64 (ptRd bs j).1)∧cs[j*2+1]?=some (.int .i64 (ptRd bs j).2))
  (fun i _=>n - (intOf i).toNat)
 case atStart=>exact ⟨0,_,by omega,rfl,k0,by simpa using hr0,B0,size_madeCells _ _,fun j hj=>by omega⟩
 case round =>
  obtain ⟨k,cs,hk,rfl,hkp,hrs,hblk,hsz,hcs⟩:=hrel
  have HCS:=hide hcs;clear hcs
  by_cases hlt:k<n
  · have hsp:=pt_split bs k
    rw [hsp] at hrs
    have hl0:(eight bs (16*k)).length=8:=eight_len (by omega)
    have hl1:(eight bs (16*k+8)).length=8:=eight_len (by omega)
    have hPr:∀ j,Plus P w.heap.size j→j<wr.heap.size:=fun j hj=>Nat.lt_of_lt_of_le (HP0.out j hj) (by have:=hkp.size;have:=hblk.lt;have:=HZ.out;omega)
    have C:=rdpoint_any (Plus P w.heap.size) B g wr HBP.out (eight bs (16*k)) (eight bs (16*k+8)) (bs.drop (16*(k+1))) hl0 hl1 (eight_by HBY.out _) (eight_by HBY.out _) hPr (hrs.plus HGS.out) (by rw [List.length_drop];omega)
    have C':Calls Tryz.prog 99 #[.pointer (some ⟨g,0,none⟩)] wr fun e w'=>e=.returned (.agg #[.int .i64 (ptRd bs k).1,.int .i64 (ptRd bs k).2])∧KeepP (Plus P w.heap.size) wr w'∧RS w' (Plus P w.heap.size) B g (bs.drop (16*(k+1))):=C
    have HC:=hide C'
    have HSP:=hide hsp
    clear C C' hl0 hl1 hPr hsp
    go_wp2_with fail
    refine HC.out.mono ?_
    rintro e w1 ⟨rfl,k1,r1⟩
    have B1:=hblk.kept k1 (.inr rfl)
    have q0:k*2<cs.size:=by omega
    have c0:=B1.cell (i:=k*2) (Array.getElem?_eq_getElem q0)
    have f0:=B1.frozen (k*2)
    have q1:k*2+1<cs.size:=by omega
    have c1:=B1.cell (i:=k*2+1) (Array.getElem?_eq_getElem q1)
    have f1:=B1.frozen (k*2+1)
    have hkn:(k:Int)<(n:Int):=by omega
    have r1':=r1.mono (R:=P) (fun j hj=>.inl hj)
    have r2:=((r1'.far HGS.out HNP.out HB.out (k*2) (.int .i64 (ptRd bs k).1)).far HGS.out HNP.out HB.out (k*2+1) (.int .i64 (ptRd bs k).2))
    have B2:=((B1.set (k*2) (.int .i64 (ptRd bs k).1)).set (k*2+1) (.int .i64 (ptRd bs k).2))
    have k2:=(((k1.mono (R:=P) (fun j hj=>.inl hj)).trans (KeepP.set HNP.out (k*2) (.int .i64 (ptRd bs k).1) _)).trans (KeepP.set HNP.out (k*2+1) (.int .i64 (ptRd bs k).2) _))
    have H2:=hide r2;have HK2:=hide k2;have HB2:=hide B2
    clear r1 r1' r2 k2 B2
    go_wp2
    go_roundw
    case rel =>
     refine ⟨k+1,_,by omega,by go_num,hkp.trans HK2.out,H2.out,HB2.out,by simpa using hsz,fun j hj=>?_⟩
     simp only [Array.getElem?_setIfInBounds,Array.size_setIfInBounds]
     by_cases hjk:j=k
     · subst hjk
       refine ⟨?_,?_⟩
       · rw [if_neg (by omega),if_pos rfl,if_pos q0]
       · rw [if_pos rfl,if_pos q1]
     · have:=HCS.out j (by omega)
       refine ⟨?_,?_⟩
       · rw [if_neg (by omega),if_neg (by omega)];exact this.1
       · rw [if_neg (by omega),if_neg (by omega)];exact this.2
    case measure=>simp [intOf];omega
  · have hk':k=n:=by omega
    subst hk'
    go_wp2
    go_ret
    refine ⟨_,rfl,hkp,hrs,?_,fun x hx=>by cases hx;exact ⟨Nat.le_refl _,fun h=>HGS.out h.symm⟩⟩
    refine sl_of_cells hblk (pairs_get (fun p:Int × Int=>[.int .i64 p.1,.int .i64 p.2]) 2 (by omega) (fun _=>rfl) _ _ fun i a ha j hj=>?_)
    have hi:i<k:=by have:=(List.getElem?_eq_some_iff.1 ha).1;rw [ptsOf_length] at this;exact this
    rw [ptsOf_get bs hi] at ha
    have ha':ptRd bs i=a:=by simpa using ha
    have:=HCS.out i hi
    rw [ha'] at this
    match j,hj with
    | 0,_=>exact this.1
    | 1,_=>exact this.2
end
theorem qu_info:(Tryz.prog.info? 127).map (fun i=>(i.zero,i.size,i.bytes))=some (some (.agg #[.int .i64 0,.int .i64 0,.int .u64 0]),3,24):=by kernel_rfl
theorem make_qus (n:Nat) (hn:n≤1000000) (w:World):(Instr.makeSlice 71 (.int .i64 (n:Int)) (.int .i64 (n:Int))).run Tryz.prog w=.ok (.slice (some ⟨w.heap.size,0,none⟩) n n) (w.alloc (.cells (madeCells #[.int .i64 0,.int .i64 0,.int .u64 0] (n*3)) 127)):=by
 obtain ⟨i,hi,hz0,hz1,hz2⟩:=info_parts qu_info
 have h:=run_make (P:=Tryz.prog) w 71 127 i _ Tryz.underlying71 hi hz0 .i64 .i64 n n (by omega) (Int.le_refl _) (by rw [hz2];omega) (by omega)
 rw [hz1] at h
 simpa [Value.cells] using h
def TookQu (P:Nat→Prop) (B g:Nat) (bs:List Int) (n:Nat) (w:World) (e:Ending) (w':World):Prop :=
 ∃ A,e=.returned (.slice A n n)∧KeepP P w w'∧RS w' P B g (bs.drop (24*n))∧Sl w' w'.heap.size A (quCs (qusOf bs n))∧∀ x,A=some x→w.heap.size≤x.block∧x.block≠g
section
variable (P:Nat→Prop) (B g:Nat) (w:World) (hB:∀ k,k<B→P k)
include hB
theorem takeQu_any (bs:List Int) (n:Nat) (hn:24*n≤bs.length) (hbl:bs.length≤700000) (hby:By bs) (hP:∀ k,P k→k<w.heap.size) (hr:RS w P B g bs) :
 Calls Tryz.prog 101 #[.int .i64 (n:Int),.func (.func 102) #[.pointer (some ⟨g,0,none⟩)] #[]] w (TookQu P B g bs n w):=by
 have hmk:=make_qus n (by omega)
 obtain ⟨w0,hw0⟩:∃ w0,w0=w.alloc (.cells (madeCells #[.int .i64 0,.int .i64 0,.int .u64 0] (n*3)) 127):=⟨_,rfl⟩
 have hb:Below w.heap.size w w0:=by rw [hw0];exact bA
 have hz:w0.heap.size=w.heap.size+1:=by rw [hw0];simp
 have B0:Blk w0 w.heap.size 127 (madeCells #[.int .i64 0,.int .i64 0,.int .u64 0] (n*3)):=by rw [hw0];exact Blk.new _ _ _
 have hgs:g≠w.heap.size:=by have:=hr.lt;omega
 have hnP:¬ P w.heap.size:=fun h=>by have:=hP _ h;omega
 have hr0:RS w0 P B g bs:=hr.step hb hB hP
 have hP0:∀ k,Plus P w.heap.size k→k<w0.heap.size:=fun k hk=>by
  rcases hk with hk | hk
  · have:=hP k hk;omega
  · omega
 have hBp:∀ k,k<B→Plus P w.heap.size k:=fun k hk=>.inl (hB k hk)
 have k0:KeepP P w w0:=KeepP.of_below hb hP
 have HP:=hide hP;have HP0:=hide hP0;have HB:=hide hB;have HBP:=hide hBp;have HZ:=hide hz;have HBY:=hide hby;have HGS:=hide hgs;have HNP:=hide hnP
 clear hP hP0 hB hBp hz hby hgs hnP
 go_enter Tryz.func101,Tryz.ntmps101
 go_wp2
 rw [← hw0]
 have HW0:=hide hw0;clear hw0
 go_loopw [11] (fun i wr=>∃ (k:Nat) (cs:Array Value),k≤n∧i=.int .i64 k∧KeepP P w wr∧RS wr P B g (bs.drop (24*k))∧Blk wr w.heap.size 127 cs∧cs.size=n*3∧∀ j,j<k→cs[j*3]?=some (.int .i64 (quAt bs j).1.1)∧cs[j*3+1]?=some (.int .i64 (quAt bs j).1.2)∧cs[j*3+2]?=some (.int .u64 (quAt bs j).2))
  (fun i _=>n - (intOf i).toNat)
 case atStart=>exact ⟨0,_,by omega,rfl,k0,by simpa using hr0,B0,size_madeCells _ _,fun j hj=>by omega⟩
 case round =>
  obtain ⟨k,cs,hk,rfl,hkp,hrs,hblk,hsz,hcs⟩:=hrel
  have HCS:=hide hcs;clear hcs
  by_cases hlt:k<n
  · have hsp:=qu_split bs k
    rw [hsp] at hrs
    have hl0:(eight bs (24*k)).length=8:=eight_len (by omega)
    have hl1:(eight bs (24*k+8)).length=8:=eight_len (by omega)
    have hl2:(eight bs (24*k+16)).length=8:=eight_len (by omega)
    have hPr:∀ j,Plus P w.heap.size j→j<wr.heap.size:=fun j hj=>Nat.lt_of_lt_of_le (HP0.out j hj) (by have:=hkp.size;have:=hblk.lt;have:=HZ.out;omega)
    have C:=rdquery_any (Plus P w.heap.size) B g wr HBP.out (eight bs (24*k)) (eight bs (24*k+8)) (eight bs (24*k+16)) (bs.drop (24*(k+1))) hl0 hl1 hl2 (eight_by HBY.out _) (eight_by HBY.out _) (eight_by HBY.out _) hPr (hrs.plus HGS.out) (by rw [List.length_drop];omega)
    have C':Calls Tryz.prog 102 #[.pointer (some ⟨g,0,none⟩)] wr fun e w'=>e=.returned (.agg #[.int .i64 (quAt bs k).1.1,.int .i64 (quAt bs k).1.2,.int .u64 (quAt bs k).2])∧KeepP (Plus P w.heap.size) wr w'∧RS w' (Plus P w.heap.size) B g (bs.drop (24*(k+1))):=C
    have HC:=hide C'
    have HSP:=hide hsp
    clear C C' hl0 hl1 hl2 hPr hsp
    go_wp2_with fail
    refine HC.out.mono ?_
    rintro e w1 ⟨rfl,k1,r1⟩
    have B1:=hblk.kept k1 (.inr rfl)
    have q0:k*3<cs.size:=by omega
    have c0:=B1.cell (i:=k*3) (Array.getElem?_eq_getElem q0)
    have f0:=B1.frozen (k*3)
    have q1:k*3+1<cs.size:=by omega
    have c1:=B1.cell (i:=k*3+1) (Array.getElem?_eq_getElem q1)
    have f1:=B1.frozen (k*3+1)
    have q2:k*3+2<cs.size:=by omega
    have c2:=B1.cell (i:=k*3+2) (Array.getElem?_eq_getElem q2)
    have f2:=B1.frozen (k*3+2)
    have hkn:(k:Int)<(n:Int):=by omega
    have r1':=r1.mono (R:=P) (fun j hj=>.inl hj)
    have r2:=(((r1'.far HGS.out HNP.out HB.out (k*3) (.int .i64 (quAt bs k).1.1)).far HGS.out HNP.out HB.out (k*3+1) (.int .i64 (quAt bs k).1.2)).far HGS.out HNP.out HB.out (k*3+2) (.int .u64 (quAt bs k).2))
    have B2:=(((B1.set (k*3) (.int .i64 (quAt bs k).1.1)).set (k*3+1) (.int .i64 (quAt bs k).1.2)).set (k*3+2) (.int .u64 (quAt bs k).2))
    have k2:=((((k1.mono (R:=P) (fun j hj=>.inl hj)).trans (KeepP.set HNP.out (k*3) (.int .i64 (quAt bs k).1.1) _)).trans (KeepP.set HNP.out (k*3+1) (.int .i64 (quAt bs k).1.2) _)).trans (KeepP.set HNP.out (k*3+2) (.int .u64 (quAt bs k).2) _))
    have H2:=hide r2;have HK2:=hide k2;have HB2:=hide B2
    clear r1 r1' r2 k2 B2
    go_wp2
    go_roundw
    case rel =>
     refine ⟨k+1,_,by omega,by go_num,hkp.trans HK2.out,H2.out,HB2.out,by simpa using hsz,fun j hj=>?_⟩
     simp only [Array.getElem?_setIfInBounds,Array.size_setIfInBounds]
     by_cases hjk:j=k
     · subst hjk
       refine ⟨?_,?_,?_⟩
       · rw [if_neg (by omega),if_neg (by omega),if_pos rfl,if_pos q0]
       · rw [if_neg (by omega),if_pos rfl,if_pos q1]
       · rw [if_pos rfl,if_pos q2]
     · have:=HCS.out j (by omega)
       refine ⟨?_,?_,?_⟩
       · rw [if_neg (by omega),if_neg (by omega),if_neg (by omega)];exact this.1
       · rw [if_neg (by omega),if_neg (by omega),if_neg (by omega)];exact this.2.1
       · rw [if_neg (by omega),if_neg (by omega),if_neg (by omega)];exact this.2.2
    case measure=>simp [intOf];omega
  · have hk':k=n:=by omega
    subst hk'
    go_wp2
    go_ret
    refine ⟨_,rfl,hkp,hrs,?_,fun x hx=>by cases hx;exact ⟨Nat.le_refl _,fun h=>HGS.out h.symm⟩⟩
    refine sl_of_cells hblk (pairs_get (fun p:(Int × Int) × Int=>[.int .i64 p.1.1,.int .i64 p.1.2,.int .u64 p.2]) 3 (by omega) (fun _=>rfl) _ _ fun i a ha j hj=>?_)
    have hi:i<k:=by have:=(List.getElem?_eq_some_iff.1 ha).1;rw [qusOf_length] at this;exact this
    rw [qusOf_get bs hi] at ha
    have ha':quAt bs i=a:=by simpa using ha
    have:=HCS.out i hi
    rw [ha'] at this
    match j,hj with
    | 0,_=>exact this.1
    | 1,_=>exact this.2.1
    | 2,_=>exact this.2.2
end
end
section
open Go.RowKit
def ptOff (bs:List Int) (at_ step i:Nat):Int × Int:=(i64w (le (eight bs (at_+i*step))),i64w (le (eight bs (at_+i*step+8))))
def ptsOff (bs:List Int) (at_ step n:Nat):List (Int × Int):=(List.range n).map (ptOff bs at_ step)
theorem ptsOff_length (bs:List Int) (at_ step n:Nat):(ptsOff bs at_ step n).length=n:=by simp [ptsOff]
theorem ptsOff_succ (bs:List Int) (at_ step n:Nat):ptsOff bs at_ step (n+1)=ptsOff bs at_ step n++[ptOff bs at_ step n]:=by simp [ptsOff,List.range_succ]
def Pointed (ps:List (Int × Int)) (w:World) (e:Ending) (w':World):Prop :=
 ∃ A c,e=.returned (.slice A ps.length c)∧Below w.heap.size w w'∧w'.ownsRow w.heap.size 123 2 (.slice A ps.length c) ps.length (ptCs ps)
theorem rpoints_at (bs:List Int) (A:Option Addr) (c:Nat) (w:World) (hs:Sl w w.heap.size A (byCells bs)) (hby:By bs) (hbl:bs.length≤1000000) (at_ n step:Nat) (hst:step≤100) (h16:16≤step) (hn:at_+n*step≤bs.length) :
 Calls Tryz.prog 78 #[.slice A bs.length c,.int .i64 (at_:Int),.int .i64 (n:Int),.int .i64 (step:Int)] w (Pointed (ptsOff bs at_ step n) w):=by
 have HS:=hide hs;have HBY:=hide hby
 clear hs hby
 have hnn:n≤1000000:=Nat.le_trans (Nat.le_trans (Nat.le_mul_of_pos_right n (by omega:0<step)) (Nat.le_add_left _ at_)) (Nat.le_trans hn hbl)
 have HN:=hide hn
 clear hn
 go_enter Tryz.func78,Tryz.ntmps78
 go_wp2
 go_loopw [9,10] (fun u i wr=>∃ k:Nat,k≤n∧i=.int .i64 k∧Below w.heap.size w wr∧wr.ownsRow w.heap.size 123 2 u k (ptCs (ptsOff bs at_ step k)))
  (fun _ i _=>n - (intOf i).toNat)
 case atStart=>exact ⟨0,by omega,rfl,Below.refl _ _,World.ownsRow_nil _ _ _ _⟩
 case round =>
  obtain ⟨k,hk,rfl,hbr,hown⟩:=hrel
  by_cases hlt:k<n
  · have hks:k*step+step≤n*step:=by
     have:=Nat.mul_le_mul_right step (show k+1≤n from hlt)
     rw [Nat.succ_mul] at this;exact this
    have hln:=HN.out
    obtain ⟨kp,hkp⟩:∃ kp,kp=k*step:=⟨_,rfl⟩
    have hmul:(k:Int)*(step:Int)=(kp:Int):=by rw [hkp];exact (Int.natCast_mul k step).symm
    rw [← hkp] at hks
    have W1:=wordAt_any bs A c wr.heap.size wr ((HS.out.below hbr).more hbr.size) HBY.out hbl (at_+kp) (by omega)
    have W2:=wordAt_any bs A c wr.heap.size wr ((HS.out.below hbr).more hbr.size) HBY.out hbl (at_+kp+8) (by omega)
    rw [show ((at_+kp:Nat):Int)=(at_:Int)+(kp:Int) by omega] at W1
    rw [show ((at_+kp+8:Nat):Int)=(at_:Int)+(kp:Int)+8 by omega] at W2
    obtain ⟨x,hx⟩:∃ x,x=le ((bs.drop (at_+kp)).take 8):=⟨_,rfl⟩
    obtain ⟨y,hy⟩:∃ y,y=le ((bs.drop (at_+kp+8)).take 8):=⟨_,rfl⟩
    rw [← hx] at W1
    rw [← hy] at W2
    have HPT:Hid (ptsOff bs at_ step (k+1)=ptsOff bs at_ step k++[(wrap64 x,wrap64 y)]):=by
     apply hide;rw [ptsOff_succ];unfold ptOff eight i64w;rw [← hkp,← hx,← hy]
    have HW1:=hide W1;have HW2:=hide W2;have HKP:=hide hkp;have HX:=hide hx;have HY:=hide hy
    obtain ⟨i0,hi,hi0,hi1,hi2⟩:=info_parts pt_info
    have hkpb:at_+kp≤1000000:=by omega
    clear W1 W2 hkp hx hy hln hks
    have hlk:(ptsOff bs at_ step k).length=k:=ptsOff_length _ _ _ _
    have hw1:IntKind.i64.wrap ((k:Int)*(step:Int))=(kp:Int):=by rw [hmul,IntKind.wrap_i64];omega
    have hw2:IntKind.i64.wrap ((at_:Int)+(kp:Int))=(at_:Int)+(kp:Int):=by rw [IntKind.wrap_i64];omega
    have hw3:IntKind.i64.wrap ((at_:Int)+(kp:Int)+8)=(at_:Int)+(kp:Int)+8:=by rw [IntKind.wrap_i64];omega
    go_wp2_with fail
    refine HW1.out.mono ?_
    rintro e w' ⟨rfl,rfl⟩
    go_wp2_with fail
    refine HW2.out.mono ?_
    rintro e w' ⟨rfl,rfl⟩
    have hbs:=hbr.size
    go_wp2_with (at_builtin;refine wpList_append_own _ rfl (.tmp 16) (.tmp 35) 59 rfl w.heap.size 123 i0 (.agg #[.int .i64 0,.int .i64 0]) 2 16 Tryz.underlying59 hi hi0 hi1 hi2 rfl (by decide) _ k (ptCs (ptsOff bs at_ step k)) rfl (hown.alloc _) ⟨wr.heap.size,0,none⟩ 1 1 [.int .i64 (wrap64 x),.int .i64 (wrap64 y)] rfl rfl ?d1 ?d2 ?d3 ?d4 ?d5 ?_)
    case d1=>exact blk_cells (Blk.new _ _ _)
    case d2=>simp [Value.oneCell']
    case d3=>unfold maxLen;omega
    case d4=>omega
    case d5=>simp;omega
    intro v3 w3 hown3 hgrow3 _
    have hb3:Below w.heap.size w w3:=(bl_alloc hbr _).grown hgrow3 (by simp;omega) (fun k hk=>own_base hown hk)
    have hown4:w3.ownsRow w.heap.size 123 2 v3 (k+1) (ptCs (ptsOff bs at_ step (k+1))):=by
     rw [HPT.out];simpa [ptCs] using hown3
    have HO:=hide hown4
    clear hown3 hown4 hgrow3
    go_wp2
    go_roundw
    case rel=>exact ⟨k+1,by omega,by go_num,hb3,HO.out⟩
    case measure=>simp [intOf];omega
  · obtain rfl:n=k:=by omega
    have hl:=ptsOff_length bs at_ step n
    obtain ⟨RA,rcap,rfl,_⟩:=own_slice hown
    go_wp2
    go_ret
    exact ⟨RA,rcap,by rw [hl];rfl,hbr,by rw [hl];exact hown⟩
end
end Go.Proofs.YtfljlmleiggmjaaGreatDoor
