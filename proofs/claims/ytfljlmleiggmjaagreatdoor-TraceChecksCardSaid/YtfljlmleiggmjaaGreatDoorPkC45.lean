/- TraceText TraceForm -/
import Derived.Deep.AppendLies
import Derived.LoopN
import Derived.Test.YtfljlmleiggmjaaGreatDoorPkC15
import Derived.Test.YtfljlmleiggmjaaGreatDoorPkC43
import Derived.Test.YtfljlmleiggmjaaGreatDoorPkC44
set_option maxRecDepth 1000000
set_option maxHeartbeats 8000000
namespace Go.Proofs.YtfljlmleiggmjaaGreatDoor
section
open Go.RowKit Go.Shelf
def PT (w : World) : Prop := ∀ w', Below w.heap.size w w' → Lib.TabIs Tryz.prog w' "internal/strconv.uint64pow10" .u64 Lib.pow10Tab
theorem PT.step {w w':World} (h:PT w) (hb:Below w.heap.size w w'):PT w':=fun w2 hb2=>h w2 (bl_step hb hb2)
theorem PT.of {w : World} (h : Lib.TabIs Tryz.prog w "internal/strconv.uint64pow10" .u64 Lib.pow10Tab) : PT w := fun w' hb => by
 unfold Lib.TabIs World.var? at h ⊢
 obtain ⟨g, hg⟩ : ∃ g, Tryz.prog.globalNamed "internal/strconv.uint64pow10" = some g := by
  cases hg : Tryz.prog.globalNamed "internal/strconv.uint64pow10" with
  | none=>rw [hg] at h;cases h
  | some g=>exact ⟨g,rfl⟩
 rw [hg] at h ⊢
 simp only [Option.bind_some] at h ⊢
 have hl:g<w.heap.size:=by
  rcases Nat.lt_or_ge g w.heap.size with h1 | h1
  · exact h1
  · rw [Array.getElem?_eq_none h1] at h;cases h
 rw [hb.block g hl]
 exact h
theorem dgB_dec:∀ u:Nat,Lib.decDigits u=dgB u:=by
 intro u
 induction u using Nat.strongRecOn with
 | _ u ih =>
   by_cases h:u<10
   · rw [Lib.decDigits,dif_pos h]
     unfold dgB
     rw [dr_small h];rfl
   · rw [Lib.decDigits,dif_neg h,ih (u / 10) (by omega)]
     unfold dgB
     rw [dr_big (n:=u) (by omega),List.reverse_cons,List.map_append];rfl
theorem txt_itoa (n:Int):Lib.itoa n=txt n:=by
 unfold Lib.itoa txt
 by_cases h:n<0
 · rw [if_pos h,if_pos h,dgB_dec];rfl
 · rw [if_neg h,if_neg h,dgB_dec,List.nil_append]
   congr 1;omega
theorem txt_len {n:Int} (h:I64w n):(txt n).length≤30:=by
 unfold I64w at h
 have h1:(dr n.natAbs).length≤19+1:=dr_len (by
  have:n.natAbs≤9223372036854775808:=by omega
  exact Nat.lt_of_le_of_lt this (by decide))
 unfold txt dgB
 rw [List.length_append,List.length_map,List.length_reverse]
 split <;> simp <;> omega
theorem below_grown' (w:World) (k:Nat) (os:Array Obj):Below w.heap.size w (Go.Sort.grow (w.drewN k) os) :=
 ⟨rfl,rfl,rfl,by show w.heap.size≤(w.heap++os).size;rw [Array.size_append];omega,fun j hj=>by
   show (w.heap++os)[j]?=w.heap[j]?
   rw [Array.getElem?_append_left hj]⟩
theorem itoa_any (n:Int) (hn:I64w n) (w:World) (hp:PT w):Calls Tryz.prog 87 #[.int .i64 n] w fun e w'=>e=.returned (.string (strOf (txt n)))∧Below w.heap.size w w':=by
 refine (Any.strconv_Itoa Tryz.lays171 n hn.1 hn.2 w (hp w (Below.refl _ _))).mono ?_
 rintro e w' ⟨rfl,k,os,rfl⟩
 refine ⟨?_,below_grown' w k os⟩
 rw [← txt_itoa];rfl
def lettB (k:Int):UInt8:=if k=1 then 114 else if k=2 then 119 else if k=3 then 112 else if k=4 then 101 else if k=5 then 115 else if k=6 then 99 else if k=7 then 97 else 105
def txtE (e:Ev):List UInt8 :=
 if e.1=3∨e.1=4∨e.1=7 then [lettB e.1]++txt e.2.1++[44]++txt e.2.2
 else if e.1=1∨e.1=2∨e.1=5∨e.1=8 then [lettB e.1]++txt e.2.1
 else if e.1=6 then [99]
 else [63]++txt e.1++[44]++txt e.2.1++[44]++txt e.2.2
def EvJ (e:Ev):Prop:=I64w e.1∧I64w e.2.1∧I64w e.2.2
theorem text_1 (a b:Int) (hj:I64w a∧I64w b) (w:World) (hp:PT w):Calls Tryz.prog 46 #[.agg #[.int .i64 1,.int .i64 a,.int .i64 b]] w fun e w'=>e=.returned (.string (strOf (txtE (1,a,b))))∧Below w.heap.size w w':=by
 have hb0:=bl_alloc (Below.refl w.heap.size w) (.cells #[.int .i64 1,.int .i64 a,.int .i64 b] 66)
 have N0:=Blk.new w 66 #[.int .i64 1,.int .i64 a,.int .i64 b]
 have c0:=N0.cell (i:=0) rfl
 have c1:=N0.cell (i:=1) rfl
 have c2:=N0.cell (i:=2) rfl
 obtain ⟨w1,hw1⟩:∃ w1,w1=(w.alloc (.cells #[.int .i64 1,.int .i64 a,.int .i64 b] 66)).alloc (.cells #[.int .i64 a,.int .i64 b] 3):=⟨_,rfl⟩
 have hb1:Below w.heap.size w w1:=by rw [hw1];exact bl_alloc hb0 _
 have N1:Blk w1 (w.heap.size+1) 3 #[.int .i64 a,.int .i64 b]:=by rw [hw1];exact Blk.new2 _ _ _ _
 have z1:(strOf (txt a)).size≤30:=by rw [strOf_size];exact txt_len hj.1
 have z2:(strOf (txt b)).size≤30:=by rw [strOf_size];exact txt_len hj.2
 have d0:=N1.cell (i:=0) rfl
 have d1:=N1.cell (i:=1) rfl
 have HN:=hide N1;have HB:=hide hb1;have HJ:=hide hj;have HP:=hide hp
 clear N0 N1 hb0 hb1 hj hp
 rw [hw1] at d0 d1
 go_enter Tryz.func46,Tryz.ntmps46
 go_wp2_with fail
 refine wp_loop_rounds 3 ?_
 rw [rounds_succ]
 go_wp2_with fail
 rw [← hw1]
 refine (itoa_any a HJ.out.1 _ (HP.out.step HB.out)).mono ?_
 rintro e w2 ⟨rfl,hb2⟩
 have HB2:=hide (bl_step HB.out hb2)
 have N2:=HN.out.step hb2
 have e1:=N2.cell (i:=1) rfl
 clear d0 d1 hb2 N2 c0 c1 c2 hw1
 go_wp2_with fail
 rw [rounds_succ]
 go_wp2
 go_ret
 refine ⟨?_,HB2.out⟩
 congr 2
theorem text_2 (a b:Int) (hj:I64w a∧I64w b) (w:World) (hp:PT w):Calls Tryz.prog 46 #[.agg #[.int .i64 2,.int .i64 a,.int .i64 b]] w fun e w'=>e=.returned (.string (strOf (txtE (2,a,b))))∧Below w.heap.size w w':=by
 have hb0:=bl_alloc (Below.refl w.heap.size w) (.cells #[.int .i64 2,.int .i64 a,.int .i64 b] 66)
 have N0:=Blk.new w 66 #[.int .i64 2,.int .i64 a,.int .i64 b]
 have c0:=N0.cell (i:=0) rfl
 have c1:=N0.cell (i:=1) rfl
 have c2:=N0.cell (i:=2) rfl
 obtain ⟨w1,hw1⟩:∃ w1,w1=(w.alloc (.cells #[.int .i64 2,.int .i64 a,.int .i64 b] 66)).alloc (.cells #[.int .i64 a,.int .i64 b] 3):=⟨_,rfl⟩
 have hb1:Below w.heap.size w w1:=by rw [hw1];exact bl_alloc hb0 _
 have N1:Blk w1 (w.heap.size+1) 3 #[.int .i64 a,.int .i64 b]:=by rw [hw1];exact Blk.new2 _ _ _ _
 have z1:(strOf (txt a)).size≤30:=by rw [strOf_size];exact txt_len hj.1
 have z2:(strOf (txt b)).size≤30:=by rw [strOf_size];exact txt_len hj.2
 have d0:=N1.cell (i:=0) rfl
 have d1:=N1.cell (i:=1) rfl
 have HN:=hide N1;have HB:=hide hb1;have HJ:=hide hj;have HP:=hide hp
 clear N0 N1 hb0 hb1 hj hp
 rw [hw1] at d0 d1
 go_enter Tryz.func46,Tryz.ntmps46
 go_wp2_with fail
 refine wp_loop_rounds 3 ?_
 rw [rounds_succ]
 go_wp2_with fail
 rw [← hw1]
 refine (itoa_any a HJ.out.1 _ (HP.out.step HB.out)).mono ?_
 rintro e w2 ⟨rfl,hb2⟩
 have HB2:=hide (bl_step HB.out hb2)
 have N2:=HN.out.step hb2
 have e1:=N2.cell (i:=1) rfl
 clear d0 d1 hb2 N2 c0 c1 c2 hw1
 go_wp2_with fail
 rw [rounds_succ]
 go_wp2
 go_ret
 refine ⟨?_,HB2.out⟩
 congr 2
theorem text_3 (a b:Int) (hj:I64w a∧I64w b) (w:World) (hp:PT w):Calls Tryz.prog 46 #[.agg #[.int .i64 3,.int .i64 a,.int .i64 b]] w fun e w'=>e=.returned (.string (strOf (txtE (3,a,b))))∧Below w.heap.size w w':=by
 have hb0:=bl_alloc (Below.refl w.heap.size w) (.cells #[.int .i64 3,.int .i64 a,.int .i64 b] 66)
 have N0:=Blk.new w 66 #[.int .i64 3,.int .i64 a,.int .i64 b]
 have c0:=N0.cell (i:=0) rfl
 have c1:=N0.cell (i:=1) rfl
 have c2:=N0.cell (i:=2) rfl
 obtain ⟨w1,hw1⟩:∃ w1,w1=(w.alloc (.cells #[.int .i64 3,.int .i64 a,.int .i64 b] 66)).alloc (.cells #[.int .i64 a,.int .i64 b] 3):=⟨_,rfl⟩
 have hb1:Below w.heap.size w w1:=by rw [hw1];exact bl_alloc hb0 _
 have N1:Blk w1 (w.heap.size+1) 3 #[.int .i64 a,.int .i64 b]:=by rw [hw1];exact Blk.new2 _ _ _ _
 have z1:(strOf (txt a)).size≤30:=by rw [strOf_size];exact txt_len hj.1
 have z2:(strOf (txt b)).size≤30:=by rw [strOf_size];exact txt_len hj.2
 have d0:=N1.cell (i:=0) rfl
 have d1:=N1.cell (i:=1) rfl
 have HN:=hide N1;have HB:=hide hb1;have HJ:=hide hj;have HP:=hide hp
 clear N0 N1 hb0 hb1 hj hp
 rw [hw1] at d0 d1
 go_enter Tryz.func46,Tryz.ntmps46
 go_wp2_with fail
 refine wp_loop_rounds 3 ?_
 rw [rounds_succ]
 go_wp2_with fail
 rw [← hw1]
 refine (itoa_any a HJ.out.1 _ (HP.out.step HB.out)).mono ?_
 rintro e w2 ⟨rfl,hb2⟩
 have HB2:=hide (bl_step HB.out hb2)
 have N2:=HN.out.step hb2
 have e1:=N2.cell (i:=1) rfl
 clear d0 d1 hb2 N2 c0 c1 c2 hw1
 go_wp2_with fail
 rw [rounds_succ]
 go_wp2_with fail
 refine (itoa_any b HJ.out.2 _ (HP.out.step HB2.out)).mono ?_
 rintro e w3 ⟨rfl,hb3⟩
 have HB3:=hide (bl_step HB2.out hb3)
 clear e1 hb3
 go_wp2_with fail
 rw [rounds_succ]
 go_wp2
 go_ret
 refine ⟨?_,HB3.out⟩
 congr 2
theorem text_4 (a b:Int) (hj:I64w a∧I64w b) (w:World) (hp:PT w):Calls Tryz.prog 46 #[.agg #[.int .i64 4,.int .i64 a,.int .i64 b]] w fun e w'=>e=.returned (.string (strOf (txtE (4,a,b))))∧Below w.heap.size w w':=by
 have hb0:=bl_alloc (Below.refl w.heap.size w) (.cells #[.int .i64 4,.int .i64 a,.int .i64 b] 66)
 have N0:=Blk.new w 66 #[.int .i64 4,.int .i64 a,.int .i64 b]
 have c0:=N0.cell (i:=0) rfl
 have c1:=N0.cell (i:=1) rfl
 have c2:=N0.cell (i:=2) rfl
 obtain ⟨w1,hw1⟩:∃ w1,w1=(w.alloc (.cells #[.int .i64 4,.int .i64 a,.int .i64 b] 66)).alloc (.cells #[.int .i64 a,.int .i64 b] 3):=⟨_,rfl⟩
 have hb1:Below w.heap.size w w1:=by rw [hw1];exact bl_alloc hb0 _
 have N1:Blk w1 (w.heap.size+1) 3 #[.int .i64 a,.int .i64 b]:=by rw [hw1];exact Blk.new2 _ _ _ _
 have z1:(strOf (txt a)).size≤30:=by rw [strOf_size];exact txt_len hj.1
 have z2:(strOf (txt b)).size≤30:=by rw [strOf_size];exact txt_len hj.2
 have d0:=N1.cell (i:=0) rfl
 have d1:=N1.cell (i:=1) rfl
 have HN:=hide N1;have HB:=hide hb1;have HJ:=hide hj;have HP:=hide hp
 clear N0 N1 hb0 hb1 hj hp
 rw [hw1] at d0 d1
 go_enter Tryz.func46,Tryz.ntmps46
 go_wp2_with fail
 refine wp_loop_rounds 3 ?_
 rw [rounds_succ]
 go_wp2_with fail
 rw [← hw1]
 refine (itoa_any a HJ.out.1 _ (HP.out.step HB.out)).mono ?_
 rintro e w2 ⟨rfl,hb2⟩
 have HB2:=hide (bl_step HB.out hb2)
 have N2:=HN.out.step hb2
 have e1:=N2.cell (i:=1) rfl
 clear d0 d1 hb2 N2 c0 c1 c2 hw1
 go_wp2_with fail
 rw [rounds_succ]
 go_wp2_with fail
 refine (itoa_any b HJ.out.2 _ (HP.out.step HB2.out)).mono ?_
 rintro e w3 ⟨rfl,hb3⟩
 have HB3:=hide (bl_step HB2.out hb3)
 clear e1 hb3
 go_wp2_with fail
 rw [rounds_succ]
 go_wp2
 go_ret
 refine ⟨?_,HB3.out⟩
 congr 2
theorem text_5 (a b:Int) (hj:I64w a∧I64w b) (w:World) (hp:PT w):Calls Tryz.prog 46 #[.agg #[.int .i64 5,.int .i64 a,.int .i64 b]] w fun e w'=>e=.returned (.string (strOf (txtE (5,a,b))))∧Below w.heap.size w w':=by
 have hb0:=bl_alloc (Below.refl w.heap.size w) (.cells #[.int .i64 5,.int .i64 a,.int .i64 b] 66)
 have N0:=Blk.new w 66 #[.int .i64 5,.int .i64 a,.int .i64 b]
 have c0:=N0.cell (i:=0) rfl
 have c1:=N0.cell (i:=1) rfl
 have c2:=N0.cell (i:=2) rfl
 obtain ⟨w1,hw1⟩:∃ w1,w1=(w.alloc (.cells #[.int .i64 5,.int .i64 a,.int .i64 b] 66)).alloc (.cells #[.int .i64 a,.int .i64 b] 3):=⟨_,rfl⟩
 have hb1:Below w.heap.size w w1:=by rw [hw1];exact bl_alloc hb0 _
 have N1:Blk w1 (w.heap.size+1) 3 #[.int .i64 a,.int .i64 b]:=by rw [hw1];exact Blk.new2 _ _ _ _
 have z1:(strOf (txt a)).size≤30:=by rw [strOf_size];exact txt_len hj.1
 have z2:(strOf (txt b)).size≤30:=by rw [strOf_size];exact txt_len hj.2
 have d0:=N1.cell (i:=0) rfl
 have d1:=N1.cell (i:=1) rfl
 have HN:=hide N1;have HB:=hide hb1;have HJ:=hide hj;have HP:=hide hp
 clear N0 N1 hb0 hb1 hj hp
 rw [hw1] at d0 d1
 go_enter Tryz.func46,Tryz.ntmps46
 go_wp2_with fail
 refine wp_loop_rounds 3 ?_
 rw [rounds_succ]
 go_wp2_with fail
 rw [← hw1]
 refine (itoa_any a HJ.out.1 _ (HP.out.step HB.out)).mono ?_
 rintro e w2 ⟨rfl,hb2⟩
 have HB2:=hide (bl_step HB.out hb2)
 have N2:=HN.out.step hb2
 have e1:=N2.cell (i:=1) rfl
 clear d0 d1 hb2 N2 c0 c1 c2 hw1
 go_wp2_with fail
 rw [rounds_succ]
 go_wp2
 go_ret
 refine ⟨?_,HB2.out⟩
 congr 2
theorem text_6 (a b:Int) (hj:I64w a∧I64w b) (w:World) (hp:PT w):Calls Tryz.prog 46 #[.agg #[.int .i64 6,.int .i64 a,.int .i64 b]] w fun e w'=>e=.returned (.string (strOf (txtE (6,a,b))))∧Below w.heap.size w w':=by
 have hb0:=bl_alloc (Below.refl w.heap.size w) (.cells #[.int .i64 6,.int .i64 a,.int .i64 b] 66)
 have N0:=Blk.new w 66 #[.int .i64 6,.int .i64 a,.int .i64 b]
 have c0:=N0.cell (i:=0) rfl
 have c1:=N0.cell (i:=1) rfl
 have c2:=N0.cell (i:=2) rfl
 obtain ⟨w1,hw1⟩:∃ w1,w1=(w.alloc (.cells #[.int .i64 6,.int .i64 a,.int .i64 b] 66)).alloc (.cells #[.int .i64 a,.int .i64 b] 3):=⟨_,rfl⟩
 have hb1:Below w.heap.size w w1:=by rw [hw1];exact bl_alloc hb0 _
 have N1:Blk w1 (w.heap.size+1) 3 #[.int .i64 a,.int .i64 b]:=by rw [hw1];exact Blk.new2 _ _ _ _
 have z1:(strOf (txt a)).size≤30:=by rw [strOf_size];exact txt_len hj.1
 have z2:(strOf (txt b)).size≤30:=by rw [strOf_size];exact txt_len hj.2
 have d0:=N1.cell (i:=0) rfl
 have d1:=N1.cell (i:=1) rfl
 have HN:=hide N1;have HB:=hide hb1;have HJ:=hide hj;have HP:=hide hp
 clear N0 N1 hb0 hb1 hj hp
 rw [hw1] at d0 d1
 go_enter Tryz.func46,Tryz.ntmps46
 go_wp2_with fail
 refine wp_loop_rounds 3 ?_
 rw [rounds_succ]
 go_wp2
 go_ret
 exact ⟨by unfold txtE;rfl,by rw [hw1] at HB;exact HB.out⟩
theorem text_7 (a b:Int) (hj:I64w a∧I64w b) (w:World) (hp:PT w):Calls Tryz.prog 46 #[.agg #[.int .i64 7,.int .i64 a,.int .i64 b]] w fun e w'=>e=.returned (.string (strOf (txtE (7,a,b))))∧Below w.heap.size w w':=by
 have hb0:=bl_alloc (Below.refl w.heap.size w) (.cells #[.int .i64 7,.int .i64 a,.int .i64 b] 66)
 have N0:=Blk.new w 66 #[.int .i64 7,.int .i64 a,.int .i64 b]
 have c0:=N0.cell (i:=0) rfl
 have c1:=N0.cell (i:=1) rfl
 have c2:=N0.cell (i:=2) rfl
 obtain ⟨w1,hw1⟩:∃ w1,w1=(w.alloc (.cells #[.int .i64 7,.int .i64 a,.int .i64 b] 66)).alloc (.cells #[.int .i64 a,.int .i64 b] 3):=⟨_,rfl⟩
 have hb1:Below w.heap.size w w1:=by rw [hw1];exact bl_alloc hb0 _
 have N1:Blk w1 (w.heap.size+1) 3 #[.int .i64 a,.int .i64 b]:=by rw [hw1];exact Blk.new2 _ _ _ _
 have z1:(strOf (txt a)).size≤30:=by rw [strOf_size];exact txt_len hj.1
 have z2:(strOf (txt b)).size≤30:=by rw [strOf_size];exact txt_len hj.2
 have d0:=N1.cell (i:=0) rfl
 have d1:=N1.cell (i:=1) rfl
 have HN:=hide N1;have HB:=hide hb1;have HJ:=hide hj;have HP:=hide hp
 clear N0 N1 hb0 hb1 hj hp
 rw [hw1] at d0 d1
 go_enter Tryz.func46,Tryz.ntmps46
 go_wp2_with fail
 refine wp_loop_rounds 3 ?_
 rw [rounds_succ]
 go_wp2_with fail
 rw [← hw1]
 refine (itoa_any a HJ.out.1 _ (HP.out.step HB.out)).mono ?_
 rintro e w2 ⟨rfl,hb2⟩
 have HB2:=hide (bl_step HB.out hb2)
 have N2:=HN.out.step hb2
 have e1:=N2.cell (i:=1) rfl
 clear d0 d1 hb2 N2 c0 c1 c2 hw1
 go_wp2_with fail
 rw [rounds_succ]
 go_wp2_with fail
 refine (itoa_any b HJ.out.2 _ (HP.out.step HB2.out)).mono ?_
 rintro e w3 ⟨rfl,hb3⟩
 have HB3:=hide (bl_step HB2.out hb3)
 clear e1 hb3
 go_wp2_with fail
 rw [rounds_succ]
 go_wp2
 go_ret
 refine ⟨?_,HB3.out⟩
 congr 2
theorem text_8 (a b:Int) (hj:I64w a∧I64w b) (w:World) (hp:PT w):Calls Tryz.prog 46 #[.agg #[.int .i64 8,.int .i64 a,.int .i64 b]] w fun e w'=>e=.returned (.string (strOf (txtE (8,a,b))))∧Below w.heap.size w w':=by
 have hb0:=bl_alloc (Below.refl w.heap.size w) (.cells #[.int .i64 8,.int .i64 a,.int .i64 b] 66)
 have N0:=Blk.new w 66 #[.int .i64 8,.int .i64 a,.int .i64 b]
 have c0:=N0.cell (i:=0) rfl
 have c1:=N0.cell (i:=1) rfl
 have c2:=N0.cell (i:=2) rfl
 obtain ⟨w1,hw1⟩:∃ w1,w1=(w.alloc (.cells #[.int .i64 8,.int .i64 a,.int .i64 b] 66)).alloc (.cells #[.int .i64 a,.int .i64 b] 3):=⟨_,rfl⟩
 have hb1:Below w.heap.size w w1:=by rw [hw1];exact bl_alloc hb0 _
 have N1:Blk w1 (w.heap.size+1) 3 #[.int .i64 a,.int .i64 b]:=by rw [hw1];exact Blk.new2 _ _ _ _
 have z1:(strOf (txt a)).size≤30:=by rw [strOf_size];exact txt_len hj.1
 have z2:(strOf (txt b)).size≤30:=by rw [strOf_size];exact txt_len hj.2
 have d0:=N1.cell (i:=0) rfl
 have d1:=N1.cell (i:=1) rfl
 have HN:=hide N1;have HB:=hide hb1;have HJ:=hide hj;have HP:=hide hp
 clear N0 N1 hb0 hb1 hj hp
 rw [hw1] at d0 d1
 go_enter Tryz.func46,Tryz.ntmps46
 go_wp2_with fail
 refine wp_loop_rounds 3 ?_
 rw [rounds_succ]
 go_wp2_with fail
 rw [← hw1]
 refine (itoa_any a HJ.out.1 _ (HP.out.step HB.out)).mono ?_
 rintro e w2 ⟨rfl,hb2⟩
 have HB2:=hide (bl_step HB.out hb2)
 have N2:=HN.out.step hb2
 have e1:=N2.cell (i:=1) rfl
 clear d0 d1 hb2 N2 c0 c1 c2 hw1
 go_wp2_with fail
 rw [rounds_succ]
 go_wp2
 go_ret
 refine ⟨?_,HB2.out⟩
 congr 2
theorem text_x (k a b:Int) (hj:I64w a∧I64w b) (hk:I64w k) (hx:¬ (1≤k∧k≤8)) (w:World) (hp:PT w):Calls Tryz.prog 46 #[.agg #[.int .i64 k,.int .i64 a,.int .i64 b]] w fun e w'=>e=.returned (.string (strOf (txtE (k,a,b))))∧Below w.heap.size w w':=by
 have hb0:=bl_alloc (Below.refl w.heap.size w) (.cells #[.int .i64 k,.int .i64 a,.int .i64 b] 66)
 have N0:=Blk.new w 66 #[.int .i64 k,.int .i64 a,.int .i64 b]
 have c0:=N0.cell (i:=0) rfl
 have h1:¬ k=1:=by omega
 have h2:¬ k=2:=by omega
 have h3:¬ k=3:=by omega
 have h4:¬ k=4:=by omega
 have h5:¬ k=5:=by omega
 have h6:¬ k=6:=by omega
 have h7:¬ k=7:=by omega
 have h8:¬ k=8:=by omega
 have HT:Hid (txtE (k,a,b)=[63]++txt k++[44]++txt a++[44]++txt b):=hide (by
  unfold txtE
  dsimp only
  rw [if_neg (by omega),if_neg (by omega),if_neg h6])
 obtain ⟨w0,hw0⟩:∃ w0,w0=w.alloc (.cells #[.int .i64 k,.int .i64 a,.int .i64 b] 66):=⟨_,rfl⟩
 rw [← hw0] at hb0 N0 c0
 have z0:(strOf (txt k)).size≤30:=by rw [strOf_size];exact txt_len hk
 have z1:(strOf (txt a)).size≤30:=by rw [strOf_size];exact txt_len hj.1
 have z2:(strOf (txt b)).size≤30:=by rw [strOf_size];exact txt_len hj.2
 have HN:=hide N0;have HB:=hide hb0;have HJ:=hide hj;have HP:=hide hp;have HK:=hide hk
 clear N0 hb0 hj hp hk hx
 rw [hw0] at c0
 go_enter Tryz.func46,Tryz.ntmps46
 go_wp2_with fail
 rw [← hw0]
 refine (itoa_any k HK.out _ (HP.out.step HB.out)).mono ?_
 rintro e w1 ⟨rfl,hb1⟩
 have HB1:=hide (bl_step HB.out hb1)
 have N1:=HN.out.step hb1
 have c1:=N1.cell (i:=1) rfl
 have c2:=N1.cell (i:=2) rfl
 obtain ⟨w2,hw2⟩:∃ w2,w2=w1.alloc (.cells #[.int .i64 a,.int .i64 b] 3):=⟨_,rfl⟩
 obtain ⟨g2,hg2⟩:∃ g2,g2=w1.heap.size:=⟨_,rfl⟩
 have hb2:Below w1.heap.size w1 w2:=by rw [hw2];exact bA
 have N2:Blk w2 g2 3 #[.int .i64 a,.int .i64 b]:=by rw [hw2,hg2];exact Blk.new _ _ _
 have HB2:=hide (bl_step HB1.out hb2)
 have HN2:=hide N2
 have d0:=N2.cell (i:=0) rfl
 have d1:=N2.cell (i:=1) rfl
 clear hb1 N1 c0 hw0 hb2 N2
 rw [hw2,hg2] at d0 d1
 go_wp2_with fail
 refine wp_loop_rounds 3 ?_
 rw [rounds_succ]
 go_wp2_with fail
 rw [← hw2]
 refine (itoa_any a HJ.out.1 _ (HP.out.step HB2.out)).mono ?_
 rintro e w3 ⟨rfl,hb3⟩
 have HB3:=hide (bl_step HB2.out hb3)
 have N3:=HN2.out.step hb3
 rw [hg2] at N3
 have e1:=N3.cell (i:=1) rfl
 clear d0 d1 hb3 N3 c1 c2 hw2
 go_wp2_with fail
 rw [rounds_succ]
 go_wp2_with fail
 refine (itoa_any b HJ.out.2 _ (HP.out.step HB3.out)).mono ?_
 rintro e w4 ⟨rfl,hb4⟩
 have HB4:=hide (bl_step HB3.out hb4)
 clear e1 hb4
 go_wp2_with fail
 rw [rounds_succ]
 go_wp2
 go_ret
 refine ⟨?_,HB4.out⟩
 rw [HT.out]
 congr 2
theorem text_any (e:Ev) (he:EvJ e) (w:World) (hp:PT w):Calls Tryz.prog 46 #[.agg #[.int .i64 e.1,.int .i64 e.2.1,.int .i64 e.2.2]] w fun r w'=>r=.returned (.string (strOf (txtE e)))∧Below w.heap.size w w':=by
 obtain ⟨k,a,b⟩:=e
 obtain ⟨hk,hj⟩:=he
 dsimp only at hk hj ⊢
 by_cases hx:1≤k∧k≤8
 · have h:k=1∨k=2∨k=3∨k=4∨k=5∨k=6∨k=7∨k=8:=by omega
   rcases h with rfl | rfl | rfl | rfl | rfl | rfl | rfl | rfl
   · exact text_1 a b hj w hp
   · exact text_2 a b hj w hp
   · exact text_3 a b hj w hp
   · exact text_4 a b hj w hp
   · exact text_5 a b hj w hp
   · exact text_6 a b hj w hp
   · exact text_7 a b hj w hp
   · exact text_8 a b hj w hp
 · exact text_x k a b hj hk hx w hp
end
section
open Go.RowKit Go.Shelf
theorem app_runS {P:Program} {ops:Array Oper} {rest:List Oper} {o:Oper} {a:Act} {Q:Exit→Act→World→Prop} {w:World} (s x:Operand) (t:TypeId)
 (hop:o.op=Op.call { callee:=Callee.builtin Builtin.append,args:=#[s,x],argTypes:=#[t,t] }) (hw:Region.wanted o (yielded ops a.tmps)=true) (v xv:Value) (hs:a.eval s=v) (hx:a.eval x=xv) {v':Value} {w':World}
 (hrun:(Builtin.append_ #[t,t] o.type #[v,xv]).run P w=.ok v' w') (h:wpList P ops Q rest (a.put o.dst v') w'):wpList P ops Q (o::rest) a w:=by
 unfold wpList
 rw [if_pos hw]
 left
 unfold Oper.wp
 simp [execOp,hop,resolve,invoke,builtin,hs,hx,hrun,Result.andThen]
 exact h
theorem str_info:(Tryz.prog.info? 9).map (fun i=>(i.zero,i.size,i.bytes))=some (some (.string ⟨#[]⟩),1,16):=by kernel_rfl
def fmtT:List Ev→List UInt8
 | []=>[]
 | e::r=>txtE e++r.flatMap fun x=>32::txtE x
theorem fmtT_join (es:List Ev):Lib.join (es.map txtE) [32]=fmtT es:=by
 cases es with
 | nil=>rfl
 | cons e r =>
   rw [List.map_cons,Lib.join_cons]
   unfold fmtT Lib.joinTail
   congr 1
   rw [List.map_map,List.flatMap_def]
   rfl
theorem txtE_len {e:Ev} (h:EvJ e):(txtE e).length≤100:=by
 have h1:=txt_len h.1
 have h2:=txt_len h.2.1
 have h3:=txt_len h.2.2
 unfold txtE
 split
 · simp;omega
 · split
   · simp;omega
   · split
     · simp
     · simp;omega
theorem fmtT_len:∀ {es:List Ev},(∀ e∈es,EvJ e)→(fmtT es).length≤101*es.length
 | [],_=>Nat.zero_le _
 | e::r,h=>by
   have h1:=txtE_len (h e (List.mem_cons_self ..))
   have h2:∀ l:List Ev,(∀ x∈l,EvJ x)→(l.flatMap fun x=>(32:UInt8)::txtE x).length≤101*l.length:=by
    intro l
    induction l with
    | nil=>intro _;simp
    | cons x l ih =>
      intro hl
      have a:=txtE_len (hl x (List.mem_cons_self ..))
      have b:=ih fun y hy=>hl y (List.mem_cons_of_mem _ hy)
      rw [List.flatMap_cons,List.length_append,List.length_cons,List.length_cons]
      omega
   have h3:=h2 r fun y hy=>h y (List.mem_cons_of_mem _ hy)
   unfold fmtT
   rw [List.length_append,List.length_cons]
   omega
theorem extraB:Builder.Extra Tryz.prog Tryz.lays156_ren where
 sizeBuilder:=by kernel_rfl
 liesBuilder:=by kernel_rfl
 t5:=Tryz.underlying5
 a5:=fun w=>by kernel_rfl
 z5:=fun w=>by kernel_rfl
 v5:=fun w=>by kernel_rfl
 infoByte:=by kernel_rfl
 cellsByte:=by kernel_rfl
 sizeByte:=by kernel_rfl
 neB5:=by decide
theorem joinS_none (a:Option Addr) (c:Nat) (sep:ByteArray) (w:World):Calls Tryz.prog 47 #[.slice a 0 c,.string sep] w fun e w'=>e=.returned (.string (strOf []))∧w'=w :=
 Any.strings_Join_none Tryz.lays156 extraB a c sep w
theorem joinS_any (xs:List (List UInt8)) (sep:List UInt8) (A:Option Addr) (c:Nat) (w:World) (hs:Sl w w.heap.size A (xs.map fun x=>Value.string (strOf x))) (hc:xs.length≤c) (hn:xs.length≤1000000) (hl:(Lib.join xs sep).length≤140737488355328) :
 Calls Tryz.prog 47 #[.slice A xs.length c,.string (strOf sep)] w fun e w'=>e=.returned (.string (strOf (Lib.join xs sep)))∧Below w.heap.size w w':=by
 rcases hs with h0 | ⟨b,off,rfl,hb,hcs⟩
 · have hx:xs=[]:=by simpa using h0
   subst hx
   refine (joinS_none A c (strOf sep) w).mono ?_
   rintro e w' ⟨rfl,rfl⟩
   exact ⟨rfl,Below.refl _ _⟩
 · have e1:(xs.map strOf).map (fun x=>x.data.toList)=xs:=by
    rw [List.map_map]
    conv=>rhs;rw [← List.map_id xs]
    refine List.map_congr_left fun x _=>?_
    simp [strOf]
   have h:=Any.strings_Join Tryz.lays156 extraB b off c (xs.map strOf) (strOf sep) w (fun j x hj=>by
    refine hcs j _ ?_
    rw [List.getElem?_map] at hj ⊢
    cases hx:xs[j]? with
    | none=>rw [hx] at hj;simp at hj
    | some y=>rw [hx] at hj;simp at hj;subst hj;rfl) hb (by rw [List.length_map];omega) (by rw [List.length_map];exact hc) (by rw [e1];simpa [strOf] using hl)
   rw [e1,List.length_map] at h
   refine h.mono ?_
   rintro e w' ⟨rfl,hb'⟩
   refine ⟨?_,hb'⟩
   simp [strOf]
theorem tFormat_any (es:List Ev) (hj:∀ e∈es,EvJ e) (hn:es.length≤10000) (A:Option Addr) (c:Nat) (w:World) (hs:Sl w w.heap.size A (evCs es)) (hp:PT w) :
 Calls Tryz.prog 19 #[.slice A es.length c] w fun e w'=>e=.returned (.string (strOf (fmtT es)))∧Below w.heap.size w w':=by
 obtain ⟨i0,hi,hz0,hz1,hz2⟩:=info_parts str_info
 have HS:=hide hs;have HJ:=hide hj;have HP:=hide hp
 have HL:=hide (fmtT_len hj)
 clear hs hj hp
 go_enter Tryz.func19,Tryz.ntmps19
 go_wp2
 go_loopw [3,8] (fun v i wr=>∃ k:Nat,k≤es.length∧i=.int .i64 (k:Int)∧wr.ownsRow w.heap.size 9 1 v k ((es.take k).map fun e=>Value.string (strOf (txtE e)))∧Below w.heap.size w wr)
  (fun _ i _=>es.length - (intOf i).toNat)
 case atStart=>exact ⟨0,Nat.zero_le _,rfl,World.ownsRow_nil _ _ _ _,Below.refl _ _⟩
 case round =>
  obtain ⟨k,hk,rfl,hown,hbr⟩:=hrel
  by_cases hkn:k<es.length
  · have hki:(k:Int)<(es.length:Int):=by omega
    obtain ⟨e,he⟩:∃ e,es[k]?=some e:=⟨_,List.getElem?_eq_getElem hkn⟩
    obtain ⟨b,off,rfl,hb,q0,q1,q2⟩:=(HS.out.below hbr).ev he
    have HE:=hide (HJ.out e (List.mem_of_getElem? he))
    have HTK:Hid ((es.take (k+1)).map (fun e=>Value.string (strOf (txtE e)))=(es.take k).map (fun e=>Value.string (strOf (txtE e)))++[Value.string (strOf (txtE e))]):=hide (by rw [List.take_add_one,he,List.map_append];rfl)
    obtain ⟨w1,hw1⟩:∃ w1,w1=wr.alloc (.cells #[.int .i64 e.1,.int .i64 e.2.1,.int .i64 e.2.2] 66):=⟨_,rfl⟩
    have hb1:Below wr.heap.size wr w1:=by rw [hw1];exact bA
    have N1:Blk w1 wr.heap.size 66 #[.int .i64 e.1,.int .i64 e.2.1,.int .i64 e.2.2]:=by rw [hw1];exact Blk.new _ _ _
    have n0:=N1.cell (i:=0) rfl
    have n1:=N1.cell (i:=1) rfl
    have n2:=N1.cell (i:=2) rfl
    have HBR:=hide (bl_step hbr hb1)
    have HOW:=hide (own_step hown hb1)
    have HT:=hide (text_any e HE.out w1 (HP.out.step HBR.out))
    clear he hown hbr hb1 N1 HE
    rw [hw1] at n0 n1 n2
    go_wp2_with fail
    rw [← hw1]
    refine HT.out.mono ?_
    rintro r w2 ⟨rfl,hb2⟩
    have N3:=Blk.new w2 9 #[.string (strOf (txtE e))]
    have hb3:=bl_alloc (Below.refl w2.heap.size w2) (.cells #[.string (strOf (txtE e))] 9)
    have hown3:=own_step (own_step HOW.out hb2) hb3
    have hbl3:=bl_step (bl_step HBR.out hb2) hb3
    obtain ⟨g4,c4,w4,hr4,hown4,hg4,-,-⟩:=run_append_lies (P:=Tryz.prog) (w2.alloc (.cells #[.string (strOf (txtE e))] 9)) 85 85 w.heap.size 9 i0 (.string ⟨#[]⟩) 1 16 Tryz.underlying85 hi hz0 hz1 hz2 rfl (by decide) _ k _ hown3 ⟨w2.heap.size,0,none⟩ 1 1 [.string (strOf (txtE e))] rfl (blk_cells N3) (by simp [Value.oneCell']) (by omega) (by unfold maxLen;omega) (by omega) hbl3.size _ rfl
    rw [← HTK.out] at hown4
    have HO4:=hide hown4
    have HB4:=hide (hbl3.grown hg4 hbl3.size (fun j hj=>own_base hown3 hj))
    clear hown4 hg4 hown3 hbl3 N3 hb3 hb2 HT HOW HBR hw1 n0 n1 n2 q0 q1 q2 HTK
    go_wp2_with (at_builtin;refine app_runS (.tmp 12) (.tmp 15) 85 rfl rfl _ _ rfl rfl hr4 ?_)
    go_wp2
    go_roundw
    case rel=>exact ⟨k+1,by omega,by go_num,HO4.out,HB4.out⟩
    case measure=>simp [intOf];omega
  · obtain rfl:k=es.length:=by omega
    have hki:¬ (es.length:Int)<(es.length:Int):=by omega
    rw [List.take_length] at hown
    obtain ⟨PA,pc,rfl,hpc⟩:=own_slice hown
    have hsl:=Sl.of_own hown
    have hml:es.map (fun e=>Value.string (strOf (txtE e)))=(es.map txtE).map fun x=>Value.string (strOf x):=by rw [List.map_map];rfl
    rw [hml] at hsl
    have J:=joinS_any (es.map txtE) [32] PA pc wr hsl (by rw [List.length_map];exact hpc) (by rw [List.length_map];omega) (by rw [fmtT_join];have:=HL.out;omega)
    rw [fmtT_join,List.length_map] at J
    have HJJ:=hide J
    have HBR:=hide hbr
    clear hown hsl hml J hbr
    go_wp2_with fail
    refine HJJ.out.mono ?_
    rintro e w' ⟨rfl,hb'⟩
    have HB':=hide (bl_step HBR.out hb')
    clear hb'
    go_wp2
    go_ret
    exact ⟨rfl,HB'.out⟩
end
end Go.Proofs.YtfljlmleiggmjaaGreatDoor
