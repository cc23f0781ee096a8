/- TraceText TraceForm -/
import Derived.Deep.AppendLies
import Derived.LoopN
import Derived.Test.YtfljlmleiggmjaaGreatDoorPkD14
import Derived.Test.YtfljlmleiggmjaaGreatDoorPkD16
import Derived.Test.YtfljlmleiggmjaaGreatDoorPkD17
set_option maxRecDepth 1000000
set_option maxHeartbeats 8000000
namespace Go.Proofs.YtfljlmleiggmjaaGreatDoor
open Go.Proofs.Tryz
section
open Go.RowKit Go.Shelf
def PT(w : World): Prop := ∀ w', Below w.heap.size w w' -> Lib.TabIs prog w' "internal/strconv.uint64pow10" .u64 Lib.pow10Tab
theorem PT.step{w w':World}(h:PT w)(hb:Below w.heap.size w w'):PT w':=fun w2 hb2=>h w2 (Z9 hb hb2)
theorem PT.of{w : World}(h : Lib.TabIs prog w "internal/strconv.uint64pow10" .u64 Lib.pow10Tab): PT w := fun w' hb => by
 unfold Lib.TabIs World.var? at h ⊢;obtain ⟨g, hg⟩ : ∃ g, prog.globalNamed "internal/strconv.uint64pow10" = some g := by
  cases hg : prog.globalNamed "internal/strconv.uint64pow10" with
  | none=>rw [hg] at h;cases h
  | some g=>exact ⟨g,rfl⟩
 rw [hg] at h ⊢;simp only [Option.bind_some] at h ⊢;have hl:g<w.heap.size:=by
  rcases Nat.lt_or_ge g w.heap.size with h1|h1
  · exact h1
  · rw [Array.getElem?_eq_none h1] at h;cases h
 rw [hb.block g hl];exact h
theorem yh:∀ u:Nat,Lib.decDigits u=dgB u:=by
 intro u
 induction u using Nat.strongRecOn with
 | _ u ih =>
   by_cases h:u<10
   · rw [Lib.decDigits,dif_pos h];unfold dgB;rw [Ou h];rfl
   · rw [Lib.decDigits,dif_neg h,ih (u / 10) (by omega)];unfold dgB;rw [nT (n:=u) (by omega),List.reverse_cons,List.map_append];rfl
theorem sN(n:Int):Lib.itoa n=txt n:=by
 unfold Lib.itoa txt
 by_cases h:n<0
 · rw [if_pos h,if_pos h,yh];rfl
 · rw [if_neg h,if_neg h,yh,List.nil_append]
   congr 1;omega
theorem Yv{n:Int}(h:Yu n):(txt n).length<=30:=by
 unfold Yu at h
 have h1:(dr n.natAbs).length<=19+1:=nU (by
  have:n.natAbs<=9223372036854775808:=by omega
  exact Nat.lt_of_le_of_lt this (by decide))
 unfold txt dgB;rw [List.length_append,List.length_map,List.length_reverse];split <;> simp <;> omega
theorem Fv(w:World)(k:Nat)(os:Array Obj):Below w.heap.size w (Go.Sort.grow (w.drewN k) os) :=
 ⟨rfl,rfl,rfl,by show w.heap.size<=(w.heap++os).size;rw [Array.size_append];omega,fun j hj=>by
   show (w.heap++os)[j]?=w.heap[j]?
   rw [Array.getElem?_append_left hj]⟩
theorem Xw(n:Int)(hn:Yu n)(w:World)(hp:PT w):Calls prog 87 #[.int .i64 n] w fun e w'=>e=.returned (.string (strOf (txt n)))/\Below w.heap.size w w':=by
 refine (Any.strconv_Itoa Tryz.lays171 n hn.1 hn.2 w (hp w (Below.refl _ _))).mono ?_;rintro e w' ⟨rfl,k,os,rfl⟩;refine ⟨?_,Fv w k os⟩;rw [<- sN];rfl
def qJ(k:Int):UInt8:=if k=1 then 114 else if k=2 then 119 else if k=3 then 112 else if k=4 then 101 else if k=5 then 115 else if k=6 then 99 else if k=7 then 97 else 105
def V6(e:Ev):List UInt8 :=
 if e.1=3\/e.1=4\/e.1=7 then [qJ e.1]++txt e.2.1++[44]++txt e.2.2
 else if e.1=1\/e.1=2\/e.1=5\/e.1=8 then [qJ e.1]++txt e.2.1
 else if e.1=6 then [99]
 else [63]++txt e.1++[44]++txt e.2.1++[44]++txt e.2.2
def EvJ(e:Ev):Prop:=Yu e.1/\Yu e.2.1/\Yu e.2.2
theorem bY(a b:Int)(hj:Yu a/\Yu b)(w:World)(hp:PT w):Calls prog 46 #[.agg #[.int .i64 1,.int .i64 a,.int .i64 b]] w fun e w'=>e=.returned (.string (strOf (V6 (1,a,b))))/\Below w.heap.size w w':=by
 have hb0:=Z7 (Below.refl w.heap.size w) (.cells #[.int .i64 1,.int .i64 a,.int .i64 b] 66);have N0:=Z6.new w 66 #[.int .i64 1,.int .i64 a,.int .i64 b];have c0:=N0.q0 rfl;have c1:=N0.q1 rfl;have c2:=N0.q2 rfl;obtain ⟨w1,hw1⟩:=eE ((w.alloc (.cells #[.int .i64 1,.int .i64 a,.int .i64 b] 66)).alloc (.cells #[.int .i64 a,.int .i64 b] 3));have hb1:Below w.heap.size w w1:=by rw [hw1];exact Z7 hb0 _
 have N1:Z6 w1 (w.heap.size+1) 3 #[.int .i64 a,.int .i64 b]:=by rw [hw1];exact Z6.new2 _ _ _ _
 have z1:(strOf (txt a)).size<=30:=by rw [Y4];exact Yv hj.1
 have z2:(strOf (txt b)).size<=30:=by rw [Y4];exact Yv hj.2
 have d0:=N1.q0 rfl;have d1:=N1.q1 rfl;have HN:=hide N1;have HB:=hide hb1;have HJ:=hide hj;have HP:=hide hp;clear N0 N1 hb0 hb1 hj hp;rw [hw1] at d0 d1;go_enter func46,ntmps46;go_wp2_with fail;refine wp_loop_rounds 3 ?_;rw [rounds_succ];go_wp2_with fail;rw [<- hw1];refine (Xw a HJ.out.1 _ (HP.out.step HB.out)).mono ?_;rintro e w2 ⟨rfl,hb2⟩;have HB2:=hide (Z9 HB.out hb2);have N2:=HN.out.step hb2;have e1:=N2.q1 rfl;clear d0 d1 hb2 N2 c0 c1 c2 hw1;go_wp2_with fail;rw [rounds_succ];go_wp2;go_ret;refine ⟨?_,HB2.out⟩
 congr 2
theorem bZ(a b:Int)(hj:Yu a/\Yu b)(w:World)(hp:PT w):Calls prog 46 #[.agg #[.int .i64 2,.int .i64 a,.int .i64 b]] w fun e w'=>e=.returned (.string (strOf (V6 (2,a,b))))/\Below w.heap.size w w':=by
 have hb0:=Z7 (Below.refl w.heap.size w) (.cells #[.int .i64 2,.int .i64 a,.int .i64 b] 66);have N0:=Z6.new w 66 #[.int .i64 2,.int .i64 a,.int .i64 b];have c0:=N0.q0 rfl;have c1:=N0.q1 rfl;have c2:=N0.q2 rfl;obtain ⟨w1,hw1⟩:=eE ((w.alloc (.cells #[.int .i64 2,.int .i64 a,.int .i64 b] 66)).alloc (.cells #[.int .i64 a,.int .i64 b] 3));have hb1:Below w.heap.size w w1:=by rw [hw1];exact Z7 hb0 _
 have N1:Z6 w1 (w.heap.size+1) 3 #[.int .i64 a,.int .i64 b]:=by rw [hw1];exact Z6.new2 _ _ _ _
 have z1:(strOf (txt a)).size<=30:=by rw [Y4];exact Yv hj.1
 have z2:(strOf (txt b)).size<=30:=by rw [Y4];exact Yv hj.2
 have d0:=N1.q0 rfl;have d1:=N1.q1 rfl;have HN:=hide N1;have HB:=hide hb1;have HJ:=hide hj;have HP:=hide hp;clear N0 N1 hb0 hb1 hj hp;rw [hw1] at d0 d1;go_enter func46,ntmps46;go_wp2_with fail;refine wp_loop_rounds 3 ?_;rw [rounds_succ];go_wp2_with fail;rw [<- hw1];refine (Xw a HJ.out.1 _ (HP.out.step HB.out)).mono ?_;rintro e w2 ⟨rfl,hb2⟩;have HB2:=hide (Z9 HB.out hb2);have N2:=HN.out.step hb2;have e1:=N2.q1 rfl;clear d0 d1 hb2 N2 c0 c1 c2 hw1;go_wp2_with fail;rw [rounds_succ];go_wp2;go_ret;refine ⟨?_,HB2.out⟩
 congr 2
theorem cu(a b:Int)(hj:Yu a/\Yu b)(w:World)(hp:PT w):Calls prog 46 #[.agg #[.int .i64 3,.int .i64 a,.int .i64 b]] w fun e w'=>e=.returned (.string (strOf (V6 (3,a,b))))/\Below w.heap.size w w':=by
 have hb0:=Z7 (Below.refl w.heap.size w) (.cells #[.int .i64 3,.int .i64 a,.int .i64 b] 66);have N0:=Z6.new w 66 #[.int .i64 3,.int .i64 a,.int .i64 b];have c0:=N0.q0 rfl;have c1:=N0.q1 rfl;have c2:=N0.q2 rfl;obtain ⟨w1,hw1⟩:=eE ((w.alloc (.cells #[.int .i64 3,.int .i64 a,.int .i64 b] 66)).alloc (.cells #[.int .i64 a,.int .i64 b] 3));have hb1:Below w.heap.size w w1:=by rw [hw1];exact Z7 hb0 _
 have N1:Z6 w1 (w.heap.size+1) 3 #[.int .i64 a,.int .i64 b]:=by rw [hw1];exact Z6.new2 _ _ _ _
 have z1:(strOf (txt a)).size<=30:=by rw [Y4];exact Yv hj.1
 have z2:(strOf (txt b)).size<=30:=by rw [Y4];exact Yv hj.2
 have d0:=N1.q0 rfl;have d1:=N1.q1 rfl;have HN:=hide N1;have HB:=hide hb1;have HJ:=hide hj;have HP:=hide hp;clear N0 N1 hb0 hb1 hj hp;rw [hw1] at d0 d1;go_enter func46,ntmps46;go_wp2_with fail;refine wp_loop_rounds 3 ?_;rw [rounds_succ];go_wp2_with fail;rw [<- hw1];refine (Xw a HJ.out.1 _ (HP.out.step HB.out)).mono ?_;rintro e w2 ⟨rfl,hb2⟩;have HB2:=hide (Z9 HB.out hb2);have N2:=HN.out.step hb2;have e1:=N2.q1 rfl;clear d0 d1 hb2 N2 c0 c1 c2 hw1;go_wp2_with fail;rw [rounds_succ];go_wp2_with fail;refine (Xw b HJ.out.2 _ (HP.out.step HB2.out)).mono ?_;rintro e w3 ⟨rfl,hb3⟩;have HB3:=hide (Z9 HB2.out hb3);clear e1 hb3;go_wp2_with fail;rw [rounds_succ];go_wp2;go_ret;refine ⟨?_,HB3.out⟩
 congr 2
theorem cK(a b:Int)(hj:Yu a/\Yu b)(w:World)(hp:PT w):Calls prog 46 #[.agg #[.int .i64 4,.int .i64 a,.int .i64 b]] w fun e w'=>e=.returned (.string (strOf (V6 (4,a,b))))/\Below w.heap.size w w':=by
 have hb0:=Z7 (Below.refl w.heap.size w) (.cells #[.int .i64 4,.int .i64 a,.int .i64 b] 66);have N0:=Z6.new w 66 #[.int .i64 4,.int .i64 a,.int .i64 b];have c0:=N0.q0 rfl;have c1:=N0.q1 rfl;have c2:=N0.q2 rfl;obtain ⟨w1,hw1⟩:=eE ((w.alloc (.cells #[.int .i64 4,.int .i64 a,.int .i64 b] 66)).alloc (.cells #[.int .i64 a,.int .i64 b] 3));have hb1:Below w.heap.size w w1:=by rw [hw1];exact Z7 hb0 _
 have N1:Z6 w1 (w.heap.size+1) 3 #[.int .i64 a,.int .i64 b]:=by rw [hw1];exact Z6.new2 _ _ _ _
 have z1:(strOf (txt a)).size<=30:=by rw [Y4];exact Yv hj.1
 have z2:(strOf (txt b)).size<=30:=by rw [Y4];exact Yv hj.2
 have d0:=N1.q0 rfl;have d1:=N1.q1 rfl;have HN:=hide N1;have HB:=hide hb1;have HJ:=hide hj;have HP:=hide hp;clear N0 N1 hb0 hb1 hj hp;rw [hw1] at d0 d1;go_enter func46,ntmps46;go_wp2_with fail;refine wp_loop_rounds 3 ?_;rw [rounds_succ];go_wp2_with fail;rw [<- hw1];refine (Xw a HJ.out.1 _ (HP.out.step HB.out)).mono ?_;rintro e w2 ⟨rfl,hb2⟩;have HB2:=hide (Z9 HB.out hb2);have N2:=HN.out.step hb2;have e1:=N2.q1 rfl;clear d0 d1 hb2 N2 c0 c1 c2 hw1;go_wp2_with fail;rw [rounds_succ];go_wp2_with fail;refine (Xw b HJ.out.2 _ (HP.out.step HB2.out)).mono ?_;rintro e w3 ⟨rfl,hb3⟩;have HB3:=hide (Z9 HB2.out hb3);clear e1 hb3;go_wp2_with fail;rw [rounds_succ];go_wp2;go_ret;refine ⟨?_,HB3.out⟩
 congr 2
theorem cO(a b:Int)(hj:Yu a/\Yu b)(w:World)(hp:PT w):Calls prog 46 #[.agg #[.int .i64 5,.int .i64 a,.int .i64 b]] w fun e w'=>e=.returned (.string (strOf (V6 (5,a,b))))/\Below w.heap.size w w':=by
 have hb0:=Z7 (Below.refl w.heap.size w) (.cells #[.int .i64 5,.int .i64 a,.int .i64 b] 66);have N0:=Z6.new w 66 #[.int .i64 5,.int .i64 a,.int .i64 b];have c0:=N0.q0 rfl;have c1:=N0.q1 rfl;have c2:=N0.q2 rfl;obtain ⟨w1,hw1⟩:=eE ((w.alloc (.cells #[.int .i64 5,.int .i64 a,.int .i64 b] 66)).alloc (.cells #[.int .i64 a,.int .i64 b] 3));have hb1:Below w.heap.size w w1:=by rw [hw1];exact Z7 hb0 _
 have N1:Z6 w1 (w.heap.size+1) 3 #[.int .i64 a,.int .i64 b]:=by rw [hw1];exact Z6.new2 _ _ _ _
 have z1:(strOf (txt a)).size<=30:=by rw [Y4];exact Yv hj.1
 have z2:(strOf (txt b)).size<=30:=by rw [Y4];exact Yv hj.2
 have d0:=N1.q0 rfl;have d1:=N1.q1 rfl;have HN:=hide N1;have HB:=hide hb1;have HJ:=hide hj;have HP:=hide hp;clear N0 N1 hb0 hb1 hj hp;rw [hw1] at d0 d1;go_enter func46,ntmps46;go_wp2_with fail;refine wp_loop_rounds 3 ?_;rw [rounds_succ];go_wp2_with fail;rw [<- hw1];refine (Xw a HJ.out.1 _ (HP.out.step HB.out)).mono ?_;rintro e w2 ⟨rfl,hb2⟩;have HB2:=hide (Z9 HB.out hb2);have N2:=HN.out.step hb2;have e1:=N2.q1 rfl;clear d0 d1 hb2 N2 c0 c1 c2 hw1;go_wp2_with fail;rw [rounds_succ];go_wp2;go_ret;refine ⟨?_,HB2.out⟩
 congr 2
theorem cZ(a b:Int)(hj:Yu a/\Yu b)(w:World)(hp:PT w):Calls prog 46 #[.agg #[.int .i64 6,.int .i64 a,.int .i64 b]] w fun e w'=>e=.returned (.string (strOf (V6 (6,a,b))))/\Below w.heap.size w w':=by
 have hb0:=Z7 (Below.refl w.heap.size w) (.cells #[.int .i64 6,.int .i64 a,.int .i64 b] 66);have N0:=Z6.new w 66 #[.int .i64 6,.int .i64 a,.int .i64 b];have c0:=N0.q0 rfl;have c1:=N0.q1 rfl;have c2:=N0.q2 rfl;obtain ⟨w1,hw1⟩:=eE ((w.alloc (.cells #[.int .i64 6,.int .i64 a,.int .i64 b] 66)).alloc (.cells #[.int .i64 a,.int .i64 b] 3));have hb1:Below w.heap.size w w1:=by rw [hw1];exact Z7 hb0 _
 have N1:Z6 w1 (w.heap.size+1) 3 #[.int .i64 a,.int .i64 b]:=by rw [hw1];exact Z6.new2 _ _ _ _
 have z1:(strOf (txt a)).size<=30:=by rw [Y4];exact Yv hj.1
 have z2:(strOf (txt b)).size<=30:=by rw [Y4];exact Yv hj.2
 have d0:=N1.q0 rfl;have d1:=N1.q1 rfl;have HN:=hide N1;have HB:=hide hb1;have HJ:=hide hj;have HP:=hide hp;clear N0 N1 hb0 hb1 hj hp;rw [hw1] at d0 d1;go_enter func46,ntmps46;go_wp2_with fail;refine wp_loop_rounds 3 ?_;rw [rounds_succ];go_wp2;go_ret;exact ⟨by unfold V6;rfl,by rw [hw1] at HB;exact HB.out⟩
theorem dh(a b:Int)(hj:Yu a/\Yu b)(w:World)(hp:PT w):Calls prog 46 #[.agg #[.int .i64 7,.int .i64 a,.int .i64 b]] w fun e w'=>e=.returned (.string (strOf (V6 (7,a,b))))/\Below w.heap.size w w':=by
 have hb0:=Z7 (Below.refl w.heap.size w) (.cells #[.int .i64 7,.int .i64 a,.int .i64 b] 66);have N0:=Z6.new w 66 #[.int .i64 7,.int .i64 a,.int .i64 b];have c0:=N0.q0 rfl;have c1:=N0.q1 rfl;have c2:=N0.q2 rfl;obtain ⟨w1,hw1⟩:=eE ((w.alloc (.cells #[.int .i64 7,.int .i64 a,.int .i64 b] 66)).alloc (.cells #[.int .i64 a,.int .i64 b] 3));have hb1:Below w.heap.size w w1:=by rw [hw1];exact Z7 hb0 _
 have N1:Z6 w1 (w.heap.size+1) 3 #[.int .i64 a,.int .i64 b]:=by rw [hw1];exact Z6.new2 _ _ _ _
 have z1:(strOf (txt a)).size<=30:=by rw [Y4];exact Yv hj.1
 have z2:(strOf (txt b)).size<=30:=by rw [Y4];exact Yv hj.2
 have d0:=N1.q0 rfl;have d1:=N1.q1 rfl;have HN:=hide N1;have HB:=hide hb1;have HJ:=hide hj;have HP:=hide hp;clear N0 N1 hb0 hb1 hj hp;rw [hw1] at d0 d1;go_enter func46,ntmps46;go_wp2_with fail;refine wp_loop_rounds 3 ?_;rw [rounds_succ];go_wp2_with fail;rw [<- hw1];refine (Xw a HJ.out.1 _ (HP.out.step HB.out)).mono ?_;rintro e w2 ⟨rfl,hb2⟩;have HB2:=hide (Z9 HB.out hb2);have N2:=HN.out.step hb2;have e1:=N2.q1 rfl;clear d0 d1 hb2 N2 c0 c1 c2 hw1;go_wp2_with fail;rw [rounds_succ];go_wp2_with fail;refine (Xw b HJ.out.2 _ (HP.out.step HB2.out)).mono ?_;rintro e w3 ⟨rfl,hb3⟩;have HB3:=hide (Z9 HB2.out hb3);clear e1 hb3;go_wp2_with fail;rw [rounds_succ];go_wp2;go_ret;refine ⟨?_,HB3.out⟩
 congr 2
theorem dn(a b:Int)(hj:Yu a/\Yu b)(w:World)(hp:PT w):Calls prog 46 #[.agg #[.int .i64 8,.int .i64 a,.int .i64 b]] w fun e w'=>e=.returned (.string (strOf (V6 (8,a,b))))/\Below w.heap.size w w':=by
 have hb0:=Z7 (Below.refl w.heap.size w) (.cells #[.int .i64 8,.int .i64 a,.int .i64 b] 66);have N0:=Z6.new w 66 #[.int .i64 8,.int .i64 a,.int .i64 b];have c0:=N0.q0 rfl;have c1:=N0.q1 rfl;have c2:=N0.q2 rfl;obtain ⟨w1,hw1⟩:=eE ((w.alloc (.cells #[.int .i64 8,.int .i64 a,.int .i64 b] 66)).alloc (.cells #[.int .i64 a,.int .i64 b] 3));have hb1:Below w.heap.size w w1:=by rw [hw1];exact Z7 hb0 _
 have N1:Z6 w1 (w.heap.size+1) 3 #[.int .i64 a,.int .i64 b]:=by rw [hw1];exact Z6.new2 _ _ _ _
 have z1:(strOf (txt a)).size<=30:=by rw [Y4];exact Yv hj.1
 have z2:(strOf (txt b)).size<=30:=by rw [Y4];exact Yv hj.2
 have d0:=N1.q0 rfl;have d1:=N1.q1 rfl;have HN:=hide N1;have HB:=hide hb1;have HJ:=hide hj;have HP:=hide hp;clear N0 N1 hb0 hb1 hj hp;rw [hw1] at d0 d1;go_enter func46,ntmps46;go_wp2_with fail;refine wp_loop_rounds 3 ?_;rw [rounds_succ];go_wp2_with fail;rw [<- hw1];refine (Xw a HJ.out.1 _ (HP.out.step HB.out)).mono ?_;rintro e w2 ⟨rfl,hb2⟩;have HB2:=hide (Z9 HB.out hb2);have N2:=HN.out.step hb2;have e1:=N2.q1 rfl;clear d0 d1 hb2 N2 c0 c1 c2 hw1;go_wp2_with fail;rw [rounds_succ];go_wp2;go_ret;refine ⟨?_,HB2.out⟩
 congr 2
theorem dw(k a b:Int)(hj:Yu a/\Yu b)(hk:Yu k)(hx:¬ (1<=k/\k<=8))(w:World)(hp:PT w):Calls prog 46 #[.agg #[.int .i64 k,.int .i64 a,.int .i64 b]] w fun e w'=>e=.returned (.string (strOf (V6 (k,a,b))))/\Below w.heap.size w w':=by
 have hb0:=Z7 (Below.refl w.heap.size w) (.cells #[.int .i64 k,.int .i64 a,.int .i64 b] 66);have N0:=Z6.new w 66 #[.int .i64 k,.int .i64 a,.int .i64 b];have c0:=N0.q0 rfl;have h1:¬ k=1:=by omega
 have h2:¬ k=2:=by omega
 have h3:¬ k=3:=by omega
 have h4:¬ k=4:=by omega
 have h5:¬ k=5:=by omega
 have h6:¬ k=6:=by omega
 have h7:¬ k=7:=by omega
 have h8:¬ k=8:=by omega
 have HT:Hid (V6 (k,a,b)=[63]++txt k++[44]++txt a++[44]++txt b):=hide (by
  unfold V6;dsimp only
  rw [if_neg (by omega),if_neg (by omega),if_neg h6])
 obtain ⟨w0,hw0⟩:=eE (w.alloc (.cells #[.int .i64 k,.int .i64 a,.int .i64 b] 66));rw [<- hw0] at hb0 N0 c0;have z0:(strOf (txt k)).size<=30:=by rw [Y4];exact Yv hk
 have z1:(strOf (txt a)).size<=30:=by rw [Y4];exact Yv hj.1
 have z2:(strOf (txt b)).size<=30:=by rw [Y4];exact Yv hj.2
 have HN:=hide N0;have HB:=hide hb0;have HJ:=hide hj;have HP:=hide hp;have HK:=hide hk;clear N0 hb0 hj hp hk hx;rw [hw0] at c0;go_enter func46,ntmps46;go_wp2_with fail;rw [<- hw0];refine (Xw k HK.out _ (HP.out.step HB.out)).mono ?_;rintro e w1 ⟨rfl,hb1⟩;have HB1:=hide (Z9 HB.out hb1);have N1:=HN.out.step hb1;have c1:=N1.q1 rfl;have c2:=N1.q2 rfl;obtain ⟨w2,hw2⟩:=eE (w1.alloc (.cells #[.int .i64 a,.int .i64 b] 3));obtain ⟨g2,hg2⟩:=eE w1.heap.size;have hb2:=bE hw2;have N2:Z6 w2 g2 3 #[.int .i64 a,.int .i64 b]:=by rw [hw2,hg2];exact Z6.new _ _ _
 have HB2:=hide (Z9 HB1.out hb2);have HN2:=hide N2;have d0:=N2.q0 rfl;have d1:=N2.q1 rfl;clear hb1 N1 c0 hw0 hb2 N2;rw [hw2,hg2] at d0 d1;go_wp2_with fail;refine wp_loop_rounds 3 ?_;rw [rounds_succ];go_wp2_with fail;rw [<- hw2];refine (Xw a HJ.out.1 _ (HP.out.step HB2.out)).mono ?_;rintro e w3 ⟨rfl,hb3⟩;have HB3:=hide (Z9 HB2.out hb3);have N3:=HN2.out.step hb3;rw [hg2] at N3;have e1:=N3.q1 rfl;clear d0 d1 hb3 N3 c1 c2 hw2;go_wp2_with fail;rw [rounds_succ];go_wp2_with fail;refine (Xw b HJ.out.2 _ (HP.out.step HB3.out)).mono ?_;rintro e w4 ⟨rfl,hb4⟩;have Qv:=hide (Z9 HB3.out hb4);clear e1 hb4;go_wp2_with fail;rw [rounds_succ];go_wp2;go_ret;refine ⟨?_,Qv.out⟩;rw [HT.out]
 congr 2
theorem sJ(e:Ev)(he:EvJ e)(w:World)(hp:PT w):Calls prog 46 #[.agg #[.int .i64 e.1,.int .i64 e.2.1,.int .i64 e.2.2]] w fun r w'=>r=.returned (.string (strOf (V6 e)))/\Below w.heap.size w w':=by
 obtain ⟨k,a,b⟩:=e;obtain ⟨hk,hj⟩:=he;dsimp only at hk hj ⊢
 by_cases hx:1<=k/\k<=8
 · have h:k=1\/k=2\/k=3\/k=4\/k=5\/k=6\/k=7\/k=8:=(by omega);rcases h with rfl|rfl|rfl|rfl|rfl|rfl|rfl|rfl
   · exact bY a b hj w hp
   · exact bZ a b hj w hp
   · exact cu a b hj w hp
   · exact cK a b hj w hp
   · exact cO a b hj w hp
   · exact cZ a b hj w hp
   · exact dh a b hj w hp
   · exact dn a b hj w hp
 · exact dw k a b hj hk hx w hp
theorem nG {P:Program} {ops:Array Oper} {rest:List Oper} {o:Oper} {a:Act} {Q:Exit->Act->World->Prop} {w:World} (s x:Operand) (t:TypeId)
 (hop:o.op=Op.call { callee:=Callee.builtin Builtin.append,args:=#[s,x],argTypes:=#[t,t] }) (hw:Region.wanted o (yielded ops a.tmps)=true) (v xv:Value) (hs:a.eval s=v) (hx:a.eval x=xv) {v':Value} {w':World}
 (hrun:(Builtin.append_ #[t,t] o.type #[v,xv]).run P w=.ok v' w') (h:wpList P ops Q rest (a.put o.dst v') w'):wpList P ops Q (o::rest) a w:=by
 unfold wpList;rw [if_pos hw]
 left
 unfold Oper.wp;simp [execOp,hop,resolve,invoke,builtin,hs,hx,hrun,Result.andThen];exact h
theorem sH:(prog.info? 9).map (fun i=>(i.zero,i.size,i.bytes))=some (some (.string ⟨#[]⟩),1,16):=by kernel_rfl
def Du:List Ev->List UInt8
 | []=>[]
 | e::r=>V6 e++r.flatMap fun x=>32::V6 x
theorem Ia(es:List Ev):Lib.join (es.map V6) [32]=Du es:=by
 cases es with
 | nil=>rfl
 | cons e r =>
   rw [List.map_cons,Lib.join_cons];unfold Du Lib.joinTail
   congr 1
   rw [List.map_map,List.flatMap_def];rfl
theorem EO{e:Ev}(h:EvJ e):(V6 e).length<=100:=by
 have h1:=Yv h.1;have h2:=Yv h.2.1;have h3:=Yv h.2.2;unfold V6;split
 · simp;omega
 · split
   · simp;omega
   · split
     · simp
     · simp;omega
theorem om:∀ {es:List Ev},(∀ e∈es,EvJ e)->(Du es).length<=101*es.length
 | [],_=>Nat.zero_le _
 | e::r,h=>by
   have h1:=EO (h e (List.mem_cons_self ..));have h2:∀ l:List Ev,(∀ x∈l,EvJ x)->(l.flatMap fun x=>(32:UInt8)::V6 x).length<=101*l.length:=by
    intro l
    induction l with
    | nil=>intro _;simp
    | cons x l ih =>
      intro hl;have a:=EO (hl x (List.mem_cons_self ..));have b:=ih fun y hy=>hl y (List.mem_cons_of_mem _ hy);rw [List.flatMap_cons,List.length_append,List.length_cons,List.length_cons];omega
   have h3:=h2 r fun y hy=>h y (List.mem_cons_of_mem _ hy);unfold Du;rw [List.length_append,List.length_cons];omega
theorem oh:Builder.Extra prog Tryz.lays156_ren where
 sizeBuilder:=by kernel_rfl
 liesBuilder:=by kernel_rfl
 t5:=underlying5
 a5:=fun w=>by kernel_rfl
 z5:=fun w=>by kernel_rfl
 v5:=fun w=>by kernel_rfl
 infoByte:=by kernel_rfl
 cellsByte:=by kernel_rfl
 sizeByte:=by kernel_rfl
 neB5:=by decide
theorem AJ(a:Option Addr)(c:Nat)(sep:ByteArray)(w:World):Calls prog 47 #[.slice a 0 c,.string sep] w fun e w'=>e=.returned (.string (strOf []))/\w'=w :=
 Any.strings_Join_none Tryz.lays156 oh a c sep w
theorem vZ(xs:List (List UInt8))(sep:List UInt8)(A:Option Addr)(c:Nat)(w:World)(hs:Sl w w.heap.size A (xs.map fun x=>Value.string (strOf x)))(hc:xs.length<=c)(hn:xs.length<=1000000)(hl:(Lib.join xs sep).length<=140737488355328):
 Calls prog 47 #[.slice A xs.length c,.string (strOf sep)] w fun e w'=>e=.returned (.string (strOf (Lib.join xs sep)))/\Below w.heap.size w w':=by
 rcases hs with h0|⟨b,off,rfl,hb,hcs⟩
 · have hx:xs=[]:=(by simpa using h0);subst hx;refine (AJ A c (strOf sep) w).mono ?_;rintro e w' ⟨rfl,rfl⟩;exact ⟨rfl,Below.refl _ _⟩
 · have e1:(xs.map strOf).map (fun x=>x.data.toList)=xs:=by
    rw [List.map_map]
    conv=>rhs;rw [<- List.map_id xs]
    refine List.map_congr_left fun x _=>?_;simp [strOf]
   have h:=Any.strings_Join Tryz.lays156 oh b off c (xs.map strOf) (strOf sep) w (fun j x hj=>by
    refine hcs j _ ?_;rw [List.getElem?_map] at hj ⊢;cases hx:xs[j]? with
    | none=>rw [hx] at hj;simp at hj
    | some y=>rw [hx] at hj;simp at hj;subst hj;rfl) hb (by rw [List.length_map];omega) (by rw [List.length_map];exact hc) (by rw [e1];simpa [strOf] using hl)
   rw [e1,List.length_map] at h;refine h.mono ?_;rintro e w' ⟨rfl,hb'⟩;refine ⟨?_,hb'⟩;simp [strOf]
theorem EM(es:List Ev)(hj:∀ e∈es,EvJ e)(hn:es.length<=10000)(A:Option Addr)(c:Nat)(w:World)(hs:Sl w w.heap.size A (Y5 es))(hp:PT w):
 Calls prog 19 #[.slice A es.length c] w fun e w'=>e=.returned (.string (strOf (Du es)))/\Below w.heap.size w w':=by
 obtain ⟨i0,hi,hz0,hz1,hz2⟩:=info_parts sH;have HS:=hide hs;have HJ:=hide hj;have HP:=hide hp;have HL:=hide (om hj);clear hs hj hp;go_enter func19,ntmps19;go_wp2
 go_loopw [3,8] (fun v i wr=>∃ k:Nat,k<=es.length/\i=.int .i64 (k:Int)/\wr.ownsRow w.heap.size 9 1 v k ((es.take k).map fun e=>Value.string (strOf (V6 e)))/\Below w.heap.size w wr)
  (fun _ i _=>es.length - (intOf i).toNat)
 case atStart=>exact ⟨0,Nat.zero_le _,rfl,World.ownsRow_nil _ _ _ _,Below.refl _ _⟩
 case round =>
  obtain ⟨k,hk,rfl,ZQ,hbr⟩:=hrel
  by_cases hkn:k<es.length
  · have hki:(k:Int)<(es.length:Int):=(by omega);obtain ⟨e,he⟩:∃ e,es[k]?=some e:=⟨_,List.getElem?_eq_getElem hkn⟩;obtain ⟨b,off,rfl,hb,q0,q1,q2⟩:=(HS.out.below hbr).ev he;have HE:=hide (HJ.out e (List.mem_of_getElem? he));have G8:Hid ((es.take (k+1)).map (fun e=>Value.string (strOf (V6 e)))=(es.take k).map (fun e=>Value.string (strOf (V6 e)))++[Value.string (strOf (V6 e))]):=hide (by rw [List.take_add_one,he,List.map_append];rfl);obtain ⟨w1,hw1⟩:=eE (wr.alloc (.cells #[.int .i64 e.1,.int .i64 e.2.1,.int .i64 e.2.2] 66));have hb1:=bE hw1;have N1:Z6 w1 wr.heap.size 66 #[.int .i64 e.1,.int .i64 e.2.1,.int .i64 e.2.2]:=(by rw [hw1];exact Z6.new _ _ _);have n0:=N1.q0 rfl;have n1:=N1.q1 rfl;have n2:=N1.q2 rfl;have tJ:=hide (Z9 hbr hb1);have HOW:=hide (ZO ZQ hb1);have HT:=hide (sJ e HE.out w1 (HP.out.step tJ.out));clear he ZQ hbr hb1 N1 HE;rw [hw1] at n0 n1 n2;go_wp2_with fail;rw [<- hw1];refine HT.out.mono ?_;rintro r w2 ⟨rfl,hb2⟩;have N3:=Z6.new w2 9 #[.string (strOf (V6 e))];have hb3:=Z7 (Below.refl w2.heap.size w2) (.cells #[.string (strOf (V6 e))] 9);have ZM:=ZO (ZO HOW.out hb2) hb3;have Mg:=Z9 (Z9 tJ.out hb2) hb3;obtain ⟨g4,c4,w4,hr4,Y9,hg4,-,-⟩:=run_append_lies (P:=prog) (w2.alloc (.cells #[.string (strOf (V6 e))] 9)) 85 85 w.heap.size 9 i0 (.string ⟨#[]⟩) 1 16 underlying85 hi hz0 hz1 hz2 rfl (by decide) _ k _ ZM ⟨w2.heap.size,0,none⟩ 1 1 [.string (strOf (V6 e))] rfl (ZI N3) (by simp [Value.oneCell']) (by omega) (by unfold maxLen;omega) (by omega) Mg.size _ rfl;rw [<- G8.out] at Y9;have HO4:=hide Y9;have Qv:=hide (Mg.grown hg4 Mg.size (fun j hj=>ZP ZM hj));clear Y9 hg4 ZM Mg N3 hb3 hb2 HT HOW tJ hw1 n0 n1 n2 q0 q1 q2 G8;go_wp2_with (at_builtin;refine nG (.tmp 12) (.tmp 15) 85 rfl rfl _ _ rfl rfl hr4 ?_);go_wp2;go_roundw
    case rel=>exact ⟨k+1,by omega,by go_num,HO4.out,Qv.out⟩
    case measure=>simp [intOf];omega
  · obtain rfl:k=es.length:=(by omega);have hki:¬ (es.length:Int)<(es.length:Int):=(by omega);rw [List.take_length] at ZQ;obtain ⟨PA,pc,rfl,hpc⟩:=ZJ ZQ;have hsl:=Sl.YI ZQ;have hml:es.map (fun e=>Value.string (strOf (V6 e)))=(es.map V6).map fun x=>Value.string (strOf x):=(by rw [List.map_map];rfl);rw [hml] at hsl;have J:=vZ (es.map V6) [32] PA pc wr hsl (by rw [List.length_map];exact hpc) (by rw [List.length_map];omega) (by rw [Ia];have:=HL.out;omega);rw [Ia,List.length_map] at J;have HJJ:=hide J;have tJ:=hide hbr;clear ZQ hsl hml J hbr;go_wp2_with fail;refine HJJ.out.mono ?_;rintro e w' ⟨rfl,hb'⟩;have HB':=hide (Z9 tJ.out hb');clear hb';go_wp2;go_ret;exact ⟨rfl,HB'.out⟩
end
end Go.Proofs.YtfljlmleiggmjaaGreatDoor