/- RefOne -/
import Derived.Deep.RegionHeld3
import Derived.Laws.Externs
import Derived.Shelf.Bits.Mul64
import Derived.Shelf.Spec.BitsCarry
import Derived.Test.YtfljlmleiggmjaaGreatDoorPkB25
import Derived.Test.YtfljlmleiggmjaaGreatDoorPkB56
import Derived.Test.YtfljlmleiggmjaaGreatDoorPkB57
set_option maxRecDepth 1000000
set_option maxHeartbeats 8000000
namespace Go.Proofs.YtfljlmleiggmjaaGreatDoor
section
open Go.RowKit Go.Shelf
theorem nat64 {n:Int} (hn:I64w n):n.natAbs<65536 ^ 4:=by
 unfold I64w at hn
 have h:n.natAbs≤9223372036854775808:=by omega
 exact Nat.lt_of_le_of_lt h (by decide)
theorem number22_any (n:Int) (hn:I64w n) (w:World):Calls Tryz.prog 91 #[.int .i64 n] w fun e w'=>e=.returned (.string (strOf (txt n)))∧Below w.heap.size w w':=by
 have HI:=hide (int_any (fun _=>True) n ⟨hn.1,hn.2⟩ w (fun _ _=>trivial))
 have HD:Hid ((digs n.natAbs).length≤100):=hide (Nat.le_trans (digs_len (k:=4) (nat64 hn)) (by decide))
 clear hn
 go_enter Tryz.func91,Tryz.ntmps91
 go_wp2_with fail
 refine HI.out.mono ?_
 rintro e w1 ⟨A,c,rfl,hna,hb1⟩
 have HN:=hide (number_any (fun _=>True) n A c w1 hna HD.out)
 have HB:=hide hb1
 clear hna hb1 HI
 unfold numV at HN ⊢
 go_wp2_with fail
 refine HN.out.mono ?_
 rintro e w2 ⟨rfl,hb2⟩
 have HB2:=hide (bl_step HB.out hb2)
 clear hb2
 go_wp2
 go_ret
 exact ⟨rfl,HB2.out⟩
theorem rone_1 (a b:Int) (hj:I64w a∧I64w b) (w:World):Calls Tryz.prog 48 #[.agg #[.int .i64 1,.int .i64 a,.int .i64 b]] w fun e w'=>e=.returned (.string (strOf (txtE (1,a,b))))∧Below w.heap.size w w':=by
 obtain ⟨w0,hw0⟩:∃ w0,w0=w.alloc (.cells #[.int .i64 1,.int .i64 a,.int .i64 b] 66):=⟨_,rfl⟩
 have hb0:Below w.heap.size w w0:=by rw [hw0];exact bA
 have N0:Blk w0 w.heap.size 66 #[.int .i64 1,.int .i64 a,.int .i64 b]:=by rw [hw0];exact Blk.new _ _ _
 have z1:(strOf (txt a)).size≤30:=by rw [strOf_size];exact txt_len hj.1
 have z2:(strOf (txt b)).size≤30:=by rw [strOf_size];exact txt_len hj.2
 have HA:=hide (fun w=>number22_any a hj.1 w)
 have HB:=hide (fun w=>number22_any b hj.2 w)
 have HB0:=hide hb0
 have c0:=N0.cell (i:=0) rfl
 have c1:=N0.cell (i:=1) rfl
 clear N0 hb0 hj
 rw [hw0] at c0 c1
 go_enter Tryz.func48,Tryz.ntmps48
 go_wp2_with fail
 rw [← hw0]
 refine (HA.out _).mono ?_
 rintro e w1 ⟨rfl,hb1⟩
 have HB1:=hide (bl_step HB0.out hb1)
 clear hb1 c0 c1 hw0
 go_wp2
 go_ret
 refine ⟨?_,HB1.out⟩
 congr 2
theorem rone_2 (a b:Int) (hj:I64w a∧I64w b) (w:World):Calls Tryz.prog 48 #[.agg #[.int .i64 2,.int .i64 a,.int .i64 b]] w fun e w'=>e=.returned (.string (strOf (txtE (2,a,b))))∧Below w.heap.size w w':=by
 obtain ⟨w0,hw0⟩:∃ w0,w0=w.alloc (.cells #[.int .i64 2,.int .i64 a,.int .i64 b] 66):=⟨_,rfl⟩
 have hb0:Below w.heap.size w w0:=by rw [hw0];exact bA
 have N0:Blk w0 w.heap.size 66 #[.int .i64 2,.int .i64 a,.int .i64 b]:=by rw [hw0];exact Blk.new _ _ _
 have z1:(strOf (txt a)).size≤30:=by rw [strOf_size];exact txt_len hj.1
 have z2:(strOf (txt b)).size≤30:=by rw [strOf_size];exact txt_len hj.2
 have HA:=hide (fun w=>number22_any a hj.1 w)
 have HB:=hide (fun w=>number22_any b hj.2 w)
 have HB0:=hide hb0
 have c0:=N0.cell (i:=0) rfl
 have c1:=N0.cell (i:=1) rfl
 clear N0 hb0 hj
 rw [hw0] at c0 c1
 go_enter Tryz.func48,Tryz.ntmps48
 go_wp2_with fail
 rw [← hw0]
 refine (HA.out _).mono ?_
 rintro e w1 ⟨rfl,hb1⟩
 have HB1:=hide (bl_step HB0.out hb1)
 clear hb1 c0 c1 hw0
 go_wp2
 go_ret
 refine ⟨?_,HB1.out⟩
 congr 2
theorem rone_3 (a b:Int) (hj:I64w a∧I64w b) (w:World):Calls Tryz.prog 48 #[.agg #[.int .i64 3,.int .i64 a,.int .i64 b]] w fun e w'=>e=.returned (.string (strOf (txtE (3,a,b))))∧Below w.heap.size w w':=by
 obtain ⟨w0,hw0⟩:∃ w0,w0=w.alloc (.cells #[.int .i64 3,.int .i64 a,.int .i64 b] 66):=⟨_,rfl⟩
 have hb0:Below w.heap.size w w0:=by rw [hw0];exact bA
 have N0:Blk w0 w.heap.size 66 #[.int .i64 3,.int .i64 a,.int .i64 b]:=by rw [hw0];exact Blk.new _ _ _
 have z1:(strOf (txt a)).size≤30:=by rw [strOf_size];exact txt_len hj.1
 have z2:(strOf (txt b)).size≤30:=by rw [strOf_size];exact txt_len hj.2
 have HA:=hide (fun w=>number22_any a hj.1 w)
 have HB:=hide (fun w=>number22_any b hj.2 w)
 have HB0:=hide hb0
 have y1:¬ 9223372036854775807<1+(strOf (txt a)).size:=by omega
 have y2:¬ 9223372036854775807<1+(strOf (txt a)).size+1:=by omega
 have y3:¬ 9223372036854775807<1+(strOf (txt a)).size+1+(strOf (txt b)).size:=by omega
 have h00:HeldE w0 w.heap.size (.int .i64 3) (.int .i64 a) (.int .i64 b) w0:=⟨Below.refl _ _,N0.cell (i:=0) rfl,N0.cell (i:=1) rfl,N0.cell (i:=2) rfl⟩
 have hd0:=h00.keep (bl_drew (Below.refl _ _))
 have c0:=N0.cell (i:=0) rfl
 clear N0 hb0 hj
 rw [hw0] at c0
 go_enter Tryz.func48,Tryz.ntmps48
 go_wp2
 rw [← hw0]
 clear c0 hw0
 go_region_held3 (fun w'=>Below w0.heap.size w0 w'∧w'.cell? ⟨w.heap.size,0,none⟩=some (.int .i64 3)∧w'.cell? ⟨w.heap.size,1,none⟩=some (.int .i64 a)∧w'.cell? ⟨w.heap.size,2,none⟩=some (.int .i64 b))
  (first | exact hd0 | exact h00 | exact HeldE.keep (by assumption) (by assumption) | exact hd0.keep (by assumption))
  (first
    | (go_at_call 91;((with_reducible refine (HA.out _).mono ?_);rintro e w' ⟨rfl,hbA⟩))
    | (go_at_call 91;((with_reducible refine (HB.out _).mono ?_);rintro e w' ⟨rfl,hbB⟩)))
 all_goals
  have HF:=hide (bl_step HB0.out (And.left (by assumption):Below w0.heap.size w0 _))
  go_wp2
  go_ret
  refine ⟨?_,HF.out⟩
  congr 2
theorem rone_4 (a b:Int) (hj:I64w a∧I64w b) (w:World):Calls Tryz.prog 48 #[.agg #[.int .i64 4,.int .i64 a,.int .i64 b]] w fun e w'=>e=.returned (.string (strOf (txtE (4,a,b))))∧Below w.heap.size w w':=by
 obtain ⟨w0,hw0⟩:∃ w0,w0=w.alloc (.cells #[.int .i64 4,.int .i64 a,.int .i64 b] 66):=⟨_,rfl⟩
 have hb0:Below w.heap.size w w0:=by rw [hw0];exact bA
 have N0:Blk w0 w.heap.size 66 #[.int .i64 4,.int .i64 a,.int .i64 b]:=by rw [hw0];exact Blk.new _ _ _
 have z1:(strOf (txt a)).size≤30:=by rw [strOf_size];exact txt_len hj.1
 have z2:(strOf (txt b)).size≤30:=by rw [strOf_size];exact txt_len hj.2
 have HA:=hide (fun w=>number22_any a hj.1 w)
 have HB:=hide (fun w=>number22_any b hj.2 w)
 have HB0:=hide hb0
 have y1:¬ 9223372036854775807<1+(strOf (txt a)).size:=by omega
 have y2:¬ 9223372036854775807<1+(strOf (txt a)).size+1:=by omega
 have y3:¬ 9223372036854775807<1+(strOf (txt a)).size+1+(strOf (txt b)).size:=by omega
 have h00:HeldE w0 w.heap.size (.int .i64 4) (.int .i64 a) (.int .i64 b) w0:=⟨Below.refl _ _,N0.cell (i:=0) rfl,N0.cell (i:=1) rfl,N0.cell (i:=2) rfl⟩
 have hd0:=h00.keep (bl_drew (Below.refl _ _))
 have c0:=N0.cell (i:=0) rfl
 clear N0 hb0 hj
 rw [hw0] at c0
 go_enter Tryz.func48,Tryz.ntmps48
 go_wp2
 rw [← hw0]
 clear c0 hw0
 go_region_held3 (fun w'=>Below w0.heap.size w0 w'∧w'.cell? ⟨w.heap.size,0,none⟩=some (.int .i64 4)∧w'.cell? ⟨w.heap.size,1,none⟩=some (.int .i64 a)∧w'.cell? ⟨w.heap.size,2,none⟩=some (.int .i64 b))
  (first | exact hd0 | exact h00 | exact HeldE.keep (by assumption) (by assumption) | exact hd0.keep (by assumption))
  (first
    | (go_at_call 91;((with_reducible refine (HA.out _).mono ?_);rintro e w' ⟨rfl,hbA⟩))
    | (go_at_call 91;((with_reducible refine (HB.out _).mono ?_);rintro e w' ⟨rfl,hbB⟩)))
 all_goals
  have HF:=hide (bl_step HB0.out (And.left (by assumption):Below w0.heap.size w0 _))
  go_wp2
  go_ret
  refine ⟨?_,HF.out⟩
  congr 2
theorem rone_5 (a b:Int) (hj:I64w a∧I64w b) (w:World):Calls Tryz.prog 48 #[.agg #[.int .i64 5,.int .i64 a,.int .i64 b]] w fun e w'=>e=.returned (.string (strOf (txtE (5,a,b))))∧Below w.heap.size w w':=by
 obtain ⟨w0,hw0⟩:∃ w0,w0=w.alloc (.cells #[.int .i64 5,.int .i64 a,.int .i64 b] 66):=⟨_,rfl⟩
 have hb0:Below w.heap.size w w0:=by rw [hw0];exact bA
 have N0:Blk w0 w.heap.size 66 #[.int .i64 5,.int .i64 a,.int .i64 b]:=by rw [hw0];exact Blk.new _ _ _
 have z1:(strOf (txt a)).size≤30:=by rw [strOf_size];exact txt_len hj.1
 have z2:(strOf (txt b)).size≤30:=by rw [strOf_size];exact txt_len hj.2
 have HA:=hide (fun w=>number22_any a hj.1 w)
 have HB:=hide (fun w=>number22_any b hj.2 w)
 have HB0:=hide hb0
 have c0:=N0.cell (i:=0) rfl
 have c1:=N0.cell (i:=1) rfl
 clear N0 hb0 hj
 rw [hw0] at c0 c1
 go_enter Tryz.func48,Tryz.ntmps48
 go_wp2_with fail
 rw [← hw0]
 refine (HA.out _).mono ?_
 rintro e w1 ⟨rfl,hb1⟩
 have HB1:=hide (bl_step HB0.out hb1)
 clear hb1 c0 c1 hw0
 go_wp2
 go_ret
 refine ⟨?_,HB1.out⟩
 congr 2
theorem rone_6 (a b:Int) (hj:I64w a∧I64w b) (w:World):Calls Tryz.prog 48 #[.agg #[.int .i64 6,.int .i64 a,.int .i64 b]] w fun e w'=>e=.returned (.string (strOf (txtE (6,a,b))))∧Below w.heap.size w w':=by
 obtain ⟨w0,hw0⟩:∃ w0,w0=w.alloc (.cells #[.int .i64 6,.int .i64 a,.int .i64 b] 66):=⟨_,rfl⟩
 have hb0:Below w.heap.size w w0:=by rw [hw0];exact bA
 have N0:Blk w0 w.heap.size 66 #[.int .i64 6,.int .i64 a,.int .i64 b]:=by rw [hw0];exact Blk.new _ _ _
 have z1:(strOf (txt a)).size≤30:=by rw [strOf_size];exact txt_len hj.1
 have z2:(strOf (txt b)).size≤30:=by rw [strOf_size];exact txt_len hj.2
 have HA:=hide (fun w=>number22_any a hj.1 w)
 have HB:=hide (fun w=>number22_any b hj.2 w)
 have HB0:=hide hb0
 have c0:=N0.cell (i:=0) rfl
 have c1:=N0.cell (i:=1) rfl
 clear N0 hb0 hj
 rw [hw0] at c0 c1
 go_enter Tryz.func48,Tryz.ntmps48
 go_wp2
 go_ret
 exact ⟨by unfold txtE;rfl,by rw [hw0] at HB0;exact HB0.out⟩
theorem rone_7 (a b:Int) (hj:I64w a∧I64w b) (w:World):Calls Tryz.prog 48 #[.agg #[.int .i64 7,.int .i64 a,.int .i64 b]] w fun e w'=>e=.returned (.string (strOf (txtE (7,a,b))))∧Below w.heap.size w w':=by
 obtain ⟨w0,hw0⟩:∃ w0,w0=w.alloc (.cells #[.int .i64 7,.int .i64 a,.int .i64 b] 66):=⟨_,rfl⟩
 have hb0:Below w.heap.size w w0:=by rw [hw0];exact bA
 have N0:Blk w0 w.heap.size 66 #[.int .i64 7,.int .i64 a,.int .i64 b]:=by rw [hw0];exact Blk.new _ _ _
 have z1:(strOf (txt a)).size≤30:=by rw [strOf_size];exact txt_len hj.1
 have z2:(strOf (txt b)).size≤30:=by rw [strOf_size];exact txt_len hj.2
 have HA:=hide (fun w=>number22_any a hj.1 w)
 have HB:=hide (fun w=>number22_any b hj.2 w)
 have HB0:=hide hb0
 have y1:¬ 9223372036854775807<1+(strOf (txt a)).size:=by omega
 have y2:¬ 9223372036854775807<1+(strOf (txt a)).size+1:=by omega
 have y3:¬ 9223372036854775807<1+(strOf (txt a)).size+1+(strOf (txt b)).size:=by omega
 have h00:HeldE w0 w.heap.size (.int .i64 7) (.int .i64 a) (.int .i64 b) w0:=⟨Below.refl _ _,N0.cell (i:=0) rfl,N0.cell (i:=1) rfl,N0.cell (i:=2) rfl⟩
 have hd0:=h00.keep (bl_drew (Below.refl _ _))
 have c0:=N0.cell (i:=0) rfl
 clear N0 hb0 hj
 rw [hw0] at c0
 go_enter Tryz.func48,Tryz.ntmps48
 go_wp2
 rw [← hw0]
 clear c0 hw0
 go_region_held3 (fun w'=>Below w0.heap.size w0 w'∧w'.cell? ⟨w.heap.size,0,none⟩=some (.int .i64 7)∧w'.cell? ⟨w.heap.size,1,none⟩=some (.int .i64 a)∧w'.cell? ⟨w.heap.size,2,none⟩=some (.int .i64 b))
  (first | exact hd0 | exact h00 | exact HeldE.keep (by assumption) (by assumption) | exact hd0.keep (by assumption))
  (first
    | (go_at_call 91;((with_reducible refine (HA.out _).mono ?_);rintro e w' ⟨rfl,hbA⟩))
    | (go_at_call 91;((with_reducible refine (HB.out _).mono ?_);rintro e w' ⟨rfl,hbB⟩)))
 all_goals
  have HF:=hide (bl_step HB0.out (And.left (by assumption):Below w0.heap.size w0 _))
  go_wp2
  go_ret
  refine ⟨?_,HF.out⟩
  congr 2
theorem rone_8 (a b:Int) (hj:I64w a∧I64w b) (w:World):Calls Tryz.prog 48 #[.agg #[.int .i64 8,.int .i64 a,.int .i64 b]] w fun e w'=>e=.returned (.string (strOf (txtE (8,a,b))))∧Below w.heap.size w w':=by
 obtain ⟨w0,hw0⟩:∃ w0,w0=w.alloc (.cells #[.int .i64 8,.int .i64 a,.int .i64 b] 66):=⟨_,rfl⟩
 have hb0:Below w.heap.size w w0:=by rw [hw0];exact bA
 have N0:Blk w0 w.heap.size 66 #[.int .i64 8,.int .i64 a,.int .i64 b]:=by rw [hw0];exact Blk.new _ _ _
 have z1:(strOf (txt a)).size≤30:=by rw [strOf_size];exact txt_len hj.1
 have z2:(strOf (txt b)).size≤30:=by rw [strOf_size];exact txt_len hj.2
 have HA:=hide (fun w=>number22_any a hj.1 w)
 have HB:=hide (fun w=>number22_any b hj.2 w)
 have HB0:=hide hb0
 have c0:=N0.cell (i:=0) rfl
 have c1:=N0.cell (i:=1) rfl
 clear N0 hb0 hj
 rw [hw0] at c0 c1
 go_enter Tryz.func48,Tryz.ntmps48
 go_wp2_with fail
 rw [← hw0]
 refine (HA.out _).mono ?_
 rintro e w1 ⟨rfl,hb1⟩
 have HB1:=hide (bl_step HB0.out hb1)
 clear hb1 c0 c1 hw0
 go_wp2
 go_ret
 refine ⟨?_,HB1.out⟩
 congr 2
theorem rone_x (k a b:Int) (hj:I64w a∧I64w b) (hk:I64w k) (hx:¬ (1≤k∧k≤8)) (w:World):Calls Tryz.prog 48 #[.agg #[.int .i64 k,.int .i64 a,.int .i64 b]] w fun e w'=>e=.returned (.string (strOf (txtE (k,a,b))))∧Below w.heap.size w w':=by
 obtain ⟨w0,hw0⟩:∃ w0,w0=w.alloc (.cells #[.int .i64 k,.int .i64 a,.int .i64 b] 66):=⟨_,rfl⟩
 have hb0:Below w.heap.size w w0:=by rw [hw0];exact bA
 have N0:Blk w0 w.heap.size 66 #[.int .i64 k,.int .i64 a,.int .i64 b]:=by rw [hw0];exact Blk.new _ _ _
 have z1:(strOf (txt a)).size≤30:=by rw [strOf_size];exact txt_len hj.1
 have z2:(strOf (txt b)).size≤30:=by rw [strOf_size];exact txt_len hj.2
 have z0:(strOf (txt k)).size≤30:=by rw [strOf_size];exact txt_len hk
 have h1:¬ k=1:=by omega
 have h2:¬ k=2:=by omega
 have h3:¬ k=3:=by omega
 have h4:¬ k=4:=by omega
 have h5:¬ k=5:=by omega
 have h6:¬ k=6:=by omega
 have h7:¬ k=7:=by omega
 have h8:¬ k=8:=by omega
 have HT:Hid (txtE (k,a,b)=[63]++txt k++[44]++txt a++[44]++txt b):=hide (by
  unfold txtE
  dsimp only
  rw [if_neg (by omega),if_neg (by omega),if_neg h6])
 have HK:=hide (fun w=>number22_any k hk w)
 have HA:=hide (fun w=>number22_any a hj.1 w)
 have HB:=hide (fun w=>number22_any b hj.2 w)
 have HB0:=hide hb0
 have y1:¬ 9223372036854775807<1+(strOf (txt k)).size:=by omega
 have y2:¬ 9223372036854775807<1+(strOf (txt k)).size+1:=by omega
 have y3:¬ 9223372036854775807<1+(strOf (txt k)).size+1+(strOf (txt a)).size:=by omega
 have y4:¬ 9223372036854775807<1+(strOf (txt k)).size+1+(strOf (txt a)).size+1:=by omega
 have y5:¬ 9223372036854775807<1+(strOf (txt k)).size+1+(strOf (txt a)).size+1+(strOf (txt b)).size:=by omega
 have h00:HeldE w0 w.heap.size (.int .i64 k) (.int .i64 a) (.int .i64 b) w0:=⟨Below.refl _ _,N0.cell (i:=0) rfl,N0.cell (i:=1) rfl,N0.cell (i:=2) rfl⟩
 have hd0:=h00.keep (bl_drew (Below.refl _ _))
 have c0:=N0.cell (i:=0) rfl
 clear N0 hb0 hj hk hx
 rw [hw0] at c0
 go_enter Tryz.func48,Tryz.ntmps48
 go_wp2
 rw [← hw0]
 clear c0 hw0
 go_region_held3 (fun w'=>Below w0.heap.size w0 w'∧w'.cell? ⟨w.heap.size,0,none⟩=some (.int .i64 k)∧w'.cell? ⟨w.heap.size,1,none⟩=some (.int .i64 a)∧w'.cell? ⟨w.heap.size,2,none⟩=some (.int .i64 b))
  (first | exact hd0 | exact h00 | exact HeldE.keep (by assumption) (by assumption) | exact hd0.keep (by assumption))
  (first
    | (go_at_call 91;((with_reducible refine (HK.out _).mono ?_);rintro e w' ⟨rfl,hbK⟩))
    | (go_at_call 91;((with_reducible refine (HA.out _).mono ?_);rintro e w' ⟨rfl,hbA⟩))
    | (go_at_call 91;((with_reducible refine (HB.out _).mono ?_);rintro e w' ⟨rfl,hbB⟩)))
 all_goals
  have HF:=hide (bl_step HB0.out (And.left (by assumption):Below w0.heap.size w0 _))
  go_wp2
  go_ret
  refine ⟨?_,HF.out⟩
  rw [HT.out]
  congr 2
theorem rone_any (e:Ev) (he:EvJ e) (w:World):Calls Tryz.prog 48 #[.agg #[.int .i64 e.1,.int .i64 e.2.1,.int .i64 e.2.2]] w fun r w'=>r=.returned (.string (strOf (txtE e)))∧Below w.heap.size w w':=by
 obtain ⟨k,a,b⟩:=e
 obtain ⟨hk,hj⟩:=he
 dsimp only at hk hj ⊢
 by_cases hx:1≤k∧k≤8
 · have h:k=1∨k=2∨k=3∨k=4∨k=5∨k=6∨k=7∨k=8:=by omega
   rcases h with rfl | rfl | rfl | rfl | rfl | rfl | rfl | rfl
   · exact rone_1 a b hj w
   · exact rone_2 a b hj w
   · exact rone_3 a b hj w
   · exact rone_4 a b hj w
   · exact rone_5 a b hj w
   · exact rone_6 a b hj w
   · exact rone_7 a b hj w
   · exact rone_8 a b hj w
 · exact rone_x k a b hj hk hx w
theorem rFormat_any (es:List Ev) (hj:∀ e∈es,EvJ e) (hn:es.length≤10000) (A:Option Addr) (c:Nat) (w:World) (hs:Sl w w.heap.size A (evCs es)) :
 Calls Tryz.prog 20 #[.slice A es.length c] w fun e w'=>e=.returned (.string (strOf (fmtT es)))∧Below w.heap.size w w':=by
 have HS:=hide hs;have HJ:=hide hj
 clear hs hj
 go_enter Tryz.func20,Tryz.ntmps20
 go_wp2
 go_loopw [3,4] (fun s i wr=>∃ k:Nat,k≤es.length∧i=.int .i64 (k:Int)∧s=.string (strOf (fmtT (es.take k)))∧Below w.heap.size w wr)
  (fun _ i _=>es.length - (intOf i).toNat)
 case atStart=>exact ⟨0,Nat.zero_le _,rfl,rfl,Below.refl _ _⟩
 case round =>
  obtain ⟨k,hk,rfl,rfl,hbr⟩:=hrel
  by_cases hkn:k<es.length
  · have hki:(k:Int)<(es.length:Int):=by omega
    obtain ⟨e,he⟩:∃ e,es[k]?=some e:=⟨_,List.getElem?_eq_getElem hkn⟩
    obtain ⟨b,off,rfl,hb,q0,q1,q2⟩:=(HS.out.below hbr).ev he
    have HE:=HJ.out e (List.mem_of_getElem? he)
    have HO:=hide (fun w=>rone_any e HE w)
    have z1:(strOf (fmtT (es.take k))).size≤2000000:=by
     rw [strOf_size]
     have:=fmtT_len (es:=es.take k) fun x hx=>HJ.out x (List.mem_of_mem_take hx)
     have h2:(es.take k).length≤es.length:=by rw [List.length_take];omega
     omega
    have z2:(strOf (txtE e)).size≤100:=by rw [strOf_size];exact txtE_len HE
    have htk:es.take (k+1)=es.take k++[e]:=by rw [List.take_add_one,he];rfl
    by_cases hk0:k=0
    · subst hk0
      have HT:Hid (strOf (fmtT (es.take 0))++strOf (txtE e)=strOf (fmtT (es.take (0+1)))):=hide (by
       rw [htk,strOf_app]
       congr 1
       simp [fmtT])
      have hz:¬ ((0:Nat):Int) > 0:=by omega
      have HBR:=hide hbr
      rw [Nat.zero_mul,Nat.add_zero] at q0 q1 q2
      have z0:(strOf (fmtT ([]:List Ev))).size=0:=by rw [strOf_size];rfl
      clear htk he HE hbr
      go_wp2_with fail
      refine (HO.out _).mono ?_
      rintro r w2 ⟨rfl,hb2⟩
      have HB2:=hide (bl_step HBR.out hb2)
      clear hb2 q0 q1 q2
      go_wp2
      go_roundw
      case rel=>exact ⟨0+1,by omega,by go_num,by rw [← HT.out];rfl,HB2.out⟩
      case measure=>simp [intOf];omega
    · have HT:Hid (strOf (fmtT (es.take k))++strOf [32]++strOf (txtE e)=strOf (fmtT (es.take (k+1)))):=hide (by
       rw [htk,strOf_app,strOf_app,fmtT_snoc]
       intro h
       have:=congrArg List.length h
       rw [List.length_take,List.length_nil] at this
       omega)
      have hz:(0:Int)<(k:Int):=by omega
      have HBR:=hide hbr
      clear htk he HE hbr
      go_wp2_with fail
      refine (HO.out _).mono ?_
      rintro r w2 ⟨rfl,hb2⟩
      have HB2:=hide (bl_step HBR.out hb2)
      clear hb2 q0 q1 q2
      go_wp2
      go_roundw
      case rel=>exact ⟨k+1,by omega,by go_num,by rw [← HT.out];rfl,HB2.out⟩
      case measure=>simp [intOf];omega
  · obtain rfl:k=es.length:=by omega
    have hki:¬ (es.length:Int)<(es.length:Int):=by omega
    rw [List.take_length]
    have HBR:=hide hbr
    clear hbr
    go_wp2
    go_ret
    exact ⟨rfl,HBR.out⟩
end
end Go.Proofs.YtfljlmleiggmjaaGreatDoor
