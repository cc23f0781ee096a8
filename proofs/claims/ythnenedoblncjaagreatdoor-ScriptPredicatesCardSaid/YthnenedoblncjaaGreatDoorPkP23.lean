/- SortA -/
import Derived.ChangeAlike
import Derived.Deep.RegionHeld3
import Derived.Test.YthnenedoblncjaaGreatDoorPkP02
import Derived.Test.YthnenedoblncjaaGreatDoorPkP22
set_option maxRecDepth 1000000
set_option maxHeartbeats 8000000
namespace Go.Proofs.YthnenedoblncjaaGreatDoor
section
open Go.RowKit
theorem less_nat (a b:Nat) (ha:a<18446744073709551616) (hb:b<18446744073709551616) :
 (((18446744073709551615 - a) &&& b) ||| ((18446744073709551615 - (a ^^^ b)) &&& ((a+18446744073709551616 - b) % 18446744073709551616))) / 9223372036854775808=if a<b then 1 else 0:=by
 have e:(9223372036854775808:Nat)=2 ^ 63:=rfl
 have hx:a ^^^ b<2 ^ 64:=Nat.xor_lt_two_pow (by omega) (by omega)
 have hxd:(a ^^^ b) / 9223372036854775808=a / 9223372036854775808 ^^^ b / 9223372036854775808:=by rw [e,Nat.xor_div_two_pow]
 obtain ⟨x,hxe⟩:∃ x,x=a ^^^ b:=⟨_,rfl⟩
 rw [← hxe] at hx hxd ⊢
 rw [e,Nat.or_div_two_pow,Nat.and_div_two_pow,Nat.and_div_two_pow,← e]
 have a1:a / 9223372036854775808=0∨a / 9223372036854775808=1:=by omega
 have b1:b / 9223372036854775808=0∨b / 9223372036854775808=1:=by omega
 have na:(18446744073709551615 - a) / 9223372036854775808=1 - a / 9223372036854775808:=by omega
 have nx:(18446744073709551615 - x) / 9223372036854775808=1 - x / 9223372036854775808:=by omega
 have d1:(a+18446744073709551616 - b) % 18446744073709551616 / 9223372036854775808=0∨(a+18446744073709551616 - b) % 18446744073709551616 / 9223372036854775808=1:=by omega
 rw [na,nx,hxd]
 rcases a1 with h | h <;> rcases b1 with h' | h' <;> rw [h,h']
 · by_cases hl:a<b
   · rw [if_pos hl,show (a+18446744073709551616 - b) % 18446744073709551616 / 9223372036854775808=1 by omega];decide
   · rw [if_neg hl,show (a+18446744073709551616 - b) % 18446744073709551616 / 9223372036854775808=0 by omega];decide
 · rw [if_pos (by omega)]
   rcases d1 with d | d <;> rw [d] <;> decide
 · rw [if_neg (by omega)]
   rcases d1 with d | d <;> rw [d] <;> decide
 · by_cases hl:a<b
   · rw [if_pos hl,show (a+18446744073709551616 - b) % 18446744073709551616 / 9223372036854775808=1 by omega];decide
   · rw [if_neg hl,show (a+18446744073709551616 - b) % 18446744073709551616 / 9223372036854775808=0 by omega];decide
theorem less_bits (a b:Int) (h0:0≤a) (h1:a<18446744073709551616) (h2:0≤b) (h3:b<18446744073709551616) :
 bits BinOp.or IntKind.u64 (bits BinOp.and IntKind.u64 (bits BinOp.xor IntKind.u64 IntKind.u64.max a) b) (bits BinOp.and IntKind.u64 (bits BinOp.xor IntKind.u64 IntKind.u64.max (bits BinOp.xor IntKind.u64 a b)) (IntKind.u64.wrap (a - b))) / 9223372036854775808=if a<b then 1 else 0:=by
 obtain ⟨A,rfl⟩:=Int.eq_ofNat_of_zero_le h0
 obtain ⟨B,rfl⟩:=Int.eq_ofNat_of_zero_le h2
 have hx:A ^^^ B<2 ^ 64:=Nat.xor_lt_two_pow (by omega) (by omega)
 rw [u64_xor (A:Int) B h0 h1 h2 h3,Int.toNat_natCast,Int.toNat_natCast,bnot _ h0 h1,bnot _ (by omega) (by omega)]
 have e1:(18446744073709551615:Int) - (A:Int)=((18446744073709551615 - A:Nat):Int):=by omega
 have e2:(18446744073709551615:Int) - ((A ^^^ B:Nat):Int)=((18446744073709551615 - (A ^^^ B):Nat):Int):=by omega
 have e3:IntKind.u64.wrap ((A:Int) - (B:Int))=(((A+18446744073709551616 - B) % 18446744073709551616:Nat):Int):=by rw [IntKind.wrap_u64];omega
 rw [e1,e2,e3,u64_and_nat _ _ (by omega) (by omega),u64_and_nat _ _ (by omega) (by omega)]
 have l1:(18446744073709551615 - A) &&& B<2 ^ 64:=Nat.and_lt_two_pow _ (by omega)
 have l2:(18446744073709551615 - (A ^^^ B)) &&& ((A+18446744073709551616 - B) % 18446744073709551616)<2 ^ 64:=Nat.and_lt_two_pow _ (by omega)
 rw [u64_or_nat _ _ (by omega) (by omega)]
 have h:=less_nat A B (by omega) (by omega)
 have e4:∀ X:Nat,(X:Int) / 9223372036854775808=((X / 9223372036854775808:Nat):Int):=fun X=>by omega
 rw [e4,h]
 by_cases hl:A<B
 · rw [if_pos hl,if_pos (by omega)];rfl
 · rw [if_neg hl,if_neg (by omega)];rfl
theorem mless_any (a b:Int) (h0:0≤a) (h1:a<18446744073709551616) (h2:0≤b) (h3:b<18446744073709551616) (w:World):Calls Tryz.prog 341 #[.int .u64 a,.int .u64 b] w fun e w'=>e=.returned (.int .u64 (msk (decide (a<b))))∧w=w':=by
 have h:=less_bits a b h0 h1 h2 h3
 have HO:=of_any (if a<b then 1 else 0) (by split <;> omega) (by split <;> omega) w
 have e:decide ((if a<b then (1:Int) else 0) % 2=1)=decide (a<b):=by by_cases hx:a<b <;> simp [hx]
 rw [e] at HO
 obtain ⟨z,hz⟩:∃ z,z=(if a<b then (1:Int) else 0):=⟨_,rfl⟩
 rw [← hz] at h HO
 have H:=hide h
 clear hz e h
 go_enter Tryz.func341,Tryz.ntmps341
 go_wp2_with fail
 rw [H.out]
 refine HO.mono ?_
 rintro e w' ⟨rfl,rfl⟩
 go_wp2
 go_ret
 exact ⟨rfl,rfl⟩
theorem bxor_comm (a b:Int) (h0:0≤a) (h1:a<18446744073709551616) (h2:0≤b) (h3:b<18446744073709551616):bits BinOp.xor IntKind.u64 a b=bits BinOp.xor IntKind.u64 b a:=by
 rw [u64_xor a b h0 h1 h2 h3,u64_xor b a h2 h3 h0 h1,Nat.xor_comm]
theorem swap_any (c:Bool) (a b:Int) (h0:0≤a) (h1:a<18446744073709551616) (h2:0≤b) (h3:b<18446744073709551616) (w:World):Calls Tryz.prog 313 #[.int .u64 (msk c),.int .u64 a,.int .u64 b] w fun e w'=>e=.returned (.tuple #[.int .u64 (bif c then b else a),.int .u64 (bif c then a else b)])∧w=w':=by
 have k1:=select_bits c a b h0 h1 h2 h3
 have k2:=select_bits c b a h2 h3 h0 h1
 rw [bxor_comm b a h2 h3 h0 h1] at k2
 go_enter Tryz.func313,Tryz.ntmps313
 go_wp2
 go_ret2
 exact ⟨by simp,rfl⟩
theorem bitw_any (x:Int) (h0:0≤x) (h1:x<18446744073709551616) (w:World):Calls Tryz.prog 196 #[.int .u64 x] w fun e w'=>e=.returned (.int .u64 (x % 2))∧w=w':=by
 have h:=band1 x h0 h1
 go_enter Tryz.func196,Tryz.ntmps196
 go_wp2
 go_ret
 exact ⟨rfl,rfl⟩
theorem and_msk (x:Int) (c:Bool) (h0:0≤x) (h1:x<18446744073709551616):bits BinOp.and IntKind.u64 x (msk c)=bif c then x else 0:=by
 obtain ⟨X,rfl⟩:=Int.eq_ofNat_of_zero_le h0
 rw [u64_and _ _ h0 h1 (msk_bd c).1 (msk_bd c).2,Int.toNat_natCast]
 cases c
 · show ((X &&& 0:Nat):Int)=0
   rw [Nat.and_zero];rfl
 · have e:X &&& (msk true).toNat=X:=by
    rw [show (msk true).toNat=2 ^ 64 - 1 from rfl,Nat.and_two_pow_sub_one_eq_mod,Nat.mod_eq_of_lt (by omega)]
   rw [e];rfl
def rcl (l d:Int):Int × Int:=(l % 2,bif decide (l % 2=1) then d else 0)
theorem rcl_of {r:Int × Int} (h:Cln r):rcl r.1 r.2=r:=by
 obtain ⟨a,b⟩:=r
 rcases h with ⟨h1,_⟩ | h1
 · dsimp only at h1;subst h1;rfl
 · cases h1;rfl
theorem rcl_msk (c:Bool) (d:Int):rcl (msk c) d=if c=true then (1,d) else (0,0):=by cases c <;> rfl
theorem clean_any (l d:Int) (h0:0≤l) (h1:l<18446744073709551616) (h2:0≤d) (h3:d<18446744073709551616) (w:World):Calls Tryz.prog 276 #[.agg #[.int .u64 l,.int .u64 d]] w fun e w'=>e=.returned (.agg #[.int .u64 (rcl l d).1,.int .u64 (rcl l d).2])∧Below w.heap.size w w':=by
 have HB:=hide (fun w=>bitw_any l h0 h1 w)
 have HO:=hide (fun w=>of_any l h0 h1 w)
 have ha:=and_msk d (decide (l % 2=1)) h2 h3
 obtain ⟨x,hx⟩:∃ x,x=(rcl l d).1:=⟨_,rfl⟩
 obtain ⟨y,hy⟩:∃ y,y=(rcl l d).2:=⟨_,rfl⟩
 obtain ⟨m,hm⟩:∃ m,m=msk (decide (l % 2=1)):=⟨_,rfl⟩
 change bits BinOp.and IntKind.u64 d (msk (decide (l % 2=1)))=(rcl l d).2 at ha
 have e1:l % 2=x:=hx.symm
 rw [← hy,← hm] at ha
 rw [← hm] at HO
 rw [← hx,← hy]
 rw [e1] at HB
 clear hx hy hm e1
 go_enter Tryz.func276,Tryz.ntmps276
 go_wp2
 go_region_with (first
  | (go_at_call 196;refine (HB.out _).mono ?_;rintro e w1 ⟨rfl,rfl⟩)
  | (go_at_call 262;refine (HO.out _).mono ?_;rintro e w1 ⟨rfl,rfl⟩))
 all_goals
  go_wp2
  refine bodyPost_ret (v:=.agg #[.int .u64 x,.int .u64 y]) (by simp [results,Tryz.results276,go_sem]) rfl ⟨rfl,?_⟩
  exact below_drewN (bl_alloc (bA) _) _
end
end Go.Proofs.YthnenedoblncjaaGreatDoor
