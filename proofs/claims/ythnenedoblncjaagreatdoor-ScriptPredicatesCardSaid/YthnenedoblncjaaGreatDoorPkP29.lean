/- RecRow Network BatchMath Sort HeldSk -/
import Derived.BigQuiet
import Derived.ChangeAlike
import Derived.Deep.QuietTactic
import Derived.LoopIn
import Derived.LoopNIn
import Derived.OwnWalkIn
import Derived.RangeFuncBound
import Derived.RangeFuncCalls
import Derived.RangeFuncLeaves
import Derived.RangeFuncNested
import Derived.Shelf.Abstract
import Derived.Shelf.RegionOpen
import Derived.Shelf.Small.Bits
import Derived.TacticsInMore
import Derived.Test.YthnenedoblncjaaGreatDoorPkP03
import Derived.Test.YthnenedoblncjaaGreatDoorPkP26
import Derived.Test.YthnenedoblncjaaGreatDoorPkP28
set_option maxRecDepth 1000000
set_option maxHeartbeats 8000000
namespace Go.Proofs.YthnenedoblncjaaGreatDoor
open List (getElem_toArray getElem_cons_succ getElem_cons_zero setIfInBounds_toArray set_cons_zero set_cons_succ)
section
open Go.RowKit
def rcA (l:List (Int × Int)):Array Value:=(recCs l).toArray
theorem rcA_size (l:List (Int × Int)):(rcA l).size=l.length*2:=by
 unfold rcA
 rw [List.size_toArray]
 exact flat_length (fun p:Int × Int=>[Value.int .u64 p.1,.int .u64 p.2]) 2 (fun _=>rfl) l
theorem rcA_get {l:List (Int × Int)} {k:Nat} {r:Int × Int} (h:l[k]?=some r):(rcA l)[k*2]?=some (.int .u64 r.1)∧(rcA l)[k*2+1]?=some (.int .u64 r.2):=by
 have h0:=flat_get (fun p:Int × Int=>[Value.int .u64 p.1,.int .u64 p.2]) 2 (fun _=>rfl) l k r h
 have e0:=h0 0 (by omega)
 have e1:=h0 1 (by omega)
 rw [Nat.add_zero] at e0
 unfold rcA
 rw [List.getElem?_toArray,List.getElem?_toArray]
 exact ⟨e0,e1⟩
theorem rcA_of {cs:Array Value} {l:List (Int × Int)} (hs:cs.size=l.length*2) (h:∀ k r,l[k]?=some r→cs[k*2]?=some (.int .u64 r.1)∧cs[k*2+1]?=some (.int .u64 r.2)):cs=rcA l:=by
 refine Array.ext_getElem? fun i=>?_
 by_cases hi:i<l.length*2
 · have hk:i / 2<l.length:=by omega
   have h1:=h (i / 2) l[i / 2] (List.getElem?_eq_getElem hk)
   have h2:=rcA_get (List.getElem?_eq_getElem hk)
   rcases Nat.mod_two_eq_zero_or_one i with hm | hm
   · have e:i=i / 2*2:=by omega
     rw [e,h1.1,h2.1]
   · have e:i=i / 2*2+1:=by omega
     rw [e,h1.2,h2.2]
 · rw [Array.getElem?_eq_none (by omega),Array.getElem?_eq_none (by rw [rcA_size];omega)]
theorem exq_row {w w':World} {g lo hi:Nat} {t:TypeId} {l:List (Int × Int)} {x y:Int × Int} (hx:l[lo]?=some x) (hy:l[hi]?=some y) (hne:lo≠hi)
 (h:ExQ w g t (rcA l) (lo*2) (hi*2) (if rkey y<rkey x then y else x) (if rkey y<rkey x then x else y) w'):Blk w' g t (rcA (exch rkey l (lo,hi)))∧w.grownBy w' (some g):=by
 obtain ⟨cs,B,s1,a1,a2,a3,a4,a5,hg⟩:=h
 have hlo:lo<l.length:=(List.getElem?_eq_some_iff.1 hx).1
 have hhi:hi<l.length:=(List.getElem?_eq_some_iff.1 hy).1
 refine ⟨?_,hg⟩
 have e:cs=rcA (exch rkey l (lo,hi)):=by
  refine rcA_of (by rw [s1,rcA_size,exch_length]) fun k r hk=>?_
  unfold exch at hk
  dsimp only at hk
  rw [hx,hy] at hk
  dsimp only at hk
  by_cases hlt:rkey y<rkey x
  · rw [if_pos hlt] at hk a1 a2 a3 a4
    by_cases k1:k=hi
    · subst k1
      rw [List.getElem?_set_self (by rw [List.length_set];exact hhi)] at hk
      cases hk
      exact ⟨a3,a4⟩
    · rw [List.getElem?_set_ne (Ne.symm k1)] at hk
      by_cases k2:k=lo
      · subst k2
        rw [List.getElem?_set_self hlo] at hk
        cases hk
        exact ⟨a1,a2⟩
      · rw [List.getElem?_set_ne (Ne.symm k2)] at hk
        have h2:=rcA_get hk
        exact ⟨(a5 _ (by omega) (by omega) (by omega) (by omega)).trans h2.1,(a5 _ (by omega) (by omega) (by omega) (by omega)).trans h2.2⟩
  · rw [if_neg hlt] at hk a1 a2 a3 a4
    by_cases k1:k=hi
    · subst k1
      rw [hy] at hk
      cases hk
      exact ⟨a3,a4⟩
    · by_cases k2:k=lo
      · subst k2
        rw [hx] at hk
        cases hk
        exact ⟨a1,a2⟩
      · have h2:=rcA_get hk
        exact ⟨(a5 _ (by omega) (by omega) (by omega) (by omega)).trans h2.1,(a5 _ (by omega) (by omega) (by omega) (by omega)).trans h2.2⟩
 rw [← e];exact B
theorem rcA_pad (l:List (Int × Int)) (N:Nat) (h:l.length≤N) :
 ((madeCells #[.int .u64 0,.int .u64 0] (N*2)).toList.take 0++recCs l++(madeCells #[.int .u64 0,.int .u64 0] (N*2)).toList.drop (0+(recCs l).length)).toArray=rcA (l++List.replicate (N - l.length) (0,0)):=by
 have hl:(recCs l).length=l.length*2:=flat_length (fun p:Int × Int=>[Value.int .u64 p.1,.int .u64 p.2]) 2 (fun _=>rfl) l
 have hz:∀ i,i<N*2→(madeCells #[.int .u64 0,.int .u64 0] (N*2))[i]?=some (.int .u64 0):=fun i hi=>by
  have:i % 2=0∨i % 2=1:=by omega
  unfold madeCells
  rw [Array.getElem?_map,Array.getElem?_range]
  rw [if_pos hi]
  rcases this with h | h <;> simp [h]
 refine rcA_of (by simp [size_madeCells,hl];omega) fun k r hk=>?_
 rw [List.take_zero,List.nil_append,Nat.zero_add,List.getElem?_toArray,List.getElem?_toArray]
 by_cases hkl:k<l.length
 · rw [List.getElem?_append_left hkl] at hk
   have h0:=rcA_get hk
   unfold rcA at h0
   rw [List.getElem?_toArray,List.getElem?_toArray] at h0
   rw [List.getElem?_append_left (by omega),List.getElem?_append_left (by omega)]
   exact h0
 · rw [List.getElem?_append_right (by omega)] at hk
   have hk2:=List.getElem?_eq_some_iff.1 hk
   obtain ⟨hk3,hk4⟩:=hk2
   rw [List.length_replicate] at hk3
   rw [List.getElem_replicate] at hk4
   subst hk4
   rw [List.getElem?_append_right (by omega),List.getElem?_append_right (by omega),List.getElem?_drop,List.getElem?_drop,Array.getElem?_toList,Array.getElem?_toList]
   exact ⟨hz _ (by omega),hz _ (by omega)⟩
theorem Blk.same {w:World} {g:Nat} {t:TypeId} {cs:Array Value} (h:Blk w g t cs) {i:Nat} {u:Value} (hi:cs[i]?=some u):Blk (w.setCell ⟨g,i,none⟩ u) g t cs:=by
 have h1:=h.set i u
 have e:cs.setIfInBounds i u=cs:=by
  refine Array.ext_getElem? fun j=>?_
  rw [Array.getElem?_setIfInBounds]
  by_cases hj:i=j
  · subst hj;rw [if_pos rfl,if_pos (Array.getElem?_eq_some_iff.1 hi).1,hi]
  · rw [if_neg hj]
 rw [e] at h1
 exact h1
theorem recCs_one (l:List (Int × Int)):∀ v∈recCs l,v.oneCell'=true:=by
 intro v hv
 obtain ⟨r,_,hr⟩:=List.mem_flatMap.1 hv
 simp at hr
 rcases hr with rfl | rfl <;> rfl
end
section
open Go.RowKit Go.Shelf
attribute [local go_sem] Oper.semAt_some
theorem xor_one (n:Nat):n ^^^ 1=if n % 2=0 then n+1 else n - 1:=by
 have h1:(n ^^^ 1) / 2=n / 2:=by rw [Nat.xor_div_two];simp
 have h2:(n ^^^ 1) % 2=(n+1) % 2:=by
  have:=@Nat.xor_mod_two_eq_one n 1
  omega
 have h3:=Nat.div_add_mod (n ^^^ 1) 2
 have h4:=Nat.div_add_mod n 2
 split <;> omega
theorem xor_pow (i a:Nat):i ^^^ 2 ^ a=if i / 2 ^ a % 2=0 then i+2 ^ a else i - 2 ^ a:=by
 have h0:=Nat.two_pow_pos a
 have h1:(i ^^^ 2 ^ a) / 2 ^ a=i / 2 ^ a ^^^ 1:=by
  rw [Nat.xor_div_two_pow,Nat.div_self h0]
 have h2:(i ^^^ 2 ^ a) % 2 ^ a=i % 2 ^ a:=by
  rw [Nat.xor_mod_two_pow,Nat.mod_self];simp
 have h3:=Nat.div_add_mod (i ^^^ 2 ^ a) (2 ^ a)
 have h4:=Nat.div_add_mod i (2 ^ a)
 rw [h1,h2,xor_one] at h3
 generalize i / 2 ^ a=q at h3 h4 ⊢
 by_cases hq:q % 2=0
 · rw [if_pos hq] at h3 ⊢
   rw [Nat.mul_add] at h3;omega
 · rw [if_neg hq] at h3 ⊢
   obtain ⟨p,rfl⟩:∃ p,q=p+1:=⟨q - 1,by omega⟩
   rw [Nat.add_sub_cancel] at h3
   rw [Nat.mul_add] at h4;omega
theorem and_pow (i s:Nat):(i &&& 2 ^ s=0) ↔ i / 2 ^ s % 2=0:=by
 have e:i.testBit s=decide (i / 2 ^ s % 2=1):=Nat.testBit_eq_decide_div_mod_eq ..
 constructor
 · intro h
   have h1:(i &&& 2 ^ s).testBit s=false:=by rw [h];exact Nat.zero_testBit s
   rw [Nat.testBit_and,Nat.testBit_two_pow_self,Bool.and_true,e] at h1
   have:=of_decide_eq_false h1
   omega
 · intro h
   refine Nat.eq_of_testBit_eq fun t=>?_
   rw [Nat.testBit_and,Nat.testBit_two_pow,Nat.zero_testBit]
   by_cases hs:s=t
   · subst hs;rw [e,decide_eq_false (by omega)];rfl
   · rw [decide_eq_false hs,Bool.and_false]
theorem i64_and_nat (a b:Nat) (ha:a<9223372036854775808) (hb:b<9223372036854775808):bits .and .i64 (a:Int) (b:Int)=((a &&& b:Nat):Int):=by
 have hx:a &&& b<2 ^ 63:=Nat.and_lt_two_pow _ (by omega)
 show IntKind.i64.wrap ((BitVec.ofInt 64 (a:Int) &&& BitVec.ofInt 64 (b:Int)).toNat:Int)=_
 rw [BitVec.toNat_and,ofInt_u64 a (by omega),ofInt_u64 b (by omega),IntKind.wrap_i64];omega
theorem i64_xor_nat (a b:Nat) (ha:a<9223372036854775808) (hb:b<9223372036854775808):bits .xor .i64 (a:Int) (b:Int)=((a ^^^ b:Nat):Int):=by
 have hx:a ^^^ b<2 ^ 63:=Nat.xor_lt_two_pow (by omega) (by omega)
 show IntKind.i64.wrap ((BitVec.ofInt 64 (a:Int) ^^^ BitVec.ofInt 64 (b:Int)).toNat:Int)=_
 rw [BitVec.toNat_xor,ofInt_u64 a (by omega),ofInt_u64 b (by omega),IntKind.wrap_i64];omega
theorem pow_le12 {m:Nat} (h:m≤12):2 ^ m≤4096:=Nat.pow_le_pow_right (by omega) h
theorem nis_any (m:Nat) (hm:m≤12) (w:World):Calls Tryz.prog 311 #[.int .i64 ((2 ^ m:Nat):Int)] w fun e w'=>e=.returned (.bool true)∧w=w':=by
 have h1:=Nat.two_pow_pos m
 have h2:=pow_le12 hm
 obtain ⟨n,hn⟩:∃ n,n=2 ^ m:=⟨_,rfl⟩
 have h3:bits .and .i64 (n:Int) ((n:Int) - 1)=0:=by
  have e:((n:Int) - 1)=((n - 1:Nat):Int):=by omega
  rw [e,i64_and_nat _ _ (by omega) (by omega),hn,Nat.and_two_pow_sub_one_eq_mod,Nat.mod_self];rfl
 rw [← hn] at h1 h2 ⊢
 have g1:(1:Int)≤(n:Int):=by omega
 have g2:(n:Int)≤4096:=by omega
 clear hn
 go_enter Tryz.func311,Tryz.ntmps311
 go_wp2
 go_ret
 exact ⟨by simp,rfl⟩
abbrev Cmp (m:Nat):={ c:Nat × Nat // InB (2 ^ m) c }
def encC {m:Nat} (c:Cmp m):Array Value:=#[.agg #[.int .i64 (c.1.1:Int),.int .i64 (c.1.2:Int)]]
def cUp {m:Nat} (l:List (Cmp m)):List (Nat × Nat):=l.map (·.1)
theorem cUp_snoc {m:Nat} (l:List (Cmp m)) (c:Cmp m):cUp (l++[c])=cUp l++[c.1]:=by simp [cUp]
theorem quo2 (b:Nat):(2 ^ (b+1)) / 2=2 ^ b:=by rw [Nat.pow_succ];omega
theorem net1_in (n:Nat) (hn1:1≤n) (l Bv:Nat) (PE:Nat→Prop) (m:Nat) (hm:m≤12) (J Jx:List (Cmp m)→World→Prop) (W:World)
 (hJ:AbidesFrom W.heap.size J) (hPE:∀ k,PE k→k<W.heap.size) (hPB:PE Bv)
 (hY:∀ pre x W1,J pre W1→pre.length<(netw m).length→YieldAt Fence.wide (n - 1) Tryz.prog l (encC x) W1 fun e W' =>
   (e=.returned (.bool true)∧J (pre++[x]) W'∧KeepP PE W1 W')∨(e=.returned (.bool false)∧Jx (pre++[x]) W'))
 (hBv:Blk W Bv 3 #[.int .i64 ((2 ^ m:Nat):Int)]) (h0:J [] W) :
 CallsIn Fence.wide n Tryz.prog 310 #[.func (.yield l) #[] #[],.pointer (some ⟨Bv,0,none⟩)] W fun e W'=>(∃ v,e=.returned v) ∧
  ((∃ ys,cUp ys=netw m∧J ys W')∨(∃ pre,cUp pre <+: netw m∧Jx pre W')):=by
 have hp0:=Nat.two_pow_pos m
 have hp12:=pow_le12 hm
 have HIS:=hide (fun w=>nis_any m hm w)
 obtain ⟨N,hN⟩:∃ N,N=2 ^ m:=⟨_,rfl⟩
 have HN:=hide hN
 rw [← hN] at hp0 hp12 HIS hBv
 have cv:=hBv.cell (i:=0) rfl
 have HY:=hide hY
 have HJ:=hide hJ
 clear hY hJ hN
 refine callsIn_of_wp Tryz.func310 rfl trivial ?_ rfl
 simp only [Tryz.ntmps310,List.size_toArray,List.length_cons,List.length_nil,Nat.reduceAdd,Nat.reduceSub,Array.replicate_succ,Array.replicate_zero,List.push_toArray,List.append_toArray,List.nil_append,List.cons_append]
 refine wpIn_scope_straight ?_
 gi_wp2_with fail
 refine ⟨trivial,?_⟩
 refine (callsIn_wide.2 (HIS.out _)).mono ?_
 rintro e w1 ⟨rfl,rfl⟩
 gi_wp2_with fail
 refine wpIn_label ?_
 gi_wp2_with fail
 gi_loopw [3] (fun k wr=>∃ (s:Nat) (pre:List (Cmp m)),s≤m∧k=.int .i64 ((2 ^ (s+1):Nat):Int)∧Hid (cUp pre++rounds N s (m - s)=netw m)∧J pre wr∧KeepP PE W wr)
  (fun k _=>8193 - (intOf k).toNat)
 case atStart=>exact ⟨0,[],Nat.zero_le _,by simp,hide (by rw [HN.out];rfl),h0,KeepP.refl _ _⟩
 case round =>
  obtain ⟨s,pre,hs,rfl,hpre,hJs,hkp⟩:=hrel
  have cvr:wr.cell? ⟨Bv,0,none⟩=some (.int .i64 (N:Int)):=(hBv.kept hkp hPB).cell (i:=0) rfl
  by_cases hsm:s<m
  · have hk1:2 ^ (s+1)≤N:=by rw [HN.out];exact Nat.pow_le_pow_right (by omega) hsm
    have hr:Hid (rounds N s (m - s)=merges N (2 ^ (s+1)) (s+1)++rounds N (s+1) (m - (s+1))):=by
     obtain ⟨r,hr⟩:∃ r,m - s=r+1:=⟨m - s - 1,by omega⟩
     have e:m - (s+1)=r:=by omega
     rw [hr,e];exact rfl
    have hq2:(((2 ^ (s+1):Nat):Int)) / 2=((2 ^ (s+1) / 2:Nat):Int):=by omega
    obtain ⟨K,hK⟩:∃ K,K=2 ^ (s+1):=⟨_,rfl⟩
    obtain ⟨j0,hj0⟩:∃ j0,j0=2 ^ (s+1) / 2:=⟨_,rfl⟩
    have HK:=hide hK;have HJ0:=hide hj0
    rw [← hj0,← hK] at hq2
    rw [← hK] at hk1 hr ⊢
    clear hK hj0
    have hki:(K:Int)≤(N:Int):=by omega
    have hK0:0<K:=by rw [HK.out];exact Nat.two_pow_pos _
    gi_wp2_with fail
    gi_loopw [4] (fun j wm=>∃ (b jv:Nat) (pre2:List (Cmp m)),b≤s+1∧j=.int .i64 (jv:Int)∧Hid (jv=2 ^ b / 2)∧Hid (cUp pre2++(merges N K b++rounds N (s+1) (m - (s+1)))=netw m)∧J pre2 wm∧KeepP PE W wm)
     (fun j _=>(intOf j).toNat)
    case atStart=>exact ⟨s+1,j0,pre,Nat.le_refl _,rfl,HJ0,hide (by rw [← hr.out];exact hpre.out),hJs,hkp⟩
    case round =>
     clear hJs hkp hpre cvr hq2 HJ0 hr
     obtain ⟨b,jv,pre2,hb,rfl,hjv,hpre2,hJ2,hkp2⟩:=hrel
     have cv2:wr.cell? ⟨Bv,0,none⟩=some (.int .i64 (N:Int)):=(hBv.kept hkp2 hPB).cell (i:=0) rfl
     cases b with
     | zero =>
       have hz:jv=0:=hjv.out
       subst hz
       clear hjv
       have hw:IntKind.i64.wrap ((K:Int)*2)=((K*2:Nat):Int):=by rw [IntKind.wrap_i64];omega
       gi_wp2_with fail
       go_roundw
       case rel =>
        refine ⟨s+1,pre2,hsm,?_,hpre2,hJ2,hkp2⟩
        rw [HK.out,Nat.pow_succ 2 (s+1)]
        simp
       case measure=>simp [intOf];omega
     | succ b =>
       have hjp:jv=2 ^ b:=by rw [hjv.out];exact quo2 b
       have hj1:0<jv:=by rw [hjp];exact Nat.two_pow_pos b
       have hjN:jv≤N:=by rw [hjp,HN.out];exact Nat.pow_le_pow_right (by omega) (by omega)
       have hji:(0:Int)<(jv:Int):=by omega
       have HJP:=hide hjp
       clear hjp hjv
       gi_wp2_with fail
       gi_loopw [22] (fun i wi=>∃ (x:Nat) (pre3:List (Cmp m)),x≤N∧i=.int .i64 (x:Int)∧Hid (cUp pre3++(((List.range N).drop x).filterMap (sweepC K jv)++(merges N K b++rounds N (s+1) (m - (s+1))))=netw m)∧J pre3 wi∧KeepP PE W wi)
        (fun i _=>N - (intOf i).toNat)
       case atStart=>exact ⟨0,pre2,Nat.zero_le _,rfl,hide (by rw [← hpre2.out,List.drop_zero,merges,← HJP.out,List.append_assoc (sweep N K jv)];rfl),hJ2,hkp2⟩
       case round =>
        clear hJ2 hkp2 hpre2 cv2
        obtain ⟨x,pre3,hx,rfl,hpre3,hJ3,hkp3⟩:=hrel
        by_cases hxN:x<N
        · have hxi:(x:Int)<(N:Int):=by omega
          have hxo:bits BinOp.xor IntKind.i64 (x:Int) (jv:Int)=((x ^^^ jv:Nat):Int):=i64_xor_nat _ _ (by omega) (by omega)
          have hxa:bits BinOp.and IntKind.i64 (x:Int) (K:Int)=((x &&& K:Nat):Int):=i64_and_nat _ _ (by omega) (by omega)
          have hxp:=xor_pow x b
          rw [← HJP.out] at hxp
          have hap:=and_pow x (s+1)
          rw [← HK.out] at hap
          have hdr:(List.range N).drop x=x::(List.range N).drop (x+1):=by
           rw [List.drop_eq_getElem_cons (by simpa using hxN)];simp
          rw [hdr] at hpre3
          by_cases hbit:x / jv % 2=0
          · rw [if_pos hbit] at hxp
            obtain ⟨y,hy⟩:∃ y,y=x ^^^ jv:=⟨_,rfl⟩
            rw [← hy] at hxo hxp
            have hyx:¬ (y:Int)<(x:Int):=by omega
            clear hy
            by_cases hkb:x / K % 2=0
            · have hx0:x &&& K=0:=hap.2 hkb
              rw [hx0] at hxa
              have e0:sweepC K jv x=some (x,y):=by unfold sweepC;rw [if_neg (by omega),if_neg (by omega),hxp]
              have hin:(x,y)∈netw m:=by rw [← hpre3.out,List.filterMap_cons_some e0];simp
              have hlen:pre3.length<(netw m).length:=by
               have:=congrArg List.length hpre3.out
               rw [List.filterMap_cons_some e0] at this
               simp [cUp] at this
               omega
              obtain ⟨wa,hwa⟩:∃ wa,wa=wr.alloc (.cells #[.int .i64 (x:Int),.int .i64 (y:Int)] 326):=⟨_,rfl⟩
              have hJa:J pre3 wa:=by rw [hwa];exact HJ.out _ _ _ none hJ3 (World.grownBy_alloc wr _ none) (fun r e=>by cases e)
              have hKa:KeepP PE W wa:=by rw [hwa];exact hkp3.trans (KeepP.of_below (bA) (fun k hk=>Nat.lt_of_lt_of_le (hPE k hk) hkp3.size))
              obtain ⟨fn,tmps,assign,body,hyl,hR⟩:=HY.out pre3 ⟨(x,y),netw_in hin⟩ wa hJa hlen
              unfold encC at hyl
              dsimp only at hyl
              have hR2:=hide (hR.mono (R':=fun e W'=>∃ r,e=.returned (.bool r)∧(r=true→J (pre3++[⟨(x,y),netw_in hin⟩]) W'∧KeepP PE W W')∧(r=false→Jx (pre3++[⟨(x,y),netw_in hin⟩]) W')) (by
               rintro e W' (⟨rfl,h1,h2⟩ | ⟨rfl,h1⟩)
               · exact ⟨true,rfl,fun _=>⟨h1,hKa.trans h2⟩,fun h=>by cases h⟩
               · exact ⟨false,rfl,(fun h=>by cases h),fun _=>h1⟩))
              have HP3:Hid (cUp (pre3++[⟨(x,y),netw_in hin⟩])++(((List.range N).drop (x+1)).filterMap (sweepC K jv)++(merges N K b++rounds N (s+1) (m - (s+1))))=netw m):=hide (by rw [cUp_snoc,← hpre3.out,List.filterMap_cons_some e0];simp)
              have HPR:Hid (cUp (pre3++[⟨(x,y),netw_in hin⟩]) <+: netw m):=hide ⟨_,HP3.out⟩
              generalize pre3++[⟨(x,y),netw_in hin⟩]=pre4 at HP3 HPR hR2
              have HXP:=hide hxp
              clear hR hJa hKa hlen hin hdr hpre3 hJ3 hkp3 hxp hap hkb hbit e0
              gi_wp2_with fail
              rw [← hwa]
              clear hwa
              rw [hyl]
              refine ⟨fun _=>hn1,?_⟩
              refine hR2.out.mono ?_
              rintro e W3 ⟨r,rfl,hr1,hr2⟩
              have HR1:=hide hr1
              have HR2:=hide hr2
              clear hr1 hr2 hyl hR2
              cases r with
              | false =>
                gi_wp2
                unfold Exit.noGoto
                dsimp only
                go_end0
                exact ⟨⟨_,rfl⟩,.inr ⟨pre4,HPR.out,HR2.out (by trivial)⟩⟩
              | true =>
                gi_wp2
                go_roundw
                case rel=>exact ⟨x+1,pre4,by omega,by go_num,HP3,HR1.out (by trivial)⟩
                case measure=>simp [intOf];omega
            · have hxn:¬ x &&& K=0:=fun h=>hkb (hap.1 h)
              obtain ⟨xk,hxk⟩:∃ xk,xk=x &&& K:=⟨_,rfl⟩
              rw [← hxk] at hxa hxn
              have hxki:¬ (xk:Int)=0:=by omega
              clear hxk hxn
              have e0:sweepC K jv x=some (y,x):=by unfold sweepC;rw [if_neg (by omega),if_pos (by omega),hxp]
              have hin:(y,x)∈netw m:=by rw [← hpre3.out,List.filterMap_cons_some e0];simp
              have hlen:pre3.length<(netw m).length:=by
               have:=congrArg List.length hpre3.out
               rw [List.filterMap_cons_some e0] at this
               simp [cUp] at this
               omega
              obtain ⟨wa,hwa⟩:∃ wa,wa=wr.alloc (.cells #[.int .i64 (y:Int),.int .i64 (x:Int)] 326):=⟨_,rfl⟩
              have hJa:J pre3 wa:=by rw [hwa];exact HJ.out _ _ _ none hJ3 (World.grownBy_alloc wr _ none) (fun r e=>by cases e)
              have hKa:KeepP PE W wa:=by rw [hwa];exact hkp3.trans (KeepP.of_below (bA) (fun k hk=>Nat.lt_of_lt_of_le (hPE k hk) hkp3.size))
              obtain ⟨fn,tmps,assign,body,hyl,hR⟩:=HY.out pre3 ⟨(y,x),netw_in hin⟩ wa hJa hlen
              unfold encC at hyl
              dsimp only at hyl
              have hR2:=hide (hR.mono (R':=fun e W'=>∃ r,e=.returned (.bool r)∧(r=true→J (pre3++[⟨(y,x),netw_in hin⟩]) W'∧KeepP PE W W')∧(r=false→Jx (pre3++[⟨(y,x),netw_in hin⟩]) W')) (by
               rintro e W' (⟨rfl,h1,h2⟩ | ⟨rfl,h1⟩)
               · exact ⟨true,rfl,fun _=>⟨h1,hKa.trans h2⟩,fun h=>by cases h⟩
               · exact ⟨false,rfl,(fun h=>by cases h),fun _=>h1⟩))
              have HP3:Hid (cUp (pre3++[⟨(y,x),netw_in hin⟩])++(((List.range N).drop (x+1)).filterMap (sweepC K jv)++(merges N K b++rounds N (s+1) (m - (s+1))))=netw m):=hide (by rw [cUp_snoc,← hpre3.out,List.filterMap_cons_some e0];simp)
              have HPR:Hid (cUp (pre3++[⟨(y,x),netw_in hin⟩]) <+: netw m):=hide ⟨_,HP3.out⟩
              generalize pre3++[⟨(y,x),netw_in hin⟩]=pre4 at HP3 HPR hR2
              have HXP:=hide hxp
              clear hR hJa hKa hlen hin hdr hpre3 hJ3 hkp3 hxp hap hkb hbit e0
              gi_wp2_with fail
              rw [← hwa]
              clear hwa
              rw [hyl]
              refine ⟨fun _=>hn1,?_⟩
              refine hR2.out.mono ?_
              rintro e W3 ⟨r,rfl,hr1,hr2⟩
              have HR1:=hide hr1
              have HR2:=hide hr2
              clear hr1 hr2 hyl hR2
              cases r with
              | false =>
                gi_wp2
                unfold Exit.noGoto
                dsimp only
                go_end0
                exact ⟨⟨_,rfl⟩,.inr ⟨pre4,HPR.out,HR2.out (by trivial)⟩⟩
              | true =>
                gi_wp2
                go_roundw
                case rel=>exact ⟨x+1,pre4,by omega,by go_num,HP3,HR1.out (by trivial)⟩
                case measure=>simp [intOf];omega
          · rw [if_neg hbit] at hxp
            obtain ⟨y,hy⟩:∃ y,y=x ^^^ jv:=⟨_,rfl⟩
            rw [← hy] at hxo hxp
            have hjx:jv≤x:=(odd_sub hj1 (by omega)).1
            have hyx:(y:Int)<(x:Int):=by omega
            have e0:sweepC K jv x=none:=by unfold sweepC;rw [if_pos (by omega)]
            have HP3:Hid (cUp pre3++(((List.range N).drop (x+1)).filterMap (sweepC K jv)++(merges N K b++rounds N (s+1) (m - (s+1))))=netw m):=hide (by rw [← hpre3.out,List.filterMap_cons_none e0])
            have HJA:=hide (HJ.out _ _ _ none hJ3 (World.grownBy_alloc wr (.cells #[.int .i64 (x:Int),.int .i64 (y:Int)] 326) none) (fun r e=>by cases e))
            have HKA:=hide (hkp3.trans (KeepP.of_below (bl_alloc (Below.refl _ _) (.cells #[.int .i64 (x:Int),.int .i64 (y:Int)] 326)) (fun k hk=>Nat.lt_of_lt_of_le (hPE k hk) hkp3.size)))
            clear hxa hxp hap hdr hpre3 hbit hy hjx e0 hJ3 hkp3
            gi_wp2_with fail
            go_roundw
            case rel=>exact ⟨x+1,pre3,by omega,by go_num,HP3,HJA.out,HKA.out⟩
            case measure=>simp [intOf];omega
        · obtain rfl:x=N:=by omega
          have HP3:Hid (cUp pre3++(merges x K b++rounds x (s+1) (m - (s+1)))=netw m):=hide (by rw [← hpre3.out,List.drop_of_length_le (by simp)];rfl)
          have hq:(jv:Int) / 2=((jv / 2:Nat):Int):=by omega
          obtain ⟨j2,hj2⟩:∃ j2,j2=jv / 2:=⟨_,rfl⟩
          rw [← hj2] at hq
          have HJ2:Hid (j2=2 ^ b / 2):=hide (by rw [hj2,HJP.out])
          have hlt:j2<jv:=by omega
          clear hj2 hpre3
          gi_wp2_with fail
          go_roundw
          case rel=>exact ⟨b,j2,pre3,by omega,rfl,HJ2,HP3,hJ3,hkp3⟩
          case measure=>simp [intOf];omega
  · obtain rfl:s=m:=by omega
    have hNK:(N:Int)<(((2 ^ (s+1):Nat)):Int):=by
     have e:=HN.out
     have e2:2 ^ (s+1)=2*2 ^ s:=by rw [Nat.pow_succ,Nat.mul_comm]
     omega
    have HP:Hid (cUp pre=netw s):=hide (by have:=hpre.out;rw [Nat.sub_self,rounds,List.append_nil] at this;exact this)
    obtain ⟨K,hK⟩:∃ K,K=2 ^ (s+1):=⟨_,rfl⟩
    rw [← hK] at hNK ⊢
    clear hpre hK
    gi_wp2_with fail
    unfold Exit.noGoto
    dsimp only
    go_end0
    exact ⟨⟨_,rfl⟩,.inl ⟨_,HP.out,hJs⟩⟩
theorem net_stops (n:Nat) (hn1:1≤n) (Bv:Nat) (PE:Nat→Prop) (m:Nat) (hm:m≤12) (w:World) (hPE:∀ k,PE k→k<w.heap.size) (hPB:PE Bv) (hBv:Blk w Bv 3 #[.int .i64 ((2 ^ m:Nat):Int)]) :
 SeqStopsK Fence.wide n Tryz.prog 310 #[.pointer (some ⟨Bv,0,none⟩)] (encC (m:=m)) (KeepP PE) (fun ys=>cUp ys=netw m) (fun pre=>cUp pre <+: netw m) (netw m).length w:=by
 intro l J Jx W hW hJ _ hY h0
 exact net1_in n hn1 l Bv PE m hm J Jx W hJ (fun k hp=>Nat.lt_of_lt_of_le (hPE k hp) hW.size) hPB hY (hBv.step hW) h0
theorem nall_any (n:Int) (w:World) :
 Calls Tryz.prog 278 #[.int .i64 n] w fun e w'=>e=.returned (.func (.func 310) #[] #[.pointer (some ⟨w.heap.size,0,none⟩)])∧w'=w.alloc (.cells #[.int .i64 n] 3):=by
 go_enter Tryz.func278,Tryz.ntmps278
 go_wp2
 go_ret
 exact ⟨rfl,rfl⟩
def lg (n:Nat):Nat:=Lib.bitLen (n - 1)
theorem lg_le {n:Nat} (h:n≤4096):lg n≤12:=Lib.bitLen_le (n - 1) 12 (by omega) (by omega)
theorem bl_up:∀ (f x:Nat),x<2 ^ f→x<2 ^ Lib.bitLenAux f x
 | 0,x,h=>by simpa [Lib.bitLenAux] using h
 | f+1,x,h=>by
   rw [Lib.bitLenAux]
   by_cases hx:x=0
   · rw [if_pos hx,hx];exact Nat.two_pow_pos _
   · rw [if_neg hx,Nat.add_comm,Nat.pow_succ]
     have:=bl_up f (x / 2) (by rw [Nat.pow_succ] at h;omega)
     omega
theorem lg_ge {n:Nat} (h:n≤4096):n≤2 ^ lg n:=by
 have h1:=bl_up 64 (n - 1) (by omega)
 change n - 1<2 ^ lg n at h1
 omega
theorem nsize_any (n:Nat) (h1:1≤n) (h2:n≤4096) (w:World) :
 Calls Tryz.prog 277 #[.int .i64 (n:Int)] w fun e w'=>e=.returned (.int .i64 ((2 ^ lg n:Nat):Int))∧w=w':=by
 have g1:¬ (n:Int)<1:=by omega
 have g2:(n:Int)≤4096:=by omega
 have hl:=lg_le h2
 have hp:=pow_le12 hl
 have HL:=hide (fun w=>Any.bits_Len Tryz.lays125 ((n:Int) - 1) w (by omega) (by omega))
 have e:((n:Int) - 1).toNat=n - 1:=by omega
 rw [e] at HL
 have e2:Lib.bitLen (n - 1)=lg n:=rfl
 rw [e2] at HL
 obtain ⟨L,hL⟩:∃ L,L=lg n:=⟨_,rfl⟩
 rw [← hL] at HL hl hp ⊢
 clear e e2 hL
 go_enter Tryz.func277,Tryz.ntmps277
 go_wp2_with fail
 refine (HL.out w).mono ?_
 rintro e w' ⟨rfl,rfl⟩
 go_wp2
 go_ret
 have hc:((2 ^ L:Nat):Int)=(2:Int) ^ L:=by simp
 have hw:wrap64 ((2:Int) ^ L)=((2 ^ L:Nat):Int):=by
  rw [← hc]
  generalize 2 ^ L=p at hp
  exact IntWalk.wrap64_in _ (by omega)
 exact ⟨ret_int hw,rfl⟩
end
section
open Go.RowKit
def hrec (gs:List Gr) (q:(Int × Int) × Int):Int × Int:=if (fenceOk gs && memOk gs q.1)=true then (1,q.2) else (0,0)
def hrecs (gs:List Gr) (qs:List ((Int × Int) × Int)):List (Int × Int):=qs.map (hrec gs)
def cntL (rs:List (Int × Int)):Nat:=(rs.map fun r=>r.1.toNat).sum
def bcheck (gs:List Gr) (n:Nat):Int:=if fcheck (gs.map (·.1))≠0 then fcheck (gs.map (·.1)) else if n<1∨4096<n then 6 else 0
def hbatch (gs:List Gr) (qs:List ((Int × Int) × Int)):Ans × Int :=
 if bcheck gs qs.length≠0 then (ansZero,bcheck gs qs.length) else (⟨bif fenceOk gs then 1 else 0,cntL (hrecs gs qs),isort rkey (hrecs gs qs)⟩,0)
def itemEv (gs:List Gr) (n:Nat):List Ev:=(List.range n).flatMap fun (i:Nat)=>(8,(i:Int),0)::fenceMEv gs
def cntEv (n:Nat):List Ev:=(List.range n).map fun (i:Nat)=>(1,(i:Int),0)
def pairEv (cs:List (Nat × Nat)):List Ev:=cs.map fun c=>(3,(c.1:Int),(c.2:Int))
def batchEv (gs:List Gr) (n:Nat):List Ev:=if bcheck gs n≠0 then [] else fenceVEv gs++itemEv gs n++cntEv n++pairEv (netw (lg n))
theorem hrec_cln (gs:List Gr) {q:(Int × Int) × Int} (h:U64 q.2):Cln (hrec gs q):=by
 unfold hrec
 split
 · exact .inl ⟨rfl,h.1,h.2⟩
 · exact .inr rfl
theorem hrecs_cln (gs:List Gr) {qs:List ((Int × Int) × Int)} (h:∀ q∈qs,U64 q.2):∀ r∈hrecs gs qs,Cln r:=by
 intro r hr
 obtain ⟨q,hq,rfl⟩:=List.mem_map.1 hr
 exact hrec_cln gs (h q hq)
theorem cln_u64 {r:Int × Int} (h:Cln r):U64 r.1∧U64 r.2:=by
 rcases h with ⟨h1,h2,h3⟩ | h
 · exact ⟨by rw [h1];exact ⟨by decide,by decide⟩,h2,h3⟩
 · rw [h];exact ⟨⟨by decide,by decide⟩,by decide,by decide⟩
theorem cntL_le:∀ l:List (Int × Int),(∀ r∈l,Cln r)→cntL l≤l.length
 | [],_=>Nat.le_refl _
 | r::l,h=>by
   have h1:=cntL_le l fun x hx=>h x (List.mem_cons_of_mem _ hx)
   have h2:r.1.toNat≤1:=by
    rcases h r (List.mem_cons_self ..) with ⟨h,_⟩ | h
    · rw [h];decide
    · rw [h];decide
   unfold cntL at h1 ⊢
   rw [List.map_cons,List.sum_cons,List.length_cons]
   omega
end
section
open Go.RowKit Go.Shelf
attribute [local go_sem] Oper.semAt_some
def srt (l:List (Int × Int)) (cs:List (Nat × Nat)):List (Int × Int):=cs.foldl (exch rkey) l
def padR (rs:List (Int × Int)):List (Int × Int):=rs++List.replicate (2 ^ lg rs.length - rs.length) (0,0)
theorem srt_snoc (l:List (Int × Int)) (cs:List (Nat × Nat)) (c:Nat × Nat):srt l (cs++[c])=exch rkey (srt l cs) c:=by simp [srt]
theorem pairEv_snoc (cs:List (Nat × Nat)) (c:Nat × Nat):pairEv (cs++[c])=pairEv cs++[(3,(c.1:Int),(c.2:Int))]:=by simp [pairEv]
theorem padR_cln {rs:List (Int × Int)} (h:∀ r∈rs,Cln r):∀ r∈padR rs,Cln r:=fun r hr=>by
 rcases List.mem_append.1 hr with hr | hr
 · exact h r hr
 · rw [List.eq_of_mem_replicate hr];exact .inr rfl
theorem padR_length {rs:List (Int × Int)} (h:rs.length≤4096):(padR rs).length=2 ^ lg rs.length:=by
 have:=lg_ge h
 unfold padR
 rw [List.length_append,List.length_replicate];omega
theorem srt_perm (l:List (Int × Int)) (cs:List (Nat × Nat)):(srt l cs).Perm l:=fold_perm rkey cs l
section
variable {F:Fence} {n:Nat} {P:Program} {ops:Array Oper} {Q:Exit→Act→World→Prop} {S:World→Prop}
def OnlyN (K:Act→World→Prop):Exit→Act→World→Prop
 | .normal,a,w=>K a w
 | _,_,_=>False
theorem OnlyN.intro {K:Act→World→Prop} {a:Act} {w:World} (h:K a w):OnlyN K .normal a w:=h
theorem startN (sk:Nat) {id:Nat} {a:Act} {w:World} (hm:P.follows .mixedOrders=true)
 (h:wpAnyHIn F n P .any ops (OnlyN (Q .normal)) S sk ops.size (Array.replicate ops.size false) a w.drew):(Code.region id ops true).wpIn F n P Q a w:=by
 refine wpIn_mono (startH sk (Q:=OnlyN (Q .normal)) hm h) ?_
 intro e a w he
 cases e with
 | normal=>exact he
 | _=>exact he.elim
end
theorem note_w (P:Nat→Prop) (t:Option (Nat × Nat)) (es:List Ev) (k a b:Int) (w:World) (hP:∀ j,P j→j<w.heap.size) (ht:Tp w P t es) (hl:t=none∨es.length≤1000000) (hk:I64w k) :
 Calls Tryz.prog 259 #[.pointer (tapeA t),.int .i64 k,.int .i64 a,.int .i64 b] w fun e w'=>e=.returned (.tuple #[])∧KeepP P w w'∧KeepsM t w w'∧Tp w' P t (es++[(k,a,b)]):=by
 rcases hl with rfl | hl
 · refine (note_any P none [] k a b w hP trivial (by simp) hk).mono ?_
   rintro e w' ⟨h1,h2,h3,_⟩
   exact ⟨h1,h2,h3,trivial⟩
 · exact note_any P t es k a b w hP ht hl hk
theorem addr_add (b off j:Nat):(⟨b,off,none⟩:Addr).add j=⟨b,off+j,none⟩:=by unfold Addr.add;split <;> simp_all
theorem sort_any (P:Nat→Prop) (t:Option (Nat × Nat)) (es:List Ev) (rs:List (Int × Int)) (hcl:∀ r∈rs,Cln r) (h1:1≤rs.length) (h2:rs.length≤4096) (A:Option Addr) (c:Nat) (w:World) (hP:∀ k,P k→k<w.heap.size) (hs:SlP w P A (recCs rs)) (ht:Tp w P t es) (hl:t=none∨es.length+(netw (lg rs.length)).length≤1000000) :
 Calls Tryz.prog 208 #[.pointer (tapeA t),.slice A rs.length c] w fun e w'=>∃ b,e=.returned (.slice (some ⟨b,0,none⟩) rs.length rs.length)∧KeepP P w w'∧Tp w' P t (es++pairEv (netw (lg rs.length)))∧¬ P b∧Sl w' w'.heap.size (some ⟨b,0,none⟩) (recCs (isort rkey rs)):=by
 have hL:=lg_le h2
 have hge:=lg_ge h2
 have hp12:=pow_le12 hL
 have HSZ:=hide (fun w=>nsize_any rs.length h1 h2 w)
 have hplen:=padR_length h2
 have hpcl:=padR_cln hcl
 obtain ⟨L,hLe⟩:∃ L,L=lg rs.length:=⟨_,rfl⟩
 have HLE:=hide hLe
 rw [← hLe] at hL hge hp12 HSZ hplen hl ⊢
 obtain ⟨N,hN⟩:∃ N,N=2 ^ L:=⟨_,rfl⟩
 have HN:=hide hN
 rw [← hN] at hge hp12 HSZ hplen
 have hN0:¬ (N:Int)=0:=by omega
 have hmk:=fun w=>make_recs N (by omega) w
 obtain ⟨tb,htb⟩:∃ tb,tb=w.heap.size:=⟨_,rfl⟩
 obtain ⟨w0,hw0⟩:∃ w0,w0=w.alloc (.cells #[.pointer (tapeA t)] 193):=⟨_,rfl⟩
 clear hLe hN
 have hz0:w0.heap.size=tb+1:=by rw [hw0,htb];simp
 have T0:Blk w0 tb 193 #[.pointer (tapeA t)]:=by rw [hw0,htb];exact Blk.new _ _ _
 have hb0:Below w.heap.size w w0:=by rw [hw0];exact bA
 obtain ⟨W1,hW1⟩:∃ W1,(w0.alloc (.cells (madeCells #[.int .u64 0,.int .u64 0] (N*2)) 148)).alloc (.cells #[.slice (some ⟨tb+1,0,none⟩) N N] 110)=W1:=⟨_,rfl⟩
 have R1:Blk W1 (tb+1) 148 (madeCells #[.int .u64 0,.int .u64 0] (N*2)):=by rw [← hW1,← hz0];exact (Blk.new _ _ _).alloc _
 have O1:Blk W1 (tb+1+1) 110 #[.slice (some ⟨tb+1,0,none⟩) N N]:=by
  have h:=Blk.new2 w0 (.cells (madeCells #[.int .u64 0,.int .u64 0] (N*2)) 148) 110 #[.slice (some ⟨tb+1,0,none⟩) N N]
  rw [hz0,hW1] at h
  exact h
 have hb01:Below w0.heap.size w0 W1:=by rw [← hW1];exact bl_alloc (bA) _
 have T1:=T0.step hb01
 have hz1:W1.heap.size=tb+3:=by rw [← hW1];simp [hz0]
 have hB1:=bl_step hb0 hb01
 have hs1:=(hs.kept (KeepP.of_below hB1 hP)).sl (fun k hk=>Nat.lt_of_lt_of_le (hP k hk) hB1.size)
 obtain ⟨b,off,rfl,hbb,hcs⟩:=hs1.open_ (by have:=flat_length (fun p:Int × Int=>[Value.int .u64 p.1,.int .u64 p.2]) 2 (fun _=>rfl) rs;unfold recCs;rw [this];omega)
 have hrl:(recCs rs).length=rs.length*2:=flat_length (fun p:Int × Int=>[Value.int .u64 p.1,.int .u64 p.2]) 2 (fun _=>rfl) rs
 have hmin:Nat.min rs.length N=rs.length:=Nat.min_eq_left hge
 have hrun:=run_copy_sized (P:=Tryz.prog) W1 110 110 3 148 2 (tb+1) 0 N N ⟨b,off,none⟩ rs.length c _ 148 (recCs rs) Tryz.underlying110 (by kernel_rfl) R1 (by rw [hmin,hrl]) (fun j v hv=>by rw [addr_add];exact hcs j v hv) (by rw [size_madeCells,hrl];omega) (recCs_one rs)
 have hh2:=setRow_heap W1 (tb+1) (madeCells #[.int .u64 0,.int .u64 0] (N*2)) ((madeCells #[.int .u64 0,.int .u64 0] (N*2)).toList.take 0++recCs rs++(madeCells #[.int .u64 0,.int .u64 0] (N*2)).toList.drop (0+(recCs rs).length)).toArray 148 _ R1
 have hb12:Below w.heap.size w (W1.setRow (tb+1) ((madeCells #[.int .u64 0,.int .u64 0] (N*2)).toList.take 0++recCs rs++(madeCells #[.int .u64 0,.int .u64 0] (N*2)).toList.drop (0+(recCs rs).length)).toArray):=below_setRow hB1 (by omega) _
 have hb12':∀ k,k≠tb+1→(W1.setRow (tb+1) ((madeCells #[.int .u64 0,.int .u64 0] (N*2)).toList.take 0++recCs rs++(madeCells #[.int .u64 0,.int .u64 0] (N*2)).toList.drop (0+(recCs rs).length)).toArray).heap[k]?=W1.heap[k]?:=fun k hk=>setRow_other W1 (tb+1) k _ hk
 rw [rcA_pad rs N hge] at hrun hh2 hb12 hb12'
 rw [hmin] at hrun
 have hpad:rs++List.replicate (N - rs.length) (0,0)=padR rs:=by unfold padR;rw [← HLE.out,← HN.out]
 rw [hpad] at hrun hh2 hb12 hb12'
 obtain ⟨W2,hW2⟩:∃ W2,W2=W1.setRow (tb+1) (rcA (padR rs)):=⟨_,rfl⟩
 rw [← hW2] at hrun hh2 hb12 hb12'
 have R2:Blk W2 (tb+1) 148 (rcA (padR rs)):=hh2
 have O2:Blk W2 (tb+1+1) 110 #[.slice (some ⟨tb+1,0,none⟩) N N]:=(hb12' _ (by omega)).trans O1
 have T2:Blk W2 tb 193 #[.pointer (tapeA t)]:=(hb12' _ (by omega)).trans T1
 have hz2:W2.heap.size=tb+3:=by rw [hW2,← hz1];simp [World.setRow]
 have HRUN:=hide hrun
 have HZ2:=hide hz2;have HCL:=hide hcl;have HPC:=hide hpcl;have HPL:=hide hplen;have HS:=hide hs;have HP:=hide hP;have HT:=hide ht;have HB12:=hide hb12
 clear hrun hh2 hb12' hcs R1 O1 T1 hb01 hB1 hz1 hmin hpad hbb T0 hb0 hrl hs1 hz2 hcl hpcl hplen hs hP ht hb12
 refine (callsIn_wide (n:=6)).1 ?_
 refine callsIn_of_wp_marks Tryz.func208 rfl trivial ?_ rfl
 simp only [Tryz.ntmps208,List.size_toArray,List.length_cons,List.length_nil,Nat.reduceAdd,Nat.reduceSub,Array.replicate_succ,Array.replicate_zero,List.push_toArray,List.append_toArray,List.nil_append,List.cons_append]
 gi_wp2_with fail
 rw [← hw0,← htb]
 have HTB:=hide htb
 have HZ0:=hide hz0
 have HW1:=hide hW1
 have HW2:=hide hW2
 clear hw0 htb hz0 hW1 hW2
 refine ⟨trivial,?_⟩
 refine (callsIn_wide.2 (HSZ.out _)).mono ?_
 rintro e w1 ⟨rfl,rfl⟩
 gi_wp2_with fail
 rw [HZ0.out,HW1.out,HRUN.out]
 clear HRUN HW1 HW2 hmk
 have o2:=O2.cell (i:=0) rfl
 have HK0:=hide (KeepP.of_below HB12.out HP.out)
 have HT2:=hide (HT.out.more HB12.out)
 have HPM:=hide (more_lt HP.out HB12.out)
 gi_wp2_with fail
 gi_loopw [21] (fun i wr=>∃ k:Nat,k≤N∧i=.int .i64 k∧(Blk wr tb 193 #[.pointer (tapeA t)]∧Blk wr (tb+1+1) 110 #[.slice (some ⟨tb+1,0,none⟩) N N]∧Blk wr (tb+1) 148 (rcA (padR rs)))∧KeepP P W2 wr∧Tp wr (More P w W2) t es)
  (fun i _=>N - (intOf i).toNat)
 case atStart=>exact ⟨0,Nat.zero_le _,rfl,⟨T2,O2,R2⟩,KeepP.refl _ _,HT2.out⟩
 case round =>
  clear T2 O2 R2 o2
  obtain ⟨k,hk,rfl,⟨Tr,Or,Rr⟩,hkr,htr⟩:=hrel
  have or:=Or.cell (i:=0) rfl
  by_cases hlt:k<N
  · have hlti:(k:Int)<(N:Int):=by omega
    obtain ⟨r,hr⟩:∃ r,(padR rs)[k]?=some r:=⟨_,List.getElem?_eq_getElem (by rw [HPL.out];exact hlt)⟩
    have hrc:=HPC.out r (List.mem_of_getElem? hr)
    have hu:=cln_u64 hrc
    have HC:=hide (fun wk=>clean_any r.1 r.2 hu.1.1 hu.1.2 hu.2.1 hu.2.2 wk)
    rw [rcl_of hrc] at HC
    obtain ⟨g0,g1⟩:=rcA_get hr
    have HG0:=hide g0;have HG1:=hide g1
    have c0:=Rr.cell g0
    have c1:=Rr.cell g1
    obtain ⟨x1,x2⟩:=r
    dsimp only at *
    have hNP:¬ P (tb+1):=fun h=>by have:=HP.out _ h;have:=HTB.out;omega
    have HRR:=hide Rr;have HTR:=hide Tr;have HOR:=hide Or;have HKR:=hide hkr;have HTT:=hide htr;have HNP:=hide hNP
    clear hrc hu hr g0 g1 Rr Tr Or hkr htr hNP
    have hmix:Tryz.prog.follows .mixedOrders=true:=by kernel_rfl
    gi_wp2_with fail
    refine startN 8 (S:=fun w'=>Blk w' (tb+1+1) 110 #[.slice (some ⟨tb+1,0,none⟩) N N]∧Blk w' (tb+1) 148 (rcA (padR rs))) hmix ?_
    have hS:Blk wr.drew (tb+1+1) 110 #[.slice (some ⟨tb+1,0,none⟩) N N]∧Blk wr.drew (tb+1) 148 (rcA (padR rs)):=⟨HOR.out.drew,HRR.out.drew⟩
    refine' takeH (i:=0) (v:=_) (noDefer_of (by kernel_rfl)) rfl (by kernel_rfl) (by kernel_rfl) (by kernel_rfl) (fun _ _ _ h=>h) (by kernel_rfl) ⟨Or.inl ⟨by rfl,?hy0k1⟩,fun _=>rfl⟩ hS ?rest0k1
    case hy0k1 =>
     intro w' hSw
     obtain ⟨s1,s2⟩:=hSw
     have z1:=s1.cell (i:=0) rfl
     have z2:=s2.cell HG0.out
     have z3:=s2.cell HG1.out
     go_simp
     rfl
    simp only [Act.put,getElem_toArray,getElem_cons_zero,setIfInBounds_toArray,set_cons_zero,set_cons_succ]
    refine' takeH (i:=1) (v:=_) (noDefer_of (by kernel_rfl)) rfl (by kernel_rfl) (by kernel_rfl) (by kernel_rfl) (fun _ _ _ h=>h) (by kernel_rfl) ⟨Or.inl ⟨by rfl,?hy1k2⟩,fun _=>rfl⟩ hS ?rest1k2
    case hy1k2 =>
     intro w' hSw
     go_simp
     rfl
    simp only [Act.put,getElem_toArray,getElem_cons_succ,getElem_cons_zero,setIfInBounds_toArray,set_cons_zero,set_cons_succ]
    refine' takeH (i:=2) (v:=_) (noDefer_of (by kernel_rfl)) rfl (by kernel_rfl) (by kernel_rfl) (by kernel_rfl) (fun _ _ _ h=>h) (by kernel_rfl) ⟨Or.inl ⟨by rfl,?hy2k3⟩,fun _=>rfl⟩ hS ?rest2k3
    case hy2k3 =>
     intro w' hSw
     obtain ⟨s1,s2⟩:=hSw
     have z1:=s1.cell (i:=0) rfl
     have z2:=s2.cell HG0.out
     have z3:=s2.cell HG1.out
     go_simp
     rfl
    simp only [Act.put,getElem_toArray,getElem_cons_succ,getElem_cons_zero,setIfInBounds_toArray,set_cons_zero,set_cons_succ]
    refine' takeH (i:=3) (v:=_) (noDefer_of (by kernel_rfl)) rfl (by kernel_rfl) (by kernel_rfl) (by kernel_rfl) (fun _ _ _ h=>h) (by kernel_rfl) ⟨Or.inl ⟨by rfl,?hy3k4⟩,fun _=>rfl⟩ hS ?rest3k4
    case hy3k4 =>
     intro w' hSw
     go_simp
     rfl
    simp only [Act.put,getElem_toArray,getElem_cons_succ,getElem_cons_zero,setIfInBounds_toArray,set_cons_zero,set_cons_succ]
    refine' takeH (i:=4) (v:=_) (noDefer_of (by kernel_rfl)) rfl (by kernel_rfl) (by kernel_rfl) (by kernel_rfl) (fun _ _ _ h=>h) (by kernel_rfl) ⟨Or.inl ⟨by rfl,?hy4k5⟩,fun _=>rfl⟩ hS ?rest4k5
    case hy4k5 =>
     intro w' hSw
     obtain ⟨s1,s2⟩:=hSw
     have z1:=s1.cell (i:=0) rfl
     have z2:=s2.cell HG0.out
     have z3:=s2.cell HG1.out
     go_simp
     rfl
    simp only [Act.put,getElem_toArray,getElem_cons_succ,getElem_cons_zero,setIfInBounds_toArray,set_cons_zero,set_cons_succ]
    refine' takeH (i:=5) (v:=_) (noDefer_of (by kernel_rfl)) rfl (by kernel_rfl) (by kernel_rfl) (by kernel_rfl) (fun _ _ _ h=>h) (by kernel_rfl) ⟨Or.inl ⟨by rfl,?hy5k6⟩,fun _=>rfl⟩ hS ?rest5k6
    case hy5k6 =>
     intro w' hSw
     obtain ⟨s1,s2⟩:=hSw
     have z1:=s1.cell (i:=0) rfl
     have z2:=s2.cell HG0.out
     have z3:=s2.cell HG1.out
     go_simp
     rfl
    simp only [Act.put,getElem_toArray,getElem_cons_succ,getElem_cons_zero,setIfInBounds_toArray,set_cons_zero,set_cons_succ]
    refine oneH (i:=6) (by kernel_rfl) rfl ?_
    intro K hK
    rw [if_pos (by rfl)]
    go_simp
    refine ⟨trivial,?_⟩
    refine (callsIn_wide.2 (HC.out _)).mono ?_
    rintro e w3 ⟨rfl,hb3⟩
    have hS3:Blk w3 (tb+1+1) 110 #[.slice (some ⟨tb+1,0,none⟩) N N]∧Blk w3 (tb+1) 148 (rcA (padR rs)):=⟨HOR.out.drew.step hb3,HRR.out.drew.step hb3⟩
    refine hK.out _ _ (fun _=>hS3) ?_
    clear hK K
    (try simp only [Act.put,getElem_toArray,getElem_cons_succ,getElem_cons_zero,setIfInBounds_toArray,set_cons_zero,set_cons_succ])
    refine' takeH (i:=7) (v:=_) (noDefer_of (by kernel_rfl)) rfl (by kernel_rfl) (by kernel_rfl) (by kernel_rfl) (fun _ _ _ h=>h) (by kernel_rfl) ⟨Or.inl ⟨by rfl,?hy7k7⟩,fun _=>rfl⟩ hS3 ?rest7k7
    case hy7k7 =>
     intro w' hSw
     obtain ⟨s1,s2⟩:=hSw
     have z1:=s1.cell (i:=0) rfl
     have z2:=s2.cell HG0.out
     have z3:=s2.cell HG1.out
     go_simp
     rfl
    simp only [Act.put,getElem_toArray,getElem_cons_succ,getElem_cons_zero,setIfInBounds_toArray,set_cons_zero,set_cons_succ]
    have B3:=hS3.2
    have c0:=B3.cell HG0.out
    have c1:=B3.cell HG1.out
    have f0:=B3.frozen (k*2)
    have f1:=B3.frozen (k*2+1)
    refine oneH (i:=8) (by kernel_rfl) rfl ?_
    intro K hK
    rw [if_pos (by rfl)]
    go_simp
    refine hK.out _ _ (fun h=>absurd rfl h) ?_
    clear hK K
    refine doneH (by kernel_rfl) ?_ _
    refine OnlyN.intro ?_
    have hW5:Blk ((w3.setCell ⟨tb+1,k*2,none⟩ (.int .u64 x1)).setCell ⟨tb+1,k*2+1,none⟩ (.int .u64 x2)) tb 193 #[.pointer (tapeA t)]∧Blk ((w3.setCell ⟨tb+1,k*2,none⟩ (.int .u64 x1)).setCell ⟨tb+1,k*2+1,none⟩ (.int .u64 x2)) (tb+1+1) 110 #[.slice (some ⟨tb+1,0,none⟩) N N]∧Blk ((w3.setCell ⟨tb+1,k*2,none⟩ (.int .u64 x1)).setCell ⟨tb+1,k*2+1,none⟩ (.int .u64 x2)) (tb+1) 148 (rcA (padR rs)) :=
     ⟨((HTR.out.drew.step hb3).far (p:=⟨tb+1,k*2,none⟩) (by dsimp only;omega) _).far (p:=⟨tb+1,k*2+1,none⟩) (by dsimp only;omega) _,(hS3.1.far (p:=⟨tb+1,k*2,none⟩) (by dsimp only;omega) _).far (p:=⟨tb+1,k*2+1,none⟩) (by dsimp only;omega) _,(hS3.2.same HG0.out).same HG1.out⟩
    have hk5:KeepP P W2 ((w3.setCell ⟨tb+1,k*2,none⟩ (.int .u64 x1)).setCell ⟨tb+1,k*2+1,none⟩ (.int .u64 x2)) :=
     (HKR.out.trans ((KeepP.drew _ _).trans (KeepP.of_below hb3 fun j hj=>Nat.lt_of_lt_of_le (HP.out j hj) (HK0.out.trans HKR.out).size))).trans ((KeepP.setCell HNP.out _ _ _).trans (KeepP.setCell HNP.out _ _ _))
    have hmem:More P w W2 (tb+1):=.inr ⟨by have:=HTB.out;omega,by have:=HZ2.out;omega⟩
    have ht5:Tp ((w3.setCell ⟨tb+1,k*2,none⟩ (.int .u64 x1)).setCell ⟨tb+1,k*2+1,none⟩ (.int .u64 x2)) (More P w W2) t es:=((HTT.out.drew.step hb3).set hmem _ _).set hmem _ _
    have HREL:=hide (And.intro hW5 (And.intro hk5 ht5))
    clear hW5 hk5 ht5 hS3 hS hb3 B3 c0 c1 f0 f1 or
    gi_wp2
    go_roundw
    case rel=>exact ⟨k+1,by omega,by go_num,HREL.out⟩
    case measure=>simp [intOf];omega
  · obtain rfl:N=k:=by omega
    obtain ⟨g,hg⟩:∃ g,g=wr.heap.size:=⟨_,rfl⟩
    have HALL:=hide (fun wk=>nall_any (N:Int) wk)
    have HTR:=hide Tr;have HOR:=hide Or;have HRR:=hide Rr;have HKR:=hide hkr;have HTT:=hide htr
    have HGG:=hide hg
    clear Tr Or Rr hkr htr or
    gi_wp2_with fail
    refine ⟨trivial,?_⟩
    refine (callsIn_wide.2 (HALL.out _)).mono ?_
    rintro e w3 ⟨rfl,rfl⟩
    obtain ⟨W4,hW4⟩:∃ W4,wr.alloc (.cells #[.int .i64 (N:Int)] 3)=W4:=⟨_,rfl⟩
    rw [← hg,hW4]
    clear hg
    have hb4:Below wr.heap.size wr W4:=by rw [← hW4];exact bA
    have G4:Blk W4 g 3 #[.int .i64 ((2 ^ L:Nat):Int)]:=by rw [← hW4,HGG.out,← HN.out];exact Blk.new _ _ _
    have T4:=HTR.out.step hb4
    have O4:=HOR.out.step hb4
    have R4:=HRR.out.step hb4
    have hz4:W4.heap.size=g+1:=by rw [← hW4,HGG.out];simp
    have hgt:tb+3≤g:=by have:=HKR.out.size;have:=HZ2.out;have:=HGG.out;omega
    have hPP:∀ k,P k→k<tb:=fun k hk=>by have:=HP.out k hk;have:=HTB.out;omega
    have hPE:∀ k,Also P g k→k<W4.heap.size:=fun k hk=>by
     rcases hk with hk | hk
     · have:=hPP k hk;omega
     · omega
    have hQ:∀ k,Also (More P w W2) g k→k<W4.heap.size:=fun k hk=>by
     rcases hk with hk | hk
     · have:=HPM.out k hk;have:=HZ2.out;omega
     · omega
    have ht4:Tp W4 (Also (More P w W2) g) t es:=(HTT.out.add (R:=Also (More P w W2) g) fun j hj=>by
     rcases hj with hj | hj
     · exact .inl hj
     · exact .inr (by have:=HGG.out;omega)).step hb4
    have hmb:∀ u,t=some u→u.2<W4.heap.size:=ht4.m_lt
    have hM:∀ k,tb≤k→k<tb+3→Also (More P w W2) g k:=fun k h1 h2=>.inl (.inr ⟨by have:=HTB.out;omega,by have:=HZ2.out;omega⟩)
    have HMT:=hide (hM tb (by omega) (by omega));have HMR:=hide (hM (tb+1) (by omega) (by omega));have HMO:=hide (hM (tb+1+1) (by omega) (by omega))
    have HMG:Hid (Also (More P w W2) g g):=.inr rfl
    have HPI:Hid (∀ k,Also P g k→Also (More P w W2) g k):=fun k hk=>by
     rcases hk with hk | hk
     · exact .inl (.inl hk)
     · exact .inr hk
    have HNE:Hid (¬ Also P g (tb+1)):=fun h=>by
     rcases h with h | h
     · have:=hPP _ h;omega
     · omega
    have HK4:=hide (HK0.out.trans (HKR.out.trans (KeepP.of_below hb4 fun j hj=>by have:=hPP j hj;have:=HGG.out;omega)))
    have HPE:=hide hPE;have HQ:=hide hQ;have HT4:=hide ht4;have HMB:=hide hmb;have HGT:=hide hgt;have HZ4:=hide hz4;have HPPP:=hide hPP;have HG4:=hide G4
    clear hb4 hz4 hgt hPP hPE hQ ht4 hmb hM hW4 HALL G4 HKR HTT HTR HOR HRR hlt hk
    gi_wp2_with fail
    refine wpIn_rangeFunc_ownH rfl (by omega) (gf:=310) (lb:=#[.pointer (some ⟨g,0,none⟩)]) rfl trivial (enters_of Tryz.func310 (by kernel_rfl) rfl)
     (net_stops 5 (by omega) g (Also P g) L hL W4 HPE.out (.inr rfl) HG4.out) KeepP.trans (fun W l o o' hl _ _ _=>KeepP.putObj o' (fun h=>by have:=HPE.out _ h;omega) W) (Below.refl _ _) (fun _=>rfl)
     (fun pre W=>(((Blk W tb 193 #[.pointer (tapeA t)]∧Blk W (tb+1+1) 110 #[.slice (some ⟨tb+1,0,none⟩) N N])∧Blk W (tb+1) 148 (rcA (srt (padR rs) (cUp pre))))∧(KeepP (Also P g) W4 W∧Tp W (Also (More P w W2) g) t (es++pairEv (cUp pre)))))
     (fun _ _ _=>False)
     (OwnFrom.and (OwnFrom.and (OwnFrom.and (Own.from (blk_own _ _ _) _) (Own.from (blk_own _ _ _) _)) (Own.from (blk_own _ _ _) _)) (OwnFrom.and (keepP_ownFrom (fun k hk=>⟨HPE.out k hk,HPE.out k hk⟩)) (tp_ownFrom _ (Also (More P w W2) g) t (fun pre:List (Cmp L)=>es++pairEv (cUp pre)) HMB.out)))
     (fun _ _ _ _ _ hs _ _=>hs)
     ⟨⟨⟨T4,O4⟩,R4⟩,KeepP.refl _ _,by simpa [pairEv,cUp] using HT4.out⟩
     (fun x a' W=>∃ Bx es',g<Bx∧Tp W (Also (Also (More P w W2) g) Bx) t es'∧Blk W Bx 326 #[.int .i64 (x.1.1:Int),.int .i64 (x.1.2:Int)]∧a'={ tmps:=#[.pointer (tapeA t),.slice (some ⟨b,off,none⟩) rs.length c,.pointer (some ⟨tb,0,none⟩),undef,.slice none 0 0,.int .i64 (N:Int),.pointer (some ⟨tb+1+1,0,none⟩),u7,.pointer (some ⟨Bx,0,none⟩),.slice (some ⟨b,off,none⟩) rs.length c,.int .i64 (rs.length:Int),.int .i64 (N:Int),.int .i64 (N:Int),.bool false,.int .i64 (N:Int),.slice (some ⟨tb+1,0,none⟩) N N,.slice (some ⟨tb+1,0,none⟩) N N,.slice (some ⟨b,off,none⟩) rs.length c,.int .i64 (rs.length:Int),.slice (some ⟨tb+1,0,none⟩) N N,.int .i64 (N:Int),.int .i64 (N:Int),.bool false,u23,u24,u25,u26,u27,u28,u29,u30,u31,u32,.int .i64 (N:Int),.func (.func 310) #[] #[.pointer (some ⟨g,0,none⟩)],.agg #[.int .i64 (x.1.1:Int),.int .i64 (x.1.2:Int)],undef,undef,undef,undef,undef,undef,undef,undef,undef,undef,undef,undef,undef,undef,undef,undef,undef,undef,undef,undef,undef],defers:=[] })
     (fun x a' _ X Y row hs hg hr=>by obtain ⟨Bx,es',h1,hT,h2,h3⟩:=hs;exact ⟨Bx,es',h1,tp_ownFrom _ _ t (fun _:Unit=>es') HMB.out () X Y row hT hg hr,blk_own Bx 326 (fun (_:Unit)=>#[.int .i64 (x.1.1:Int),.int .i64 (x.1.2:Int)]) () X Y row h2 hg (fun r e=>(hr r e).2),h3⟩)
     ?assign ?body ?done ?stop
    case assign =>
     rintro l pre x W K ⟨⟨⟨T1,O1⟩,R1⟩,hB1,hT1⟩ hK
     have hWz:W4.heap.size≤W.heap.size:=hB1.size
     unfold encC
     gi_wp2
     have hEW:∀ k,Also P g k→k<W.heap.size:=fun k hk=>Nat.lt_of_lt_of_le (HPE.out k hk) hWz
     refine hK _ _ ((KeepsOthers.alloc _ _).from _) (KeepP.of_below (bA) hEW) ⟨⟨⟨T1.alloc _,O1.alloc _⟩,R1.alloc _⟩,hB1.trans (KeepP.of_below (bA) hEW),hT1.step (bA)⟩ ⟨W.heap.size,es++pairEv (cUp pre),by have:=HZ4.out;omega,?_,Blk.new _ _ _,rfl⟩
     refine (hT1.add (R:=Also (Also (More P w W2) g) W.heap.size) fun k hk=>?_).step (bA)
     rcases hk with hk | hk
     · exact .inl hk
     · exact .inr (by omega)
    case body =>
     rintro l pre x a' W hl' _ ⟨⟨⟨T1,O1⟩,R1⟩,hB1,hT1⟩ ⟨Bx,es',hBx,hTx,bX,rfl⟩ hpl
     have hszW:W4.heap.size≤W.heap.size:=hB1.size
     have hTb:=hT1.with hTx
     clear hT1 hTx
     have hmix:Tryz.prog.follows .mixedOrders=true:=by kernel_rfl
     obtain ⟨⟨lo,hi⟩,hin1,hin2,hin3⟩:=x
     dsimp only at *
     have hsl:(srt (padR rs) (cUp pre)).length=N:=by rw [(srt_perm _ _).length_eq];exact HPL.out
     have hloN:lo<N:=by rw [HN.out];exact hin1
     have hhiN:hi<N:=by rw [HN.out];exact hin2
     obtain ⟨xr,hxr⟩:∃ xr,(srt (padR rs) (cUp pre))[lo]?=some xr:=⟨_,List.getElem?_eq_getElem (by rw [hsl];exact hloN)⟩
     obtain ⟨yr,hyr⟩:∃ yr,(srt (padR rs) (cUp pre))[hi]?=some yr:=⟨_,List.getElem?_eq_getElem (by rw [hsl];exact hhiN)⟩
     have hxc:=HPC.out xr ((srt_perm _ _).mem_iff.1 (List.mem_of_getElem? hxr))
     have hyc:=HPC.out yr ((srt_perm _ _).mem_iff.1 (List.mem_of_getElem? hyr))
     have hle:t=none∨(es++pairEv (cUp pre)).length≤1000000:=by
      rcases hl with h | h
      · exact .inl h
      · refine .inr ?_
        rw [List.length_append,pairEv,List.length_map,cUp,List.length_map]
        omega
     have hloi:(lo:Int)<(N:Int):=by omega
     have hhii:(hi:Int)<(N:Int):=by omega
     have HNX:=hide (srt_snoc (padR rs) (cUp pre) (lo,hi))
     have HPX:=hide (pairEv_snoc (cUp pre) (lo,hi))
     have HCU:Hid (cUp (pre++[⟨(lo,hi),hin1,hin2,hin3⟩])=cUp pre++[(lo,hi)]):=cUp_snoc _ _
     have hQ2:∀ k,Also (Also (More P w W2) g) Bx k→k<W.heap.size:=fun k hk=>by
      rcases hk with hk | hk
      · exact Nat.lt_of_lt_of_le (HQ.out k hk) hszW
      · subst hk;exact bX.lt
     have HNO:=hide (note_w (Also (Also (More P w W2) g) Bx) t (es++pairEv (cUp pre)) 3 (lo:Int) (hi:Int) W hQ2 hTb hle (by unfold I64w;omega))
     have HEX:Hid (∀ wk,Blk wk (tb+1) 148 (rcA (srt (padR rs) (cUp pre)))→Calls Tryz.prog 279 #[.pointer (some ⟨tb+1,lo*2,none⟩),.pointer (some ⟨tb+1,hi*2,none⟩)] wk fun e w'=>e=.returned (.tuple #[])∧Blk w' (tb+1) 148 (rcA (srt (padR rs) (cUp pre++[(lo,hi)])))∧wk.grownBy w' (some (tb+1))):=hide fun wk hB=>by
      refine (exchange_any (tb+1) 148 _ (lo*2) (hi*2) xr yr hxc hyc wk hB (rcA_get hxr).1 (rcA_get hxr).2 (rcA_get hyr).1 (rcA_get hyr).2 (by omega)).mono ?_
      rintro e w' ⟨rfl,hq⟩
      rw [HNX.out]
      exact ⟨rfl,exq_row hxr hyr hin3 hq⟩
     have t1:=T1.cell (i:=0) rfl
     have x0:=bX.cell (i:=0) rfl
     have x1:=bX.cell (i:=1) rfl
     have HT1:=hide T1;have HO1:=hide O1;have HR1:=hide R1;have HBX:=hide bX;have HB1:=hide hB1;have HBXL:=hide hBx;have HSZ:=hide hszW
     clear T1 O1 R1 bX hB1 hTb hxr hyr hxc hyc hle hQ2 hsl hBx hszW hloN hhiN hpl HNX
     gi_wp2_with fail
     refine ⟨trivial,?_⟩
     refine (CallsIn.inRound l (callsIn_wide.2 HNO.out)).mono ?_
     rintro e wn ⟨rfl,hkk,hmm,htn⟩
     have Tn:=HT1.out.kept hkk (.inl HMT.out)
     have On:=HO1.out.kept hkk (.inl HMO.out)
     have Rn:=HR1.out.kept hkk (.inl HMR.out)
     have Xn:=HBX.out.kept hkk (.inr rfl)
     have HTN:=hide Tn;have HRN:=hide Rn;have HKK:=hide hkk;have HMM:=hide hmm;have HTTN:=hide htn
     clear t1 x0 x1 Tn Rn hkk hmm htn HNO
     gi_wp2_with fail
     refine startH 1000 (S:=fun w'=>Blk w' (tb+1+1) 110 #[.slice (some ⟨tb+1,0,none⟩) N N]∧Blk w' Bx 326 #[.int .i64 (lo:Int),.int .i64 (hi:Int)]) hmix ?_
     have hS:Blk wn.drew (tb+1+1) 110 #[.slice (some ⟨tb+1,0,none⟩) N N]∧Blk wn.drew Bx 326 #[.int .i64 (lo:Int),.int .i64 (hi:Int)]:=⟨On.drew,Xn.drew⟩
     refine' takeH (i:=0) (v:=_) (noDefer_of (by kernel_rfl)) rfl (by kernel_rfl) (by kernel_rfl) (by kernel_rfl) (fun _ _ _ h=>h) (by kernel_rfl) ⟨Or.inl ⟨by rfl,?hy0k1b⟩,fun _=>rfl⟩ hS ?rest0k1b
     case hy0k1b =>
      intro w' hSw
      obtain ⟨s1,s2⟩:=hSw
      have z1:=s1.cell (i:=0) rfl
      have z2:=s2.cell (i:=0) rfl
      have z3:=s2.cell (i:=1) rfl
      go_simp
      rfl
     simp only [Act.put,getElem_toArray,getElem_cons_zero,setIfInBounds_toArray,set_cons_zero,set_cons_succ]
     refine' takeH (i:=1) (v:=_) (noDefer_of (by kernel_rfl)) rfl (by kernel_rfl) (by kernel_rfl) (by kernel_rfl) (fun _ _ _ h=>h) (by kernel_rfl) ⟨Or.inl ⟨by rfl,?hy1k2b⟩,fun _=>rfl⟩ hS ?rest1k2b
     case hy1k2b =>
      intro w' hSw
      go_simp
      rfl
     simp only [Act.put,getElem_toArray,getElem_cons_succ,getElem_cons_zero,setIfInBounds_toArray,set_cons_zero,set_cons_succ]
     refine' takeH (i:=2) (v:=_) (noDefer_of (by kernel_rfl)) rfl (by kernel_rfl) (by kernel_rfl) (by kernel_rfl) (fun _ _ _ h=>h) (by kernel_rfl) ⟨Or.inl ⟨by rfl,?hy2k3b⟩,fun _=>rfl⟩ hS ?rest2k3b
     case hy2k3b =>
      intro w' hSw
      obtain ⟨s1,s2⟩:=hSw
      have z1:=s1.cell (i:=0) rfl
      have z2:=s2.cell (i:=0) rfl
      have z3:=s2.cell (i:=1) rfl
      go_simp
      rfl
     simp only [Act.put,getElem_toArray,getElem_cons_succ,getElem_cons_zero,setIfInBounds_toArray,set_cons_zero,set_cons_succ]
     refine' takeH (i:=3) (v:=_) (noDefer_of (by kernel_rfl)) rfl (by kernel_rfl) (by kernel_rfl) (by kernel_rfl) (fun _ _ _ h=>h) (by kernel_rfl) ⟨Or.inl ⟨by rfl,?hy3k4b⟩,fun _=>rfl⟩ hS ?rest3k4b
     case hy3k4b =>
      intro w' hSw
      go_simp
      rfl
     simp only [Act.put,getElem_toArray,getElem_cons_succ,getElem_cons_zero,setIfInBounds_toArray,set_cons_zero,set_cons_succ]
     refine' takeH (i:=4) (v:=_) (noDefer_of (by kernel_rfl)) rfl (by kernel_rfl) (by kernel_rfl) (by kernel_rfl) (fun _ _ _ h=>h) (by kernel_rfl) ⟨Or.inl ⟨by rfl,?hy4k5b⟩,fun _=>rfl⟩ hS ?rest4k5b
     case hy4k5b =>
      intro w' hSw
      obtain ⟨s1,s2⟩:=hSw
      have z1:=s1.cell (i:=0) rfl
      have z2:=s2.cell (i:=0) rfl
      have z3:=s2.cell (i:=1) rfl
      go_simp
      rfl
     simp only [Act.put,getElem_toArray,getElem_cons_succ,getElem_cons_zero,setIfInBounds_toArray,set_cons_zero,set_cons_succ]
     refine' takeH (i:=5) (v:=_) (noDefer_of (by kernel_rfl)) rfl (by kernel_rfl) (by kernel_rfl) (by kernel_rfl) (fun _ _ _ h=>h) (by kernel_rfl) ⟨Or.inl ⟨by rfl,?hy5k6b⟩,fun _=>rfl⟩ hS ?rest5k6b
     case hy5k6b =>
      intro w' hSw
      go_simp
      rfl
     simp only [Act.put,getElem_toArray,getElem_cons_succ,getElem_cons_zero,setIfInBounds_toArray,set_cons_zero,set_cons_succ]
     refine' takeH (i:=6) (v:=_) (noDefer_of (by kernel_rfl)) rfl (by kernel_rfl) (by kernel_rfl) (by kernel_rfl) (fun _ _ _ h=>h) (by kernel_rfl) ⟨Or.inl ⟨by rfl,?hy6k7b⟩,fun _=>rfl⟩ hS ?rest6k7b
     case hy6k7b =>
      intro w' hSw
      obtain ⟨s1,s2⟩:=hSw
      have z1:=s1.cell (i:=0) rfl
      have z2:=s2.cell (i:=0) rfl
      have z3:=s2.cell (i:=1) rfl
      go_simp
      rfl
     simp only [Act.put,getElem_toArray,getElem_cons_succ,getElem_cons_zero,setIfInBounds_toArray,set_cons_zero,set_cons_succ]
     refine' takeH (i:=7) (v:=_) (noDefer_of (by kernel_rfl)) rfl (by kernel_rfl) (by kernel_rfl) (by kernel_rfl) (fun _ _ _ h=>h) (by kernel_rfl) ⟨Or.inl ⟨by rfl,?hy7k8b⟩,fun _=>rfl⟩ hS ?rest7k8b
     case hy7k8b =>
      intro w' hSw
      go_simp
      rfl
     simp only [Act.put,getElem_toArray,getElem_cons_succ,getElem_cons_zero,setIfInBounds_toArray,set_cons_zero,set_cons_succ]
     refine oneH (i:=8) (by kernel_rfl) rfl ?_
     intro K hK
     rw [if_pos (by rfl)]
     go_simp
     refine ⟨trivial,?_⟩
     refine (CallsIn.inRound l (callsIn_wide.2 (HEX.out _ HRN.out.drew))).mono ?_
     rintro e w5 ⟨rfl,hR5,hg5⟩
     have hS5:Blk w5 (tb+1+1) 110 #[.slice (some ⟨tb+1,0,none⟩) N N]∧Blk w5 Bx 326 #[.int .i64 (lo:Int),.int .i64 (hi:Int)]:=⟨On.drew.grown hg5 (by intro h;injection h;omega),Xn.drew.grown hg5 (by intro h;cases h;have:=HBXL.out;have:=HGT.out;omega)⟩
     refine hK.out _ _ (fun _=>hS5) ?_
     clear hK K
     refine doneH (by kernel_rfl) ?_ _
     have hT5:Blk w5 tb 193 #[.pointer (tapeA t)]:=HTN.out.drew.grown hg5 (by intro h;injection h;omega)
     have hk5:KeepP (Also P g) W w5:=(HKK.out.mono fun j hj=>.inl (HPI.out j hj)).trans ((KeepP.drew _ _).trans ⟨hg5.os,hg5.tape,hg5.output,hg5.size,fun j hj=>hg5.block j (Nat.lt_of_lt_of_le (HPE.out j hj) (Nat.le_trans HSZ.out HKK.out.size)) (fun h=>HNE.out (by cases h;exact hj))⟩)
     have hf5:KeepsFrom W4.heap.size W w5:=(HMM.out.from HMB.out).trans ((KeepsFrom.of_below (bl_drew (Below.refl _ _))).trans ⟨hg5.size,fun j o hj hi ho=>(hg5.block j (Array.getElem?_eq_some_iff.1 hi).1 (fun h=>by cases h;have:=HZ4.out;have:=HGT.out;omega)).trans hi⟩)
     have ht5:Tp w5 (Also (More P w W2) g) t (es++pairEv (cUp pre++[(lo,hi)])):=by
      rw [HPX.out,← List.append_assoc]
      exact ((HTTN.out.drew.kept hg5 (.inl HMR.out)).mono fun j hj=>.inl hj)
     have HFIN:=hide (show KeepsFrom W4.heap.size W w5∧KeepP (Also P g) W w5∧(((Blk w5 tb 193 #[.pointer (tapeA t)]∧Blk w5 (tb+1+1) 110 #[.slice (some ⟨tb+1,0,none⟩) N N])∧Blk w5 (tb+1) 148 (rcA (srt (padR rs) (cUp (pre++[⟨(lo,hi),hin1,hin2,hin3⟩])))))∧(KeepP (Also P g) W4 w5∧Tp w5 (Also (More P w W2) g) t (es++pairEv (cUp (pre++[⟨(lo,hi),hin1,hin2,hin3⟩]))))) from ⟨hf5,hk5,⟨⟨hT5,hS5.1⟩,by rw [HCU.out];exact hR5⟩,HB1.out.trans hk5,by rw [HCU.out];exact ht5⟩)
     clear hf5 hk5 hT5 hS5 hR5 ht5 hS hg5 On Xn
     gi_wp2
     exact HFIN.out
    case done =>
     rintro D zs W hD hzs ⟨⟨⟨T1,O1⟩,R1⟩,hB1,hT1⟩ hK
     have o1:=O1.cell (i:=0) rfl
     rw [hzs] at R1 hT1
     have hni:=netw_isort L rs HCL.out (by rw [← HN.out];exact hge)
     have hpd:padR rs=rs++List.replicate (2 ^ L - rs.length) (0,0):=by unfold padR;rw [← HLE.out]
     have hsr:srt (padR rs) (netw L)=isort rkey rs++List.replicate (2 ^ L - rs.length) (0,0):=by unfold srt;rw [hpd];exact hni
     rw [hsr] at R1
     have hSL:Sl W W.heap.size (some ⟨tb+1,0,none⟩) (recCs (isort rkey rs)):=sl_of_cells R1 fun j u hu=>by
      unfold recCs at hu
      unfold rcA recCs
      rw [List.flatMap_append,List.getElem?_toArray,List.getElem?_append_left (List.getElem?_eq_some_iff.1 hu).1]
      exact hu
     have hkk:KeepP P w W:=HK4.out.trans (hB1.mono fun j hj=>.inl hj)
     have HSL:=hide hSL;have HKK:=hide hkk;have HT1:=hide hT1
     clear T1 O1 R1 hB1 hT1 hni hpd hsr hSL hkk
     have hlen:(rs.length:Int)≤(N:Int):=by omega
     gi_wp2
     refine ⟨by simp,.inl ⟨_,_,rfl,run_takeDeferred hK,?_⟩⟩
     have hDP:¬ P D:=fun h=>by have:=HPE.out D (.inl h);omega
     have hDt:D≠tb+1:=by have:=HZ4.out;have:=HGT.out;omega
     have hNP1:¬ P (tb+1):=fun h=>HNE.out (.inl h)
     refine ⟨_,results_tmp rfl _ _ _,tb+1,rfl,HKK.out.trans (KeepP.putObj _ hDP _),?_,hNP1,?_⟩
     · exact (HT1.out.mono (R:=P) fun k h=>.inl (.inl h)).putObj (fun u hu=>Nat.lt_of_lt_of_le (HMB.out u hu) hD) hK rfl _
     · refine (HSL.out.at_ fun k hk _ x hx hxb=>?_).more (by simp)
       cases hx
       subst hxb
       exact World.putObj_heap_other (Ne.symm hDt)
    case stop =>
     rintro D c pre W _ _ h _
     exact h.elim
end
section
open Go.RowKit
section
variable {F:Fence} {n:Nat} {P:Program} {ops:Array Oper} {Q:Exit→Act→World→Prop} {md:Region.Mode} {S:World→Prop}
def depL (md:Region.Mode) (ops:Array Oper) (i:Nat):List Bool:=ops.toList.foldl (fun acc o=>acc++[o.after.toList.any fun e=>Region.binds md e && (e.on == i || acc.getD e.on false)]) []
def waitsT (md:Region.Mode) (ops:Array Oper) (sk i:Nat) (listed:Array Bool) (dep:List Bool):Bool :=
 ((List.range ops.size).all fun j=>!dep.getD j false || (ops[j]?).any fun o=>o.after.toList.any fun e=>Region.binds md e && (e.on == i || dep.getD e.on false)) &&
 ((List.range ops.size).all fun j=>decide (j<sk) || dep.getD j false) && ((List.range dep.length).all fun k=>!listed.getD k false || !dep.getD k false)
structure WaitsT (md:Region.Mode) (ops:Array Oper) (sk i:Nat) (listed:Array Bool) (dep:List Bool):Prop where
 why:∀ (j:Nat) (o:Oper),ops[j]?=some o→dep.getD j false=true→∃ e∈o.after,Region.binds md e=true∧(e.on=i∨dep.getD e.on false=true)
 far:∀ (j:Nat) (o:Oper),ops[j]?=some o→sk≤j→dep.getD j false=true
 un:∀ k,listed.getD k false=true→dep.getD k false=false
theorem waitsT_spec {sk i:Nat} {listed:Array Bool} {dep:List Bool} (h:waitsT md ops sk i listed dep=true):WaitsT md ops sk i listed dep:=by
 unfold waitsT at h
 rw [Bool.and_eq_true,Bool.and_eq_true] at h
 obtain ⟨⟨h1,h2⟩,h3⟩:=h
 refine ⟨fun j o ho hd=>?_,fun j o ho hj=>?_,fun k hk=>?_⟩
 · have h:=List.all_eq_true.1 h1 j (List.mem_range.2 (Array.getElem?_eq_some_iff.1 ho).1)
   rw [hd,ho] at h
   simp only [Bool.not_true,Bool.false_or,Option.any_some] at h
   obtain ⟨e,he,hb⟩:=List.any_eq_true.1 h
   rw [Bool.and_eq_true,Bool.or_eq_true,beq_iff_eq] at hb
   exact ⟨e,by simpa using he,hb.1,hb.2⟩
 · have h:=List.all_eq_true.1 h2 j (List.mem_range.2 (Array.getElem?_eq_some_iff.1 ho).1)
   rw [Bool.or_eq_true,decide_eq_true_eq] at h
   rcases h with h | h
   · omega
   · exact h
 · by_cases hl:k<dep.length
   · have h:=List.all_eq_true.1 h3 k (List.mem_range.2 hl)
     rw [hk] at h
     simpa using h
   · rw [List.getD_eq_getElem?_getD,List.getElem?_eq_none (by omega)];rfl
def wpAnyT (F:Fence) (n:Nat) (P:Program) (md:Region.Mode) (ops:Array Oper) (Q:Exit→Act→World→Prop) (S:World→Prop) (sk:Nat):Nat→Array Bool→Act→World→Prop
 | 0,listed,a,w=>Region.ready md ops listed=[]∧Q .normal a w
 | fuel+1,listed,a,w =>
   (Region.ready md ops listed=[]→Q .normal a w) ∧
   ∀ i∈Region.ready md ops listed,wpOpIn F n P ops Q i (fun a' w'=>(i<sk→S w')∧wpAnyT F n P md ops Q S sk fuel (listed.setIfInBounds i true) a' w') a w
theorem wpAnyIn_of_heldT {sk:Nat}:∀ (fuel:Nat) (listed:Array Bool) (a:Act) (w:World),wpAnyT F n P md ops Q S sk fuel listed a w→wpAnyIn F n P md ops Q fuel listed a w
 | 0,_,_,_,h=>h
 | fuel+1,_,_,_,h=>⟨h.1,fun i hi=>wpOpIn_mono (fun a' w' h'=>wpAnyIn_of_heldT fuel _ a' w' h'.2) (h.2 i hi)⟩
theorem wpAnyT_first {i sk:Nat} {oi:Oper} {v:Value} (hnd:NoDefer ops) (hi:ops[i]?=some oi) (hsel:∀ (j:Nat) (o:Oper) cs b,ops[j]?=some o→o.op≠.select cs b)
 (hQ:∀ c a w,Q (.panic c) (a.put oi.dst v) w→Q (.panic c) a w) (dep:List Bool) :
 ∀ (fuel:Nat) (listed:Array Bool) (a:Act) (w:World),
   (∀ j oj,ops[j]?=some oj→j≠i→listed.getD j true=false→(∀ e∈oj.after,Region.binds md e=true→e.on≠i)→oi.apart ops oj=true) →
   i∈Region.ready md ops listed→WaitsT md ops sk i listed dep→YieldsHIn P ops S oi v a→S w →
   wpAnyT F n P md ops Q S sk fuel (listed.setIfInBounds i true) (a.put oi.dst v) w→wpAnyT F n P md ops Q S sk (fuel+1) listed a w:=by
 intro fuel
 induction fuel with
 | zero =>
   intro listed a w _ hr _ hy hS H
   refine ⟨fun h=>(by rw [h] at hr;cases hr),fun j hj=>?_⟩
   by_cases hji:j=i
   · subst hji;exact hy.wpOpIn hnd hi hS ⟨fun _=>hS,H⟩
   · have:=ready_mono hj hji
     rw [H.1] at this
     cases this
 | succ fuel ih =>
   intro listed a w hfree hr hwt hy hS H
   refine ⟨fun h=>(by rw [h] at hr;cases hr),fun j hj=>?_⟩
   by_cases hji:j=i
   · subst hji;exact hy.wpOpIn hnd hi hS ⟨fun _=>hS,H⟩
   · have h1:=H.2 j (ready_mono hj hji)
     obtain ⟨hjun,oj,hoj,hall⟩:=mem_ready.1 hj
     have hnot:∀ e∈oj.after,Region.binds md e=true→e.on≠i:=fun e he hb heq=>by
      have h1:=hall e he hb
      have h0:=(mem_ready.1 hr).1
      rw [heq] at h1
      rcases Nat.lt_or_ge i listed.size with h' | h'
      · simp [h'] at h0 h1;rw [h0] at h1;cases h1
      · simp [Array.getElem?_eq_none h'] at h1
     have h2:=wpOpIn_putH hnd hoj (hfree j oj hoj hji hjun hnot) (fun cs b=>hsel i oi cs b hi) (fun cs b=>hsel j oj cs b hoj) hQ hy h1
     have hfree':∀ k ok,ops[k]?=some ok→k≠i→(listed.setIfInBounds j true).getD k true=false →
      (∀ e∈ok.after,Region.binds md e=true→e.on≠i)→oi.apart ops ok=true:=fun k ok hk hki hun hno=>by
      refine hfree k ok hk hki ?_ hno
      by_cases hjk:j=k
      · subst hjk;exact hjun
      · rw [getD_set_ne true hjk] at hun;exact hun
     have hdj:dep.getD j false=false:=by
      cases hd:dep.getD j false with
      | false=>rfl
      | true =>
        obtain ⟨e,he,hb,hon | hon⟩:=hwt.why j oj hoj hd
        · exact absurd hon (hnot e he hb)
        · have h1:=hwt.un e.on (by simpa using hall e he hb)
          rw [h1] at hon;cases hon
     have hjs:j<sk:=Classical.byContradiction fun e=>by
      have h1:=hwt.far j oj hoj (by omega)
      rw [hdj] at h1;cases h1
     have hwt':WaitsT md ops sk i (listed.setIfInBounds j true) dep:=⟨hwt.why,hwt.far,fun k hk=>by
      by_cases hjk:j=k
      · subst hjk;exact hdj
      · rw [getD_set_ne false hjk] at hk;exact hwt.un k hk⟩
     refine wpOpIn_mono (fun a' w' h3=>⟨h3.2.1,ih (listed.setIfInBounds j true) a' w' hfree' (ready_mono hr (Ne.symm hji)) hwt' h3.1 (h3.2.1 hjs) ?_⟩) h2
     rw [Array.setIfInBounds_comm _ _ hji]
     exact h3.2.2
theorem takeT {i sk:Nat} {oi:Oper} {v:Value} {fuel:Nat} {listed:Array Bool} {a:Act} {w:World} (hnd:NoDefer ops) (hi:ops[i]?=some oi)
 (hs:Region.noSelect ops=true) (hf:Region.free md ops listed i=true) (hr:(Region.ready md ops listed).contains i=true)
 (hQ:∀ c a w,Q (.panic c) (a.put oi.dst v) w→Q (.panic c) a w) (hsk:waitsT md ops sk i listed (depL md ops i)=true) (hy:YieldsHIn P ops S oi v a) (hS:S w)
 (h:wpAnyT F n P md ops Q S sk fuel (listed.setIfInBounds i true) (a.put oi.dst v) w):wpAnyT F n P md ops Q S sk (fuel+1) listed a w :=
 wpAnyT_first hnd hi (Region.noSelect_spec hs) hQ (depL md ops i) fuel listed a w (Region.free_spec hi hf) (by simpa using hr) (waitsT_spec hsk) hy hS h
theorem oneT {i sk:Nat} {o:Oper} {fuel:Nat} {listed:Array Bool} {a:Act} {w:World} (hr:Region.ready md ops listed=[i]) (ho:ops[i]?=some o)
 (h:∀ K:Act→World→Prop,Shut (∀ a w,(i<sk→S w)→wpAnyT F n P md ops Q S sk fuel (listed.setIfInBounds i true) a w→K a w)→if Region.wanted o (yielded ops a.tmps)=true then Oper.wpIn F n P o a w K Q else (∀ f,o.about P w a.eval=some f→F.fn f)∧K (a.put o.dst undef) w) :
 wpAnyT F n P md ops Q S sk (fuel+1) listed a w :=
 ⟨fun h0=>(by rw [hr] at h0;cases h0),fun j hj=>by
   rw [hr] at hj
   obtain rfl:j=i:=by simpa using hj
   exact wpOpIn_step ho (fun K' hK=>h K' (fun a w hS hW=>hK a w ⟨hS,hW⟩))⟩
theorem doneT {sk:Nat} {listed:Array Bool} {a:Act} {w:World} (hr:Region.ready md ops listed=[]) (h:Q .normal a w) :
 ∀ fuel,wpAnyT F n P md ops Q S sk fuel listed a w
 | 0=>⟨hr,h⟩
 | _+1=>⟨fun _=>h,by rw [hr];simp⟩
theorem startT (sk:Nat) {id:Nat} {a:Act} {w:World} (hm:P.follows .mixedOrders=true)
 (h:wpAnyT F n P .any ops Q S sk ops.size (Array.replicate ops.size false) a w.drew):(Code.region id ops true).wpIn F n P Q a w :=
 wpIn_region_any hm (wpAnyIn_of_heldT _ _ _ _ h)
theorem startNT (sk:Nat) {id:Nat} {a:Act} {w:World} (hm:P.follows .mixedOrders=true)
 (h:wpAnyT F n P .any ops (OnlyN (Q .normal)) S sk ops.size (Array.replicate ops.size false) a w.drew):(Code.region id ops true).wpIn F n P Q a w:=by
 refine wpIn_mono (startT sk (Q:=OnlyN (Q .normal)) hm h) ?_
 intro e a w he
 cases e with
 | normal=>exact he
 | _=>exact he.elim
end
end
end Go.Proofs.YthnenedoblncjaaGreatDoor
