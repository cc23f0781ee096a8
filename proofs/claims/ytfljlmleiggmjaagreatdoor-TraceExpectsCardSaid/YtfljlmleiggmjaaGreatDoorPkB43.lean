/- Network RefNet12 -/
import Derived.Laws.Externs
import Derived.LoopIn
import Derived.LoopNIn
import Derived.OwnWalkIn
import Derived.RangeFuncBound
import Derived.RangeFuncCalls
import Derived.RangeFuncLeaves
import Derived.RangeFuncNested
import Derived.Shelf.Abstract
import Derived.Shelf.Bits.Mul64
import Derived.Shelf.RegionOpen
import Derived.Shelf.Small.Bits
import Derived.Shelf.Spec.BitsCarry
import Derived.TacticsInMore
import Derived.Test.YtfljlmleiggmjaaGreatDoorPkB35
import Derived.Test.YtfljlmleiggmjaaGreatDoorPkB42
set_option maxRecDepth 1000000
set_option maxHeartbeats 8000000
namespace Go.Proofs.YtfljlmleiggmjaaGreatDoor
section
open Go.RowKit Go.Shelf
theorem bl_up:∀ (f x:Nat),x<2 ^ f→x<2 ^ Lib.bitLenAux f x
 | 0,x,h=>by simpa [Lib.bitLenAux] using h
 | f+1,x,h=>by
   rw [Lib.bitLenAux]
   by_cases hx:x=0
   · rw [if_pos hx,hx];exact Nat.two_pow_pos _
   · rw [if_neg hx,Nat.add_comm,Nat.pow_succ]
     have:=bl_up f (x / 2) (by rw [Nat.pow_succ] at h;omega)
     omega
theorem lg_ge {n:Nat} (h:n≤4096):n≤2 ^ lg n:=by
 have h1:=bl_up 64 (n - 1) (by omega)
 change n - 1<2 ^ lg n at h1
 omega
end
section
open Go.RowKit Go.Shelf
theorem pair_info:(Tryz.prog.info? 213).map (fun i=>(i.zero,i.size,i.bytes))=some (some (.agg #[.int .i64 0,.int .i64 0]),2,16):=by kernel_rfl
def prCs (cs:List (Nat × Nat)):List Value:=cs.flatMap fun c=>[.int .i64 (c.1:Int),.int .i64 (c.2:Int)]
theorem prCs_snoc (cs:List (Nat × Nat)) (c:Nat × Nat):prCs (cs++[c])=prCs cs++[.int .i64 (c.1:Int),.int .i64 (c.2:Int)]:=by simp [prCs]
theorem netw_len {m:Nat} (hm:m≤7):(netw m).length≤20000:=by
 have h1:∀ m:Fin 8,(netw m.val).length≤20000:=by decide +kernel
 exact h1 ⟨m,by omega⟩
theorem rbit12 (i v:Nat) (hi:i<100000) (hv:v<100000) (h0:0<v) (w:World):Calls Tryz.prog 195 #[.int .i64 (i:Int),.int .i64 (v:Int)] w fun e w'=>e=.returned (.bool (decide (i / v % 2=1)))∧w'=w:=by
 have hv0:((v:Int) == 0)=false:=by rw [beq_eq_false_iff_ne];omega
 have hv1:¬ (v:Int)=0:=by omega
 have hq:(i:Int).tdiv (v:Int)=((i / v:Nat):Int):=by rw [Int.tdiv_eq_ediv_of_nonneg (by omega)];simp
 have hle:i / v≤i:=Nat.div_le_self _ _
 obtain ⟨q,hqq⟩:∃ q,q=i / v:=⟨_,rfl⟩
 rw [← hqq] at hq hle ⊢
 have hw1:IntKind.i64.wrap (q:Int)=(q:Int):=by rw [IntKind.wrap_i64];omega
 have hr:(q:Int).tmod 2=((q % 2:Nat):Int):=by rw [Int.tmod_eq_emod_of_nonneg (by omega)];simp
 have hw2:IntKind.i64.wrap ((q % 2:Nat):Int)=((q % 2:Nat):Int):=by rw [IntKind.wrap_i64];omega
 clear hqq
 go_enter Tryz.func195,Tryz.ntmps195
 go_wp2
 go_ret
 exact ⟨ret_bool (by rw [Bool.eq_iff_iff];simp;omega),rfl⟩
theorem rnis12 (m:Nat) (hm:m≤12) (w:World):Calls Tryz.prog 194 #[.int .i64 ((2 ^ m:Nat):Int)] w fun e w'=>e=.returned (.bool true)∧w'=w:=by
 obtain ⟨N,hN⟩:∃ N,N=2 ^ m:=⟨_,rfl⟩
 have hN12:=pow_le12 hm
 have HN:=hide hN
 rw [← hN] at hN12 ⊢
 clear hN
 go_enter Tryz.func194,Tryz.ntmps194
 go_wp2
 go_loopw [3] (fun k wr=>∃ s:Nat,s≤m∧k=.int .i64 ((2 ^ s:Nat):Int)∧wr=w) (fun k _=>4097 - (intOf k).toNat)
 case atStart=>exact ⟨0,Nat.zero_le _,rfl,rfl⟩
 case round =>
  obtain ⟨s,hs,rfl,rfl⟩:=hrel
  have hle:2 ^ s≤N:=by rw [HN.out];exact Nat.pow_le_pow_right (by omega) hs
  have h0:=Nat.two_pow_pos s
  have hsu:2 ^ (s+1)=2 ^ s*2:=Nat.pow_succ 2 s
  by_cases hsm:s<m
  · have hlt:2 ^ (s+1)≤N:=by rw [HN.out];exact Nat.pow_le_pow_right (by omega) hsm
    obtain ⟨K,hK⟩:∃ K,K=2 ^ s:=⟨_,rfl⟩
    rw [hsu] at hlt
    rw [← hK] at hle h0 hlt ⊢
    have hKe:Hid (2 ^ (s+1)=K*2):=hide (by rw [hsu,hK])
    have hki:(K:Int)≤4096:=by omega
    have hne:¬ (N:Int)=(K:Int):=by omega
    have hw:IntKind.i64.wrap ((K:Int)*2)=((K*2:Nat):Int):=by rw [IntKind.wrap_i64];omega
    clear hK hsu
    go_wp2
    go_roundw
    case rel=>exact ⟨s+1,hsm,by rw [hKe.out];simp,by trivial⟩
    case measure=>simp [intOf];omega
  · obtain rfl:s=m:=by omega
    rw [← HN.out]
    have hki:(N:Int)≤4096:=by omega
    clear hsu
    go_wp2
    go_ret
    exact ⟨rfl,rfl⟩
theorem rnsize12 (n:Nat) (h1:1≤n) (h2:n≤4096) (hlo:∀ s,s<lg n→2 ^ s<n) (w:World):Calls Tryz.prog 159 #[.int .i64 (n:Int)] w fun e w'=>e=.returned (.int .i64 ((2 ^ lg n:Nat):Int))∧w'=w:=by
 have g1:¬ (n:Int)<1:=by omega
 have g2:¬ (4096:Int)<(n:Int):=by omega
 have hge:=lg_ge h2
 have hl:=lg_le h2
 obtain ⟨L,hL⟩:∃ L,L=lg n:=⟨_,rfl⟩
 rw [← hL] at hlo hge hl ⊢
 have HLO:=hide hlo
 clear hL hlo
 go_enter Tryz.func159,Tryz.ntmps159
 go_wp2
 go_loopw [3] (fun k wr=>∃ s:Nat,s≤L∧k=.int .i64 ((2 ^ s:Nat):Int)∧wr=w) (fun k _=>4097 - (intOf k).toNat)
 case atStart=>exact ⟨0,Nat.zero_le _,rfl,rfl⟩
 case round =>
  obtain ⟨s,hs,rfl,rfl⟩:=hrel
  have h0:=Nat.two_pow_pos s
  have hsu:2 ^ (s+1)=2 ^ s*2:=Nat.pow_succ 2 s
  by_cases hsm:s<L
  · have hlt:=HLO.out s hsm
    obtain ⟨K,hK⟩:∃ K,K=2 ^ s:=⟨_,rfl⟩
    rw [← hK] at h0 hlt ⊢
    have hKe:Hid (2 ^ (s+1)=K*2):=hide (by rw [hsu,hK])
    have hki:(K:Int)<(n:Int):=by omega
    have hw:IntKind.i64.wrap ((K:Int)*2)=((K*2:Nat):Int):=by rw [IntKind.wrap_i64];omega
    clear hK hsu
    go_wp2
    go_roundw
    case rel=>exact ⟨s+1,hsm,by rw [hKe.out];simp,by trivial⟩
    case measure=>simp [intOf];omega
  · obtain rfl:s=L:=by omega
    obtain ⟨K,hK⟩:∃ K,K=2 ^ s:=⟨_,rfl⟩
    rw [← hK] at hge ⊢
    have hki:¬ (K:Int)<(n:Int):=by omega
    have HKK:=hide hK
    clear hK hsu h0
    go_wp2
    go_ret
    exact ⟨ret_int (by rw [HKK.out];simp),rfl⟩
theorem rcomps12 (m:Nat) (hm:m≤7) (w:World):Calls Tryz.prog 158 #[.int .i64 ((2 ^ m:Nat):Int)] w fun e w'=>∃ v,e=.returned v∧w'.ownsRow w.heap.size 213 2 v (netw m).length (prCs (netw m))∧Below w.heap.size w w':=by
 have HIS:=hide (fun w=>rnis12 m (by omega) w)
 have hN12:=pow_le12 (show m≤12 by omega)
 have HNL:=hide (netw_len hm)
 obtain ⟨N,hN⟩:∃ N,N=2 ^ m:=⟨_,rfl⟩
 have HN:=hide hN
 have hp0:=Nat.two_pow_pos m
 rw [← hN] at hN12 HIS hp0 ⊢
 clear hN
 go_enter Tryz.func158,Tryz.ntmps158
 go_wp2_with fail
 refine (HIS.out w).mono ?_
 rintro e w1 ⟨rfl,rfl⟩
 clear HIS
 go_wp2
 go_loopw [3,4] (fun o k wr=>∃ (s:Nat) (pre:List (Nat × Nat)),s≤m∧k=.int .i64 ((2 ^ (s+1):Nat):Int)∧Hid (pre++rounds N s (m - s)=netw m)∧wr.ownsRow w1.heap.size 213 2 o pre.length (prCs pre)∧Below w1.heap.size w1 wr)
  (fun _ k _=>8193 - (intOf k).toNat)
 case atStart=>exact ⟨0,[],Nat.zero_le _,rfl,hide (by rw [HN.out];rfl),World.ownsRow_nil _ _ _ _,Below.refl _ _⟩
 case round =>
  obtain ⟨s,pre,hs,rfl,hpre,hown,hbr⟩:=hrel
  by_cases hsm:s<m
  · have hk1:2 ^ (s+1)≤N:=by rw [HN.out];exact Nat.pow_le_pow_right (by omega) hsm
    have hr:Hid (rounds N s (m - s)=merges N (2 ^ (s+1)) (s+1)++rounds N (s+1) (m - (s+1))):=by
     obtain ⟨r,hr⟩:∃ r,m - s=r+1:=⟨m - s - 1,by omega⟩
     have e:m - (s+1)=r:=by omega
     rw [hr,e];exact rfl
    have hq2:(((2 ^ (s+1):Nat):Int)) / 2=((2 ^ (s+1) / 2:Nat):Int):=by omega
    obtain ⟨K,hK⟩:∃ K,K=2 ^ (s+1):=⟨_,rfl⟩
    obtain ⟨j0,hj0⟩:∃ j0,j0=2 ^ (s+1) / 2:=⟨_,rfl⟩
    have HK:=hide hK;have HJ0:=hide hj0
    have hjK:j0≤K:=by rw [hj0,hK];omega
    rw [← hj0,← hK] at hq2
    rw [← hK] at hk1 hr ⊢
    clear hK hj0
    have hki:(K:Int)≤(N:Int):=by omega
    have hK0:0<K:=by rw [HK.out];exact Nat.two_pow_pos _
    go_wp2
    go_loopw [3,5] (fun o j wm=>∃ (b jv:Nat) (pre2:List (Nat × Nat)),b≤s+1∧jv≤N∧j=.int .i64 (jv:Int)∧Hid (jv=2 ^ b / 2)∧Hid (pre2++(merges N K b++rounds N (s+1) (m - (s+1)))=netw m)∧wm.ownsRow w1.heap.size 213 2 o pre2.length (prCs pre2)∧Below w1.heap.size w1 wm)
     (fun _ j _=>(intOf j).toNat)
    case atStart=>exact ⟨s+1,j0,pre,Nat.le_refl _,by omega,rfl,HJ0,hide (by rw [← hr.out];exact hpre.out),hown,hbr⟩
    case round =>
     clear hown hbr hpre hq2 HJ0 hr
     obtain ⟨b,jv,pre2,hb,hjN,rfl,hjv,hpre2,hown2,hbr2⟩:=hrel
     cases b with
     | zero =>
       have hz:jv=0:=hjv.out
       subst hz
       clear hjv
       have hw:IntKind.i64.wrap ((K:Int)*2)=((K*2:Nat):Int):=by rw [IntKind.wrap_i64];omega
       go_wp2
       go_roundw
       case rel =>
        refine ⟨s+1,pre2,hsm,?_,hpre2,hown2,hbr2⟩
        rw [HK.out,Nat.pow_succ 2 (s+1)]
        simp
       case measure=>simp [intOf];omega
     | succ b =>
       have hjp:jv=2 ^ b:=by rw [hjv.out];exact quo2 b
       have hj1:0<jv:=by rw [hjp];exact Nat.two_pow_pos b
       have hji:(1:Int)≤(jv:Int):=by omega
       have HJP:=hide hjp
       clear hjp hjv
       go_wp2
       go_loopw [3,6] (fun o i wi=>∃ (x:Nat) (pre3:List (Nat × Nat)),x≤N∧i=.int .i64 (x:Int)∧Hid (pre3++(((List.range N).drop x).filterMap (sweepC K jv)++(merges N K b++rounds N (s+1) (m - (s+1))))=netw m)∧wi.ownsRow w1.heap.size 213 2 o pre3.length (prCs pre3)∧Below w1.heap.size w1 wi)
        (fun _ i _=>N - (intOf i).toNat)
       case atStart=>exact ⟨0,pre2,Nat.zero_le _,rfl,hide (by rw [← hpre2.out,List.drop_zero,merges,← HJP.out,List.append_assoc (sweep N K jv)];rfl),hown2,hbr2⟩
       case round =>
        clear hown2 hbr2 hpre2
        obtain ⟨x,pre3,hx,rfl,hpre3,hown3,hbr3⟩:=hrel
        by_cases hxN:x<N
        · have hxi:(x:Int)<(N:Int):=by omega
          have hdr:(List.range N).drop x=x::(List.range N).drop (x+1):=by
           rw [List.drop_eq_getElem_cons (by simpa using hxN)];simp
          rw [hdr] at hpre3
          have B1:=hide (fun w=>rbit12 x jv (by omega) (by omega) hj1 w)
          have B2:=hide (fun w=>rbit12 x K (by omega) (by omega) hK0 w)
          obtain ⟨c1,hc1⟩:∃ c1,c1=decide (x / jv % 2=1):=⟨_,rfl⟩
          obtain ⟨c2,hc2⟩:∃ c2,c2=decide (x / K % 2=1):=⟨_,rfl⟩
          rw [← hc1] at B1
          rw [← hc2] at B2
          go_wp2_with fail
          refine (B1.out _).mono ?_
          rintro e wz ⟨rfl,rfl⟩
          dsimp only
          clear B1
          cases c1 with
          | true =>
            have e0:sweepC K jv x=none:=by unfold sweepC;rw [if_pos (by simpa using hc1.symm)]
            have HP3:Hid (pre3++(((List.range N).drop (x+1)).filterMap (sweepC K jv)++(merges N K b++rounds N (s+1) (m - (s+1))))=netw m):=hide (by rw [← hpre3.out,List.filterMap_cons_none e0])
            clear B2 hc1 hc2 hdr hpre3 e0
            go_wp2
            go_roundw
            case rel=>exact ⟨x+1,pre3,by omega,by go_num,HP3,hown3,hbr3⟩
            case measure=>simp [intOf];omega
          | false =>
            have hb1:¬ x / jv % 2=1:=by simpa using hc1.symm
            go_wp2_with fail
            refine (B2.out _).mono ?_
            rintro e wz ⟨rfl,rfl⟩
            dsimp only
            clear B2
            cases c2 with
            | true =>
              have e0:sweepC K jv x=some (x+jv,x):=by unfold sweepC;rw [if_neg hb1,if_pos (by simpa using hc2.symm)]
              clear hc1 hc2 hb1
              have hlen:pre3.length<(netw m).length:=by
               have:=congrArg List.length hpre3.out
               rw [List.filterMap_cons_some e0] at this
               simp at this
               omega
              have hlen2:=Nat.lt_of_lt_of_le hlen HNL.out
              have HP3:Hid ((pre3++[((x+jv:Nat),(x:Nat))])++(((List.range N).drop (x+1)).filterMap (sweepC K jv)++(merges N K b++rounds N (s+1) (m - (s+1))))=netw m):=hide (by rw [← hpre3.out,List.filterMap_cons_some e0];simp)
              obtain ⟨OA,oc,rfl,hoc⟩:=own_slice hown3
              obtain ⟨i0,hi0,hz0,hz1,hz2⟩:=info_parts pair_info
              have hbz:=bl_alloc (Below.refl wz.heap.size wz) (.cells #[.int .i64 ((x+jv:Nat):Int),.int .i64 ((x:Nat):Int)] 213)
              have N6:=Blk.new wz 213 #[.int .i64 ((x+jv:Nat):Int),.int .i64 ((x:Nat):Int)]
              have hownx:=own_step hown3 hbz
              have hwx:=bl_step hbr3 hbz
              obtain ⟨g7,cap7,w7,hrun,hown7,hgrow7,_,_⟩:=run_append_lies (P:=Tryz.prog) (wz.alloc (.cells #[.int .i64 ((x+jv:Nat):Int),.int .i64 ((x:Nat):Int)] 213)) 211 211 w1.heap.size 213 i0 (.agg #[.int .i64 0,.int .i64 0]) 2 16 Tryz.underlying211 hi0 hz0 hz1 hz2 rfl (by decide) _ pre3.length (prCs pre3) hownx ⟨wz.heap.size,0,none⟩ 1 1 [.int .i64 ((x+jv:Nat):Int),.int .i64 ((x:Nat):Int)] rfl (fun j u hu=>by rw [add_zero_off];exact N6.cell (by simpa using hu)) (by simp [Value.oneCell']) (by omega) (by unfold maxLen;omega) (by omega) hwx.size _ rfl
              have hw7:Below w1.heap.size w1 w7:=hwx.grown hgrow7 hwx.size (fun j hj=>own_base hownx hj)
              have HO7:Hid (w7.ownsRow w1.heap.size 213 2 (.slice (some ⟨g7,0,none⟩) (pre3.length+1) cap7) (pre3++[((x+jv:Nat),(x:Nat))]).length (prCs (pre3++[((x+jv:Nat),(x:Nat))]))):=hide (by rw [prCs_snoc,List.length_append];exact hown7)
              have hxw:IntKind.i64.wrap ((x:Int)+(jv:Int))=((x+jv:Nat):Int):=by rw [IntKind.wrap_i64];omega
              clear hown7 hgrow7 N6 hownx hwx hbz hlen hpre3 hdr e0 hown3 hbr3 hi0 hz0 hz1 hz2
              go_wp2_with (at_builtin;refine wpList_append_run (.tmp 33) (.tmp 39) 211 rfl rfl _ _ rfl rfl hrun ?_)
              clear hrun
              go_wp2
              go_roundw
              case rel=>exact ⟨x+1,pre3++[((x+jv:Nat),(x:Nat))],by omega,by go_num,HP3,HO7.out,hw7⟩
              case measure=>simp [intOf];omega
            | false =>
              have e0:sweepC K jv x=some (x,x+jv):=by unfold sweepC;rw [if_neg hb1,if_neg (by simpa using hc2.symm)]
              clear hc1 hc2 hb1
              have hlen:pre3.length<(netw m).length:=by
               have:=congrArg List.length hpre3.out
               rw [List.filterMap_cons_some e0] at this
               simp at this
               omega
              have hlen2:=Nat.lt_of_lt_of_le hlen HNL.out
              have HP3:Hid ((pre3++[((x:Nat),(x+jv:Nat))])++(((List.range N).drop (x+1)).filterMap (sweepC K jv)++(merges N K b++rounds N (s+1) (m - (s+1))))=netw m):=hide (by rw [← hpre3.out,List.filterMap_cons_some e0];simp)
              obtain ⟨OA,oc,rfl,hoc⟩:=own_slice hown3
              obtain ⟨i0,hi0,hz0,hz1,hz2⟩:=info_parts pair_info
              have hbz:=bl_alloc (Below.refl wz.heap.size wz) (.cells #[.int .i64 ((x:Nat):Int),.int .i64 ((x+jv:Nat):Int)] 213)
              have N6:=Blk.new wz 213 #[.int .i64 ((x:Nat):Int),.int .i64 ((x+jv:Nat):Int)]
              have hownx:=own_step hown3 hbz
              have hwx:=bl_step hbr3 hbz
              obtain ⟨g7,cap7,w7,hrun,hown7,hgrow7,_,_⟩:=run_append_lies (P:=Tryz.prog) (wz.alloc (.cells #[.int .i64 ((x:Nat):Int),.int .i64 ((x+jv:Nat):Int)] 213)) 211 211 w1.heap.size 213 i0 (.agg #[.int .i64 0,.int .i64 0]) 2 16 Tryz.underlying211 hi0 hz0 hz1 hz2 rfl (by decide) _ pre3.length (prCs pre3) hownx ⟨wz.heap.size,0,none⟩ 1 1 [.int .i64 ((x:Nat):Int),.int .i64 ((x+jv:Nat):Int)] rfl (fun j u hu=>by rw [add_zero_off];exact N6.cell (by simpa using hu)) (by simp [Value.oneCell']) (by omega) (by unfold maxLen;omega) (by omega) hwx.size _ rfl
              have hw7:Below w1.heap.size w1 w7:=hwx.grown hgrow7 hwx.size (fun j hj=>own_base hownx hj)
              have HO7:Hid (w7.ownsRow w1.heap.size 213 2 (.slice (some ⟨g7,0,none⟩) (pre3.length+1) cap7) (pre3++[((x:Nat),(x+jv:Nat))]).length (prCs (pre3++[((x:Nat),(x+jv:Nat))]))):=hide (by rw [prCs_snoc,List.length_append];exact hown7)
              have hxw:IntKind.i64.wrap ((x:Int)+(jv:Int))=((x+jv:Nat):Int):=by rw [IntKind.wrap_i64];omega
              clear hown7 hgrow7 N6 hownx hwx hbz hlen hpre3 hdr e0 hown3 hbr3 hi0 hz0 hz1 hz2
              go_wp2_with (at_builtin;refine wpList_append_run (.tmp 41) (.tmp 47) 211 rfl rfl _ _ rfl rfl hrun ?_)
              clear hrun
              go_wp2
              go_roundw
              case rel=>exact ⟨x+1,pre3++[((x:Nat),(x+jv:Nat))],by omega,by go_num,HP3,HO7.out,hw7⟩
              case measure=>simp [intOf];omega
        · obtain rfl:x=N:=by omega
          have hxi:¬ (x:Int)<(x:Int):=by omega
          have HP3:Hid (pre3++(merges x K b++rounds x (s+1) (m - (s+1)))=netw m):=hide (by rw [← hpre3.out,List.drop_of_length_le (by simp)];rfl)
          have hq:(jv:Int) / 2=((jv / 2:Nat):Int):=by omega
          obtain ⟨j2,hj2⟩:∃ j2,j2=jv / 2:=⟨_,rfl⟩
          rw [← hj2] at hq
          have HJ2:Hid (j2=2 ^ b / 2):=hide (by rw [hj2,HJP.out])
          have hlt:j2<jv:=by omega
          clear hj2 hpre3
          go_wp2
          go_roundw
          case rel=>exact ⟨b,j2,pre3,by omega,by omega,rfl,HJ2,HP3,hown3,hbr3⟩
          case measure=>simp [intOf];omega
  · obtain rfl:s=m:=by omega
    have hNK:¬ (((2 ^ (s+1):Nat)):Int)≤(N:Int):=by
     have e:=HN.out
     have e2:2 ^ (s+1)=2*2 ^ s:=by rw [Nat.pow_succ,Nat.mul_comm]
     omega
    have HP:Hid (pre=netw s):=hide (by have:=hpre.out;rw [Nat.sub_self,rounds,List.append_nil] at this;exact this)
    obtain ⟨K,hK⟩:∃ K,K=2 ^ (s+1):=⟨_,rfl⟩
    rw [← hK] at hNK ⊢
    clear hpre hK
    rw [HP.out] at hown
    go_wp2
    go_ret
    exact ⟨_,rfl,hown,hbr⟩
end
end Go.Proofs.YtfljlmleiggmjaaGreatDoor
