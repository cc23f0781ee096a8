/- RefEvents -/
import Derived.Test.YtpnoofphfomjoaaGreatDoorPkM30
import Derived.Test.YtpnoofphfomjoaaGreatDoorPkN02
import Derived.Test.YtpnoofphfomjoaaGreatDoorPkN03
set_option maxRecDepth 1000000
set_option maxHeartbeats 8000000
namespace Go.Proofs.YtpnoofphfomjoaaGreatDoor
section
open Go.RowKit
def Evo (es:List Ev) (w:World) (e:Ending) (w':World):Prop:=∃ v,e=.returned v∧w'.ownsRow w.heap.size 123 3 v es.length (evCs es)∧Below w.heap.size w w'
theorem locEv_succ (k:Nat):locEv (List.range (k+1))=locEv (List.range k)++[(5,(k:Int),0)]:=by simp [locEv,List.range_succ]
theorem vEv_succ (n k:Nat):vEv n (List.range (k+1))=vEv n (List.range k)++evI k ((k+1) % n) n:=by rw [List.range_succ,vEv_snoc]
theorem locEv_length (l:List Nat):(locEv l).length=l.length:=by simp [locEv]
theorem evCs_app (a b:List Ev):evCs (a++b)=evCs a++evCs b:=by simp [evCs]
theorem rlocEv_any (n:Int) (w:World):Calls Tryz.prog 150 #[.int .i64 n] w (Evo (locEv (List.range (edgeN n.toNat))) w):=by
 obtain ⟨i0,hi,hz0,hz1,hz2⟩:=info_parts ev_info
 by_cases hn:3≤n∧n≤64
 · obtain ⟨h3,h64⟩:=hn
   obtain ⟨N,rfl⟩:∃ N:Nat,n=(N:Int):=⟨n.toNat,by omega⟩
   have hE:edgeN ((N:Int)).toNat=N:=by unfold edgeN;rw [Int.toNat_natCast,if_pos (by omega)]
   rw [hE]
   clear hE
   go_enter Tryz.func150,Tryz.ntmps150
   go_wp2
   go_loopw [3,4] (fun l i wr=>∃ (k:Nat),k≤N∧i=.int .i64 k∧wr.ownsRow w.heap.size 123 3 l k (evCs (locEv (List.range k)))∧Below w.heap.size w wr)
    (fun _ i _=>N - (intOf i).toNat)
   case atStart=>exact ⟨0,by omega,rfl,World.ownsRow_nil _ _ _ _,Below.refl _ _⟩
   case round =>
    obtain ⟨k,hk,rfl,hown,hb⟩:=hrel
    by_cases hlt:k<N
    · have hlti:((k:Nat):Int)<((N:Nat):Int):=by omega
      have hbz:w.heap.size≤wr.heap.size:=hb.size
      obtain ⟨lA,lc,rfl,_⟩:=own_slice hown
      go_wp2_with (at_builtin;refine wpList_append_own _ rfl (.tmp 18) (.tmp 21) 56 rfl w.heap.size 123 i0 (.agg #[.int .i64 0,.int .i64 0,.int .i64 0]) 3 24 Tryz.underlying56 hi hz0 hz1 hz2 rfl (by decide) _ k _ rfl (hown.alloc _) ⟨wr.heap.size,0,none⟩ 1 1 [.int .i64 5,.int .i64 (k:Int),.int .i64 0] rfl rfl ?a1 ?a2 ?a3 ?a4 ?a5 ?_;rotate_right;intro v' w1 hown1 hgrow hnil)
      case a1=>exact blk_cells (Blk.new _ _ _)
      case a2=>simp [Value.oneCell']
      case a3=>unfold maxLen;omega
      case a4=>omega
      case a5=>rw [World.size_alloc];omega
      have hb1:Below w.heap.size w w1:=(hb.alloc hb.size _).grown hgrow (by rw [World.size_alloc];omega) (fun j hj=>own_base hown hj)
      have hown2:w1.ownsRow w.heap.size 123 3 v' (k+1) (evCs (locEv (List.range (k+1)))):=by rw [locEv_succ,evCs_snoc];exact hown1
      go_roundw
      case rel=>exact ⟨k+1,by omega,by go_num,hown2,hb1⟩
      case measure=>simp [intOf];omega
    · obtain rfl:k=N:=by omega
      go_wp2
      go_ret
      exact ⟨_,rfl,by rw [locEv_length,List.length_range];exact hown,hb⟩
 · have hE:edgeN n.toNat=0:=by unfold edgeN;rw [if_neg (by omega)]
   rw [hE]
   clear hE
   have hc:n≤0∨(0<n∧n<3)∨(0<n∧3≤n∧64<n):=by omega
   rcases hc with h | ⟨h,h2⟩ | ⟨h,h2,h3⟩
   all_goals
    clear hn
    go_enter Tryz.func150,Tryz.ntmps150
    go_wp2
    go_loopw [3,4] (fun l i wr=>l=.slice none 0 0∧i=.int .i64 0∧wr=w) (fun _ _ _=>0)
    case atStart=>exact ⟨rfl,rfl,rfl⟩
    case round =>
     obtain ⟨rfl,rfl,rfl⟩:=hrel
     go_wp2
     go_ret
     exact ⟨_,rfl,World.ownsRow_nil _ _ _ _,Below.refl _ _⟩
theorem vEv_range_length (n k:Nat):(vEv n (List.range k)).length≤k*n:=by
 have h:=vEv_length n (List.range k)
 rwa [List.length_range] at h
theorem rvalEv_any (n:Int) (w:World):Calls Tryz.prog 149 #[.int .i64 n] w (Evo (vEv n.toNat (List.range (edgeN n.toNat))) w):=by
 obtain ⟨i0,hi,hz0,hz1,hz2⟩:=info_parts ev_info
 by_cases hn:3≤n∧n≤64
 · obtain ⟨h3,h64⟩:=hn
   obtain ⟨N,rfl⟩:∃ N:Nat,n=(N:Int):=⟨n.toNat,by omega⟩
   have hE:edgeN ((N:Int)).toNat=N:=by unfold edgeN;rw [Int.toNat_natCast,if_pos (by omega)]
   rw [hE,Int.toNat_natCast]
   clear hE
   go_enter Tryz.func149,Tryz.ntmps149
   go_wp2
   go_loopw [3,4] (fun l i wr=>∃ (k:Nat),k≤N∧i=.int .i64 k∧wr.ownsRow w.heap.size 123 3 l (vEv N (List.range k)).length (evCs (vEv N (List.range k)))∧Below w.heap.size w wr)
    (fun _ i _=>N - (intOf i).toNat)
   case atStart=>exact ⟨0,by omega,rfl,by simpa [vEv,evCs] using World.ownsRow_nil _ _ _ _,Below.refl _ _⟩
   case round =>
    obtain ⟨x,hx,rfl,hown,hb⟩:=hrel
    by_cases hlt:x<N
    · have hlti:((x:Nat):Int)<((N:Nat):Int):=by omega
      obtain ⟨nx,hnx⟩:∃ nx,nx=(x+1) % N:=⟨_,rfl⟩
      have hm:((x:Int)+1) % ((N:Nat):Int)=(nx:Int):=by rw [hnx];rfl
      have hm2:((x:Int)+1).tmod ((N:Nat):Int)=(nx:Int):=by rw [Int.tmod_eq_emod_of_nonneg (by omega)];exact hm
      have hw1:IntKind.i64.wrap ((x:Int)+1)=(x:Int)+1:=by rw [IntKind.wrap_i64];omega
      have HS:=hide (vEv_succ N x)
      rw [← hnx] at HS
      have hpl:=vEv_range_length N x
      have hpl2:x*N≤64*64:=Nat.mul_le_mul (by omega) (by omega)
      obtain ⟨pre,hpre⟩:∃ pre,pre=vEv N (List.range x):=⟨_,rfl⟩
      rw [← hpre] at hown HS hpl
      have hp0:evI x nx 0=[]:=rfl
      clear hnx hpre
      go_wp2
      go_loopw [3,5] (fun l j wr2=>∃ (k:Nat),k≤N∧j=.int .i64 k∧wr2.ownsRow w.heap.size 123 3 l (pre++evI x nx k).length (evCs (pre++evI x nx k))∧Below w.heap.size w wr2)
       (fun _ j _=>N - (intOf j).toNat)
      case atStart=>exact ⟨0,by omega,rfl,by rw [hp0,List.append_nil];exact hown,hb⟩
      case round =>
       obtain ⟨k,hk,rfl,hown2,hb2⟩:=hrel
       by_cases hkl:k<N
       · have hkli:((k:Nat):Int)<((N:Nat):Int):=by omega
         have hel:=evI_length x nx k
         have hlen:(pre++evI x nx k).length≤5000:=by rw [List.length_append];omega
         obtain ⟨q,hq⟩:∃ q,q=(pre++evI x nx k).length:=⟨_,rfl⟩
         rw [← hq] at hown2 hlen
         have HQ:=hide hq
         clear hq
         obtain ⟨lA,lc,rfl,_⟩:=own_slice hown2
         by_cases hkx:k=x∨k=nx
         · have hev:=evI_same (x:=x) (nx:=nx) (k:=k) hkx
           have HEVS:=hide hev
           have hcases:((k:Int) != (x:Int))=false∨(((k:Int) != (x:Int))=true∧((k:Int) != (nx:Int))=false):=by
            by_cases h:k=x
            · left;simp [h]
            · right;rcases hkx with h' | h'
              · exact absurd h' h
              · refine ⟨?_,by simp [h']⟩
                simp;omega
           clear hkx hev
           rcases hcases with e1 | ⟨e1,e2⟩
           · go_wp2
             go_roundw
             case rel=>exact ⟨k+1,by omega,by go_num,by rw [HEVS.out,← HQ.out];exact hown2,hb2⟩
             case measure=>simp [intOf];omega
           · go_wp2
             go_roundw
             case rel=>exact ⟨k+1,by omega,by go_num,by rw [HEVS.out,← HQ.out];exact hown2,hb2⟩
             case measure=>simp [intOf];omega
         · have hkx1:k≠x:=fun h=>hkx (.inl h)
           have hkx2:k≠nx:=fun h=>hkx (.inr h)
           have HEV:=hide (evI_next hkx1 hkx2)
           have e1:((k:Int) != (x:Int))=true:=by simp;omega
           have e2:((k:Int) != (nx:Int))=true:=by simp;omega
           have hbz:w.heap.size≤wr.heap.size:=hb2.size
           clear hkx hkx1 hkx2
           go_wp2_with (at_builtin;refine wpList_append_own _ rfl (.tmp 35) (.tmp 39) 56 rfl w.heap.size 123 i0 (.agg #[.int .i64 0,.int .i64 0,.int .i64 0]) 3 24 Tryz.underlying56 hi hz0 hz1 hz2 rfl (by decide) _ q _ rfl (hown2.alloc _) ⟨wr.heap.size,0,none⟩ 1 1 [.int .i64 4,.int .i64 (x:Int),.int .i64 (k:Int)] rfl rfl ?a1 ?a2 ?a3 ?a4 ?a5 ?_;rotate_right;intro v' w1 hown1 hgrow hnil)
           case a1=>exact blk_cells (Blk.new _ _ _)
           case a2=>simp [Value.oneCell']
           case a3=>unfold maxLen;omega
           case a4=>omega
           case a5=>rw [World.size_alloc];omega
           have hb1:Below w.heap.size w w1:=(hb2.alloc hb2.size _).grown hgrow (by rw [World.size_alloc];omega) (fun j hj=>own_base hown2 hj)
           have hown3:w1.ownsRow w.heap.size 123 3 v' (pre++evI x nx (k+1)).length (evCs (pre++evI x nx (k+1))):=by
            rw [HEV.out,← List.append_assoc,evCs_snoc,List.length_append,← HQ.out]
            exact hown1
           go_roundw
           case rel=>exact ⟨k+1,by omega,by go_num,hown3,hb1⟩
           case measure=>simp [intOf];omega
       · obtain rfl:k=N:=by omega
         rw [← HS.out] at hown2
         go_wp2
         go_roundw
         case rel=>exact ⟨x+1,by omega,by go_num,hown2,hb2⟩
         case measure=>simp [intOf];omega
    · obtain rfl:x=N:=by omega
      go_wp2
      go_ret
      exact ⟨_,rfl,hown,hb⟩
 · have hE:edgeN n.toNat=0:=by unfold edgeN;rw [if_neg (by omega)]
   rw [hE]
   clear hE
   have hc:n≤0∨(0<n∧n<3)∨(0<n∧3≤n∧64<n):=by omega
   rcases hc with h | ⟨h,h2⟩ | ⟨h,h2,h3⟩
   all_goals
    clear hn
    go_enter Tryz.func149,Tryz.ntmps149
    go_wp2
    go_loopw [3,4] (fun l i wr=>l=.slice none 0 0∧i=.int .i64 0∧wr=w) (fun _ _ _=>0)
    case atStart=>exact ⟨rfl,rfl,rfl⟩
    case round =>
     obtain ⟨rfl,rfl,rfl⟩:=hrel
     go_wp2
     go_ret
     exact ⟨_,rfl,World.ownsRow_nil _ _ _ _,Below.refl _ _⟩
end
end Go.Proofs.YtpnoofphfomjoaaGreatDoor
