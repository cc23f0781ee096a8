/- Valid RefEvents RefEvents16 EvAppend -/
import Derived.Laws.Externs
import Derived.Scope
import Derived.Shelf.Bits.Mul64
import Derived.Shelf.Spec.BitsCarry
import Derived.Test.YtfljlmleiggmjaaGreatDoorPkB23
import Derived.Test.YtfljlmleiggmjaaGreatDoorPkB31
import Derived.Test.YtfljlmleiggmjaaGreatDoorPkB36
set_option maxRecDepth 1000000
set_option maxHeartbeats 8000000
namespace Go.Proofs.YtfljlmleiggmjaaGreatDoor
section
open Go.RowKit Go.Shelf
section
variable {F:Fence} {n:Nat} {P:Program} {b:Frame} {a:Act} {k:List Item} {cs:List Frame} {w:World} {Q:Exit→Act→World→Prop}
end
theorem vEv_snoc (n:Nat) (pre:List Nat) (x:Nat):vEv n (pre++[x])=vEv n pre++evI x ((x+1) % n) n:=by simp [vEv]
end
section
open Go.RowKit
def Evo (es:List Ev) (w:World) (e:Ending) (w':World):Prop:=∃ v,e=.returned v∧w'.ownsRow w.heap.size 66 3 v es.length (evCs es)∧Below w.heap.size w w'
theorem locEv_succ (k:Nat):locEv (List.range (k+1))=locEv (List.range k)++[(5,(k:Int),0)]:=by simp [locEv,List.range_succ]
theorem vEv_succ (n k:Nat):vEv n (List.range (k+1))=vEv n (List.range k)++evI k ((k+1) % n) n:=by rw [List.range_succ,vEv_snoc]
theorem evCs_app (a b:List Ev):evCs (a++b)=evCs a++evCs b:=by simp [evCs]
theorem rlocEv_any (n:Int) (w:World):Calls Tryz.prog 113 #[.int .i64 n] w (Evo (locEv (List.range (edgeN n.toNat))) w):=by
 obtain ⟨i0,hi,hz0,hz1,hz2⟩:=info_parts ev_info
 by_cases hn:3≤n∧n≤64
 · obtain ⟨h3,h64⟩:=hn
   obtain ⟨N,rfl⟩:∃ N:Nat,n=(N:Int):=⟨n.toNat,by omega⟩
   have hE:edgeN ((N:Int)).toNat=N:=by unfold edgeN;rw [Int.toNat_natCast,if_pos (by omega)]
   rw [hE]
   clear hE
   go_enter Tryz.func113,Tryz.ntmps113
   go_wp2
   go_loopw [3,4] (fun l i wr=>∃ (k:Nat),k≤N∧i=.int .i64 k∧wr.ownsRow w.heap.size 66 3 l k (evCs (locEv (List.range k)))∧Below w.heap.size w wr)
    (fun _ i _=>N - (intOf i).toNat)
   case atStart=>exact ⟨0,by omega,rfl,World.ownsRow_nil _ _ _ _,Below.refl _ _⟩
   case round =>
    obtain ⟨k,hk,rfl,hown,hb⟩:=hrel
    by_cases hlt:k<N
    · have hlti:((k:Nat):Int)<((N:Nat):Int):=by omega
      have hbz:w.heap.size≤wr.heap.size:=hb.size
      obtain ⟨lA,lc,rfl,_⟩:=own_slice hown
      go_wp2_with (at_builtin;refine wpList_append_own _ rfl (.tmp 18) (.tmp 21) 27 rfl w.heap.size 66 i0 (.agg #[.int .i64 0,.int .i64 0,.int .i64 0]) 3 24 Tryz.underlying27 hi hz0 hz1 hz2 rfl (by decide) _ k _ rfl (hown.alloc _) ⟨wr.heap.size,0,none⟩ 1 1 [.int .i64 5,.int .i64 (k:Int),.int .i64 0] rfl rfl ?a1 ?a2 ?a3 ?a4 ?a5 ?_;rotate_right;intro v' w1 hown1 hgrow hnil)
      case a1=>exact blk_cells (Blk.new _ _ _)
      case a2=>simp [Value.oneCell']
      case a3=>unfold maxLen;omega
      case a4=>omega
      case a5=>rw [World.size_alloc];omega
      have hb1:Below w.heap.size w w1:=(hb.alloc hb.size _).grown hgrow (by rw [World.size_alloc];omega) (fun j hj=>own_base hown hj)
      have hown2:w1.ownsRow w.heap.size 66 3 v' (k+1) (evCs (locEv (List.range (k+1)))):=by rw [locEv_succ,evCs_snoc];exact hown1
      go_roundw
      case rel=>exact ⟨k+1,by omega,by go_num,hown2,hb1⟩
      case measure=>simp [intOf];omega
    · obtain rfl:k=N:=by omega
      go_wp2
      go_ret
      exact ⟨_,rfl,by rw [locEv_length,List.length_range];exact hown,hb⟩
 · have hE:edgeN n.toNat=0:=by unfold edgeN;rw [if_neg (by omega)]
   rw [hE]
   clear hE
   have hc:n≤0∨(0<n∧n<3)∨(0<n∧3≤n∧64<n):=by omega
   rcases hc with h | ⟨h,h2⟩ | ⟨h,h2,h3⟩
   all_goals
    clear hn
    go_enter Tryz.func113,Tryz.ntmps113
    go_wp2
    go_loopw [3,4] (fun l i wr=>l=.slice none 0 0∧i=.int .i64 0∧wr=w) (fun _ _ _=>0)
    case atStart=>exact ⟨rfl,rfl,rfl⟩
    case round =>
     obtain ⟨rfl,rfl,rfl⟩:=hrel
     go_wp2
     go_ret
     exact ⟨_,rfl,World.ownsRow_nil _ _ _ _,Below.refl _ _⟩
theorem rvalEv_any (n:Int) (w:World):Calls Tryz.prog 112 #[.int .i64 n] w (Evo (vEv n.toNat (List.range (edgeN n.toNat))) w):=by
 obtain ⟨i0,hi,hz0,hz1,hz2⟩:=info_parts ev_info
 by_cases hn:3≤n∧n≤64
 · obtain ⟨h3,h64⟩:=hn
   obtain ⟨N,rfl⟩:∃ N:Nat,n=(N:Int):=⟨n.toNat,by omega⟩
   have hE:edgeN ((N:Int)).toNat=N:=by unfold edgeN;rw [Int.toNat_natCast,if_pos (by omega)]
   rw [hE,Int.toNat_natCast]
   clear hE
   go_enter Tryz.func112,Tryz.ntmps112
   go_wp2
   go_loopw [3,4] (fun l i wr=>∃ (k:Nat),k≤N∧i=.int .i64 k∧wr.ownsRow w.heap.size 66 3 l (vEv N (List.range k)).length (evCs (vEv N (List.range k)))∧Below w.heap.size w wr)
    (fun _ i _=>N - (intOf i).toNat)
   case atStart=>exact ⟨0,by omega,rfl,by simpa [vEv,evCs] using World.ownsRow_nil _ _ _ _,Below.refl _ _⟩
   case round =>
    obtain ⟨x,hx,rfl,hown,hb⟩:=hrel
    by_cases hlt:x<N
    · have hlti:((x:Nat):Int)<((N:Nat):Int):=by omega
      obtain ⟨nx,hnx⟩:∃ nx,nx=(x+1) % N:=⟨_,rfl⟩
      have hm:((x:Int)+1) % ((N:Nat):Int)=(nx:Int):=by rw [hnx];rfl
      have hm2:((x:Int)+1).tmod ((N:Nat):Int)=(nx:Int):=by rw [Int.tmod_eq_emod_of_nonneg (by omega)];exact hm
      have hw1:IntKind.i64.wrap ((x:Int)+1)=(x:Int)+1:=by rw [IntKind.wrap_i64];omega
      have HS:=hide (vEv_succ N x)
      rw [← hnx] at HS
      have hpl:=vEv_range_length N x
      have hpl2:x*N≤64*64:=Nat.mul_le_mul (by omega) (by omega)
      obtain ⟨pre,hpre⟩:∃ pre,pre=vEv N (List.range x):=⟨_,rfl⟩
      rw [← hpre] at hown HS hpl
      have hp0:evI x nx 0=[]:=rfl
      clear hnx hpre
      go_wp2
      go_loopw [3,5] (fun l j wr2=>∃ (k:Nat),k≤N∧j=.int .i64 k∧wr2.ownsRow w.heap.size 66 3 l (pre++evI x nx k).length (evCs (pre++evI x nx k))∧Below w.heap.size w wr2)
       (fun _ j _=>N - (intOf j).toNat)
      case atStart=>exact ⟨0,by omega,rfl,by rw [hp0,List.append_nil];exact hown,hb⟩
      case round =>
       obtain ⟨k,hk,rfl,hown2,hb2⟩:=hrel
       by_cases hkl:k<N
       · have hkli:((k:Nat):Int)<((N:Nat):Int):=by omega
         have hel:=evI_length x nx k
         have hlen:(pre++evI x nx k).length≤5000:=by rw [List.length_append];omega
         obtain ⟨q,hq⟩:∃ q,q=(pre++evI x nx k).length:=⟨_,rfl⟩
         rw [← hq] at hown2 hlen
         have HQ:=hide hq
         clear hq
         obtain ⟨lA,lc,rfl,_⟩:=own_slice hown2
         by_cases hkx:k=x∨k=nx
         · have hev:=evI_same (x:=x) (nx:=nx) (k:=k) hkx
           have HEVS:=hide hev
           have hcases:((k:Int) != (x:Int))=false∨(((k:Int) != (x:Int))=true∧((k:Int) != (nx:Int))=false):=by
            by_cases h:k=x
            · left;simp [h]
            · right;rcases hkx with h' | h'
              · exact absurd h' h
              · refine ⟨?_,by simp [h']⟩
                simp;omega
           clear hkx hev
           rcases hcases with e1 | ⟨e1,e2⟩
           · go_wp2
             go_roundw
             case rel=>exact ⟨k+1,by omega,by go_num,by rw [HEVS.out,← HQ.out];exact hown2,hb2⟩
             case measure=>simp [intOf];omega
           · go_wp2
             go_roundw
             case rel=>exact ⟨k+1,by omega,by go_num,by rw [HEVS.out,← HQ.out];exact hown2,hb2⟩
             case measure=>simp [intOf];omega
         · have hkx1:k≠x:=fun h=>hkx (.inl h)
           have hkx2:k≠nx:=fun h=>hkx (.inr h)
           have HEV:=hide (evI_next hkx1 hkx2)
           have e1:((k:Int) != (x:Int))=true:=by simp;omega
           have e2:((k:Int) != (nx:Int))=true:=by simp;omega
           have hbz:w.heap.size≤wr.heap.size:=hb2.size
           clear hkx hkx1 hkx2
           go_wp2_with (at_builtin;refine wpList_append_own _ rfl (.tmp 35) (.tmp 39) 27 rfl w.heap.size 66 i0 (.agg #[.int .i64 0,.int .i64 0,.int .i64 0]) 3 24 Tryz.underlying27 hi hz0 hz1 hz2 rfl (by decide) _ q _ rfl (hown2.alloc _) ⟨wr.heap.size,0,none⟩ 1 1 [.int .i64 4,.int .i64 (x:Int),.int .i64 (k:Int)] rfl rfl ?a1 ?a2 ?a3 ?a4 ?a5 ?_;rotate_right;intro v' w1 hown1 hgrow hnil)
           case a1=>exact blk_cells (Blk.new _ _ _)
           case a2=>simp [Value.oneCell']
           case a3=>unfold maxLen;omega
           case a4=>omega
           case a5=>rw [World.size_alloc];omega
           have hb1:Below w.heap.size w w1:=(hb2.alloc hb2.size _).grown hgrow (by rw [World.size_alloc];omega) (fun j hj=>own_base hown2 hj)
           have hown3:w1.ownsRow w.heap.size 66 3 v' (pre++evI x nx (k+1)).length (evCs (pre++evI x nx (k+1))):=by
            rw [HEV.out,← List.append_assoc,evCs_snoc,List.length_append,← HQ.out]
            exact hown1
           go_roundw
           case rel=>exact ⟨k+1,by omega,by go_num,hown3,hb1⟩
           case measure=>simp [intOf];omega
       · obtain rfl:k=N:=by omega
         rw [← HS.out] at hown2
         go_wp2
         go_roundw
         case rel=>exact ⟨x+1,by omega,by go_num,hown2,hb2⟩
         case measure=>simp [intOf];omega
    · obtain rfl:x=N:=by omega
      go_wp2
      go_ret
      exact ⟨_,rfl,hown,hb⟩
 · have hE:edgeN n.toNat=0:=by unfold edgeN;rw [if_neg (by omega)]
   rw [hE]
   clear hE
   have hc:n≤0∨(0<n∧n<3)∨(0<n∧3≤n∧64<n):=by omega
   rcases hc with h | ⟨h,h2⟩ | ⟨h,h2,h3⟩
   all_goals
    clear hn
    go_enter Tryz.func112,Tryz.ntmps112
    go_wp2
    go_loopw [3,4] (fun l i wr=>l=.slice none 0 0∧i=.int .i64 0∧wr=w) (fun _ _ _=>0)
    case atStart=>exact ⟨rfl,rfl,rfl⟩
    case round =>
     obtain ⟨rfl,rfl,rfl⟩:=hrel
     go_wp2
     go_ret
     exact ⟨_,rfl,World.ownsRow_nil _ _ _ _,Below.refl _ _⟩
end
section
open Go.RowKit
theorem add_zero_off (g j:Nat):(⟨g,0,none⟩:Addr).add j=⟨g,j,none⟩:=by unfold Addr.add;split <;> simp_all
theorem edgeN_of {v:Int} (h3:3≤v) (h64:v≤64):edgeN v.toNat=v.toNat:=by unfold edgeN;rw [if_pos (by omega)]
theorem vEv_pos {v:Int} (h3:3≤v) (h64:v≤64):0<(vEv v.toNat (List.range (edgeN v.toNat))).length:=by
 rw [edgeN_of h3 h64]
 refine List.length_pos_of_mem (a:=(4,((0:Nat):Int),((2:Nat):Int))) ?_
 unfold vEv
 refine List.mem_flatMap.2 ⟨0,List.mem_range.2 (by omega),?_⟩
 unfold evI
 refine List.mem_map.2 ⟨2,List.mem_filter.2 ⟨List.mem_range.2 (by omega),?_⟩,rfl⟩
 have:(0+1) % v.toNat=1:=Nat.mod_eq_of_lt (by omega)
 rw [this]
 decide
theorem locEv_pos {v:Int} (h3:3≤v) (h64:v≤64):0<(locEv (List.range (edgeN v.toNat))).length:=by
 rw [edgeN_of h3 h64,locEv_length,List.length_range];omega
theorem hvEv_take {rs:List Rg} {k:Nat} {r:Rg} (h:rs[k]?=some r):hvEv 0 (rs.take (k+1))=hvEv 0 (rs.take k)++[(7,(k:Int),0)]++hvEv1 r.v:=by
 have hlt:k<rs.length:=(List.getElem?_eq_some_iff.1 h).1
 rw [List.take_add_one,h]
 show hvEv 0 (rs.take k++[r])=_
 rw [hvEv_snoc,List.length_take,Nat.min_eq_left (Nat.le_of_lt hlt),Nat.zero_add]
 simp
theorem rhvEv_any (rs:List Rg) (A:Option Addr) (c:Nat) (w:World) (hs:Sl w w.heap.size A (rgCells rs)) (hn:rs.length≤64) (hv:∀ r∈rs,r.v=0∨3≤r.v∧r.v≤64) :
 Calls Tryz.prog 114 #[.slice A rs.length c] w (Evo (hvEv 0 rs) w):=by
 obtain ⟨i0,hi,hz0,hz1,hz2⟩:=info_parts ev_info
 have HS:=hide hs;have HV:=hide hv
 clear hs hv
 go_enter Tryz.func114,Tryz.ntmps114
 go_wp2
 go_loopw [3,4] (fun l i wr=>∃ (k:Nat),k≤rs.length∧i=.int .i64 k∧wr.ownsRow w.heap.size 66 3 l (hvEv 0 (rs.take k)).length (evCs (hvEv 0 (rs.take k)))∧Below w.heap.size w wr)
  (fun _ i _=>rs.length - (intOf i).toNat)
 case atStart=>exact ⟨0,by omega,rfl,by simpa [hvEv,evCs] using World.ownsRow_nil _ _ _ _,Below.refl _ _⟩
 case round =>
  obtain ⟨k,hk,rfl,hown,hb⟩:=hrel
  by_cases hlt:k<rs.length
  · obtain ⟨r,hr⟩:∃ r,rs[k]?=some r:=⟨_,List.getElem?_eq_getElem hlt⟩
    have hvr:=HV.out r (List.mem_of_getElem? hr)
    obtain ⟨b,off,rfl,hB,q0,q1,q2⟩:=HS.out.rg hr
    have HE:=hide (hvEv_take hr)
    have hlti:((k:Nat):Int)<((rs.length:Nat):Int):=by omega
    have hlen:=hvEv_length 0 (rs.take k)
    rw [List.length_take] at hlen
    obtain ⟨pre,hpre⟩:∃ pre,pre=hvEv 0 (rs.take k):=⟨_,rfl⟩
    rw [← hpre] at hown HE hlen
    obtain ⟨m,hm⟩:∃ m,m=pre.length:=⟨_,rfl⟩
    rw [← hm] at hown hlen
    have HM:=hide hm
    obtain ⟨d,v,RA,n,c⟩:=r
    dsimp only at *
    clear hr hpre hm q0 q2
    have hm5:m≤262208:=by omega
    have hbz:w.heap.size≤wr.heap.size:=hb.size
    have HQ:=hide (fun (w':World) (h:Below w.heap.size w w')=>(h.cell (p:=⟨b,off+k*3+1,none⟩) hB).trans q1)
    obtain ⟨lA,lc,rfl,_⟩:=own_slice hown
    clear q1 hlen
    by_cases hv0:v=0
    · subst hv0
      have HE1:Hid (hvEv 0 (rs.take (k+1))=pre++[(7,(k:Int),0)]++[(4,0,2)]):=HE
      clear HE
      go_wp2_with (first
       | (at_builtin;refine wpList_append_own _ rfl (.tmp 11) (.tmp 14) 27 rfl w.heap.size 66 i0 (.agg #[.int .i64 0,.int .i64 0,.int .i64 0]) 3 24 Tryz.underlying27 hi hz0 hz1 hz2 rfl (by decide) _ m _ rfl (hown.alloc _) ⟨wr.heap.size,0,none⟩ 1 1 [.int .i64 7,.int .i64 (k:Int),.int .i64 0] rfl rfl ?a1 ?a2 ?a3 ?a4 ?a5 ?_;rotate_right;intro v1 w1 hown1 hgrow1 _;have hb1:Below w.heap.size w w1:=(hb.alloc hb.size _).grown hgrow1 (by rw [World.size_alloc];omega) (fun j hj=>own_base hown hj);have d1:=HQ.out w1 hb1;have hbz1:w.heap.size≤w1.heap.size:=hb1.size;obtain ⟨lA1,lc1,rfl,_⟩:=own_slice hown1;have HB1:=hide hb1)
       | (at_builtin;refine wpList_append_own _ rfl (.tmp 22) (.tmp 24) 27 rfl w.heap.size 66 i0 (.agg #[.int .i64 0,.int .i64 0,.int .i64 0]) 3 24 Tryz.underlying27 hi hz0 hz1 hz2 rfl (by decide) _ (m+1) _ rfl (hown1.alloc _) ⟨w1.heap.size,0,none⟩ 1 1 [.int .i64 4,.int .i64 0,.int .i64 2] rfl rfl ?b1 ?b2 ?b3 ?b4 ?b5 ?_;rotate_right;intro v2 w2 hown2 hgrow2 _))
      try (case a1=>exact blk_cells (Blk.new _ _ _))
      case a2=>simp [Value.oneCell']
      case a3=>unfold maxLen;omega
      case a4=>omega
      case a5=>(try rw [World.size_alloc]);omega
      try (case b1=>exact blk_cells (Blk.new _ _ _))
      case b2=>simp [Value.oneCell']
      case b3=>unfold maxLen;omega
      case b4=>omega
      case b5=>(try rw [World.size_alloc]);omega
      have hb2:Below w.heap.size w w2:=(HB1.out.alloc HB1.out.size _).grown hgrow2 (by rw [World.size_alloc];omega) (fun j hj=>own_base hown1 hj)
      have hown3:w2.ownsRow w.heap.size 66 3 v2 (hvEv 0 (rs.take (k+1))).length (evCs (hvEv 0 (rs.take (k+1)))):=by
       rw [HE1.out,evCs_snoc,evCs_snoc,List.length_append,List.length_append,← HM.out]
       exact hown2
      go_roundw
      case rel=>exact ⟨k+1,by omega,by go_num,hown3,hb2⟩
      case measure=>simp [intOf];omega
    · obtain ⟨h3,h64⟩:=hvr.resolve_left hv0
      have HE1:Hid (hvEv 0 (rs.take (k+1))=pre++[(7,(k:Int),0)]++vEv v.toNat (List.range (edgeN v.toNat))):=hide (HE.out.trans (by unfold hvEv1;rw [if_neg hv0]))
      clear HE
      go_wp2_with (first
       | (at_builtin;refine wpList_append_own _ rfl (.tmp 11) (.tmp 14) 27 rfl w.heap.size 66 i0 (.agg #[.int .i64 0,.int .i64 0,.int .i64 0]) 3 24 Tryz.underlying27 hi hz0 hz1 hz2 rfl (by decide) _ m _ rfl (hown.alloc _) ⟨wr.heap.size,0,none⟩ 1 1 [.int .i64 7,.int .i64 (k:Int),.int .i64 0] rfl rfl ?e1 ?e2 ?e3 ?e4 ?e5 ?_;rotate_right;intro v1 w1 hown1 hgrow1 _;have hb1:Below w.heap.size w w1:=(hb.alloc hb.size _).grown hgrow1 (by rw [World.size_alloc];omega) (fun j hj=>own_base hown hj);have d1:=HQ.out w1 hb1;have hbz1:w.heap.size≤w1.heap.size:=hb1.size;obtain ⟨lA1,lc1,rfl,_⟩:=own_slice hown1;have HB1:=hide hb1))
      case e1=>exact blk_cells (Blk.new _ _ _)
      case e2=>simp [Value.oneCell']
      case e3=>unfold maxLen;omega
      case e4=>omega
      case e5=>(try rw [World.size_alloc]);omega
      obtain ⟨es2,hes2⟩:∃ es2,es2=vEv v.toNat (List.range (edgeN v.toNat)):=⟨_,rfl⟩
      have hpos:0<es2.length:=by rw [hes2];exact vEv_pos h3 h64
      have hl2:es2.length≤4096:=by
       have:=hvEv1_length v
       unfold hvEv1 at this
       rw [if_neg hv0] at this
       rw [hes2];exact this
      have HC:=rvalEv_any v w1
      rw [← hes2] at HC HE1
      refine HC.mono ?_
      clear HC hes2
      rintro e w2 ⟨v2,rfl,hown2,hb2⟩
      have hown1':=own_step hown1 hb2
      have hb02:Below w.heap.size w w2:=HB1.out.trans (hb2.mono hbz1)
      have hbz2:=hb02.size
      obtain ⟨g2,cap2,rfl,hg2,hgl2,_⟩:=own_form hown2 hpos
      have hcells:∀ j u,(evCs es2)[j]?=some u→w2.cell? ((⟨g2,0,none⟩:Addr).add j)=some u:=fun j u hu=>by
       have h:=Sl.of_own hown2
       rcases h with h | ⟨b',off',hA,_,hc⟩
       · rw [h] at hu;simp at hu
       · cases hA
         have h2:=hc j u hu
         rw [Nat.zero_add] at h2
         rw [add_zero_off]
         exact h2
      have HCL:=hide hcells
      clear hcells hown2 hb2 hown1 d1
      go_wp2_with (at_builtin;refine wpList_append_own _ rfl (.tmp 26) (.tmp 32) 27 rfl w.heap.size 66 i0 (.agg #[.int .i64 0,.int .i64 0,.int .i64 0]) 3 24 Tryz.underlying27 hi hz0 hz1 hz2 rfl (by decide) _ (m+1) _ rfl hown1' ⟨g2,0,none⟩ es2.length cap2 (evCs es2) rfl ?f1 ?f2 ?f3 ?f4 ?f5 ?f6 ?_;rotate_right;intro v3 w3 hown3 hgrow3 _)
      case f1=>exact evCs_length es2
      case f2=>exact HCL.out
      case f3=>exact evCs_one es2
      case f4=>unfold maxLen;omega
      case f5=>omega
      case f6=>omega
      have hb3:Below w.heap.size w w3:=hb02.grown hgrow3 (by omega) (fun j hj=>own_base hown1' hj)
      have hown4:w3.ownsRow w.heap.size 66 3 v3 (hvEv 0 (rs.take (k+1))).length (evCs (hvEv 0 (rs.take (k+1)))):=by
       rw [HE1.out,evCs_app,evCs_snoc,List.length_append,List.length_append,← HM.out]
       exact hown3
      go_roundw
      case rel=>exact ⟨k+1,by omega,by go_num,hown4,hb3⟩
      case measure=>simp [intOf];omega
  · obtain rfl:k=rs.length:=by omega
    rw [List.take_length] at hown
    go_wp2
    go_ret
    exact ⟨_,rfl,hown,hb⟩
theorem hmEv_take {rs:List Rg} {k:Nat} {r:Rg} (h:rs[k]?=some r):hmEv 0 (rs.take (k+1))=hmEv 0 (rs.take k)++[(7,(k:Int),1)]++hmEv1 r.v:=by
 have hlt:k<rs.length:=(List.getElem?_eq_some_iff.1 h).1
 rw [List.take_add_one,h]
 show hmEv 0 (rs.take k++[r])=_
 rw [hmEv_snoc,List.length_take,Nat.min_eq_left (Nat.le_of_lt hlt),Nat.zero_add]
 simp
theorem hmEv1_length (v:Int):(hmEv1 v).length≤4096:=by
 unfold hmEv1
 split
 · simp
 · rw [locEv_length,List.length_range];unfold edgeN;split <;> omega
theorem hmEv_length:∀ (i:Nat) (l:List Rg),(hmEv i l).length≤4097*l.length
 | i,[]=>by simp [hmEv]
 | i,x::l=>by
   have h:=hmEv_length (i+1) l
   have h2:=hmEv1_length x.v
   simp only [hmEv,List.length_cons,List.length_append]
   omega
theorem rhmEv_any (rs:List Rg) (A:Option Addr) (c:Nat) (w:World) (hs:Sl w w.heap.size A (rgCells rs)) (hn:rs.length≤64) (hv:∀ r∈rs,r.v=0∨3≤r.v∧r.v≤64) :
 Calls Tryz.prog 115 #[.slice A rs.length c] w (Evo (hmEv 0 rs) w):=by
 obtain ⟨i0,hi,hz0,hz1,hz2⟩:=info_parts ev_info
 have HS:=hide hs;have HV:=hide hv
 clear hs hv
 go_enter Tryz.func115,Tryz.ntmps115
 go_wp2
 go_loopw [3,4] (fun l i wr=>∃ (k:Nat),k≤rs.length∧i=.int .i64 k∧wr.ownsRow w.heap.size 66 3 l (hmEv 0 (rs.take k)).length (evCs (hmEv 0 (rs.take k)))∧Below w.heap.size w wr)
  (fun _ i _=>rs.length - (intOf i).toNat)
 case atStart=>exact ⟨0,by omega,rfl,by simpa [hmEv,evCs] using World.ownsRow_nil _ _ _ _,Below.refl _ _⟩
 case round =>
  obtain ⟨k,hk,rfl,hown,hb⟩:=hrel
  by_cases hlt:k<rs.length
  · obtain ⟨r,hr⟩:∃ r,rs[k]?=some r:=⟨_,List.getElem?_eq_getElem hlt⟩
    have hvr:=HV.out r (List.mem_of_getElem? hr)
    obtain ⟨b,off,rfl,hB,q0,q1,q2⟩:=HS.out.rg hr
    have HE:=hide (hmEv_take hr)
    have hlti:((k:Nat):Int)<((rs.length:Nat):Int):=by omega
    have hlen:=hmEv_length 0 (rs.take k)
    rw [List.length_take] at hlen
    obtain ⟨pre,hpre⟩:∃ pre,pre=hmEv 0 (rs.take k):=⟨_,rfl⟩
    rw [← hpre] at hown HE hlen
    obtain ⟨m,hm⟩:∃ m,m=pre.length:=⟨_,rfl⟩
    rw [← hm] at hown hlen
    have HM:=hide hm
    obtain ⟨d,v,RA,n,c⟩:=r
    dsimp only at *
    clear hr hpre hm q0 q2
    have hm5:m≤262208:=by omega
    have hbz:w.heap.size≤wr.heap.size:=hb.size
    have HQ:=hide (fun (w':World) (h:Below w.heap.size w w')=>(h.cell (p:=⟨b,off+k*3+1,none⟩) hB).trans q1)
    obtain ⟨lA,lc,rfl,_⟩:=own_slice hown
    clear q1 hlen
    by_cases hv0:v=0
    · subst hv0
      have HE1:Hid (hmEv 0 (rs.take (k+1))=pre++[(7,(k:Int),1)]++[(6,0,0)]):=HE
      clear HE
      go_wp2_with (first
       | (at_builtin;refine wpList_append_own _ rfl (.tmp 11) (.tmp 14) 27 rfl w.heap.size 66 i0 (.agg #[.int .i64 0,.int .i64 0,.int .i64 0]) 3 24 Tryz.underlying27 hi hz0 hz1 hz2 rfl (by decide) _ m _ rfl (hown.alloc _) ⟨wr.heap.size,0,none⟩ 1 1 [.int .i64 7,.int .i64 (k:Int),.int .i64 1] rfl rfl ?a1 ?a2 ?a3 ?a4 ?a5 ?_;rotate_right;intro v1 w1 hown1 hgrow1 _;have hb1:Below w.heap.size w w1:=(hb.alloc hb.size _).grown hgrow1 (by rw [World.size_alloc];omega) (fun j hj=>own_base hown hj);have d1:=HQ.out w1 hb1;have hbz1:w.heap.size≤w1.heap.size:=hb1.size;obtain ⟨lA1,lc1,rfl,_⟩:=own_slice hown1;have HB1:=hide hb1)
       | (at_builtin;refine wpList_append_own _ rfl (.tmp 22) (.tmp 24) 27 rfl w.heap.size 66 i0 (.agg #[.int .i64 0,.int .i64 0,.int .i64 0]) 3 24 Tryz.underlying27 hi hz0 hz1 hz2 rfl (by decide) _ (m+1) _ rfl (hown1.alloc _) ⟨w1.heap.size,0,none⟩ 1 1 [.int .i64 6,.int .i64 0,.int .i64 0] rfl rfl ?b1 ?b2 ?b3 ?b4 ?b5 ?_;rotate_right;intro v2 w2 hown2 hgrow2 _))
      try (case a1=>exact blk_cells (Blk.new _ _ _))
      case a2=>simp [Value.oneCell']
      case a3=>unfold maxLen;omega
      case a4=>omega
      case a5=>(try rw [World.size_alloc]);omega
      try (case b1=>exact blk_cells (Blk.new _ _ _))
      case b2=>simp [Value.oneCell']
      case b3=>unfold maxLen;omega
      case b4=>omega
      case b5=>(try rw [World.size_alloc]);omega
      have hb2:Below w.heap.size w w2:=(HB1.out.alloc HB1.out.size _).grown hgrow2 (by rw [World.size_alloc];omega) (fun j hj=>own_base hown1 hj)
      have hown3:w2.ownsRow w.heap.size 66 3 v2 (hmEv 0 (rs.take (k+1))).length (evCs (hmEv 0 (rs.take (k+1)))):=by
       rw [HE1.out,evCs_snoc,evCs_snoc,List.length_append,List.length_append,← HM.out]
       exact hown2
      go_roundw
      case rel=>exact ⟨k+1,by omega,by go_num,hown3,hb2⟩
      case measure=>simp [intOf];omega
    · obtain ⟨h3,h64⟩:=hvr.resolve_left hv0
      have HE1:Hid (hmEv 0 (rs.take (k+1))=pre++[(7,(k:Int),1)]++locEv (List.range (edgeN v.toNat))):=hide (HE.out.trans (by unfold hmEv1;rw [if_neg hv0]))
      clear HE
      go_wp2_with (first
       | (at_builtin;refine wpList_append_own _ rfl (.tmp 11) (.tmp 14) 27 rfl w.heap.size 66 i0 (.agg #[.int .i64 0,.int .i64 0,.int .i64 0]) 3 24 Tryz.underlying27 hi hz0 hz1 hz2 rfl (by decide) _ m _ rfl (hown.alloc _) ⟨wr.heap.size,0,none⟩ 1 1 [.int .i64 7,.int .i64 (k:Int),.int .i64 1] rfl rfl ?e1 ?e2 ?e3 ?e4 ?e5 ?_;rotate_right;intro v1 w1 hown1 hgrow1 _;have hb1:Below w.heap.size w w1:=(hb.alloc hb.size _).grown hgrow1 (by rw [World.size_alloc];omega) (fun j hj=>own_base hown hj);have d1:=HQ.out w1 hb1;have hbz1:w.heap.size≤w1.heap.size:=hb1.size;obtain ⟨lA1,lc1,rfl,_⟩:=own_slice hown1;have HB1:=hide hb1))
      case e1=>exact blk_cells (Blk.new _ _ _)
      case e2=>simp [Value.oneCell']
      case e3=>unfold maxLen;omega
      case e4=>omega
      case e5=>(try rw [World.size_alloc]);omega
      obtain ⟨es2,hes2⟩:∃ es2,es2=locEv (List.range (edgeN v.toNat)):=⟨_,rfl⟩
      have hpos:0<es2.length:=by rw [hes2];exact locEv_pos h3 h64
      have hl2:es2.length≤4096:=by
       have:=hmEv1_length v
       unfold hmEv1 at this
       rw [if_neg hv0] at this
       rw [hes2];exact this
      have HC:=rlocEv_any v w1
      rw [← hes2] at HC HE1
      refine HC.mono ?_
      clear HC hes2
      rintro e w2 ⟨v2,rfl,hown2,hb2⟩
      have hown1':=own_step hown1 hb2
      have hb02:Below w.heap.size w w2:=HB1.out.trans (hb2.mono hbz1)
      have hbz2:=hb02.size
      obtain ⟨g2,cap2,rfl,hg2,hgl2,_⟩:=own_form hown2 hpos
      have hcells:∀ j u,(evCs es2)[j]?=some u→w2.cell? ((⟨g2,0,none⟩:Addr).add j)=some u:=fun j u hu=>by
       have h:=Sl.of_own hown2
       rcases h with h | ⟨b',off',hA,_,hc⟩
       · rw [h] at hu;simp at hu
       · cases hA
         have h2:=hc j u hu
         rw [Nat.zero_add] at h2
         rw [add_zero_off]
         exact h2
      have HCL:=hide hcells
      clear hcells hown2 hb2 hown1 d1
      go_wp2_with (at_builtin;refine wpList_append_own _ rfl (.tmp 26) (.tmp 32) 27 rfl w.heap.size 66 i0 (.agg #[.int .i64 0,.int .i64 0,.int .i64 0]) 3 24 Tryz.underlying27 hi hz0 hz1 hz2 rfl (by decide) _ (m+1) _ rfl hown1' ⟨g2,0,none⟩ es2.length cap2 (evCs es2) rfl ?f1 ?f2 ?f3 ?f4 ?f5 ?f6 ?_;rotate_right;intro v3 w3 hown3 hgrow3 _)
      case f1=>exact evCs_length es2
      case f2=>exact HCL.out
      case f3=>exact evCs_one es2
      case f4=>unfold maxLen;omega
      case f5=>omega
      case f6=>omega
      have hb3:Below w.heap.size w w3:=hb02.grown hgrow3 (by omega) (fun j hj=>own_base hown1' hj)
      have hown4:w3.ownsRow w.heap.size 66 3 v3 (hmEv 0 (rs.take (k+1))).length (evCs (hmEv 0 (rs.take (k+1)))):=by
       rw [HE1.out,evCs_app,evCs_snoc,List.length_append,List.length_append,← HM.out]
       exact hown3
      go_roundw
      case rel=>exact ⟨k+1,by omega,by go_num,hown4,hb3⟩
      case measure=>simp [intOf];omega
  · obtain rfl:k=rs.length:=by omega
    rw [List.take_length] at hown
    go_wp2
    go_ret
    exact ⟨_,rfl,hown,hb⟩
end
section
open Go.RowKit Go.Shelf
theorem wpList_append_run {P:Program} {ops:Array Oper} {rest:List Oper} {o:Oper} {a:Act} {Q:Exit→Act→World→Prop} {w:World} (s x:Operand) (t:TypeId)
 (hop:o.op=Op.call { callee:=Callee.builtin Builtin.append,args:=#[s,x],argTypes:=#[t,t] }) (hw:Region.wanted o (yielded ops a.tmps)=true) (v xv:Value) (hs:a.eval s=v) (hx:a.eval x=xv) {v':Value} {w':World}
 (hrun:(Builtin.append_ #[t,t] o.type #[v,xv]).run P w=.ok v' w') (h:wpList P ops Q rest (a.put o.dst v') w'):wpList P ops Q (o::rest) a w:=by
 unfold wpList
 rw [if_pos hw]
 left
 unfold Oper.wp
 simp [execOp,hop,resolve,invoke,builtin,hs,hx,hrun,Result.andThen]
 exact h
end
end Go.Proofs.YtfljlmleiggmjaaGreatDoor
