/- RefEvents RefEvents16 EvAppend RefEvents19 -/
import Derived.Test.YtfljlmleiggmjaaGreatDoorPkD24
set_option maxRecDepth 1000000
set_option maxHeartbeats 8000000
namespace Go.Proofs.YtfljlmleiggmjaaGreatDoor
open Go.Proofs.Tryz
open List (getElem_toArray getElem_cons_succ getElem_cons_zero setIfInBounds_toArray set_cons_zero set_cons_succ)
section
open Go.RowKit
def dB(es:List Ev)(w:World)(e:Ending)(w':World):Prop:=∃ v,e=.returned v/\w'.ownsRow w.heap.size 66 3 v es.length (Y5 es)/\Below w.heap.size w w'
theorem AV(k:Nat):YG (List.range (k+1))=YG (List.range k)++[(5,(k:Int),0)]:=by simp [YG,List.range_succ]
theorem sQ(n k:Nat):UQ n (List.range (k+1))=UQ n (List.range k)++PG k ((k+1) % n) n:=by rw [List.range_succ,ER]
theorem VE(l:List Nat):(YG l).length=l.length:=by simp [YG]
theorem QY(a b:List Ev):Y5 (a++b)=Y5 a++Y5 b:=by simp [Y5]
theorem KX(n:Int)(w:World):Calls prog 113 #[.int .i64 n] w (dB (YG (List.range (ZA n.toNat))) w):=by
 obtain ⟨i0,hi,hz0,hz1,hz2⟩:=info_parts V8
 by_cases hn:3<=n/\n<=64
 · obtain ⟨h3,h64⟩:=hn;obtain ⟨N,rfl⟩:∃ N:Nat,n=(N:Int):=⟨n.toNat,by omega⟩;have hE:ZA ((N:Int)).toNat=N:=(by unfold ZA;rw [Int.toNat_natCast,if_pos (by omega)]);rw [hE];clear hE;go_enter func113,ntmps113;go_wp2
   go_loopw [3,4] (fun l i wr=>∃ (k:Nat),k<=N/\i=.int .i64 k/\wr.ownsRow w.heap.size 66 3 l k (Y5 (YG (List.range k)))/\Below w.heap.size w wr)
    (fun _ i _=>N - (intOf i).toNat)
   case atStart=>exact ⟨0,by omega,rfl,World.ownsRow_nil _ _ _ _,Below.refl _ _⟩
   case round =>
    obtain ⟨k,hk,rfl,ZQ,hb⟩:=hrel
    by_cases hlt:k<N
    · have Uj:((k:Nat):Int)<((N:Nat):Int):=(by omega);have hbz:w.heap.size<=wr.heap.size:=hb.size;obtain ⟨lA,lc,rfl,_⟩:=ZJ ZQ;go_wp2_with (at_builtin;refine wpList_append_own _ rfl (.tmp 18) (.tmp 21) 27 rfl w.heap.size 66 i0 (.agg #[.int .i64 0,.int .i64 0,.int .i64 0]) 3 24 underlying27 hi hz0 hz1 hz2 rfl (by decide) _ k _ rfl (ZQ.alloc _) ⟨wr.heap.size,0,none⟩ 1 1 [.int .i64 5,.int .i64 (k:Int),.int .i64 0] rfl rfl ?a1 ?a2 ?a3 ?a4 ?a5 ?_;rotate_right;intro v' w1 Zn ZL hnil)
      case a1=>exact ZI (Z6.new _ _ _)
      case a2=>simp [Value.oneCell']
      case a3=>unfold maxLen;omega
      case a4=>omega
      case a5=>rw [World.size_alloc];omega
      have hb1:Below w.heap.size w w1:=(hb.alloc hb.size _).grown ZL (by rw [World.size_alloc];omega) (fun j hj=>ZP ZQ hj);have Zj:w1.ownsRow w.heap.size 66 3 v' (k+1) (Y5 (YG (List.range (k+1)))):=(by rw [AV,Yb];exact Zn);go_roundw
      case rel=>exact ⟨k+1,by omega,by go_num,Zj,hb1⟩
      case measure=>simp [intOf];omega
    · obtain rfl:k=N:=(by omega);go_wp2;go_ret;exact ⟨_,rfl,by rw [VE,List.length_range];exact ZQ,hb⟩
 · have hE:ZA n.toNat=0:=(by unfold ZA;rw [if_neg (by omega)]);rw [hE];clear hE;have hc:n<=0\/(0<n/\n<3)\/(0<n/\3<=n/\64<n):=(by omega);rcases hc with h|⟨h,h2⟩|⟨h,h2,h3⟩
   all_goals
    clear hn;go_enter func113,ntmps113;go_wp2
    go_loopw [3,4] (fun l i wr=>l=.slice none 0 0/\i=.int .i64 0/\wr=w) (fun _ _ _=>0)
    case atStart=>exact ⟨rfl,rfl,rfl⟩
    case round =>
     obtain ⟨rfl,rfl,rfl⟩:=hrel;go_wp2;go_ret;exact ⟨_,rfl,World.ownsRow_nil _ _ _ _,Below.refl _ _⟩
theorem TP(n k:Nat):(UQ n (List.range k)).length<=k*n:=by
 have h:=Tj n (List.range k);rwa [List.length_range] at h
theorem K9(n:Int)(w:World):Calls prog 112 #[.int .i64 n] w (dB (UQ n.toNat (List.range (ZA n.toNat))) w):=by
 obtain ⟨i0,hi,hz0,hz1,hz2⟩:=info_parts V8
 by_cases hn:3<=n/\n<=64
 · obtain ⟨h3,h64⟩:=hn;obtain ⟨N,rfl⟩:∃ N:Nat,n=(N:Int):=⟨n.toNat,by omega⟩;have hE:ZA ((N:Int)).toNat=N:=(by unfold ZA;rw [Int.toNat_natCast,if_pos (by omega)]);rw [hE,Int.toNat_natCast];clear hE;go_enter func112,ntmps112;go_wp2
   go_loopw [3,4] (fun l i wr=>∃ (k:Nat),k<=N/\i=.int .i64 k/\wr.ownsRow w.heap.size 66 3 l (UQ N (List.range k)).length (Y5 (UQ N (List.range k)))/\Below w.heap.size w wr)
    (fun _ i _=>N - (intOf i).toNat)
   case atStart=>exact ⟨0,by omega,rfl,by simpa [UQ,Y5] using World.ownsRow_nil _ _ _ _,Below.refl _ _⟩
   case round =>
    obtain ⟨x,hx,rfl,ZQ,hb⟩:=hrel
    by_cases hlt:x<N
    · have Uj:((x:Nat):Int)<((N:Nat):Int):=(by omega);obtain ⟨nx,hnx⟩:=eE ((x+1) % N);have hm:((x:Int)+1) % ((N:Nat):Int)=(nx:Int):=(by rw [hnx];rfl);have hm2:((x:Int)+1).tmod ((N:Nat):Int)=(nx:Int):=(by rw [Int.tmod_eq_emod_of_nonneg (by omega)];exact hm);have hw1:IntKind.i64.wrap ((x:Int)+1)=(x:Int)+1:=(by rw [IntKind.wrap_i64];omega);have HS:=hide (sQ N x);rw [<- hnx] at HS;have hpl:=TP N x;have zhk:x*N<=64*64:=Nat.mul_le_mul (by omega) (by omega);obtain ⟨pre,hpre⟩:=eE (UQ N (List.range x));rw [<- hpre] at ZQ HS hpl;have hp0:PG x nx 0=[]:=rfl;clear hnx hpre;go_wp2
      go_loopw [3,5] (fun l j wr2=>∃ (k:Nat),k<=N/\j=.int .i64 k/\wr2.ownsRow w.heap.size 66 3 l (pre++PG x nx k).length (Y5 (pre++PG x nx k))/\Below w.heap.size w wr2)
       (fun _ j _=>N - (intOf j).toNat)
      case atStart=>exact ⟨0,by omega,rfl,by rw [hp0,List.append_nil];exact ZQ,hb⟩
      case round =>
       obtain ⟨k,hk,rfl,Zj,hb2⟩:=hrel
       by_cases hkl:k<N
       · have zgw:((k:Nat):Int)<((N:Nat):Int):=(by omega);have hel:=PI x nx k;have hlen:(pre++PG x nx k).length<=5000:=(by rw [List.length_append];omega);obtain ⟨q,hq⟩:=eE ((pre++PG x nx k).length);rw [<- hq] at Zj hlen;have HQ:=hide hq;clear hq;obtain ⟨lA,lc,rfl,_⟩:=ZJ Zj
         by_cases hkx:k=x\/k=nx
         · have hev:=Ov (x:=x) (nx:=nx) (k:=k) hkx;have zmo:=hide hev;have hcases:((k:Int) != (x:Int))=false\/(((k:Int) != (x:Int))=true/\((k:Int) != (nx:Int))=false):=by
            by_cases h:k=x
            · left;simp [h]
            · right;rcases hkx with h'|h'
              · exact absurd h' h
              · refine ⟨?_,by simp [h']⟩;simp;omega
           clear hkx hev;rcases hcases with e1|⟨e1,e2⟩
           · go_wp2;go_roundw
             case rel=>exact ⟨k+1,by omega,by go_num,by rw [zmo.out,<- HQ.out];exact Zj,hb2⟩
             case measure=>simp [intOf];omega
           · go_wp2;go_roundw
             case rel=>exact ⟨k+1,by omega,by go_num,by rw [zmo.out,<- HQ.out];exact Zj,hb2⟩
             case measure=>simp [intOf];omega
         · have zoq:k≠x:=fun h=>hkx (.inl h);have zor:k≠nx:=fun h=>hkx (.inr h);have RO:=hide (Kj zoq zor);have e1:((k:Int) != (x:Int))=true:=(by simp;omega);have e2:((k:Int) != (nx:Int))=true:=(by simp;omega);have hbz:w.heap.size<=wr.heap.size:=hb2.size;clear hkx zoq zor;go_wp2_with (at_builtin;refine wpList_append_own _ rfl (.tmp 35) (.tmp 39) 27 rfl w.heap.size 66 i0 (.agg #[.int .i64 0,.int .i64 0,.int .i64 0]) 3 24 underlying27 hi hz0 hz1 hz2 rfl (by decide) _ q _ rfl (Zj.alloc _) ⟨wr.heap.size,0,none⟩ 1 1 [.int .i64 4,.int .i64 (x:Int),.int .i64 (k:Int)] rfl rfl ?a1 ?a2 ?a3 ?a4 ?a5 ?_;rotate_right;intro v' w1 Zn ZL hnil)
           case a1=>exact ZI (Z6.new _ _ _)
           case a2=>simp [Value.oneCell']
           case a3=>unfold maxLen;omega
           case a4=>omega
           case a5=>rw [World.size_alloc];omega
           have hb1:Below w.heap.size w w1:=(hb2.alloc hb2.size _).grown ZL (by rw [World.size_alloc];omega) (fun j hj=>ZP Zj hj);have ZM:w1.ownsRow w.heap.size 66 3 v' (pre++PG x nx (k+1)).length (Y5 (pre++PG x nx (k+1))):=by
            rw [RO.out,<- List.append_assoc,Yb,List.length_append,<- HQ.out];exact Zn
           go_roundw
           case rel=>exact ⟨k+1,by omega,by go_num,ZM,hb1⟩
           case measure=>simp [intOf];omega
       · obtain rfl:k=N:=(by omega);rw [<- HS.out] at Zj;go_wp2;go_roundw
         case rel=>exact ⟨x+1,by omega,by go_num,Zj,hb2⟩
         case measure=>simp [intOf];omega
    · obtain rfl:x=N:=(by omega);go_wp2;go_ret;exact ⟨_,rfl,ZQ,hb⟩
 · have hE:ZA n.toNat=0:=(by unfold ZA;rw [if_neg (by omega)]);rw [hE];clear hE;have hc:n<=0\/(0<n/\n<3)\/(0<n/\3<=n/\64<n):=(by omega);rcases hc with h|⟨h,h2⟩|⟨h,h2,h3⟩
   all_goals
    clear hn;go_enter func112,ntmps112;go_wp2
    go_loopw [3,4] (fun l i wr=>l=.slice none 0 0/\i=.int .i64 0/\wr=w) (fun _ _ _=>0)
    case atStart=>exact ⟨rfl,rfl,rfl⟩
    case round =>
     obtain ⟨rfl,rfl,rfl⟩:=hrel;go_wp2;go_ret;exact ⟨_,rfl,World.ownsRow_nil _ _ _ _,Below.refl _ _⟩
theorem YS(g j:Nat):(⟨g,0,none⟩:Addr).add j=⟨g,j,none⟩:=by unfold Addr.add;split <;> simp_all
theorem Dl{v:Int}(h3:3<=v)(h64:v<=64):ZA v.toNat=v.toNat:=by unfold ZA;rw [if_pos (by omega)]
theorem lS{v:Int}(h3:3<=v)(h64:v<=64):0<(UQ v.toNat (List.range (ZA v.toNat))).length:=by
 rw [Dl h3 h64];refine List.length_pos_of_mem (a:=(4,((0:Nat):Int),((2:Nat):Int))) ?_;unfold UQ;refine List.mem_flatMap.2 ⟨0,List.mem_range.2 (by omega),?_⟩;unfold PG;refine List.mem_map.2 ⟨2,List.mem_filter.2 ⟨List.mem_range.2 (by omega),?_⟩,rfl⟩;have:(0+1) % v.toNat=1:=Nat.mod_eq_of_lt (by omega);rw [this];decide
theorem Io{v:Int}(h3:3<=v)(h64:v<=64):0<(YG (List.range (ZA v.toNat))).length:=by
 rw [Dl h3 h64,VE,List.length_range];omega
theorem I7(n:Nat):(UQ n (List.range (ZA n))).length<=4096:=by
 have h:=TP n (ZA n)
 by_cases h64:3<=n/\n<=64
 · have e:ZA n=n:=(by unfold ZA;rw [if_pos h64]);rw [e] at h ⊢;exact Nat.le_trans h (Nat.mul_le_mul h64.2 h64.2)
 · have e:ZA n=0:=(by unfold ZA;rw [if_neg h64]);rw [e] at h ⊢;omega
def Ux(v:Int):List Ev:=if v=0 then [(4,0,2)] else UQ v.toNat (List.range (ZA v.toNat))
def Xe:Nat->List Rg->List Ev
 | _,[]=>[]
 | i,r::rs=>(7,(i:Int),0)::(Ux r.v++Xe (i+1) rs)
theorem NP:∀ (i:Nat) (l:List Rg) (r:Rg),Xe i (l++[r])=Xe i l++((7,((i+l.length:Nat):Int),0)::Ux r.v)
 | i,[],r=>by simp [Xe]
 | i,x::l,r=>by
   have h:=NP (i+1) l r;have e:i+1+l.length=i+(x::l).length:=(by simp;omega);rw [List.cons_append,Xe,h,Xe,e];simp
theorem vV{rs:List Rg}{k:Nat}{r:Rg}(h:rs[k]?=some r):Xe 0 (rs.take (k+1))=Xe 0 (rs.take k)++[(7,(k:Int),0)]++Ux r.v:=by
 have hlt:k<rs.length:=(List.getElem?_eq_some_iff.1 h).1;rw [List.take_add_one,h];show Xe 0 (rs.take k++[r])=_;rw [NP,List.length_take,Nat.min_eq_left (Nat.le_of_lt hlt),Nat.zero_add];simp
theorem SN(v:Int):(Ux v).length<=4096:=by
 unfold Ux;split
 · simp
 · have h:=I7 v.toNat;exact h
theorem WJ:∀ (i:Nat) (l:List Rg),(Xe i l).length<=4097*l.length
 | i,[]=>by simp [Xe]
 | i,x::l=>by
   have h:=WJ (i+1) l;have h2:=SN x.v;simp only [Xe,List.length_cons,List.length_append];omega
theorem I9(rs:List Rg)(A:Option Addr)(c:Nat)(w:World)(hs:Sl w w.heap.size A (rgCells rs))(hn:rs.length<=64)(hv:∀ r∈rs,r.v=0\/3<=r.v/\r.v<=64):
 Calls prog 114 #[.slice A rs.length c] w (dB (Xe 0 rs) w):=by
 obtain ⟨i0,hi,hz0,hz1,hz2⟩:=info_parts V8;have HS:=hide hs;have HV:=hide hv;clear hs hv;go_enter func114,ntmps114;go_wp2
 go_loopw [3,4] (fun l i wr=>∃ (k:Nat),k<=rs.length/\i=.int .i64 k/\wr.ownsRow w.heap.size 66 3 l (Xe 0 (rs.take k)).length (Y5 (Xe 0 (rs.take k)))/\Below w.heap.size w wr)
  (fun _ i _=>rs.length - (intOf i).toNat)
 case atStart=>exact ⟨0,by omega,rfl,by simpa [Xe,Y5] using World.ownsRow_nil _ _ _ _,Below.refl _ _⟩
 case round =>
  obtain ⟨k,hk,rfl,ZQ,hb⟩:=hrel
  by_cases hlt:k<rs.length
  · obtain ⟨r,hr⟩:∃ r,rs[k]?=some r:=⟨_,List.getElem?_eq_getElem hlt⟩;have hvr:=HV.out r (List.mem_of_getElem? hr);obtain ⟨b,off,rfl,hB,q0,q1,q2⟩:=HS.out.rg hr;have HE:=hide (vV hr);have Uj:((k:Nat):Int)<((rs.length:Nat):Int):=(by omega);have hlen:=WJ 0 (rs.take k);rw [List.length_take] at hlen;obtain ⟨pre,hpre⟩:=eE (Xe 0 (rs.take k));rw [<- hpre] at ZQ HE hlen;obtain ⟨m,hm⟩:=eE pre.length;rw [<- hm] at ZQ hlen;have HM:=hide hm;obtain ⟨d,v,RA,n,c⟩:=r;dsimp only at *;clear hr hpre hm q0 q2;have hm5:m<=262208:=(by omega);have hbz:w.heap.size<=wr.heap.size:=hb.size;have HQ:=hide (fun (w':World) (h:Below w.heap.size w w')=>(h.cell (p:=⟨b,off+k*3+1,none⟩) hB).trans q1);obtain ⟨lA,lc,rfl,_⟩:=ZJ ZQ;clear q1 hlen
    by_cases hv0:v=0
    · subst hv0;have NZ:Hid (Xe 0 (rs.take (k+1))=pre++[(7,(k:Int),0)]++[(4,0,2)]):=HE;clear HE
      go_wp2_with (first
       | (at_builtin;refine wpList_append_own _ rfl (.tmp 11) (.tmp 14) 27 rfl w.heap.size 66 i0 (.agg #[.int .i64 0,.int .i64 0,.int .i64 0]) 3 24 underlying27 hi hz0 hz1 hz2 rfl (by decide) _ m _ rfl (ZQ.alloc _) ⟨wr.heap.size,0,none⟩ 1 1 [.int .i64 7,.int .i64 (k:Int),.int .i64 0] rfl rfl ?a1 ?a2 ?a3 ?a4 ?a5 ?_;rotate_right;intro v1 w1 Zn PV _;have hb1:Below w.heap.size w w1:=(hb.alloc hb.size _).grown PV (by rw [World.size_alloc];omega) (fun j hj=>ZP ZQ hj);have d1:=HQ.out w1 hb1;have o8:w.heap.size<=w1.heap.size:=hb1.size;obtain ⟨lA1,lc1,rfl,_⟩:=ZJ Zn;have HB1:=hide hb1)
       | (at_builtin;refine wpList_append_own _ rfl (.tmp 22) (.tmp 24) 27 rfl w.heap.size 66 i0 (.agg #[.int .i64 0,.int .i64 0,.int .i64 0]) 3 24 underlying27 hi hz0 hz1 hz2 rfl (by decide) _ (m+1) _ rfl (Zn.alloc _) ⟨w1.heap.size,0,none⟩ 1 1 [.int .i64 4,.int .i64 0,.int .i64 2] rfl rfl ?b1 ?b2 ?b3 ?b4 ?b5 ?_;rotate_right;intro v2 w2 Zj Yj _))
      try (case a1=>exact ZI (Z6.new _ _ _))
      case a2=>simp [Value.oneCell']
      case a3=>unfold maxLen;omega
      case a4=>omega
      case a5=>(try rw [World.size_alloc]);omega
      try (case b1=>exact ZI (Z6.new _ _ _))
      case b2=>simp [Value.oneCell']
      case b3=>unfold maxLen;omega
      case b4=>omega
      case b5=>(try rw [World.size_alloc]);omega
      have hb2:Below w.heap.size w w2:=(HB1.out.alloc HB1.out.size _).grown Yj (by rw [World.size_alloc];omega) (fun j hj=>ZP Zn hj);have ZM:w2.ownsRow w.heap.size 66 3 v2 (Xe 0 (rs.take (k+1))).length (Y5 (Xe 0 (rs.take (k+1)))):=by
       rw [NZ.out,Yb,Yb,List.length_append,List.length_append,<- HM.out];exact Zj
      go_roundw
      case rel=>exact ⟨k+1,by omega,by go_num,ZM,hb2⟩
      case measure=>simp [intOf];omega
    · obtain ⟨h3,h64⟩:=hvr.resolve_left hv0;have NZ:Hid (Xe 0 (rs.take (k+1))=pre++[(7,(k:Int),0)]++UQ v.toNat (List.range (ZA v.toNat))):=hide (HE.out.trans (by unfold Ux;rw [if_neg hv0]));clear HE
      go_wp2_with (first
       | (at_builtin;refine wpList_append_own _ rfl (.tmp 11) (.tmp 14) 27 rfl w.heap.size 66 i0 (.agg #[.int .i64 0,.int .i64 0,.int .i64 0]) 3 24 underlying27 hi hz0 hz1 hz2 rfl (by decide) _ m _ rfl (ZQ.alloc _) ⟨wr.heap.size,0,none⟩ 1 1 [.int .i64 7,.int .i64 (k:Int),.int .i64 0] rfl rfl ?e1 ?e2 ?e3 ?e4 ?e5 ?_;rotate_right;intro v1 w1 Zn PV _;have hb1:Below w.heap.size w w1:=(hb.alloc hb.size _).grown PV (by rw [World.size_alloc];omega) (fun j hj=>ZP ZQ hj);have d1:=HQ.out w1 hb1;have o8:w.heap.size<=w1.heap.size:=hb1.size;obtain ⟨lA1,lc1,rfl,_⟩:=ZJ Zn;have HB1:=hide hb1))
      case e1=>exact ZI (Z6.new _ _ _)
      case e2=>simp [Value.oneCell']
      case e3=>unfold maxLen;omega
      case e4=>omega
      case e5=>(try rw [World.size_alloc]);omega
      obtain ⟨es2,FQ⟩:=eE (UQ v.toNat (List.range (ZA v.toNat)));have hpos:0<es2.length:=(by rw [FQ];exact lS h3 h64);have hl2:es2.length<=4096:=by
       have:=SN v;unfold Ux at this;rw [if_neg hv0] at this;rw [FQ];exact this
      have HC:=K9 v w1;rw [<- FQ] at HC NZ;refine HC.mono ?_;clear HC FQ;rintro e w2 ⟨v2,rfl,Zj,hb2⟩;have Vi:=ZO Zn hb2;have oP:Below w.heap.size w w2:=HB1.out.trans (hb2.mono o8);have zjs:=oP.size;obtain ⟨g2,cap2,rfl,hg2,iM,_⟩:=Wn Zj hpos
      have hcells:∀ j u,(Y5 es2)[j]?=some u->w2.cell? ((⟨g2,0,none⟩:Addr).add j)=some u:=fun j u hu=>by
       have h:=Sl.YI Zj;rcases h with h|⟨b',off',hA,_,hc⟩
       · rw [h] at hu;simp at hu
       · cases hA;have h2:=hc j u hu;rw [Nat.zero_add] at h2;rw [YS];exact h2
      have RN:=hide hcells;clear hcells Zj hb2 Zn d1;go_wp2_with (at_builtin;refine wpList_append_own _ rfl (.tmp 26) (.tmp 32) 27 rfl w.heap.size 66 i0 (.agg #[.int .i64 0,.int .i64 0,.int .i64 0]) 3 24 underlying27 hi hz0 hz1 hz2 rfl (by decide) _ (m+1) _ rfl Vi ⟨g2,0,none⟩ es2.length cap2 (Y5 es2) rfl ?f1 ?f2 ?f3 ?f4 ?f5 ?f6 ?_;rotate_right;intro v3 w3 ZM ZE _)
      case f1=>exact WH es2
      case f2=>exact RN.out
      case f3=>exact TB es2
      case f4=>unfold maxLen;omega
      case f5=>omega
      case f6=>omega
      have hb3:Below w.heap.size w w3:=oP.grown ZE (by omega) (fun j hj=>ZP Vi hj);have Y9:w3.ownsRow w.heap.size 66 3 v3 (Xe 0 (rs.take (k+1))).length (Y5 (Xe 0 (rs.take (k+1)))):=by
       rw [NZ.out,QY,Yb,List.length_append,List.length_append,<- HM.out];exact ZM
      go_roundw
      case rel=>exact ⟨k+1,by omega,by go_num,Y9,hb3⟩
      case measure=>simp [intOf];omega
  · obtain rfl:k=rs.length:=(by omega);rw [List.take_length] at ZQ;go_wp2;go_ret;exact ⟨_,rfl,ZQ,hb⟩
def U8(v:Int):List Ev:=if v=0 then [(6,0,0)] else YG (List.range (ZA v.toNat))
def XH:Nat->List Rg->List Ev
 | _,[]=>[]
 | i,r::rs=>(7,(i:Int),1)::(U8 r.v++XH (i+1) rs)
theorem NJ:∀ (i:Nat) (l:List Rg) (r:Rg),XH i (l++[r])=XH i l++((7,((i+l.length:Nat):Int),1)::U8 r.v)
 | i,[],r=>by simp [XH]
 | i,x::l,r=>by
   have h:=NJ (i+1) l r;have e:i+1+l.length=i+(x::l).length:=(by simp;omega);rw [List.cons_append,XH,h,XH,e];simp
theorem vO{rs:List Rg}{k:Nat}{r:Rg}(h:rs[k]?=some r):XH 0 (rs.take (k+1))=XH 0 (rs.take k)++[(7,(k:Int),1)]++U8 r.v:=by
 have hlt:k<rs.length:=(List.getElem?_eq_some_iff.1 h).1;rw [List.take_add_one,h];show XH 0 (rs.take k++[r])=_;rw [NJ,List.length_take,Nat.min_eq_left (Nat.le_of_lt hlt),Nat.zero_add];simp
theorem SL(v:Int):(U8 v).length<=4096:=by
 unfold U8;split
 · simp
 · rw [VE,List.length_range];unfold ZA;split <;> omega
theorem Rb:∀ (i:Nat) (l:List Rg),(XH i l).length<=4097*l.length
 | i,[]=>by simp [XH]
 | i,x::l=>by
   have h:=Rb (i+1) l;have h2:=SL x.v;simp only [XH,List.length_cons,List.length_append];omega
theorem I8(rs:List Rg)(A:Option Addr)(c:Nat)(w:World)(hs:Sl w w.heap.size A (rgCells rs))(hn:rs.length<=64)(hv:∀ r∈rs,r.v=0\/3<=r.v/\r.v<=64):
 Calls prog 115 #[.slice A rs.length c] w (dB (XH 0 rs) w):=by
 obtain ⟨i0,hi,hz0,hz1,hz2⟩:=info_parts V8;have HS:=hide hs;have HV:=hide hv;clear hs hv;go_enter func115,ntmps115;go_wp2
 go_loopw [3,4] (fun l i wr=>∃ (k:Nat),k<=rs.length/\i=.int .i64 k/\wr.ownsRow w.heap.size 66 3 l (XH 0 (rs.take k)).length (Y5 (XH 0 (rs.take k)))/\Below w.heap.size w wr)
  (fun _ i _=>rs.length - (intOf i).toNat)
 case atStart=>exact ⟨0,by omega,rfl,by simpa [XH,Y5] using World.ownsRow_nil _ _ _ _,Below.refl _ _⟩
 case round =>
  obtain ⟨k,hk,rfl,ZQ,hb⟩:=hrel
  by_cases hlt:k<rs.length
  · obtain ⟨r,hr⟩:∃ r,rs[k]?=some r:=⟨_,List.getElem?_eq_getElem hlt⟩;have hvr:=HV.out r (List.mem_of_getElem? hr);obtain ⟨b,off,rfl,hB,q0,q1,q2⟩:=HS.out.rg hr;have HE:=hide (vO hr);have Uj:((k:Nat):Int)<((rs.length:Nat):Int):=(by omega);have hlen:=Rb 0 (rs.take k);rw [List.length_take] at hlen;obtain ⟨pre,hpre⟩:=eE (XH 0 (rs.take k));rw [<- hpre] at ZQ HE hlen;obtain ⟨m,hm⟩:=eE pre.length;rw [<- hm] at ZQ hlen;have HM:=hide hm;obtain ⟨d,v,RA,n,c⟩:=r;dsimp only at *;clear hr hpre hm q0 q2;have hm5:m<=262208:=(by omega);have hbz:w.heap.size<=wr.heap.size:=hb.size;have HQ:=hide (fun (w':World) (h:Below w.heap.size w w')=>(h.cell (p:=⟨b,off+k*3+1,none⟩) hB).trans q1);obtain ⟨lA,lc,rfl,_⟩:=ZJ ZQ;clear q1 hlen
    by_cases hv0:v=0
    · subst hv0;have NZ:Hid (XH 0 (rs.take (k+1))=pre++[(7,(k:Int),1)]++[(6,0,0)]):=HE;clear HE
      go_wp2_with (first
       | (at_builtin;refine wpList_append_own _ rfl (.tmp 11) (.tmp 14) 27 rfl w.heap.size 66 i0 (.agg #[.int .i64 0,.int .i64 0,.int .i64 0]) 3 24 underlying27 hi hz0 hz1 hz2 rfl (by decide) _ m _ rfl (ZQ.alloc _) ⟨wr.heap.size,0,none⟩ 1 1 [.int .i64 7,.int .i64 (k:Int),.int .i64 1] rfl rfl ?a1 ?a2 ?a3 ?a4 ?a5 ?_;rotate_right;intro v1 w1 Zn PV _;have hb1:Below w.heap.size w w1:=(hb.alloc hb.size _).grown PV (by rw [World.size_alloc];omega) (fun j hj=>ZP ZQ hj);have d1:=HQ.out w1 hb1;have o8:w.heap.size<=w1.heap.size:=hb1.size;obtain ⟨lA1,lc1,rfl,_⟩:=ZJ Zn;have HB1:=hide hb1)
       | (at_builtin;refine wpList_append_own _ rfl (.tmp 22) (.tmp 24) 27 rfl w.heap.size 66 i0 (.agg #[.int .i64 0,.int .i64 0,.int .i64 0]) 3 24 underlying27 hi hz0 hz1 hz2 rfl (by decide) _ (m+1) _ rfl (Zn.alloc _) ⟨w1.heap.size,0,none⟩ 1 1 [.int .i64 6,.int .i64 0,.int .i64 0] rfl rfl ?b1 ?b2 ?b3 ?b4 ?b5 ?_;rotate_right;intro v2 w2 Zj Yj _))
      try (case a1=>exact ZI (Z6.new _ _ _))
      case a2=>simp [Value.oneCell']
      case a3=>unfold maxLen;omega
      case a4=>omega
      case a5=>(try rw [World.size_alloc]);omega
      try (case b1=>exact ZI (Z6.new _ _ _))
      case b2=>simp [Value.oneCell']
      case b3=>unfold maxLen;omega
      case b4=>omega
      case b5=>(try rw [World.size_alloc]);omega
      have hb2:Below w.heap.size w w2:=(HB1.out.alloc HB1.out.size _).grown Yj (by rw [World.size_alloc];omega) (fun j hj=>ZP Zn hj);have ZM:w2.ownsRow w.heap.size 66 3 v2 (XH 0 (rs.take (k+1))).length (Y5 (XH 0 (rs.take (k+1)))):=by
       rw [NZ.out,Yb,Yb,List.length_append,List.length_append,<- HM.out];exact Zj
      go_roundw
      case rel=>exact ⟨k+1,by omega,by go_num,ZM,hb2⟩
      case measure=>simp [intOf];omega
    · obtain ⟨h3,h64⟩:=hvr.resolve_left hv0;have NZ:Hid (XH 0 (rs.take (k+1))=pre++[(7,(k:Int),1)]++YG (List.range (ZA v.toNat))):=hide (HE.out.trans (by unfold U8;rw [if_neg hv0]));clear HE
      go_wp2_with (first
       | (at_builtin;refine wpList_append_own _ rfl (.tmp 11) (.tmp 14) 27 rfl w.heap.size 66 i0 (.agg #[.int .i64 0,.int .i64 0,.int .i64 0]) 3 24 underlying27 hi hz0 hz1 hz2 rfl (by decide) _ m _ rfl (ZQ.alloc _) ⟨wr.heap.size,0,none⟩ 1 1 [.int .i64 7,.int .i64 (k:Int),.int .i64 1] rfl rfl ?e1 ?e2 ?e3 ?e4 ?e5 ?_;rotate_right;intro v1 w1 Zn PV _;have hb1:Below w.heap.size w w1:=(hb.alloc hb.size _).grown PV (by rw [World.size_alloc];omega) (fun j hj=>ZP ZQ hj);have d1:=HQ.out w1 hb1;have o8:w.heap.size<=w1.heap.size:=hb1.size;obtain ⟨lA1,lc1,rfl,_⟩:=ZJ Zn;have HB1:=hide hb1))
      case e1=>exact ZI (Z6.new _ _ _)
      case e2=>simp [Value.oneCell']
      case e3=>unfold maxLen;omega
      case e4=>omega
      case e5=>(try rw [World.size_alloc]);omega
      obtain ⟨es2,FQ⟩:=eE (YG (List.range (ZA v.toNat)));have hpos:0<es2.length:=(by rw [FQ];exact Io h3 h64);have hl2:es2.length<=4096:=by
       have:=SL v;unfold U8 at this;rw [if_neg hv0] at this;rw [FQ];exact this
      have HC:=KX v w1;rw [<- FQ] at HC NZ;refine HC.mono ?_;clear HC FQ;rintro e w2 ⟨v2,rfl,Zj,hb2⟩;have Vi:=ZO Zn hb2;have oP:Below w.heap.size w w2:=HB1.out.trans (hb2.mono o8);have zjs:=oP.size;obtain ⟨g2,cap2,rfl,hg2,iM,_⟩:=Wn Zj hpos
      have hcells:∀ j u,(Y5 es2)[j]?=some u->w2.cell? ((⟨g2,0,none⟩:Addr).add j)=some u:=fun j u hu=>by
       have h:=Sl.YI Zj;rcases h with h|⟨b',off',hA,_,hc⟩
       · rw [h] at hu;simp at hu
       · cases hA;have h2:=hc j u hu;rw [Nat.zero_add] at h2;rw [YS];exact h2
      have RN:=hide hcells;clear hcells Zj hb2 Zn d1;go_wp2_with (at_builtin;refine wpList_append_own _ rfl (.tmp 26) (.tmp 32) 27 rfl w.heap.size 66 i0 (.agg #[.int .i64 0,.int .i64 0,.int .i64 0]) 3 24 underlying27 hi hz0 hz1 hz2 rfl (by decide) _ (m+1) _ rfl Vi ⟨g2,0,none⟩ es2.length cap2 (Y5 es2) rfl ?f1 ?f2 ?f3 ?f4 ?f5 ?f6 ?_;rotate_right;intro v3 w3 ZM ZE _)
      case f1=>exact WH es2
      case f2=>exact RN.out
      case f3=>exact TB es2
      case f4=>unfold maxLen;omega
      case f5=>omega
      case f6=>omega
      have hb3:Below w.heap.size w w3:=oP.grown ZE (by omega) (fun j hj=>ZP Vi hj);have Y9:w3.ownsRow w.heap.size 66 3 v3 (XH 0 (rs.take (k+1))).length (Y5 (XH 0 (rs.take (k+1)))):=by
       rw [NZ.out,QY,Yb,List.length_append,List.length_append,<- HM.out];exact ZM
      go_roundw
      case rel=>exact ⟨k+1,by omega,by go_num,Y9,hb3⟩
      case measure=>simp [intOf];omega
  · obtain rfl:k=rs.length:=(by omega);rw [List.take_length] at ZQ;go_wp2;go_ret;exact ⟨_,rfl,ZQ,hb⟩
end
section
open Go.RowKit Go.Shelf
theorem wpList_append_run {P:Program} {ops:Array Oper} {rest:List Oper} {o:Oper} {a:Act} {Q:Exit->Act->World->Prop} {w:World} (s x:Operand) (t:TypeId)
 (hop:o.op=Op.call { callee:=Callee.builtin Builtin.append,args:=#[s,x],argTypes:=#[t,t] }) (hw:Region.wanted o (yielded ops a.tmps)=true) (v xv:Value) (hs:a.eval s=v) (hx:a.eval x=xv) {v':Value} {w':World}
 (hrun:(Builtin.append_ #[t,t] o.type #[v,xv]).run P w=.ok v' w') (h:wpList P ops Q rest (a.put o.dst v') w'):wpList P ops Q (o::rest) a w:=by
 unfold wpList;rw [if_pos hw]
 left
 unfold Oper.wp;simp [execOp,hop,resolve,invoke,builtin,hs,hx,hrun,Result.andThen];exact h
theorem RJ {F:Fence} {n:Nat} {P:Program} {o:Oper} {a:Act} {w:World} {K:Act->World->Prop} {Q:Exit->Act->World->Prop} (s x:Operand) (t:TypeId)
 (hop:o.op=Op.call { callee:=Callee.builtin Builtin.append,args:=#[s,x],argTypes:=#[t,t] }) (v xv:Value) (hs:a.eval s=v) (hx:a.eval x=xv) {v':Value} {w':World}
 (hrun:(Builtin.append_ #[t,t] o.type #[v,xv]).run P w=.ok v' w') (hK:K (a.put o.dst v') w'):Oper.wpIn F n P o a w K Q:=by
 unfold Oper.wpIn;refine ⟨by simp [Oper.about,hop,resolve,Target.leads,Sem.run_pure],?_⟩;rw [Oper.semAt_plain F _ _ (by rw [hop];intro c hc';cases hc')];simp [execOp,hop,resolve,invoke,builtin,hs,hx,hrun,Result.andThen];exact hK
def mG(op vs:Int)(hrs:List Rg):List Ev :=
 if op=3 then UQ vs.toNat (List.range (ZA vs.toNat))++YG (List.range (ZA vs.toNat)) else if op=4 then Xe 0 hrs++XH 0 hrs else []
theorem Eu(op vs Z0:Int)(hrs:List Rg)(HA:Option Addr)(hc:Nat)(w:World)(hh:Sl w w.heap.size HA (rgCells hrs))(h3:op=3->3<=vs/\vs<=64)(h4:op=4->1<=hrs.length/\hrs.length<=64/\∀ r∈hrs,r.v=0\/3<=r.v/\r.v<=64):
 Calls prog 66 #[.agg #[.int .i64 op,.int .i64 vs,.slice HA hrs.length hc,.int .i64 Z0]] w (Evs (mG op vs hrs) w):=by
 obtain ⟨i0,hi,hz0',hz1',hz2'⟩:=info_parts V8;have Wj:prog.follows .mixedOrders=true:=by kernel_rfl
 obtain ⟨w0,hw0⟩:=eE (w.alloc (.cells #[.int .i64 op,.int .i64 vs,.slice HA hrs.length hc,.int .i64 Z0] 24));have hb0:=bE hw0;have B0:Z6 w0 w.heap.size 24 #[.int .i64 op,.int .i64 vs,.slice HA hrs.length hc,.int .i64 Z0]:=by rw [hw0];exact Z6.new _ _ _
 by_cases o3:op=3
 · obtain ⟨hv3,hv64⟩:=h3 o3;subst o3;have hE:mG 3 vs hrs=UQ vs.toNat (List.range (ZA vs.toNat))++YG (List.range (ZA vs.toNat)):=rfl;rw [hE];have Tm:=hide (fun (w':World) (_:Below w0.drew.heap.size w0.drew w')=>K9 vs w');have Qp:=hide (fun (w':World) (_:Below w0.drew.heap.size w0.drew w')=>KX vs w');have hp:=Io hv3 hv64;have hl1:=SN vs;unfold Ux at hl1;rw [if_neg (by omega)] at hl1;have hl2:=SL vs;unfold U8 at hl2;rw [if_neg (by omega)] at hl2;obtain ⟨es1,he1⟩:=eE (UQ vs.toNat (List.range (ZA vs.toNat)));obtain ⟨es2,he2⟩:=eE (YG (List.range (ZA vs.toNat)));rw [<- he1] at Tm hl1;rw [<- he2] at Qp hp hl2;rw [<- he1,<- he2];have zwb:=hide hp;have Cv:Hid (es1.length<=262208):=hide (by omega);have HL2:Hid (es2.length<=262208):=hide (by omega);clear he1 he2 hE h3 h4 hh hp hl1 hl2 hv3 hv64;refine (callsIn_wide (n:=6)).1 ?_;refine callsIn_of_wp func66 rfl trivial ?_ rfl;simp only [ntmps66,List.size_toArray,List.length_cons,List.length_nil,Nat.reduceAdd,Nat.reduceSub,Array.replicate_succ,Array.replicate_zero,List.push_toArray,List.append_toArray,List.nil_append,List.cons_append];gi_wp2_with fail;rw [<- hw0];clear hw0;have hS:Z6 w0.drew w.heap.size 24 #[.int .i64 3,.int .i64 vs,.slice HA hrs.length hc,.int .i64 Z0]:=B0.drew;refine Xy 1000 (S:=fun w'=>Z6 w' w.heap.size 24 #[.int .i64 3,.int .i64 vs,.slice HA hrs.length hc,.int .i64 Z0]) Wj ?_;refine' ZU (i:=0) rfl ?Rh hS ?OY
   case Rh =>
    intro w' hSw;go_simp;rfl
   simp only [Act.put,getElem_toArray,getElem_cons_zero,setIfInBounds_toArray,set_cons_zero,set_cons_succ];refine' ZU (i:=1) rfl ?Ri hS ?OZ
   case Ri =>
    intro w' hSw;have z0:w'.cell? ⟨w.heap.size,1,none⟩=some (.int .i64 vs):=hSw.q1 rfl;go_simp;rfl
   simp only [Act.put,ZX];refine' ZU (i:=3) rfl ?zpv hS ?zln
   case zpv =>
    intro w' hSw;go_simp;rfl
   simp only [Act.put,ZX];refine' ZU (i:=4) rfl ?zpx hS ?zlp
   case zpx =>
    intro w' hSw;have z0:w'.cell? ⟨w.heap.size,1,none⟩=some (.int .i64 vs):=hSw.q1 rfl;go_simp;rfl
   simp only [Act.put,ZX];refine Yi (i:=2) (by kernel_rfl) rfl ?_;intro K hK;rw [if_pos (by rfl)];go_simp;refine ⟨trivial,?_⟩;refine (callsIn_wide.2 (Tm.out w0.drew (Below.refl _ _))).mono ?_;rintro e w1 ⟨v1,rfl,Zn,hb1⟩;have hS1:=hS.step hb1;refine hK.out _ _ (fun _=>hS1) ?_;clear hK K
   (try simp only [Act.put,ZX])
   refine Yi (i:=5) (by kernel_rfl) rfl ?_;intro K hK;rw [if_pos (by rfl)];go_simp;refine ⟨trivial,?_⟩;refine (callsIn_wide.2 (Qp.out w1 hb1)).mono ?_;rintro e w2 ⟨v2,rfl,Zj,hb2⟩;have hS2:=hS1.step hb2;refine hK.out _ _ (fun _=>hS2) ?_;clear hK K;have Vi:=ZO Zn hb2;have HB2:=Z9 (Z9 (ZV hb0) hb1) hb2;have hz:w.heap.size<=w2.heap.size:=HB2.size;have hz1:w0.drew.heap.size<=w2.heap.size:=Nat.le_trans hb1.size hb2.size;have hz0:w.heap.size<=w0.heap.size:=hb0.size;obtain ⟨g2,cap2,rfl,hg2,iM,_⟩:=Wn Zj zwb.out
   have hcells:∀ j u,(Y5 es2)[j]?=some u->w2.cell? ((⟨g2,0,none⟩:Addr).add j)=some u:=fun j u hu=>by
    have h:=Sl.YI Zj;rcases h with h|⟨b',off',hA,_,hc⟩
    · rw [h] at hu;simp at hu
    · cases hA;have h2:=hc j u hu;rw [Nat.zero_add] at h2;rw [YS];exact h2
   obtain ⟨v3,w3,hrun,ZM,ZE,_⟩:=run_append_own (P:=prog) w2 w0.drew.heap.size 27 27 66 i0 (.agg #[.int .i64 0,.int .i64 0,.int .i64 0]) 3 24 underlying27 hi hz0' hz1' hz2' rfl (by decide) v1 es1.length (Y5 es1) Vi ⟨g2,0,none⟩ es2.length cap2 (Y5 es2) (WH es2) hcells (TB es2) (by have h1:=Cv.out;have h2:=HL2.out;unfold maxLen;omega) (by have h1:=Cv.out;have h2:=HL2.out;omega) hz1;have hb3:Below w.heap.size w w3:=HB2.grown ZE hz (fun j hj=>Nat.le_trans hz0 (ZP Vi hj));have Ii:Z6 w3 w.heap.size 24 #[.int .i64 3,.int .i64 vs,.slice HA hrs.length hc,.int .i64 Z0]:=hS2.grown ZE (fun e=>by have h1:=ZP Vi e.symm;have h2:=B0.lt;have h3:w0.drew.heap.size=w0.heap.size:=rfl;omega);clear hcells Zn Zj
   (try simp only [Act.put,ZX])
   refine Yi (i:=6) (by kernel_rfl) rfl ?_;intro K hK;rw [if_pos (by rfl)];refine RJ (.tmp 9) (.tmp 12) 27 rfl v1 (.slice (some ⟨g2,0,none⟩) es2.length cap2) rfl rfl hrun ?_;refine hK.out _ _ (fun _=>Ii) ?_;clear hK K
   (try simp only [Act.put,ZX])
   refine' ZU (i:=7) rfl ?zqc Ii ?zlu
   case zqc =>
    intro w' hSw;go_simp;rfl
   simp only [Act.put,ZX];refine WG (by kernel_rfl) ?_ _;have Pw:Hid (∃ A c,v3=.slice A (es1++es2).length c/\Sl w3 w3.heap.size A (Y5 (es1++es2))):=by
    rw [<- QY,<- List.length_append] at ZM;obtain ⟨A3,c3,rfl,_⟩:=ZJ ZM;exact ⟨A3,c3,rfl,Sl.YI ZM⟩
   obtain ⟨A3,c3,rfl,pU⟩:=Pw.out;have ng:=hide pU;clear pU ZM ZE hrun Pw;gi_wp2;go_ret;exact ⟨A3,c3,rfl,ng.out,hb3⟩
 · by_cases o4:op=4
   · obtain ⟨hn1,Aj,hv⟩:=h4 o4;subst o4;have hE:mG 4 vs hrs=Xe 0 hrs++XH 0 hrs:=rfl;rw [hE];have HH:=hide hh;have Tm:=hide (fun (w':World) (h:Below w0.drew.heap.size w0.drew w')=>I9 hrs HA hc w' ((HH.out.below (Z9 (ZV hb0) h)).more (Z9 (ZV hb0) h).size) Aj hv);have Qp:=hide (fun (w':World) (h:Below w0.drew.heap.size w0.drew w')=>I8 hrs HA hc w' ((HH.out.below (Z9 (ZV hb0) h)).more (Z9 (ZV hb0) h).size) Aj hv);have hl1:=WJ 0 hrs;have hl2:=Rb 0 hrs;have hp:0<(XH 0 hrs).length:=by
      cases hrs with
      | nil=>simp at hn1
      | cons r rs=>simp [XH]
     obtain ⟨es1,he1⟩:=eE (Xe 0 hrs);obtain ⟨es2,he2⟩:=eE (XH 0 hrs);rw [<- he1] at Tm hl1;rw [<- he2] at Qp hp hl2;rw [<- he1,<- he2];have zwb:=hide hp;have Cv:Hid (es1.length<=262208):=hide (by omega);have HL2:Hid (es2.length<=262208):=hide (by omega);clear he1 he2 hE h3 h4 hh hp hl1 hl2 hn1 Aj hv o3;refine (callsIn_wide (n:=6)).1 ?_;refine callsIn_of_wp func66 rfl trivial ?_ rfl;simp only [ntmps66,List.size_toArray,List.length_cons,List.length_nil,Nat.reduceAdd,Nat.reduceSub,Array.replicate_succ,Array.replicate_zero,List.push_toArray,List.append_toArray,List.nil_append,List.cons_append];gi_wp2_with fail;rw [<- hw0];clear hw0;have hS:Z6 w0.drew w.heap.size 24 #[.int .i64 4,.int .i64 vs,.slice HA hrs.length hc,.int .i64 Z0]:=B0.drew;refine Xy 1000 (S:=fun w'=>Z6 w' w.heap.size 24 #[.int .i64 4,.int .i64 vs,.slice HA hrs.length hc,.int .i64 Z0]) Wj ?_;refine' ZU (i:=0) rfl ?zps hS ?zlk
     case zps =>
      intro w' hSw;go_simp;rfl
     simp only [Act.put,getElem_toArray,getElem_cons_zero,setIfInBounds_toArray,set_cons_zero,set_cons_succ];refine' ZU (i:=1) rfl ?zpu hS ?zlm
     case zpu =>
      intro w' hSw;have z0:w'.cell? ⟨w.heap.size,2,none⟩=some (.slice HA hrs.length hc):=hSw.q2 rfl;go_simp;rfl
     simp only [Act.put,ZX];refine' ZU (i:=3) rfl ?zpw hS ?zlo
     case zpw =>
      intro w' hSw;go_simp;rfl
     simp only [Act.put,ZX];refine' ZU (i:=4) rfl ?zpy hS ?zlq
     case zpy =>
      intro w' hSw;have z0:w'.cell? ⟨w.heap.size,2,none⟩=some (.slice HA hrs.length hc):=hSw.q2 rfl;go_simp;rfl
     simp only [Act.put,ZX];refine Yi (i:=2) (by kernel_rfl) rfl ?_;intro K hK;rw [if_pos (by rfl)];go_simp;refine ⟨trivial,?_⟩;refine (callsIn_wide.2 (Tm.out w0.drew (Below.refl _ _))).mono ?_;rintro e w1 ⟨v1,rfl,Zn,hb1⟩;have hS1:=hS.step hb1;refine hK.out _ _ (fun _=>hS1) ?_;clear hK K
     (try simp only [Act.put,ZX])
     refine Yi (i:=5) (by kernel_rfl) rfl ?_;intro K hK;rw [if_pos (by rfl)];go_simp;refine ⟨trivial,?_⟩;refine (callsIn_wide.2 (Qp.out w1 hb1)).mono ?_;rintro e w2 ⟨v2,rfl,Zj,hb2⟩;have hS2:=hS1.step hb2;refine hK.out _ _ (fun _=>hS2) ?_;clear hK K;have Vi:=ZO Zn hb2;have HB2:=Z9 (Z9 (ZV hb0) hb1) hb2;have hz:w.heap.size<=w2.heap.size:=HB2.size;have hz1:w0.drew.heap.size<=w2.heap.size:=Nat.le_trans hb1.size hb2.size;have hz0:w.heap.size<=w0.heap.size:=hb0.size;obtain ⟨g2,cap2,rfl,hg2,iM,_⟩:=Wn Zj zwb.out
     have hcells:∀ j u,(Y5 es2)[j]?=some u->w2.cell? ((⟨g2,0,none⟩:Addr).add j)=some u:=fun j u hu=>by
      have h:=Sl.YI Zj;rcases h with h|⟨b',off',hA,_,hc⟩
      · rw [h] at hu;simp at hu
      · cases hA;have h2:=hc j u hu;rw [Nat.zero_add] at h2;rw [YS];exact h2
     obtain ⟨v3,w3,hrun,ZM,ZE,_⟩:=run_append_own (P:=prog) w2 w0.drew.heap.size 27 27 66 i0 (.agg #[.int .i64 0,.int .i64 0,.int .i64 0]) 3 24 underlying27 hi hz0' hz1' hz2' rfl (by decide) v1 es1.length (Y5 es1) Vi ⟨g2,0,none⟩ es2.length cap2 (Y5 es2) (WH es2) hcells (TB es2) (by have h1:=Cv.out;have h2:=HL2.out;unfold maxLen;omega) (by have h1:=Cv.out;have h2:=HL2.out;omega) hz1;have hb3:Below w.heap.size w w3:=HB2.grown ZE hz (fun j hj=>Nat.le_trans hz0 (ZP Vi hj));have Ii:Z6 w3 w.heap.size 24 #[.int .i64 4,.int .i64 vs,.slice HA hrs.length hc,.int .i64 Z0]:=hS2.grown ZE (fun e=>by have h1:=ZP Vi e.symm;have h2:=B0.lt;have h3:w0.drew.heap.size=w0.heap.size:=rfl;omega);clear hcells Zn Zj
     (try simp only [Act.put,ZX])
     refine Yi (i:=6) (by kernel_rfl) rfl ?_;intro K hK;rw [if_pos (by rfl)];refine RJ (.tmp 18) (.tmp 21) 27 rfl v1 (.slice (some ⟨g2,0,none⟩) es2.length cap2) rfl rfl hrun ?_;refine hK.out _ _ (fun _=>Ii) ?_;clear hK K
     (try simp only [Act.put,ZX])
     refine' ZU (i:=7) rfl ?zzr Ii ?zsy
     case zzr =>
      intro w' hSw;go_simp;rfl
     simp only [Act.put,ZX];refine WG (by kernel_rfl) ?_ _;have Pw:Hid (∃ A c,v3=.slice A (es1++es2).length c/\Sl w3 w3.heap.size A (Y5 (es1++es2))):=by
      rw [<- QY,<- List.length_append] at ZM;obtain ⟨A3,c3,rfl,_⟩:=ZJ ZM;exact ⟨A3,c3,rfl,Sl.YI ZM⟩
     obtain ⟨A3,c3,rfl,pU⟩:=Pw.out;have ng:=hide pU;clear pU ZM ZE hrun Pw;gi_wp2;go_ret;exact ⟨A3,c3,rfl,ng.out,hb3⟩
   · have hE:mG op vs hrs=[]:=(by unfold mG;rw [if_neg o3,if_neg o4]);rw [hE];have e3:(op == 3)=false:=(by simpa using o3);have e4:(op == 4)=false:=(by simpa using o4);have b0:w0.cell? ⟨w.heap.size,0,none⟩=some (.int .i64 op):=B0.q0 rfl;rw [hw0] at b0 hb0;clear hw0 B0 h3 h4 hh hE;go_enter func66,ntmps66;go_wp2;go_ret;exact ⟨none,0,rfl,.inl rfl,hb0⟩
end
end Go.Proofs.YtfljlmleiggmjaaGreatDoor