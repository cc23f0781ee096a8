/- RecRow Sort -/
import Derived.Test.YtfljlmleiggmjaaGreatDoorPkC31
import Derived.Test.YtfljlmleiggmjaaGreatDoorPkC35
set_option maxRecDepth 1000000
set_option maxHeartbeats 8000000
namespace Go.Proofs.YtfljlmleiggmjaaGreatDoor
open List (getElem_toArray getElem_cons_succ getElem_cons_zero setIfInBounds_toArray set_cons_zero set_cons_succ)
section
open Go.RowKit
def rcA (l:List (Int × Int)):Array Value:=(recCs l).toArray
theorem rcA_size (l:List (Int × Int)):(rcA l).size=l.length*2:=by
 unfold rcA
 rw [List.size_toArray]
 exact flat_length (fun p:Int × Int=>[Value.int .u64 p.1,.int .u64 p.2]) 2 (fun _=>rfl) l
theorem rcA_get {l:List (Int × Int)} {k:Nat} {r:Int × Int} (h:l[k]?=some r):(rcA l)[k*2]?=some (.int .u64 r.1)∧(rcA l)[k*2+1]?=some (.int .u64 r.2):=by
 have h0:=flat_get (fun p:Int × Int=>[Value.int .u64 p.1,.int .u64 p.2]) 2 (fun _=>rfl) l k r h
 have e0:=h0 0 (by omega)
 have e1:=h0 1 (by omega)
 rw [Nat.add_zero] at e0
 unfold rcA
 rw [List.getElem?_toArray,List.getElem?_toArray]
 exact ⟨e0,e1⟩
theorem rcA_of {cs:Array Value} {l:List (Int × Int)} (hs:cs.size=l.length*2) (h:∀ k r,l[k]?=some r→cs[k*2]?=some (.int .u64 r.1)∧cs[k*2+1]?=some (.int .u64 r.2)):cs=rcA l:=by
 refine Array.ext_getElem? fun i=>?_
 by_cases hi:i<l.length*2
 · have hk:i / 2<l.length:=by omega
   have h1:=h (i / 2) l[i / 2] (List.getElem?_eq_getElem hk)
   have h2:=rcA_get (List.getElem?_eq_getElem hk)
   rcases Nat.mod_two_eq_zero_or_one i with hm | hm
   · have e:i=i / 2*2:=by omega
     rw [e,h1.1,h2.1]
   · have e:i=i / 2*2+1:=by omega
     rw [e,h1.2,h2.2]
 · rw [Array.getElem?_eq_none (by omega),Array.getElem?_eq_none (by rw [rcA_size];omega)]
theorem exq_row {w w':World} {g lo hi:Nat} {t:TypeId} {l:List (Int × Int)} {x y:Int × Int} (hx:l[lo]?=some x) (hy:l[hi]?=some y) (hne:lo≠hi)
 (h:ExQ w g t (rcA l) (lo*2) (hi*2) (if rkey y<rkey x then y else x) (if rkey y<rkey x then x else y) w'):Blk w' g t (rcA (exch rkey l (lo,hi)))∧w.grownBy w' (some g):=by
 obtain ⟨cs,B,s1,a1,a2,a3,a4,a5,hg⟩:=h
 have hlo:lo<l.length:=(List.getElem?_eq_some_iff.1 hx).1
 have hhi:hi<l.length:=(List.getElem?_eq_some_iff.1 hy).1
 refine ⟨?_,hg⟩
 have e:cs=rcA (exch rkey l (lo,hi)):=by
  refine rcA_of (by rw [s1,rcA_size,exch_length]) fun k r hk=>?_
  unfold exch at hk
  dsimp only at hk
  rw [hx,hy] at hk
  dsimp only at hk
  by_cases hlt:rkey y<rkey x
  · rw [if_pos hlt] at hk a1 a2 a3 a4
    by_cases k1:k=hi
    · subst k1
      rw [List.getElem?_set_self (by rw [List.length_set];exact hhi)] at hk
      cases hk
      exact ⟨a3,a4⟩
    · rw [List.getElem?_set_ne (Ne.symm k1)] at hk
      by_cases k2:k=lo
      · subst k2
        rw [List.getElem?_set_self hlo] at hk
        cases hk
        exact ⟨a1,a2⟩
      · rw [List.getElem?_set_ne (Ne.symm k2)] at hk
        have h2:=rcA_get hk
        exact ⟨(a5 _ (by omega) (by omega) (by omega) (by omega)).trans h2.1,(a5 _ (by omega) (by omega) (by omega) (by omega)).trans h2.2⟩
  · rw [if_neg hlt] at hk a1 a2 a3 a4
    by_cases k1:k=hi
    · subst k1
      rw [hy] at hk
      cases hk
      exact ⟨a3,a4⟩
    · by_cases k2:k=lo
      · subst k2
        rw [hx] at hk
        cases hk
        exact ⟨a1,a2⟩
      · have h2:=rcA_get hk
        exact ⟨(a5 _ (by omega) (by omega) (by omega) (by omega)).trans h2.1,(a5 _ (by omega) (by omega) (by omega) (by omega)).trans h2.2⟩
 rw [← e];exact B
theorem rcA_pad (l:List (Int × Int)) (N:Nat) (h:l.length≤N) :
 ((madeCells #[.int .u64 0,.int .u64 0] (N*2)).toList.take 0++recCs l++(madeCells #[.int .u64 0,.int .u64 0] (N*2)).toList.drop (0+(recCs l).length)).toArray=rcA (l++List.replicate (N - l.length) (0,0)):=by
 have hl:(recCs l).length=l.length*2:=flat_length (fun p:Int × Int=>[Value.int .u64 p.1,.int .u64 p.2]) 2 (fun _=>rfl) l
 have hz:∀ i,i<N*2→(madeCells #[.int .u64 0,.int .u64 0] (N*2))[i]?=some (.int .u64 0):=fun i hi=>by
  have:i % 2=0∨i % 2=1:=by omega
  unfold madeCells
  rw [Array.getElem?_map,Array.getElem?_range]
  rw [if_pos hi]
  rcases this with h | h <;> simp [h]
 refine rcA_of (by simp [size_madeCells,hl];omega) fun k r hk=>?_
 rw [List.take_zero,List.nil_append,Nat.zero_add,List.getElem?_toArray,List.getElem?_toArray]
 by_cases hkl:k<l.length
 · rw [List.getElem?_append_left hkl] at hk
   have h0:=rcA_get hk
   unfold rcA at h0
   rw [List.getElem?_toArray,List.getElem?_toArray] at h0
   rw [List.getElem?_append_left (by omega),List.getElem?_append_left (by omega)]
   exact h0
 · rw [List.getElem?_append_right (by omega)] at hk
   have hk2:=List.getElem?_eq_some_iff.1 hk
   obtain ⟨hk3,hk4⟩:=hk2
   rw [List.length_replicate] at hk3
   rw [List.getElem_replicate] at hk4
   subst hk4
   rw [List.getElem?_append_right (by omega),List.getElem?_append_right (by omega),List.getElem?_drop,List.getElem?_drop,Array.getElem?_toList,Array.getElem?_toList]
   exact ⟨hz _ (by omega),hz _ (by omega)⟩
theorem Blk.same {w:World} {g:Nat} {t:TypeId} {cs:Array Value} (h:Blk w g t cs) {i:Nat} {u:Value} (hi:cs[i]?=some u):Blk (w.setCell ⟨g,i,none⟩ u) g t cs:=by
 have h1:=h.set i u
 have e:cs.setIfInBounds i u=cs:=by
  refine Array.ext_getElem? fun j=>?_
  rw [Array.getElem?_setIfInBounds]
  by_cases hj:i=j
  · subst hj;rw [if_pos rfl,if_pos (Array.getElem?_eq_some_iff.1 hi).1,hi]
  · rw [if_neg hj]
 rw [e] at h1
 exact h1
theorem recCs_one (l:List (Int × Int)):∀ v∈recCs l,v.oneCell'=true:=by
 intro v hv
 obtain ⟨r,_,hr⟩:=List.mem_flatMap.1 hv
 simp at hr
 rcases hr with rfl | rfl <;> rfl
end
section
open Go.RowKit Go.Shelf
attribute [local go_sem] Oper.semAt_some
def srt (l:List (Int × Int)) (cs:List (Nat × Nat)):List (Int × Int):=cs.foldl (exch rkey) l
def padR (rs:List (Int × Int)):List (Int × Int):=rs++List.replicate (2 ^ lg rs.length - rs.length) (0,0)
theorem srt_snoc (l:List (Int × Int)) (cs:List (Nat × Nat)) (c:Nat × Nat):srt l (cs++[c])=exch rkey (srt l cs) c:=by simp [srt]
theorem pairEv_snoc (cs:List (Nat × Nat)) (c:Nat × Nat):pairEv (cs++[c])=pairEv cs++[(3,(c.1:Int),(c.2:Int))]:=by simp [pairEv]
theorem padR_cln {rs:List (Int × Int)} (h:∀ r∈rs,Cln r):∀ r∈padR rs,Cln r:=fun r hr=>by
 rcases List.mem_append.1 hr with hr | hr
 · exact h r hr
 · rw [List.eq_of_mem_replicate hr];exact .inr rfl
theorem padR_length {rs:List (Int × Int)} (h:rs.length≤4096):(padR rs).length=2 ^ lg rs.length:=by
 have:=lg_ge h
 unfold padR
 rw [List.length_append,List.length_replicate];omega
theorem srt_perm (l:List (Int × Int)) (cs:List (Nat × Nat)):(srt l cs).Perm l:=fold_perm rkey cs l
section
variable {F:Fence} {n:Nat} {P:Program} {ops:Array Oper} {Q:Exit→Act→World→Prop} {S:World→Prop}
def OnlyN (K:Act→World→Prop):Exit→Act→World→Prop
 | .normal,a,w=>K a w
 | _,_,_=>False
theorem OnlyN.intro {K:Act→World→Prop} {a:Act} {w:World} (h:K a w):OnlyN K .normal a w:=h
theorem startN (sk:Nat) {id:Nat} {a:Act} {w:World} (hm:P.follows .mixedOrders=true)
 (h:wpAnyHIn F n P .any ops (OnlyN (Q .normal)) S sk ops.size (Array.replicate ops.size false) a w.drew):(Code.region id ops true).wpIn F n P Q a w:=by
 refine wpIn_mono (startH sk (Q:=OnlyN (Q .normal)) hm h) ?_
 intro e a w he
 cases e with
 | normal=>exact he
 | _=>exact he.elim
end
theorem note_w (P:Nat→Prop) (t:Option (Nat × Nat)) (es:List Ev) (k a b:Int) (w:World) (hP:∀ j,P j→j<w.heap.size) (ht:Tp w P t es) (hl:t=none∨es.length≤1000000) (hk:I64w k) :
 Calls Tryz.prog 43 #[.pointer (tapeA t),.int .i64 k,.int .i64 a,.int .i64 b] w fun e w'=>e=.returned (.tuple #[])∧KeepP P w w'∧KeepsM t w w'∧Tp w' P t (es++[(k,a,b)]):=by
 rcases hl with rfl | hl
 · refine (note_any P none [] k a b w hP trivial (by simp) hk).mono ?_
   rintro e w' ⟨h1,h2,h3,_⟩
   exact ⟨h1,h2,h3,trivial⟩
 · exact note_any P t es k a b w hP ht hl hk
theorem addr_add (b off j:Nat):(⟨b,off,none⟩:Addr).add j=⟨b,off+j,none⟩:=by unfold Addr.add;split <;> simp_all
theorem sort_any (P:Nat→Prop) (t:Option (Nat × Nat)) (es:List Ev) (rs:List (Int × Int)) (hcl:∀ r∈rs,Cln r) (h1:1≤rs.length) (h2:rs.length≤4096) (A:Option Addr) (c:Nat) (w:World) (hP:∀ k,P k→k<w.heap.size) (hs:SlP w P A (recCs rs)) (ht:Tp w P t es) (hl:t=none∨es.length+(netw (lg rs.length)).length≤1000000) :
 Calls Tryz.prog 155 #[.pointer (tapeA t),.slice A rs.length c] w fun e w'=>∃ b,e=.returned (.slice (some ⟨b,0,none⟩) rs.length rs.length)∧KeepP P w w'∧Tp w' P t (es++pairEv (netw (lg rs.length)))∧¬ P b∧Sl w' w'.heap.size (some ⟨b,0,none⟩) (recCs (isort rkey rs)):=by
 have hL:=lg_le h2
 have hge:=lg_ge h2
 have hp12:=pow_le12 hL
 have HSZ:=hide (fun w=>nsize_any rs.length h1 h2 w)
 have hplen:=padR_length h2
 have hpcl:=padR_cln hcl
 obtain ⟨L,hLe⟩:∃ L,L=lg rs.length:=⟨_,rfl⟩
 have HLE:=hide hLe
 rw [← hLe] at hL hge hp12 HSZ hplen hl ⊢
 obtain ⟨N,hN⟩:∃ N,N=2 ^ L:=⟨_,rfl⟩
 have HN:=hide hN
 rw [← hN] at hge hp12 HSZ hplen
 have hN0:¬ (N:Int)=0:=by omega
 have hmk:=fun w=>make_recs N (by omega) w
 obtain ⟨tb,htb⟩:∃ tb,tb=w.heap.size:=⟨_,rfl⟩
 obtain ⟨w0,hw0⟩:∃ w0,w0=w.alloc (.cells #[.pointer (tapeA t)] 51):=⟨_,rfl⟩
 clear hLe hN
 have hz0:w0.heap.size=tb+1:=by rw [hw0,htb];simp
 have T0:Blk w0 tb 51 #[.pointer (tapeA t)]:=by rw [hw0,htb];exact Blk.new _ _ _
 have hb0:Below w.heap.size w w0:=by rw [hw0];exact bA
 obtain ⟨W1,hW1⟩:∃ W1,(w0.alloc (.cells (madeCells #[.int .u64 0,.int .u64 0] (N*2)) 150)).alloc (.cells #[.slice (some ⟨tb+1,0,none⟩) N N] 89)=W1:=⟨_,rfl⟩
 have R1:Blk W1 (tb+1) 150 (madeCells #[.int .u64 0,.int .u64 0] (N*2)):=by rw [← hW1,← hz0];exact (Blk.new _ _ _).alloc _
 have O1:Blk W1 (tb+1+1) 89 #[.slice (some ⟨tb+1,0,none⟩) N N]:=by
  have h:=Blk.new2 w0 (.cells (madeCells #[.int .u64 0,.int .u64 0] (N*2)) 150) 89 #[.slice (some ⟨tb+1,0,none⟩) N N]
  rw [hz0,hW1] at h
  exact h
 have hb01:Below w0.heap.size w0 W1:=by rw [← hW1];exact bl_alloc (bA) _
 have T1:=T0.step hb01
 have hz1:W1.heap.size=tb+3:=by rw [← hW1];simp [hz0]
 have hB1:=bl_step hb0 hb01
 have hs1:=(hs.kept (KeepP.of_below hB1 hP)).sl (fun k hk=>Nat.lt_of_lt_of_le (hP k hk) hB1.size)
 obtain ⟨b,off,rfl,hbb,hcs⟩:=hs1.open_ (by have:=flat_length (fun p:Int × Int=>[Value.int .u64 p.1,.int .u64 p.2]) 2 (fun _=>rfl) rs;unfold recCs;rw [this];omega)
 have hrl:(recCs rs).length=rs.length*2:=flat_length (fun p:Int × Int=>[Value.int .u64 p.1,.int .u64 p.2]) 2 (fun _=>rfl) rs
 have hmin:Nat.min rs.length N=rs.length:=Nat.min_eq_left hge
 have hrun:=run_copy_sized (P:=Tryz.prog) W1 89 89 3 150 2 (tb+1) 0 N N ⟨b,off,none⟩ rs.length c _ 150 (recCs rs) Tryz.underlying89 (by kernel_rfl) R1 (by rw [hmin,hrl]) (fun j v hv=>by rw [addr_add];exact hcs j v hv) (by rw [size_madeCells,hrl];omega) (recCs_one rs)
 have hh2:=setRow_heap W1 (tb+1) (madeCells #[.int .u64 0,.int .u64 0] (N*2)) ((madeCells #[.int .u64 0,.int .u64 0] (N*2)).toList.take 0++recCs rs++(madeCells #[.int .u64 0,.int .u64 0] (N*2)).toList.drop (0+(recCs rs).length)).toArray 150 _ R1
 have hb12:Below w.heap.size w (W1.setRow (tb+1) ((madeCells #[.int .u64 0,.int .u64 0] (N*2)).toList.take 0++recCs rs++(madeCells #[.int .u64 0,.int .u64 0] (N*2)).toList.drop (0+(recCs rs).length)).toArray):=below_setRow hB1 (by omega) _
 have hb12':∀ k,k≠tb+1→(W1.setRow (tb+1) ((madeCells #[.int .u64 0,.int .u64 0] (N*2)).toList.take 0++recCs rs++(madeCells #[.int .u64 0,.int .u64 0] (N*2)).toList.drop (0+(recCs rs).length)).toArray).heap[k]?=W1.heap[k]?:=fun k hk=>setRow_other W1 (tb+1) k _ hk
 rw [rcA_pad rs N hge] at hrun hh2 hb12 hb12'
 rw [hmin] at hrun
 have hpad:rs++List.replicate (N - rs.length) (0,0)=padR rs:=by unfold padR;rw [← HLE.out,← HN.out]
 rw [hpad] at hrun hh2 hb12 hb12'
 obtain ⟨W2,hW2⟩:∃ W2,W2=W1.setRow (tb+1) (rcA (padR rs)):=⟨_,rfl⟩
 rw [← hW2] at hrun hh2 hb12 hb12'
 have R2:Blk W2 (tb+1) 150 (rcA (padR rs)):=hh2
 have O2:Blk W2 (tb+1+1) 89 #[.slice (some ⟨tb+1,0,none⟩) N N]:=(hb12' _ (by omega)).trans O1
 have T2:Blk W2 tb 51 #[.pointer (tapeA t)]:=(hb12' _ (by omega)).trans T1
 have hz2:W2.heap.size=tb+3:=by rw [hW2,← hz1];simp [World.setRow]
 have HRUN:=hide hrun
 have HZ2:=hide hz2;have HCL:=hide hcl;have HPC:=hide hpcl;have HPL:=hide hplen;have HS:=hide hs;have HP:=hide hP;have HT:=hide ht;have HB12:=hide hb12
 clear hrun hh2 hb12' hcs R1 O1 T1 hb01 hB1 hz1 hmin hpad hbb T0 hb0 hrl hs1 hz2 hcl hpcl hplen hs hP ht hb12
 refine (callsIn_wide (n:=6)).1 ?_
 refine callsIn_of_wp_marks Tryz.func155 rfl trivial ?_ rfl
 simp only [Tryz.ntmps155,List.size_toArray,List.length_cons,List.length_nil,Nat.reduceAdd,Nat.reduceSub,Array.replicate_succ,Array.replicate_zero,List.push_toArray,List.append_toArray,List.nil_append,List.cons_append]
 gi_wp2_with fail
 rw [← hw0,← htb]
 have HTB:=hide htb
 have HZ0:=hide hz0
 have HW1:=hide hW1
 have HW2:=hide hW2
 clear hw0 htb hz0 hW1 hW2
 refine ⟨trivial,?_⟩
 refine (callsIn_wide.2 (HSZ.out _)).mono ?_
 rintro e w1 ⟨rfl,rfl⟩
 gi_wp2_with fail
 rw [HZ0.out,HW1.out,HRUN.out]
 clear HRUN HW1 HW2 hmk
 have o2:=O2.cell (i:=0) rfl
 have HK0:=hide (KeepP.of_below HB12.out HP.out)
 have HT2:=hide (HT.out.more HB12.out)
 have HPM:=hide (more_lt HP.out HB12.out)
 gi_wp2_with fail
 gi_loopw [21] (fun i wr=>∃ k:Nat,k≤N∧i=.int .i64 k∧(Blk wr tb 51 #[.pointer (tapeA t)]∧Blk wr (tb+1+1) 89 #[.slice (some ⟨tb+1,0,none⟩) N N]∧Blk wr (tb+1) 150 (rcA (padR rs)))∧KeepP P W2 wr∧Tp wr (More P w W2) t es)
  (fun i _=>N - (intOf i).toNat)
 case atStart=>exact ⟨0,Nat.zero_le _,rfl,⟨T2,O2,R2⟩,KeepP.refl _ _,HT2.out⟩
 case round =>
  clear T2 O2 R2 o2
  obtain ⟨k,hk,rfl,⟨Tr,Or,Rr⟩,hkr,htr⟩:=hrel
  have or:=Or.cell (i:=0) rfl
  by_cases hlt:k<N
  · have hlti:(k:Int)<(N:Int):=by omega
    obtain ⟨r,hr⟩:∃ r,(padR rs)[k]?=some r:=⟨_,List.getElem?_eq_getElem (by rw [HPL.out];exact hlt)⟩
    have hrc:=HPC.out r (List.mem_of_getElem? hr)
    have hu:=cln_u64 hrc
    have HC:=hide (fun wk=>clean_any r.1 r.2 hu.1.1 hu.1.2 hu.2.1 hu.2.2 wk)
    rw [rcl_of hrc] at HC
    obtain ⟨g0,g1⟩:=rcA_get hr
    have HG0:=hide g0;have HG1:=hide g1
    have c0:=Rr.cell g0
    have c1:=Rr.cell g1
    obtain ⟨x1,x2⟩:=r
    dsimp only at *
    have hNP:¬ P (tb+1):=fun h=>by have:=HP.out _ h;have:=HTB.out;omega
    have HRR:=hide Rr;have HTR:=hide Tr;have HOR:=hide Or;have HKR:=hide hkr;have HTT:=hide htr;have HNP:=hide hNP
    clear hrc hu hr g0 g1 Rr Tr Or hkr htr hNP
    have hmix:Tryz.prog.follows .mixedOrders=true:=by kernel_rfl
    gi_wp2_with fail
    refine startN 8 (S:=fun w'=>Blk w' (tb+1+1) 89 #[.slice (some ⟨tb+1,0,none⟩) N N]∧Blk w' (tb+1) 150 (rcA (padR rs))) hmix ?_
    have hS:Blk wr.drew (tb+1+1) 89 #[.slice (some ⟨tb+1,0,none⟩) N N]∧Blk wr.drew (tb+1) 150 (rcA (padR rs)):=⟨HOR.out.drew,HRR.out.drew⟩
    refine' takeH (i:=0) (v:=_) (noDefer_of (by kernel_rfl)) rfl (by kernel_rfl) (by kernel_rfl) (by kernel_rfl) (fun _ _ _ h=>h) (by kernel_rfl) ⟨Or.inl ⟨by rfl,?hy0k1⟩,fun _=>rfl⟩ hS ?rest0k1
    case hy0k1 =>
     intro w' hSw
     obtain ⟨s1,s2⟩:=hSw
     have z1:=s1.cell (i:=0) rfl
     have z2:=s2.cell HG0.out
     have z3:=s2.cell HG1.out
     go_simp
     rfl
    simp only [Act.put,getElem_toArray,getElem_cons_zero,setIfInBounds_toArray,set_cons_zero,set_cons_succ]
    refine' takeH (i:=1) (v:=_) (noDefer_of (by kernel_rfl)) rfl (by kernel_rfl) (by kernel_rfl) (by kernel_rfl) (fun _ _ _ h=>h) (by kernel_rfl) ⟨Or.inl ⟨by rfl,?hy1k2⟩,fun _=>rfl⟩ hS ?rest1k2
    case hy1k2 =>
     intro w' hSw
     go_simp
     rfl
    simp only [Act.put,getElem_toArray,getElem_cons_succ,getElem_cons_zero,setIfInBounds_toArray,set_cons_zero,set_cons_succ]
    refine' takeH (i:=2) (v:=_) (noDefer_of (by kernel_rfl)) rfl (by kernel_rfl) (by kernel_rfl) (by kernel_rfl) (fun _ _ _ h=>h) (by kernel_rfl) ⟨Or.inl ⟨by rfl,?hy2k3⟩,fun _=>rfl⟩ hS ?rest2k3
    case hy2k3 =>
     intro w' hSw
     obtain ⟨s1,s2⟩:=hSw
     have z1:=s1.cell (i:=0) rfl
     have z2:=s2.cell HG0.out
     have z3:=s2.cell HG1.out
     go_simp
     rfl
    simp only [Act.put,getElem_toArray,getElem_cons_succ,getElem_cons_zero,setIfInBounds_toArray,set_cons_zero,set_cons_succ]
    refine' takeH (i:=3) (v:=_) (noDefer_of (by kernel_rfl)) rfl (by kernel_rfl) (by kernel_rfl) (by kernel_rfl) (fun _ _ _ h=>h) (by kernel_rfl) ⟨Or.inl ⟨by rfl,?hy3k4⟩,fun _=>rfl⟩ hS ?rest3k4
    case hy3k4 =>
     intro w' hSw
     go_simp
     rfl
    simp only [Act.put,getElem_toArray,getElem_cons_succ,getElem_cons_zero,setIfInBounds_toArray,set_cons_zero,set_cons_succ]
    refine' takeH (i:=4) (v:=_) (noDefer_of (by kernel_rfl)) rfl (by kernel_rfl) (by kernel_rfl) (by kernel_rfl) (fun _ _ _ h=>h) (by kernel_rfl) ⟨Or.inl ⟨by rfl,?hy4k5⟩,fun _=>rfl⟩ hS ?rest4k5
    case hy4k5 =>
     intro w' hSw
     obtain ⟨s1,s2⟩:=hSw
     have z1:=s1.cell (i:=0) rfl
     have z2:=s2.cell HG0.out
     have z3:=s2.cell HG1.out
     go_simp
     rfl
    simp only [Act.put,getElem_toArray,getElem_cons_succ,getElem_cons_zero,setIfInBounds_toArray,set_cons_zero,set_cons_succ]
    refine' takeH (i:=5) (v:=_) (noDefer_of (by kernel_rfl)) rfl (by kernel_rfl) (by kernel_rfl) (by kernel_rfl) (fun _ _ _ h=>h) (by kernel_rfl) ⟨Or.inl ⟨by rfl,?hy5k6⟩,fun _=>rfl⟩ hS ?rest5k6
    case hy5k6 =>
     intro w' hSw
     obtain ⟨s1,s2⟩:=hSw
     have z1:=s1.cell (i:=0) rfl
     have z2:=s2.cell HG0.out
     have z3:=s2.cell HG1.out
     go_simp
     rfl
    simp only [Act.put,getElem_toArray,getElem_cons_succ,getElem_cons_zero,setIfInBounds_toArray,set_cons_zero,set_cons_succ]
    refine oneH (i:=6) (by kernel_rfl) rfl ?_
    intro K hK
    rw [if_pos (by rfl)]
    go_simp
    refine ⟨trivial,?_⟩
    refine (callsIn_wide.2 (HC.out _)).mono ?_
    rintro e w3 ⟨rfl,hb3⟩
    have hS3:Blk w3 (tb+1+1) 89 #[.slice (some ⟨tb+1,0,none⟩) N N]∧Blk w3 (tb+1) 150 (rcA (padR rs)):=⟨HOR.out.drew.step hb3,HRR.out.drew.step hb3⟩
    refine hK.out _ _ (fun _=>hS3) ?_
    clear hK K
    (try simp only [Act.put,getElem_toArray,getElem_cons_succ,getElem_cons_zero,setIfInBounds_toArray,set_cons_zero,set_cons_succ])
    refine' takeH (i:=7) (v:=_) (noDefer_of (by kernel_rfl)) rfl (by kernel_rfl) (by kernel_rfl) (by kernel_rfl) (fun _ _ _ h=>h) (by kernel_rfl) ⟨Or.inl ⟨by rfl,?hy7k7⟩,fun _=>rfl⟩ hS3 ?rest7k7
    case hy7k7 =>
     intro w' hSw
     obtain ⟨s1,s2⟩:=hSw
     have z1:=s1.cell (i:=0) rfl
     have z2:=s2.cell HG0.out
     have z3:=s2.cell HG1.out
     go_simp
     rfl
    simp only [Act.put,getElem_toArray,getElem_cons_succ,getElem_cons_zero,setIfInBounds_toArray,set_cons_zero,set_cons_succ]
    have B3:=hS3.2
    have c0:=B3.cell HG0.out
    have c1:=B3.cell HG1.out
    have f0:=B3.frozen (k*2)
    have f1:=B3.frozen (k*2+1)
    refine oneH (i:=8) (by kernel_rfl) rfl ?_
    intro K hK
    rw [if_pos (by rfl)]
    go_simp
    refine hK.out _ _ (fun h=>absurd rfl h) ?_
    clear hK K
    refine doneH (by kernel_rfl) ?_ _
    refine OnlyN.intro ?_
    have hW5:Blk ((w3.setCell ⟨tb+1,k*2,none⟩ (.int .u64 x1)).setCell ⟨tb+1,k*2+1,none⟩ (.int .u64 x2)) tb 51 #[.pointer (tapeA t)]∧Blk ((w3.setCell ⟨tb+1,k*2,none⟩ (.int .u64 x1)).setCell ⟨tb+1,k*2+1,none⟩ (.int .u64 x2)) (tb+1+1) 89 #[.slice (some ⟨tb+1,0,none⟩) N N]∧Blk ((w3.setCell ⟨tb+1,k*2,none⟩ (.int .u64 x1)).setCell ⟨tb+1,k*2+1,none⟩ (.int .u64 x2)) (tb+1) 150 (rcA (padR rs)) :=
     ⟨((HTR.out.drew.step hb3).far (p:=⟨tb+1,k*2,none⟩) (by dsimp only;omega) _).far (p:=⟨tb+1,k*2+1,none⟩) (by dsimp only;omega) _,(hS3.1.far (p:=⟨tb+1,k*2,none⟩) (by dsimp only;omega) _).far (p:=⟨tb+1,k*2+1,none⟩) (by dsimp only;omega) _,(hS3.2.same HG0.out).same HG1.out⟩
    have hk5:KeepP P W2 ((w3.setCell ⟨tb+1,k*2,none⟩ (.int .u64 x1)).setCell ⟨tb+1,k*2+1,none⟩ (.int .u64 x2)) :=
     (HKR.out.trans ((KeepP.drew _ _).trans (KeepP.of_below hb3 fun j hj=>Nat.lt_of_lt_of_le (HP.out j hj) (HK0.out.trans HKR.out).size))).trans ((KeepP.setCell HNP.out _ _ _).trans (KeepP.setCell HNP.out _ _ _))
    have hmem:More P w W2 (tb+1):=.inr ⟨by have:=HTB.out;omega,by have:=HZ2.out;omega⟩
    have ht5:Tp ((w3.setCell ⟨tb+1,k*2,none⟩ (.int .u64 x1)).setCell ⟨tb+1,k*2+1,none⟩ (.int .u64 x2)) (More P w W2) t es:=((HTT.out.drew.step hb3).set hmem _ _).set hmem _ _
    have HREL:=hide (And.intro hW5 (And.intro hk5 ht5))
    clear hW5 hk5 ht5 hS3 hS hb3 B3 c0 c1 f0 f1 or
    gi_wp2
    go_roundw
    case rel=>exact ⟨k+1,by omega,by go_num,HREL.out⟩
    case measure=>simp [intOf];omega
  · obtain rfl:N=k:=by omega
    obtain ⟨g,hg⟩:∃ g,g=wr.heap.size:=⟨_,rfl⟩
    have HALL:=hide (fun wk=>nall_any (N:Int) wk)
    have HTR:=hide Tr;have HOR:=hide Or;have HRR:=hide Rr;have HKR:=hide hkr;have HTT:=hide htr
    have HGG:=hide hg
    clear Tr Or Rr hkr htr or
    gi_wp2_with fail
    refine ⟨trivial,?_⟩
    refine (callsIn_wide.2 (HALL.out _)).mono ?_
    rintro e w3 ⟨rfl,rfl⟩
    obtain ⟨W4,hW4⟩:∃ W4,wr.alloc (.cells #[.int .i64 (N:Int)] 3)=W4:=⟨_,rfl⟩
    rw [← hg,hW4]
    clear hg
    have hb4:Below wr.heap.size wr W4:=by rw [← hW4];exact bA
    have G4:Blk W4 g 3 #[.int .i64 ((2 ^ L:Nat):Int)]:=by rw [← hW4,HGG.out,← HN.out];exact Blk.new _ _ _
    have T4:=HTR.out.step hb4
    have O4:=HOR.out.step hb4
    have R4:=HRR.out.step hb4
    have hz4:W4.heap.size=g+1:=by rw [← hW4,HGG.out];simp
    have hgt:tb+3≤g:=by have:=HKR.out.size;have:=HZ2.out;have:=HGG.out;omega
    have hPP:∀ k,P k→k<tb:=fun k hk=>by have:=HP.out k hk;have:=HTB.out;omega
    have hPE:∀ k,Also P g k→k<W4.heap.size:=fun k hk=>by
     rcases hk with hk | hk
     · have:=hPP k hk;omega
     · omega
    have hQ:∀ k,Also (More P w W2) g k→k<W4.heap.size:=fun k hk=>by
     rcases hk with hk | hk
     · have:=HPM.out k hk;have:=HZ2.out;omega
     · omega
    have ht4:Tp W4 (Also (More P w W2) g) t es:=(HTT.out.add (R:=Also (More P w W2) g) fun j hj=>by
     rcases hj with hj | hj
     · exact .inl hj
     · exact .inr (by have:=HGG.out;omega)).step hb4
    have hmb:∀ u,t=some u→u.2<W4.heap.size:=ht4.m_lt
    have hM:∀ k,tb≤k→k<tb+3→Also (More P w W2) g k:=fun k h1 h2=>.inl (.inr ⟨by have:=HTB.out;omega,by have:=HZ2.out;omega⟩)
    have HMT:=hide (hM tb (by omega) (by omega));have HMR:=hide (hM (tb+1) (by omega) (by omega));have HMO:=hide (hM (tb+1+1) (by omega) (by omega))
    have HMG:Hid (Also (More P w W2) g g):=.inr rfl
    have HPI:Hid (∀ k,Also P g k→Also (More P w W2) g k):=fun k hk=>by
     rcases hk with hk | hk
     · exact .inl (.inl hk)
     · exact .inr hk
    have HNE:Hid (¬ Also P g (tb+1)):=fun h=>by
     rcases h with h | h
     · have:=hPP _ h;omega
     · omega
    have HK4:=hide (HK0.out.trans (HKR.out.trans (KeepP.of_below hb4 fun j hj=>by have:=hPP j hj;have:=HGG.out;omega)))
    have HPE:=hide hPE;have HQ:=hide hQ;have HT4:=hide ht4;have HMB:=hide hmb;have HGT:=hide hgt;have HZ4:=hide hz4;have HPPP:=hide hPP;have HG4:=hide G4
    clear hb4 hz4 hgt hPP hPE hQ ht4 hmb hM hW4 HALL G4 HKR HTT HTR HOR HRR hlt hk
    gi_wp2_with fail
    refine wpIn_rangeFunc_ownH rfl (by omega) (gf:=160) (lb:=#[.pointer (some ⟨g,0,none⟩)]) rfl trivial (enters_of Tryz.func160 (by kernel_rfl) rfl)
     (net_stops 5 (by omega) g (Also P g) L hL W4 HPE.out (.inr rfl) HG4.out) KeepP.trans (fun W l o o' hl _ _ _=>KeepP.putObj o' (fun h=>by have:=HPE.out _ h;omega) W) (Below.refl _ _) (fun _=>rfl)
     (fun pre W=>(((Blk W tb 51 #[.pointer (tapeA t)]∧Blk W (tb+1+1) 89 #[.slice (some ⟨tb+1,0,none⟩) N N])∧Blk W (tb+1) 150 (rcA (srt (padR rs) (cUp pre))))∧(KeepP (Also P g) W4 W∧Tp W (Also (More P w W2) g) t (es++pairEv (cUp pre)))))
     (fun _ _ _=>False)
     (OwnFrom.and (OwnFrom.and (OwnFrom.and (Own.from (blk_own _ _ _) _) (Own.from (blk_own _ _ _) _)) (Own.from (blk_own _ _ _) _)) (OwnFrom.and (keepP_ownFrom (fun k hk=>⟨HPE.out k hk,HPE.out k hk⟩)) (tp_ownFrom _ (Also (More P w W2) g) t (fun pre:List (Cmp L)=>es++pairEv (cUp pre)) HMB.out)))
     (fun _ _ _ _ _ hs _ _=>hs)
     ⟨⟨⟨T4,O4⟩,R4⟩,KeepP.refl _ _,by simpa [pairEv,cUp] using HT4.out⟩
     (fun x a' W=>∃ Bx es',g<Bx∧Tp W (Also (Also (More P w W2) g) Bx) t es'∧Blk W Bx 174 #[.int .i64 (x.1.1:Int),.int .i64 (x.1.2:Int)]∧a'={ tmps:=#[.pointer (tapeA t),.slice (some ⟨b,off,none⟩) rs.length c,.pointer (some ⟨tb,0,none⟩),undef,.slice none 0 0,.int .i64 (N:Int),.pointer (some ⟨tb+1+1,0,none⟩),u7,.pointer (some ⟨Bx,0,none⟩),.slice (some ⟨b,off,none⟩) rs.length c,.int .i64 (rs.length:Int),.int .i64 (N:Int),.int .i64 (N:Int),.bool false,.int .i64 (N:Int),.slice (some ⟨tb+1,0,none⟩) N N,.slice (some ⟨tb+1,0,none⟩) N N,.slice (some ⟨b,off,none⟩) rs.length c,.int .i64 (rs.length:Int),.slice (some ⟨tb+1,0,none⟩) N N,.int .i64 (N:Int),.int .i64 (N:Int),.bool false,u23,u24,u25,u26,u27,u28,u29,u30,u31,u32,.int .i64 (N:Int),.func (.func 160) #[] #[.pointer (some ⟨g,0,none⟩)],.agg #[.int .i64 (x.1.1:Int),.int .i64 (x.1.2:Int)],undef,undef,undef,undef,undef,undef,undef,undef,undef,undef,undef,undef,undef,undef,undef,undef,undef,undef,undef,undef,undef],defers:=[] })
     (fun x a' _ X Y row hs hg hr=>by obtain ⟨Bx,es',h1,hT,h2,h3⟩:=hs;exact ⟨Bx,es',h1,tp_ownFrom _ _ t (fun _:Unit=>es') HMB.out () X Y row hT hg hr,blk_own Bx 174 (fun (_:Unit)=>#[.int .i64 (x.1.1:Int),.int .i64 (x.1.2:Int)]) () X Y row h2 hg (fun r e=>(hr r e).2),h3⟩)
     ?assign ?body ?done ?stop
    case assign =>
     rintro l pre x W K ⟨⟨⟨T1,O1⟩,R1⟩,hB1,hT1⟩ hK
     have hWz:W4.heap.size≤W.heap.size:=hB1.size
     unfold encC
     gi_wp2
     have hEW:∀ k,Also P g k→k<W.heap.size:=fun k hk=>Nat.lt_of_lt_of_le (HPE.out k hk) hWz
     refine hK _ _ ((KeepsOthers.alloc _ _).from _) (KeepP.of_below (bA) hEW) ⟨⟨⟨T1.alloc _,O1.alloc _⟩,R1.alloc _⟩,hB1.trans (KeepP.of_below (bA) hEW),hT1.step (bA)⟩ ⟨W.heap.size,es++pairEv (cUp pre),by have:=HZ4.out;omega,?_,Blk.new _ _ _,rfl⟩
     refine (hT1.add (R:=Also (Also (More P w W2) g) W.heap.size) fun k hk=>?_).step (bA)
     rcases hk with hk | hk
     · exact .inl hk
     · exact .inr (by omega)
    case body =>
     rintro l pre x a' W hl' _ ⟨⟨⟨T1,O1⟩,R1⟩,hB1,hT1⟩ ⟨Bx,es',hBx,hTx,bX,rfl⟩ hpl
     have hszW:W4.heap.size≤W.heap.size:=hB1.size
     have hTb:=hT1.with hTx
     clear hT1 hTx
     have hmix:Tryz.prog.follows .mixedOrders=true:=by kernel_rfl
     obtain ⟨⟨lo,hi⟩,hin1,hin2,hin3⟩:=x
     dsimp only at *
     have hsl:(srt (padR rs) (cUp pre)).length=N:=by rw [(srt_perm _ _).length_eq];exact HPL.out
     have hloN:lo<N:=by rw [HN.out];exact hin1
     have hhiN:hi<N:=by rw [HN.out];exact hin2
     obtain ⟨xr,hxr⟩:∃ xr,(srt (padR rs) (cUp pre))[lo]?=some xr:=⟨_,List.getElem?_eq_getElem (by rw [hsl];exact hloN)⟩
     obtain ⟨yr,hyr⟩:∃ yr,(srt (padR rs) (cUp pre))[hi]?=some yr:=⟨_,List.getElem?_eq_getElem (by rw [hsl];exact hhiN)⟩
     have hxc:=HPC.out xr ((srt_perm _ _).mem_iff.1 (List.mem_of_getElem? hxr))
     have hyc:=HPC.out yr ((srt_perm _ _).mem_iff.1 (List.mem_of_getElem? hyr))
     have hle:t=none∨(es++pairEv (cUp pre)).length≤1000000:=by
      rcases hl with h | h
      · exact .inl h
      · refine .inr ?_
        rw [List.length_append,pairEv,List.length_map,cUp,List.length_map]
        omega
     have hloi:(lo:Int)<(N:Int):=by omega
     have hhii:(hi:Int)<(N:Int):=by omega
     have HNX:=hide (srt_snoc (padR rs) (cUp pre) (lo,hi))
     have HPX:=hide (pairEv_snoc (cUp pre) (lo,hi))
     have HCU:Hid (cUp (pre++[⟨(lo,hi),hin1,hin2,hin3⟩])=cUp pre++[(lo,hi)]):=cUp_snoc _ _
     have hQ2:∀ k,Also (Also (More P w W2) g) Bx k→k<W.heap.size:=fun k hk=>by
      rcases hk with hk | hk
      · exact Nat.lt_of_lt_of_le (HQ.out k hk) hszW
      · subst hk;exact bX.lt
     have HNO:=hide (note_w (Also (Also (More P w W2) g) Bx) t (es++pairEv (cUp pre)) 3 (lo:Int) (hi:Int) W hQ2 hTb hle (by unfold I64w;omega))
     have HEX:Hid (∀ wk,Blk wk (tb+1) 150 (rcA (srt (padR rs) (cUp pre)))→Calls Tryz.prog 185 #[.pointer (some ⟨tb+1,lo*2,none⟩),.pointer (some ⟨tb+1,hi*2,none⟩)] wk fun e w'=>e=.returned (.tuple #[])∧Blk w' (tb+1) 150 (rcA (srt (padR rs) (cUp pre++[(lo,hi)])))∧wk.grownBy w' (some (tb+1))):=hide fun wk hB=>by
      refine (exchange_any (tb+1) 150 _ (lo*2) (hi*2) xr yr hxc hyc wk hB (rcA_get hxr).1 (rcA_get hxr).2 (rcA_get hyr).1 (rcA_get hyr).2 (by omega)).mono ?_
      rintro e w' ⟨rfl,hq⟩
      rw [HNX.out]
      exact ⟨rfl,exq_row hxr hyr hin3 hq⟩
     have t1:=T1.cell (i:=0) rfl
     have x0:=bX.cell (i:=0) rfl
     have x1:=bX.cell (i:=1) rfl
     have HT1:=hide T1;have HO1:=hide O1;have HR1:=hide R1;have HBX:=hide bX;have HB1:=hide hB1;have HBXL:=hide hBx;have HSZ:=hide hszW
     clear T1 O1 R1 bX hB1 hTb hxr hyr hxc hyc hle hQ2 hsl hBx hszW hloN hhiN hpl HNX
     gi_wp2_with fail
     refine ⟨trivial,?_⟩
     refine (CallsIn.inRound l (callsIn_wide.2 HNO.out)).mono ?_
     rintro e wn ⟨rfl,hkk,hmm,htn⟩
     have Tn:=HT1.out.kept hkk (.inl HMT.out)
     have On:=HO1.out.kept hkk (.inl HMO.out)
     have Rn:=HR1.out.kept hkk (.inl HMR.out)
     have Xn:=HBX.out.kept hkk (.inr rfl)
     have HTN:=hide Tn;have HRN:=hide Rn;have HKK:=hide hkk;have HMM:=hide hmm;have HTTN:=hide htn
     clear t1 x0 x1 Tn Rn hkk hmm htn HNO
     gi_wp2_with fail
     refine startH 1000 (S:=fun w'=>Blk w' (tb+1+1) 89 #[.slice (some ⟨tb+1,0,none⟩) N N]∧Blk w' Bx 174 #[.int .i64 (lo:Int),.int .i64 (hi:Int)]) hmix ?_
     have hS:Blk wn.drew (tb+1+1) 89 #[.slice (some ⟨tb+1,0,none⟩) N N]∧Blk wn.drew Bx 174 #[.int .i64 (lo:Int),.int .i64 (hi:Int)]:=⟨On.drew,Xn.drew⟩
     refine' takeH (i:=0) (v:=_) (noDefer_of (by kernel_rfl)) rfl (by kernel_rfl) (by kernel_rfl) (by kernel_rfl) (fun _ _ _ h=>h) (by kernel_rfl) ⟨Or.inl ⟨by rfl,?hy0k1b⟩,fun _=>rfl⟩ hS ?rest0k1b
     case hy0k1b =>
      intro w' hSw
      obtain ⟨s1,s2⟩:=hSw
      have z1:=s1.cell (i:=0) rfl
      have z2:=s2.cell (i:=0) rfl
      have z3:=s2.cell (i:=1) rfl
      go_simp
      rfl
     simp only [Act.put,getElem_toArray,getElem_cons_zero,setIfInBounds_toArray,set_cons_zero,set_cons_succ]
     refine' takeH (i:=1) (v:=_) (noDefer_of (by kernel_rfl)) rfl (by kernel_rfl) (by kernel_rfl) (by kernel_rfl) (fun _ _ _ h=>h) (by kernel_rfl) ⟨Or.inl ⟨by rfl,?hy1k2b⟩,fun _=>rfl⟩ hS ?rest1k2b
     case hy1k2b =>
      intro w' hSw
      go_simp
      rfl
     simp only [Act.put,getElem_toArray,getElem_cons_succ,getElem_cons_zero,setIfInBounds_toArray,set_cons_zero,set_cons_succ]
     refine' takeH (i:=2) (v:=_) (noDefer_of (by kernel_rfl)) rfl (by kernel_rfl) (by kernel_rfl) (by kernel_rfl) (fun _ _ _ h=>h) (by kernel_rfl) ⟨Or.inl ⟨by rfl,?hy2k3b⟩,fun _=>rfl⟩ hS ?rest2k3b
     case hy2k3b =>
      intro w' hSw
      obtain ⟨s1,s2⟩:=hSw
      have z1:=s1.cell (i:=0) rfl
      have z2:=s2.cell (i:=0) rfl
      have z3:=s2.cell (i:=1) rfl
      go_simp
      rfl
     simp only [Act.put,getElem_toArray,getElem_cons_succ,getElem_cons_zero,setIfInBounds_toArray,set_cons_zero,set_cons_succ]
     refine' takeH (i:=3) (v:=_) (noDefer_of (by kernel_rfl)) rfl (by kernel_rfl) (by kernel_rfl) (by kernel_rfl) (fun _ _ _ h=>h) (by kernel_rfl) ⟨Or.inl ⟨by rfl,?hy3k4b⟩,fun _=>rfl⟩ hS ?rest3k4b
     case hy3k4b =>
      intro w' hSw
      go_simp
      rfl
     simp only [Act.put,getElem_toArray,getElem_cons_succ,getElem_cons_zero,setIfInBounds_toArray,set_cons_zero,set_cons_succ]
     refine' takeH (i:=4) (v:=_) (noDefer_of (by kernel_rfl)) rfl (by kernel_rfl) (by kernel_rfl) (by kernel_rfl) (fun _ _ _ h=>h) (by kernel_rfl) ⟨Or.inl ⟨by rfl,?hy4k5b⟩,fun _=>rfl⟩ hS ?rest4k5b
     case hy4k5b =>
      intro w' hSw
      obtain ⟨s1,s2⟩:=hSw
      have z1:=s1.cell (i:=0) rfl
      have z2:=s2.cell (i:=0) rfl
      have z3:=s2.cell (i:=1) rfl
      go_simp
      rfl
     simp only [Act.put,getElem_toArray,getElem_cons_succ,getElem_cons_zero,setIfInBounds_toArray,set_cons_zero,set_cons_succ]
     refine' takeH (i:=5) (v:=_) (noDefer_of (by kernel_rfl)) rfl (by kernel_rfl) (by kernel_rfl) (by kernel_rfl) (fun _ _ _ h=>h) (by kernel_rfl) ⟨Or.inl ⟨by rfl,?hy5k6b⟩,fun _=>rfl⟩ hS ?rest5k6b
     case hy5k6b =>
      intro w' hSw
      go_simp
      rfl
     simp only [Act.put,getElem_toArray,getElem_cons_succ,getElem_cons_zero,setIfInBounds_toArray,set_cons_zero,set_cons_succ]
     refine' takeH (i:=6) (v:=_) (noDefer_of (by kernel_rfl)) rfl (by kernel_rfl) (by kernel_rfl) (by kernel_rfl) (fun _ _ _ h=>h) (by kernel_rfl) ⟨Or.inl ⟨by rfl,?hy6k7b⟩,fun _=>rfl⟩ hS ?rest6k7b
     case hy6k7b =>
      intro w' hSw
      obtain ⟨s1,s2⟩:=hSw
      have z1:=s1.cell (i:=0) rfl
      have z2:=s2.cell (i:=0) rfl
      have z3:=s2.cell (i:=1) rfl
      go_simp
      rfl
     simp only [Act.put,getElem_toArray,getElem_cons_succ,getElem_cons_zero,setIfInBounds_toArray,set_cons_zero,set_cons_succ]
     refine' takeH (i:=7) (v:=_) (noDefer_of (by kernel_rfl)) rfl (by kernel_rfl) (by kernel_rfl) (by kernel_rfl) (fun _ _ _ h=>h) (by kernel_rfl) ⟨Or.inl ⟨by rfl,?hy7k8b⟩,fun _=>rfl⟩ hS ?rest7k8b
     case hy7k8b =>
      intro w' hSw
      go_simp
      rfl
     simp only [Act.put,getElem_toArray,getElem_cons_succ,getElem_cons_zero,setIfInBounds_toArray,set_cons_zero,set_cons_succ]
     refine oneH (i:=8) (by kernel_rfl) rfl ?_
     intro K hK
     rw [if_pos (by rfl)]
     go_simp
     refine ⟨trivial,?_⟩
     refine (CallsIn.inRound l (callsIn_wide.2 (HEX.out _ HRN.out.drew))).mono ?_
     rintro e w5 ⟨rfl,hR5,hg5⟩
     have hS5:Blk w5 (tb+1+1) 89 #[.slice (some ⟨tb+1,0,none⟩) N N]∧Blk w5 Bx 174 #[.int .i64 (lo:Int),.int .i64 (hi:Int)]:=⟨On.drew.grown hg5 (by intro h;injection h;omega),Xn.drew.grown hg5 (by intro h;cases h;have:=HBXL.out;have:=HGT.out;omega)⟩
     refine hK.out _ _ (fun _=>hS5) ?_
     clear hK K
     refine doneH (by kernel_rfl) ?_ _
     have hT5:Blk w5 tb 51 #[.pointer (tapeA t)]:=HTN.out.drew.grown hg5 (by intro h;injection h;omega)
     have hk5:KeepP (Also P g) W w5:=(HKK.out.mono fun j hj=>.inl (HPI.out j hj)).trans ((KeepP.drew _ _).trans ⟨hg5.os,hg5.tape,hg5.output,hg5.size,fun j hj=>hg5.block j (Nat.lt_of_lt_of_le (HPE.out j hj) (Nat.le_trans HSZ.out HKK.out.size)) (fun h=>HNE.out (by cases h;exact hj))⟩)
     have hf5:KeepsFrom W4.heap.size W w5:=(HMM.out.from HMB.out).trans ((KeepsFrom.of_below (bl_drew (Below.refl _ _))).trans ⟨hg5.size,fun j o hj hi ho=>(hg5.block j (Array.getElem?_eq_some_iff.1 hi).1 (fun h=>by cases h;have:=HZ4.out;have:=HGT.out;omega)).trans hi⟩)
     have ht5:Tp w5 (Also (More P w W2) g) t (es++pairEv (cUp pre++[(lo,hi)])):=by
      rw [HPX.out,← List.append_assoc]
      exact ((HTTN.out.drew.kept hg5 (.inl HMR.out)).mono fun j hj=>.inl hj)
     have HFIN:=hide (show KeepsFrom W4.heap.size W w5∧KeepP (Also P g) W w5∧(((Blk w5 tb 51 #[.pointer (tapeA t)]∧Blk w5 (tb+1+1) 89 #[.slice (some ⟨tb+1,0,none⟩) N N])∧Blk w5 (tb+1) 150 (rcA (srt (padR rs) (cUp (pre++[⟨(lo,hi),hin1,hin2,hin3⟩])))))∧(KeepP (Also P g) W4 w5∧Tp w5 (Also (More P w W2) g) t (es++pairEv (cUp (pre++[⟨(lo,hi),hin1,hin2,hin3⟩]))))) from ⟨hf5,hk5,⟨⟨hT5,hS5.1⟩,by rw [HCU.out];exact hR5⟩,HB1.out.trans hk5,by rw [HCU.out];exact ht5⟩)
     clear hf5 hk5 hT5 hS5 hR5 ht5 hS hg5 On Xn
     gi_wp2
     exact HFIN.out
    case done =>
     rintro D zs W hD hzs ⟨⟨⟨T1,O1⟩,R1⟩,hB1,hT1⟩ hK
     have o1:=O1.cell (i:=0) rfl
     rw [hzs] at R1 hT1
     have hni:=netw_isort L rs HCL.out (by rw [← HN.out];exact hge)
     have hpd:padR rs=rs++List.replicate (2 ^ L - rs.length) (0,0):=by unfold padR;rw [← HLE.out]
     have hsr:srt (padR rs) (netw L)=isort rkey rs++List.replicate (2 ^ L - rs.length) (0,0):=by unfold srt;rw [hpd];exact hni
     rw [hsr] at R1
     have hSL:Sl W W.heap.size (some ⟨tb+1,0,none⟩) (recCs (isort rkey rs)):=sl_of_cells R1 fun j u hu=>by
      unfold recCs at hu
      unfold rcA recCs
      rw [List.flatMap_append,List.getElem?_toArray,List.getElem?_append_left (List.getElem?_eq_some_iff.1 hu).1]
      exact hu
     have hkk:KeepP P w W:=HK4.out.trans (hB1.mono fun j hj=>.inl hj)
     have HSL:=hide hSL;have HKK:=hide hkk;have HT1:=hide hT1
     clear T1 O1 R1 hB1 hT1 hni hpd hsr hSL hkk
     have hlen:(rs.length:Int)≤(N:Int):=by omega
     gi_wp2
     refine ⟨by simp,.inl ⟨_,_,rfl,run_takeDeferred hK,?_⟩⟩
     have hDP:¬ P D:=fun h=>by have:=HPE.out D (.inl h);omega
     have hDt:D≠tb+1:=by have:=HZ4.out;have:=HGT.out;omega
     have hNP1:¬ P (tb+1):=fun h=>HNE.out (.inl h)
     refine ⟨_,results_tmp rfl _ _ _,tb+1,rfl,HKK.out.trans (KeepP.putObj _ hDP _),?_,hNP1,?_⟩
     · exact (HT1.out.mono (R:=P) fun k h=>.inl (.inl h)).putObj (fun u hu=>Nat.lt_of_lt_of_le (HMB.out u hu) hD) hK rfl _
     · refine (HSL.out.at_ fun k hk _ x hx hxb=>?_).more (by simp)
       cases hx
       subst hxb
       exact World.putObj_heap_other (Ne.symm hDt)
    case stop =>
     rintro D c pre W _ _ h _
     exact h.elim
end
end Go.Proofs.YtfljlmleiggmjaaGreatDoor
