/- Chunk -/
import Derived.ChangeAlike
import Derived.Test.YthnenedoblncjaaGreatDoorPkP13
import Derived.Test.YthnenedoblncjaaGreatDoorPkP20
set_option maxRecDepth 1000000
set_option maxHeartbeats 8000000
namespace Go.Proofs.YthnenedoblncjaaGreatDoor
section
open Go.RowKit Go.Shelf
attribute [local go_sem] Oper.semAt_some
def encK (b off n:Nat) (k:Nat):Array Value:=#[.slice (some ⟨b,off+2*k,none⟩) (if 2*k+1<n then 2 else 1) (if 2*k+1<n then 2 else 1)]
theorem chunk1_at (K:Nat→Prop) (Bs Bn b off n c:Nat) (hc:n≤c) (hn:n≤1000000) (hKs:K Bs) (hKn:K Bn) (w:World) (B1:Blk w Bs 28 #[.slice (some ⟨b,off,none⟩) n c]) (B2:Blk w Bn 3 #[.int .i64 2]) :
 SeqX Tryz.prog (fun x=>x<chunkN n) (encK b off n) K (fun _=>False) 255 #[.pointer (some ⟨Bs,0,none⟩),.pointer (some ⟨Bn,0,none⟩)] (fun ys=>ys=List.range (chunkN n)) (chunkN n) w:=by
 intro l J Jx R W hk hKR hRW hJ hJx hY h0
 have HB1:=hide (B1.kept hk hKs);have HB2:=hide (B2.kept hk hKn)
 have HJ:=hide hJ;have HY:=hide hY
 have HRs:Hid (R Bs):=hide (hKR _ hKs);have HRn:Hid (R Bn):=hide (hKR _ hKn)
 have HRW:=hide hRW
 have c1:=HB1.out.cell (i:=0) rfl
 clear hk hKR hRW hJ hJx hY B1 B2 hKs hKn
 refine (callsIn_wide (n:=6)).1 ?_
 refine callsIn_of_wp Tryz.func255 rfl trivial ?_ rfl
 simp only [Tryz.ntmps255,List.size_toArray,List.length_cons,List.length_nil,Nat.reduceAdd,Nat.reduceSub,Array.replicate_succ,Array.replicate_zero,List.push_toArray,List.append_toArray,List.nil_append,List.cons_append]
 gi_wp2
 gi_loopw [4] (fun i wr=>∃ k:Nat,k≤chunkN n∧i=.int .i64 ((2*k:Nat):Int)∧J R (List.range k) wr∧KeepP R W wr)
  (fun i _=>n+2 - (intOf i).toNat)
 case atStart=>exact ⟨0,Nat.zero_le _,rfl,h0,KeepP.refl _ _⟩
 case round =>
  clear c1
  obtain ⟨k,hk,rfl,hJs,hkp⟩:=hrel
  have cs:wr.cell? ⟨Bs,0,none⟩=some (.slice (some ⟨b,off,none⟩) n c):=(HB1.out.kept hkp HRs.out).cell (i:=0) rfl
  have cn:wr.cell? ⟨Bn,0,none⟩=some (.int .i64 2):=(HB2.out.kept hkp HRn.out).cell (i:=0) rfl
  have HKP:=hide hkp
  clear hkp
  by_cases hlt:2*k<n
  · have hkn:k<chunkN n:=by unfold chunkN;omega
    have hRl:∀ j,R j→j<wr.drew.heap.size:=fun j hj=>Nat.lt_of_lt_of_le (HRW.out j hj) HKP.out.size
    have hJd:J R (List.range k) wr.drew:=HJ.out R R _ wr wr.drew hJs (StirsX.of_below (bl_drew (Below.refl _ _)) _ _ _) (fun j hj=>⟨.inl hj,hRl j hj⟩)
    obtain ⟨fn,tmps,assign,body,hy,hR⟩:=HY.out 5 R (List.range k) k wr.drew hRl hJd (by simpa using hkn) hkn
    have hR2:=hide (hR.mono (R':=fun e W'=>∃ r,e=.returned (.bool r)∧(r=true→J R (List.range (k+1)) W'∧KeepP R wr W')∧(r=false→Jx R W')) (by
     rintro e W' (⟨rfl,h1,h2⟩ | ⟨rfl,h1,h2⟩)
     · exact ⟨true,rfl,fun _=>⟨by rw [List.range_succ];exact h1,(KeepP.drew R wr).trans h2⟩,fun h=>by cases h⟩
     · exact ⟨false,rfl,(fun h=>by cases h),fun _=>h1⟩))
    obtain ⟨m,hm⟩:∃ m,m=2*k:=⟨_,rfl⟩
    obtain ⟨q,hq⟩:∃ q:Nat,q=if 2*k+1<n then 2 else 1:=⟨_,rfl⟩
    unfold encK at hy
    rw [← hq,← hm] at hy
    rw [← hm] at hlt ⊢
    have hlti:(m:Int)<(n:Int):=by omega
    have hmc:m≤n:=by omega
    have hmix:Tryz.prog.follows .mixedOrders=true:=by kernel_rfl
    have hq2:q=1∧n=m+1∨q=2∧m+1<n:=by rw [hq];split <;> omega
    have hmin:min (2:Int) ((n - m:Nat):Int)=(q:Int):=by omega
    obtain ⟨e,he⟩:∃ e,e=m+q:=⟨_,rfl⟩
    have hwq:IntKind.i64.wrap ((m:Int)+(q:Int))=(e:Int):=by rw [IntKind.wrap_i64];omega
    have hem:e - m=q:=by omega
    have hec:e≤c:=by omega
    have hme:m≤e:=by omega
    have hmk:((m:Nat):Int).toNat+2≤n+2:=by omega
    have HM:=hide hm
    have HNX:Hid (((m:Nat):Int)+2=((2*(k+1):Nat):Int)):=hide (by omega)
    clear hR hJd hJs hRl hm hq hq2 he
    gi_wp2
    gi_region_with_o fail
    all_goals
     gi_wp2_with fail
     refine hR2.out.mono ?_
     rintro e W3 ⟨r,rfl,hr1,hr2⟩
     have HR1:=hide hr1
     have HR2:=hide hr2
     clear hr1 hr2 hy hR2 cs cn
     cases r with
     | false =>
       have HX3:=hide (HR2.out rfl)
       clear HR1 HR2
       gi_wp2
       refine bodyPost_ret (results_none rfl _ _ _) rfl ?_
       exact ⟨⟨_,rfl⟩,.inr HX3.out⟩
     | true =>
       have HK3:=hide (HKP.out.trans (HR1.out rfl).2)
       have HJ3:=hide (HR1.out rfl).1
       clear HR1 HR2
       have cn3:W3.cell? ⟨Bn,0,none⟩=some (.int .i64 2):=(HB2.out.kept HK3.out HRn.out).cell (i:=0) rfl
       gi_wp2
       go_roundw
       case rel=>exact ⟨k+1,hkn,by rw [← HNX.out],HJ3.out,HK3.out⟩
       case measure=>simp [intOf];omega
  · obtain rfl:k=chunkN n:=by unfold chunkN at hk ⊢;omega
    have hlti:¬ ((2*chunkN n:Nat):Int)<(n:Int):=by omega
    gi_wp2
    go_end0
    exact ⟨⟨_,rfl⟩,.inl hJs⟩
theorem chunk_raw (A:Option Addr) (n c:Nat) (w:World):Calls Tryz.prog 189 #[.slice A n c,.int .i64 2] w fun e w' =>
 e=.returned (.func (.func 255) #[] #[.pointer (some ⟨w.heap.size,0,none⟩),.pointer (some ⟨w.heap.size+1,0,none⟩)]) ∧
 w'=(w.alloc (.cells #[.slice A n c] 28)).alloc (.cells #[.int .i64 2] 3):=by
 have c1:=(Blk.new2 w (.cells #[.slice A n c] 28) 3 #[.int .i64 2]).cell (i:=0) rfl
 go_enter Tryz.func189,Tryz.ntmps189
 go_wp2
 go_ret
 exact ⟨rfl,rfl⟩
end
end Go.Proofs.YthnenedoblncjaaGreatDoor
