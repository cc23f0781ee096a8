/- Chunk -/
import Derived.ChangeAlike
import Derived.Laws.BytesArg
import Derived.Test.YthnenedoblncjaaGreatDoorPkN15
import Derived.Test.YthnenedoblncjaaGreatDoorPkN16
set_option maxRecDepth 1000000
set_option maxHeartbeats 8000000
namespace Go.Proofs.YthnenedoblncjaaGreatDoor
open Go.Proofs.Tryz
section
open Go.RowKit Go.Shelf
attribute [local go_sem] Oper.semAt_some
def D6(b off n:Nat)(k:Nat):Array Value:=#[.slice (some ⟨b,off+2*k,none⟩) (if 2*k+1<n then 2 else 1) (if 2*k+1<n then 2 else 1)]
theorem J2(K:Nat->Prop)(Bs Bn b off n c:Nat)(hc:n<=c)(hn:n<=1000000)(hKs:K Bs)(hKn:K Bn)(w:World)(B1:Z6 w Bs 28 #[.slice (some ⟨b,off,none⟩) n c])(B2:Z6 w Bn 3 #[.int .i64 2]):
 Gt prog (fun x=>x<Y4 n) (D6 b off n) K (fun _=>False) 255 #[.pointer (some ⟨Bs,0,none⟩),.pointer (some ⟨Bn,0,none⟩)] (fun ys=>ys=List.range (Y4 n)) (Y4 n) w:=by
 intro l J Jx R W hk xY sV hJ hJx hY h0;have HB1:=hide (B1.kept hk hKs);have HB2:=hide (B2.kept hk hKn);have HJ:=hide hJ;have HY:=hide hY;have fV:Hid (R Bs):=hide (xY _ hKs);have jT:Hid (R Bn):=hide (xY _ hKn);have HRW:=hide sV;have c1:=HB1.out.q0 rfl;clear hk xY sV hJ hJx hY B1 B2 hKs hKn;refine (callsIn_wide (n:=6)).1 ?_;refine callsIn_of_wp func255 rfl trivial ?_ rfl;simp only [ntmps255,List.size_toArray,List.length_cons,List.length_nil,Nat.reduceAdd,Nat.reduceSub,Array.replicate_succ,Array.replicate_zero,List.push_toArray,List.append_toArray,List.nil_append,List.cons_append];gi_wp2
 gi_loopw [4] (fun i wr=>∃ k:Nat,k<=Y4 n/\i=.int .i64 ((2*k:Nat):Int)/\J R (List.range k) wr/\Z9 R W wr)
  (fun i _=>n+2 - (intOf i).toNat)
 case atStart=>exact ⟨0,Nat.zero_le _,rfl,h0,Z9.refl _ _⟩
 case round =>
  clear c1;obtain ⟨k,hk,rfl,hJs,hkp⟩:=hrel;have cs:wr.cell? ⟨Bs,0,none⟩=some (.slice (some ⟨b,off,none⟩) n c):=(HB1.out.kept hkp fV.out).q0 rfl;have cn:wr.cell? ⟨Bn,0,none⟩=some (.int .i64 2):=(HB2.out.kept hkp jT.out).q0 rfl;have Ct:=hide hkp;clear hkp
  by_cases hlt:2*k<n
  · have hkn:k<Y4 n:=(by unfold Y4;omega);have hRl:∀ j,R j->j<wr.drew.heap.size:=fun j hj=>Nat.lt_of_lt_of_le (HRW.out j hj) Ct.out.size;have hJd:J R (List.range k) wr.drew:=HJ.out R R _ wr wr.drew hJs (Zy.of_below (ZV (Below.refl _ _)) _ _ _) (fun j hj=>⟨.inl hj,hRl j hj⟩);obtain ⟨fn,tmps,assign,body,hy,hR⟩:=HY.out 5 R (List.range k) k wr.drew hRl hJd (by simpa using hkn) hkn
    have hR2:=hide (hR.mono (R':=fun e W'=>∃ r,e=.returned (.bool r)/\(r=true->J R (List.range (k+1)) W'/\Z9 R wr W')/\(r=false->Jx R W')) (by
     rintro e W' (⟨rfl,h1,h2⟩|⟨rfl,h1,h2⟩)
     · exact ⟨true,rfl,fun _=>⟨by rw [List.range_succ];exact h1,(Z9.drew R wr).trans h2⟩,fun h=>by cases h⟩
     · exact ⟨false,rfl,(fun h=>by cases h),fun _=>h1⟩))
    obtain ⟨m,hm⟩:=eE (2*k);obtain ⟨q,hq⟩:∃ q:Nat,q=if 2*k+1<n then 2 else 1:=⟨_,rfl⟩;unfold D6 at hy;rw [<- hq,<- hm] at hy;rw [<- hm] at hlt ⊢;have RZ:(m:Int)<(n:Int):=(by omega);have hmc:m<=n:=(by omega);have YD:prog.follows .mixedOrders=true:=(by kernel_rfl);have hq2:q=1/\n=m+1\/q=2/\m+1<n:=(by rw [hq];split <;> omega);have hmin:min (2:Int) ((n - m:Nat):Int)=(q:Int):=(by omega);obtain ⟨e,he⟩:=eE (m+q);have hwq:IntKind.i64.wrap ((m:Int)+(q:Int))=(e:Int):=(by rw [IntKind.wrap_i64];omega);have hem:e - m=q:=(by omega);have dw:e<=c:=(by omega);have hme:m<=e:=(by omega);have hmk:((m:Nat):Int).toNat+2<=n+2:=(by omega);have HM:=hide hm;have Gg:Hid (((m:Nat):Int)+2=((2*(k+1):Nat):Int)):=hide (by omega);clear hR hJd hJs hRl hm hq hq2 he;gi_wp2
    gi_region_with_o fail
    all_goals
     gi_wp2_with fail;refine hR2.out.mono ?_;rintro e W3 ⟨r,rfl,hr1,hr2⟩;have HR1:=hide hr1;have HR2:=hide hr2;clear hr1 hr2 hy hR2 cs cn;cases r with
     | false =>
       have Jz:=hide (HR2.out rfl);clear HR1 HR2;gi_wp2;refine bodyPost_ret (results_none rfl _ _ _) rfl ?_;exact ⟨⟨_,rfl⟩,.inr Jz.out⟩
     | true =>
       have Lh:=hide (Ct.out.trans (HR1.out rfl).2);have rz:=hide (HR1.out rfl).1;clear HR1 HR2;have bW:W3.cell? ⟨Bn,0,none⟩=some (.int .i64 2):=(HB2.out.kept Lh.out jT.out).q0 rfl;gi_wp2;go_roundw
       case rel=>exact ⟨k+1,hkn,by rw [<- Gg.out],rz.out,Lh.out⟩
       case measure=>simp [intOf];omega
  · obtain rfl:k=Y4 n:=(by unfold Y4 at hk ⊢;omega);have RZ:¬ ((2*Y4 n:Nat):Int)<(n:Int):=(by omega);gi_wp2;go_end0;exact ⟨⟨_,rfl⟩,.inl hJs⟩
theorem J3(A:Option Addr)(n c:Nat)(w:World):Calls prog 189 #[.slice A n c,.int .i64 2] w fun e w' =>
 e=.returned (.func (.func 255) #[] #[.pointer (some ⟨w.heap.size,0,none⟩),.pointer (some ⟨w.heap.size+1,0,none⟩)]) /\
 w'=(w.alloc (.cells #[.slice A n c] 28)).alloc (.cells #[.int .i64 2] 3):=by
 have c1:=(Z6.new2 w (.cells #[.slice A n c] 28) 3 #[.int .i64 2]).q0 rfl;go_enter func189,ntmps189;go_wp2;go_ret;exact ⟨rfl,rfl⟩
end
end Go.Proofs.YthnenedoblncjaaGreatDoor