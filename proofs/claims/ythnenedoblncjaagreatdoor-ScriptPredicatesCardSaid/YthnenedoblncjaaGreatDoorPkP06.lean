/- RefNum5 -/
import Derived.BigQuiet
import Derived.Deep.AppendLies
import Derived.Test.YthnenedoblncjaaGreatDoorPkP01
set_option maxRecDepth 1000000
set_option maxHeartbeats 8000000
namespace Go.Proofs.YthnenedoblncjaaGreatDoor
section
open Go.RowKit
theorem dCs_take (l:List Nat) (k:Nat):dCs (l.take k)=(dCs l).take k:=by unfold dCs;rw [List.map_take]
theorem Sl.dg {w:World} {B:Nat} {A:Option Addr} {l:List Nat} (h:Sl w B A (dCs l)) {k d:Nat} (hk:l[k]?=some d) :
 ∃ b off,A=some ⟨b,off,none⟩∧b<B∧w.cell? ⟨b,off+k,none⟩=some (.int .i64 (d:Int)):=by
 have hlt:k<l.length:=(List.getElem?_eq_some_iff.1 hk).1
 obtain ⟨b,off,rfl,hB,hc⟩:=h.open_ (by rw [dCs_length];omega)
 exact ⟨b,off,rfl,hB,hc k _ (dCs_get hk)⟩
theorem digit_any (l:List Nat) (i:Nat) (A:Option Addr) (c:Nat) (w:World) (hs:Sl w w.heap.size A (dCs l)) :
 Calls Tryz.prog 121 #[.slice A l.length c,.int .i64 (i:Int)] w fun e w'=>e=.returned (.int .i64 (dig l i:Nat))∧w'=w:=by
 by_cases h:i<l.length
 · obtain ⟨d,hd⟩:∃ d,l[i]?=some d:=⟨_,List.getElem?_eq_getElem h⟩
   obtain ⟨b,off,rfl,hb,hc⟩:=hs.dg hd
   have hD:Hid (dig l i=d):=hide (by unfold dig;rw [hd];rfl)
   clear hd hs
   go_enter Tryz.func121,Tryz.ntmps121
   go_wp2
   go_ret
   exact ⟨by rw [hD.out];rfl,rfl⟩
 · have hD:Hid (dig l i=0):=hide (by unfold dig;rw [List.getElem?_eq_none (by omega)];rfl)
   clear hs
   go_enter Tryz.func121,Tryz.ntmps121
   go_wp2
   go_ret
   exact ⟨by rw [hD.out];rfl,rfl⟩
theorem trim_any (l:List Nat) (A:Option Addr) (c:Nat) (w:World) (hs:Sl w w.heap.size A (dCs l)) (hok:dOk l) (hc:l.length≤c) (hcm:c≤maxLen) :
 Calls Tryz.prog 157 #[.slice A l.length c] w fun e w'=>e=.returned (.slice A (digs (dval l)).length c)∧w'=w∧digs (dval l)=l.take (digs (dval l)).length:=by
 unfold maxLen at hcm
 have HS:=hide hs;have HOK:=hide hok
 clear hs hok
 go_enter Tryz.func157,Tryz.ntmps157
 go_wp2
 go_loopw [0] (fun u wr=>∃ k:Nat,k≤l.length∧u=.slice A k c∧dval (l.take k)=dval l∧wr=w)
  (fun u _=>match u with | .slice _ k _=>k | _=>0)
 case atStart=>exact ⟨l.length,Nat.le_refl _,rfl,by rw [List.take_length],rfl⟩
 case round =>
  obtain ⟨k,hk,rfl,hv,rfl⟩:=hrel
  have HV:=hide hv;clear hv
  by_cases h0:0<k
  · obtain ⟨d,hd⟩:∃ d,l[k - 1]?=some d:=⟨_,List.getElem?_eq_getElem (by omega)⟩
    obtain ⟨b,off,rfl,hb,hcell⟩:=HS.out.dg hd
    have HD:=hide hd;clear hd
    have hki:IntKind.i64.wrap ((k:Int) - 1)=((k - 1:Nat):Int):=by rw [IntKind.wrap_i64];omega
    by_cases hz:d=0
    · subst hz
      have hv2:Hid (dval (l.take (k - 1))=dval l):=hide (by
       rw [← HV.out]
       have h1:(l.take k)[k - 1]?=some 0:=by rw [List.getElem?_take,if_pos (by omega)];exact HD.out
       have h2:=dval_drop_zero (l:=l.take k) (m:=k - 1) (by rw [List.length_take];omega) h1
       rw [List.take_take,Nat.min_eq_left (by omega)] at h2
       exact h2)
      go_wp2
      go_roundw
      case rel=>exact ⟨k - 1,by omega,by simp,hv2.out,trivial⟩
      case measure=>simp;omega
    · have hzi:(d:Int)≠0:=by omega
      have hfin:Hid (digs (dval l)=l.take k):=hide (by
       rw [← HV.out]
       refine (noLead_digs (HOK.out.take k) (noLead_of (m:=k - 1) (by rw [List.length_take];omega) ?_ hz)).symm
       rw [List.getElem?_take,if_pos (by omega)]
       exact HD.out)
      go_wp2
      go_ret
      have h1:(digs (dval l)).length=k:=by rw [hfin.out,List.length_take];omega
      refine ⟨?_,rfl,?_⟩
      · rw [h1];rfl
      · rw [h1];exact hfin.out
  · obtain rfl:k=0:=by omega
    go_wp2
    go_ret
    have h0':=HV.out
    rw [List.take_zero] at h0'
    have h1:digs (dval l)=[]:=by rw [← h0'];exact digs_zero
    rw [h1]
    exact ⟨rfl,rfl,rfl⟩
theorem results_num {fn:Func} {tmps:Array Value} {w:World} {g k:Nat} {v0 v1:Value} (h:fn.results=#[.cell k 81])
 (hp:tmps.getD k undef=.pointer (some ⟨g,0,none⟩)) (hb:Blk w g 81 #[v0,v1]) :
 (results fn tmps).run Tryz.prog w=.ok (.agg #[v0,v1]) w:=by
 have c0:=hb.cell (i:=0) rfl
 have c1:=hb.cell (i:=1) rfl
 have hp':tmps[k]?.getD undef=.pointer (some ⟨g,0,none⟩):=by rw [← hp];simp
 simp [results,h,hp',go_sem,c0,c1]
def numV (n:Int) (A:Option Addr) (c:Nat):Value:=.agg #[.int .i64 n.sign,.slice A (digs n.natAbs).length c]
def NumAt (w:World) (P:Nat→Prop) (n:Int) (A:Option Addr) (c:Nat):Prop:=SlN w P A (dCs (digs n.natAbs))∧(digs n.natAbs).length≤c∧c≤maxLen
def Up (w:World) (P:Nat→Prop):Prop:=∀ k,w.heap.size≤k→P k
theorem Up.of {w w':World} {P:Nat→Prop} (h:Up w P) (hs:w.heap.size≤w'.heap.size):Up w' P:=fun k hk=>h k (by omega)
theorem Up.ne {w w':World} {P:Nat→Prop} (h:Up w P) {g:Nat} (hg:w.heap.size≤g) (hs:g<w'.heap.size):Up w' fun k=>P k∧k≠g:=fun k hk=>⟨h k (by omega),by omega⟩
def GaveR (P:Nat→Prop) (n:Int) (w:World) (e:Ending) (w':World):Prop:=∃ A c,e=.returned (numV n A c)∧NumAt w' P n A c∧Below w.heap.size w w'
section
variable {w w':World} {P R:Nat→Prop} {n:Int} {A:Option Addr} {c:Nat}
theorem NumAt.step (h:NumAt w P n A c) (hb:Below w.heap.size w w'):NumAt w' P n A c:=⟨h.1.below hb,h.2⟩
theorem NumAt.at_ (h:NumAt w P n A c) (hk:∀ b,P b→b<w.heap.size→w'.heap[b]?=w.heap[b]?):NumAt w' P n A c:=⟨h.1.at_ hk,h.2⟩
theorem NumAt.mono (h:NumAt w P n A c) (hR:∀ k,P k→R k):NumAt w R n A c:=⟨h.1.mono hR,h.2⟩
theorem NumAt.ne (h:NumAt w P n A c) (hb:Below w.heap.size w w') {g:Nat} (hg:w.heap.size≤g):NumAt w' (fun k=>P k∧k≠g) n A c :=
 ⟨(h.1.lt.mono fun k hk=>⟨hk.1,by omega⟩).below hb,h.2⟩
theorem NumAt.set {g i:Nat} (h:NumAt w (fun k=>P k∧k≠g) n A c) (u:Value):NumAt (w.setCell ⟨g,i,none⟩ u) (fun k=>P k∧k≠g) n A c :=
 h.at_ fun b hb _=>Below.heap_setCell _ _ _ _ (by exact hb.2)
end
theorem make16_any (P:Nat→Prop) (s:Int) (l:List Nat) (A:Option Addr) (c:Nat) (w:World) (hs:SlN w P A (dCs l)) (hok:dOk l) (hc:l.length≤c) (hcm:c≤maxLen) (hsg:dval l≠0→s=1∨s=-1) :
 Calls Tryz.prog 104 #[.int .i64 s,.slice A l.length c] w (GaveR P (s*dval l) w):=by
 obtain ⟨w0,hw0⟩:∃ w0,w0=w.alloc (.cells #[.int .i64 0,.slice none 0 0] 81):=⟨_,rfl⟩
 have hb0:Below w.heap.size w w0:=by rw [hw0];exact bA
 have B0:Blk w0 w.heap.size 81 #[.int .i64 0,.slice none 0 0]:=by rw [hw0];exact Blk.new _ _ _
 have hs0:=(hs.below hb0).any
 have H:=hide (trim_any l A c w0 hs0 hok hc hcm)
 have hsw:=hide hs
 obtain ⟨n,hn⟩:∃ n,n=dval l:=⟨_,rfl⟩
 have HN:=hide hn
 rw [← hn] at hsg H
 clear hs hok hs0 hn
 go_enter Tryz.func104,Tryz.ntmps104
 go_wp2_with fail
 rw [← hw0]
 refine H.out.mono ?_
 rintro e w1 ⟨rfl,rfl,hd⟩
 have HD:=hide hd
 have hlt:=B0.lt
 have b0:=B0.cell (i:=0) rfl
 have b1:=B0.cell (i:=1) rfl
 have f0:=B0.frozen 0
 have f1:=B0.frozen 1
 obtain ⟨m,hm⟩:∃ m,m=(digs n).length:=⟨_,rfl⟩
 rw [← hm]
 have HM:=hide hm
 clear hd hm hw0
 by_cases h0:n=0
 · have hm0:m=0:=by rw [HM.out,h0,digs_zero];rfl
   subst hm0
   go_wp2
   refine bodyPost_ret (results_num rfl rfl ((B0.set 0 _).set 1 _)) rfl ?_
   refine ⟨none,0,?_,⟨.inl ?_,?_,by unfold maxLen;omega⟩,?_⟩
   · rw [← HN.out,h0]
     unfold numV
     rw [show s*((0:Nat):Int)=0 by simp,Int.natAbs_zero,digs_zero]
     rfl
   · rw [← HN.out,h0,show s*((0:Nat):Int)=0 by simp,Int.natAbs_zero,digs_zero];rfl
   · rw [← HN.out,h0,show s*((0:Nat):Int)=0 by simp,Int.natAbs_zero,digs_zero];exact Nat.le_refl _
   · exact (hb0.setCell (by dsimp only;omega) _).setCell (by dsimp only;omega) _
 · have hmp:m≠0:=by
    rw [HM.out]
    intro h
    exact h0 (digs_nil.1 (List.eq_nil_of_length_eq_zero h))
   have hmi:(m:Int)≠0:=by omega
   have hml:Hid (m≤l.length):=hide (by
    have h1:=congrArg List.length HD.out
    rw [List.length_take,← HM.out] at h1
    omega)
   have hq:=hsg h0
   have hab:Hid ((s*(n:Int)).natAbs=n):=hide (by rcases hq with rfl | rfl <;> omega)
   have hsn:Hid ((s*(n:Int)).sign=s):=hide (by
    have hp:0<(n:Int):=by omega
    rcases hq with rfl | rfl
    · rw [Int.one_mul];exact Int.sign_eq_one_of_pos hp
    · rw [Int.neg_one_mul];exact Int.sign_eq_neg_one_of_neg (by omega))
   clear hq hsg
   go_wp2
   have E:=(B0.set 0 (.int .i64 s)).set 1 (.slice A m c)
   refine bodyPost_ret (results_num rfl rfl E) rfl ?_
   refine ⟨A,c,?_,⟨?_,?_,hcm⟩,?_⟩
   · rw [← HN.out]
     unfold numV
     rw [hsn.out,hab.out,← HM.out]
   · rw [← HN.out,hab.out,HD.out,dCs_take]
     exact (hsw.out.take (digs n).length).below ((hb0.setCell (by dsimp only;omega) _).setCell (by dsimp only;omega) _)
   · rw [← HN.out,hab.out,← HM.out];have:=hml.out;omega
   · exact (hb0.setCell (by dsimp only;omega) _).setCell (by dsimp only;omega) _
end
section
open Go.RowKit
def cmpN (m n:Nat):Int:=if m<n then -1 else if m=n then 0 else 1
theorem cmpN_ge (m n:Nat):(0≤cmpN m n)=(n≤m):=by
 unfold cmpN
 apply propext
 split
 · constructor
   · intro h;omega
   · intro h;omega
 · split
   · constructor
     · intro h;omega
     · intro h;omega
   · constructor
     · intro h;omega
     · intro h;omega
theorem drop_step {l1 l2:List Nat} {j x:Nat} (h:l1.drop (j+1)=l2.drop (j+1)) (h1:l1[j]?=some x) (h2:l2[j]?=some x):l1.drop j=l2.drop j:=by
 have e1:j<l1.length:=(List.getElem?_eq_some_iff.1 h1).1
 have e2:j<l2.length:=(List.getElem?_eq_some_iff.1 h2).1
 rw [List.drop_eq_getElem_cons e1,List.drop_eq_getElem_cons e2,h,(List.getElem?_eq_some_iff.1 h1).2,(List.getElem?_eq_some_iff.1 h2).2]
theorem compare_any (m n:Nat) (A B:Option Addr) (c d:Nat) (w:World) (hA:Sl w w.heap.size A (dCs (digs m))) (hB:Sl w w.heap.size B (dCs (digs n))) (hm:(digs m).length≤1000) :
 Calls Tryz.prog 119 #[.slice A (digs m).length c,.slice B (digs n).length d] w fun e w'=>e=.returned (.int .i64 (cmpN m n))∧Below w.heap.size w w':=by
 have okm:=digs_ok m;have okn:=digs_ok n
 have vm:=dval_digs m;have vn:=dval_digs n
 have hlt:=digs_len_lt (m:=m) (n:=n);have hgt:=digs_len_lt (m:=n) (n:=m)
 generalize digs m=l1 at *
 generalize digs n=l2 at *
 have HA:=hide hA;have HB:=hide hB;have OKM:=hide okm;have OKN:=hide okn;have VM:=hide vm;have VN:=hide vn
 clear hA hB okm okn vm vn
 by_cases hl:l1.length=l2.length
 · have hli:((l1.length:Nat):Int)=((l2.length:Nat):Int):=by omega
   clear hlt hgt
   go_enter Tryz.func119,Tryz.ntmps119
   go_wp2
   have hHL:=hide hl
   go_loopw [5] (fun i wr=>∃ j:Nat,j≤l2.length∧i=.int .i64 ((j:Int) - 1)∧Hid (l1.drop j=l2.drop j)∧Below w.heap.size w wr)
    (fun i _=>(intOf i+1).toNat)
   case atStart=>exact ⟨l2.length,Nat.le_refl _,by go_num,hide (by rw [List.drop_of_length_le (by omega),List.drop_of_length_le (by omega)]),Below.refl _ _⟩
   case round =>
    obtain ⟨j,hj,rfl,HD,hbr⟩:=hrel
    by_cases h0:j=0
    · subst h0
      have hmn:Hid (cmpN m n=0):=hide (by
       have h1:=HD.out
       rw [List.drop_zero,List.drop_zero] at h1
       have h2:=VM.out
       rw [h1,VN.out] at h2
       unfold cmpN
       rw [if_neg (by omega),if_pos h2.symm])
      go_wp2
      go_ret
      exact ⟨by rw [hmn.out];rfl,hbr⟩
    · obtain ⟨x,hx⟩:∃ x,l1[j - 1]?=some x:=⟨_,List.getElem?_eq_getElem (by have:=hHL.out;omega)⟩
      obtain ⟨y,hy⟩:∃ y,l2[j - 1]?=some y:=⟨_,List.getElem?_eq_getElem (by omega)⟩
      obtain ⟨b,off,rfl,hb,hc1⟩:=(HA.out.below hbr).dg hx
      obtain ⟨b',off',rfl,hb',hc2⟩:=(HB.out.below hbr).dg hy
      have HX:=hide hx;have HY:=hide hy
      have hjj:(j:Int) - 1=((j - 1:Nat):Int):=by omega
      obtain ⟨i,hi⟩:∃ i,i=j - 1:=⟨_,rfl⟩
      rw [← hi] at hjj hc1 hc2 HX HY
      have HI:=hide hi
      have hil:i<l1.length:=by have:=hHL.out;omega
      have hil2:i<l2.length:=by omega
      have hiw:IntKind.i64.wrap ((i:Int) - 1)=(i:Int) - 1:=by rw [IntKind.wrap_i64];omega
      rw [hjj]
      clear hx hy hjj hi
      by_cases hxy:x=y
      · subst hxy
        go_wp2
        go_quiet (fail)
        go_wp2
        go_roundw
        case rel =>
         refine ⟨i,by omega,by go_num,hide (drop_step ?_ HX.out HY.out),bl_drewN hbr _⟩
         rw [show i+1=j by have:=HI.out;omega]
         exact HD.out
        case measure=>simp [intOf] <;> (have:=HI.out;omega)
      · have hxyi:(x:Int)≠(y:Int):=by omega
        have htop:Hid (l1.drop (i+1)=l2.drop (i+1)):=hide (by rw [show i+1=j by have:=HI.out;omega];exact HD.out)
        by_cases hlt:x<y
        · have hlti:(x:Int)<(y:Int):=by omega
          have hres:Hid (cmpN m n=-1):=hide (by
           have h1:=dval_cmp OKM.out hHL.out HX.out HY.out htop.out hlt
           rw [VM.out,VN.out] at h1
           unfold cmpN
           rw [if_pos h1])
          clear htop HX HY HI
          go_wp2
          go_quiet (fail)
          go_wp2
          go_quiet (fail)
          go_wp2
          go_ret
          exact ⟨by rw [hres.out];rfl,bl_drewN (bl_drewN hbr _) _⟩
        · have hlti:¬ (x:Int)<(y:Int):=by omega
          have hres:Hid (cmpN m n=1):=hide (by
           have h1:=dval_cmp OKN.out hHL.out.symm HY.out HX.out htop.out.symm (by omega)
           rw [VM.out,VN.out] at h1
           unfold cmpN
           rw [if_neg (by omega),if_neg (by omega)])
          clear htop HX HY HI
          go_wp2
          go_quiet (fail)
          go_wp2
          go_quiet (fail)
          go_wp2
          go_ret
          exact ⟨by rw [hres.out];rfl,bl_drewN (bl_drewN hbr _) _⟩
 · have hli:((l1.length:Nat):Int)≠((l2.length:Nat):Int):=by omega
   by_cases hll:l1.length<l2.length
   · have h1:=hlt hll
     have hlli:((l1.length:Nat):Int)<((l2.length:Nat):Int):=by omega
     have hres:Hid (cmpN m n=-1):=hide (by unfold cmpN;rw [if_pos h1])
     clear hlt hgt h1
     go_enter Tryz.func119,Tryz.ntmps119
     go_wp2
     go_ret
     exact ⟨by rw [hres.out];rfl,Below.refl _ _⟩
   · have h1:=hgt (by omega)
     have hlli:¬ ((l1.length:Nat):Int)<((l2.length:Nat):Int):=by omega
     have hres:Hid (cmpN m n=1):=hide (by unfold cmpN;rw [if_neg (by omega),if_neg (by omega)])
     clear hlt hgt h1
     go_enter Tryz.func119,Tryz.ntmps119
     go_wp2
     go_ret
     exact ⟨by rw [hres.out];rfl,Below.refl _ _⟩
theorem int_info:(Tryz.prog.info? 3).map (fun i=>(i.zero,i.size,i.bytes))=some (some (.int .i64 0),1,8):=by kernel_rfl
def GaveD (l:List Nat) (w:World) (e:Ending) (w':World):Prop:=∃ A c,e=.returned (.slice A l.length c)∧l.length≤c∧c≤maxLen∧SlN w' (fun k=>w.heap.size≤k) A (dCs l)∧Below w.heap.size w w'
theorem own_slice' {w:World} {base:Nat} {e:TypeId} {size n:Nat} {v:Value} {xs:List Value} (h:w.ownsRow base e size v n xs):∃ A cap,v=.slice A n cap∧n≤cap∧cap≤maxLen:=by
 rcases h.2 with ⟨rfl,rfl⟩ | ⟨g',cap,cur,rfl,hb,hh,hc,hm,_⟩
 · exact ⟨none,0,rfl,Nat.le_refl _,by unfold maxLen;omega⟩
 · exact ⟨_,cap,rfl,hc,hm⟩
theorem addD_any (l1 l2:List Nat) (A B:Option Addr) (c d:Nat) (w:World) (hA:Sl w w.heap.size A (dCs l1)) (hB:Sl w w.heap.size B (dCs l2)) (hm:l1.length≤1000) (hn:l2.length≤1000) (ok1:dOk l1) (ok2:dOk l2) :
 Calls Tryz.prog 118 #[.slice A l1.length c,.slice B l2.length d] w fun e w'=>∃ o,GaveD o w e w'∧dOk o∧dval o=dval l1+dval l2∧o.length≤max l1.length l2.length+1:=by
 have HA:=hide hA;have HB:=hide hB;have OK1:=hide ok1;have OK2:=hide ok2
 clear hA hB ok1 ok2
 obtain ⟨i0,hi,hz0,hz1,hz2⟩:=info_parts int_info
 go_enter Tryz.func118,Tryz.ntmps118
 go_wp2
 go_loopw [5,6,7] (fun u ca i wr=>∃ (k cy:Nat) (o:List Nat),k≤1001∧cy≤1∧i=.int .i64 k∧ca=.int .i64 cy∧Hid (AddD l1 l2 k cy o)∧Below w.heap.size w wr∧wr.ownsRow w.heap.size 3 1 u k (dCs o))
  (fun _ ca i _=>(max l1.length l2.length+1) - (intOf i).toNat)
 case atStart=>exact ⟨0,0,[],by omega,by omega,rfl,rfl,hide (AddD.start _ _),Below.refl _ _,World.ownsRow_nil _ _ _ _⟩
 case round =>
  obtain ⟨k,cy,o,hk,hcy,rfl,rfl,HD,hbr,hown⟩:=hrel
  have hG:(k<l1.length∨(¬ k<l1.length∧k<l2.length)∨(¬ k<l1.length∧¬ k<l2.length∧0<cy))∨(¬ k<l1.length∧¬ k<l2.length∧¬ 0<cy):=by omega
  rcases hG with hG | ⟨h1,h2,h3⟩
  · have hN:=HD.out.step OK1.out OK2.out (by omega)
    have hd1:=digit_any l1 k A c wr ((HA.out.below hbr).more hbr.size)
    have hd2:=digit_any l2 k B d wr ((HB.out.below hbr).more hbr.size)
    have hx:=dig_lt OK1.out k
    have hy:=dig_lt OK2.out k
    generalize dig l1 k=x at *
    generalize dig l2 k=y at *
    obtain ⟨r,hr⟩:∃ r,r=(x+y+cy) % 65536:=⟨_,rfl⟩
    obtain ⟨q,hq⟩:∃ q,q=(x+y+cy) / 65536:=⟨_,rfl⟩
    rw [← hr,← hq] at hN
    have hmod:((x:Int)+(y:Int)+(cy:Int)).tmod 65536=(r:Int):=by rw [Int.tmod_eq_emod_of_nonneg (by omega)];omega
    have hdiv:((x:Int)+(y:Int)+(cy:Int)).tdiv 65536=(q:Int):=by rw [Int.tdiv_eq_ediv_of_nonneg (by omega)];omega
    have hkk:=hN.2.2.2.2.1
    have hq1:=hN.2.2.1
    have HN:=hide hN;have HD1:=hide hd1;have HD2:=hide hd2
    clear hN hd1 hd2 hr hq HD
    rcases hG with h1 | ⟨h1,h2⟩ | ⟨h1,h2,h3⟩
    all_goals
     go_wp2_with fail
     refine HD1.out.mono ?_
     rintro e w1 ⟨rfl,rfl⟩
     go_wp2_with fail
     refine HD2.out.mono ?_
     rintro e w2 ⟨rfl,rfl⟩
     go_wp2_with (at_builtin;refine wpList_append_lies _ rfl (.tmp 34) (.tmp 37) 79 rfl w.heap.size 3 i0 (.int .i64 0) 1 8 Tryz.underlying79 hi hz0 hz1 hz2 rfl (by decide) _ k _ rfl (own_step hown (bA)) ⟨w2.heap.size,0,none⟩ 1 1 [.int .i64 (r:Int)] rfl rfl (blk_cells (Blk.new _ _ _)) (by simp [Value.oneCell']) (by omega) (by unfold maxLen;omega) (by omega) (by have:=hbr.size;simp;omega) (w2.heap.size+1) (by simp) ?_)
     intro g' cap w8 hown8 hgrow hat hlt8
     have hb8:Below w.heap.size w w8:=(bl_alloc hbr _).grown hgrow (by have:=hbr.size;simp;omega) (fun j hj=>own_base hown hj)
     have HO8:=hide hown8;have HB8:=hide hb8
     clear hown8 hb8 hgrow hat hlt8
     go_wp2
     go_roundw
     case rel =>
      refine ⟨k+1,q,o++[r],by omega,by omega,by go_num,rfl,HN,HB8.out,?_⟩
      rw [dCs_app]
      exact HO8.out
     case measure=>simp [intOf];omega
  · go_wp2
    obtain ⟨e1,e2,e3⟩:=HD.out.done (by omega)
    obtain ⟨A',c',rfl,hc',hcm'⟩:=own_slice' hown
    have hol:=HD.out.1
    go_ret
    exact ⟨o,⟨A',c',by rw [hol];rfl,by omega,hcm',own_slN hown,hbr⟩,e1,e2,e3⟩
end
section
open Go.RowKit
theorem subD_any (l1 l2:List Nat) (A B:Option Addr) (c d:Nat) (w:World) (hA:Sl w w.heap.size A (dCs l1)) (hB:Sl w w.heap.size B (dCs l2)) (hm:l1.length≤1000) (hl:l2.length≤l1.length) (ok1:dOk l1) (ok2:dOk l2) (hv:dval l2≤dval l1) :
 Calls Tryz.prog 120 #[.slice A l1.length c,.slice B l2.length d] w fun e w'=>∃ o,GaveD o w e w'∧dOk o∧dval o=dval l1 - dval l2∧o.length=l1.length:=by
 have HA:=hide hA;have HB:=hide hB;have OK1:=hide ok1;have OK2:=hide ok2;have HV:=hide hv
 clear hA hB ok1 ok2 hv
 obtain ⟨i0,hi,hz0,hz1,hz2⟩:=info_parts int_info
 go_enter Tryz.func120,Tryz.ntmps120
 go_wp2
 go_loopw [5,6,7] (fun u ca i wr=>∃ (k cy:Nat) (o:List Nat),k≤l1.length∧cy≤1∧i=.int .i64 k∧ca=.int .i64 cy∧Hid (SubD l1 l2 k cy o)∧Below w.heap.size w wr∧wr.ownsRow w.heap.size 3 1 u k (dCs o))
  (fun _ ca i _=>l1.length - (intOf i).toNat)
 case atStart=>exact ⟨0,0,[],by omega,by omega,rfl,rfl,hide (SubD.start _ _),Below.refl _ _,World.ownsRow_nil _ _ _ _⟩
 case round =>
  obtain ⟨k,cy,o,hk,hcy,rfl,rfl,HD,hbr,hown⟩:=hrel
  by_cases h1:k<l1.length
  · obtain ⟨x,hx⟩:∃ x,l1[k]?=some x:=⟨_,List.getElem?_eq_getElem h1⟩
    have hd2:∀ n,Calls Tryz.prog 121 #[.slice B l2.length d,.int .i64 (k:Int)] (wr.drewN n) fun e w'=>e=.returned (.int .i64 (dig l2 k:Nat))∧w'=wr.drewN n:=fun n=>digit_any l2 k B d (wr.drewN n) ((HB.out.below (bl_drewN hbr n)).more hbr.size)
    have hx6:=OK1.out.at_ hx
    have hy:=dig_lt OK2.out k
    have hN1:=fun h=>HD.out.lend OK1.out OK2.out hx h
    have hN2:=fun h=>HD.out.keep OK1.out hx h
    obtain ⟨b,off,rfl,hb,hc1⟩:=(HA.out.below hbr).dg hx
    generalize dig l2 k=y at *
    have HD2:=hide hd2
    clear hd2 HD hx
    by_cases hs:x<y+cy
    · obtain ⟨r,hr⟩:∃ r,r=x+65536 - y - cy:=⟨_,rfl⟩
      have hN:=hN1 hs
      rw [← hr] at hN
      have HN:=hide hN
      have hsum:(x:Int) - (y:Int) - (cy:Int)+65536=(r:Int):=by omega
      have hneg:(x:Int) - (y:Int) - (cy:Int)<0:=by omega
      clear hN1 hN2 hN hr
      go_wp2
      go_quiet ((go_at_call 121;exact Calls.quiet_of_same (HD2.out _)))
      go_wp2_with (at_builtin;refine wpList_append_lies _ rfl (.tmp 29) (.tmp 31) 79 rfl w.heap.size 3 i0 (.int .i64 0) 1 8 Tryz.underlying79 hi hz0 hz1 hz2 rfl (by decide) _ k _ rfl (own_step hown (bl_alloc (bl_drewN (Below.refl _ _) _) _)) ⟨wr.heap.size,0,none⟩ 1 1 [.int .i64 (r:Int)] rfl rfl (blk_cells (Blk.new _ _ _)) (by simp [Value.oneCell']) (by omega) (by unfold maxLen;omega) (by omega) (by have:=hbr.size;simp;omega) (wr.heap.size+1) (by simp) ?_)
      intro g' cap w8 hown8 hgrow hat hlt8
      have hb8:Below w.heap.size w w8:=(bl_alloc (bl_drewN hbr _) _).grown hgrow (by have:=hbr.size;simp;omega) (fun j hj=>own_base hown hj)
      have HO8:=hide hown8;have HB8:=hide hb8
      clear hown8 hb8 hgrow hat hlt8
      go_wp2
      go_roundw
      case rel =>
       refine ⟨k+1,1,o++[r],by omega,by omega,by go_num,rfl,HN,HB8.out,?_⟩
       rw [dCs_app]
       exact HO8.out
      case measure=>simp [intOf];omega
    · obtain ⟨r,hr⟩:∃ r,r=x - y - cy:=⟨_,rfl⟩
      have hN:=hN2 (by omega)
      rw [← hr] at hN
      have HN:=hide hN
      have hsum:(x:Int) - (y:Int) - (cy:Int)=(r:Int):=by omega
      have hneg:¬ (r:Int)<0:=by omega
      clear hN1 hN2 hN hr
      go_wp2
      go_quiet ((go_at_call 121;exact Calls.quiet_of_same (HD2.out _)))
      go_wp2_with (at_builtin;refine wpList_append_lies _ rfl (.tmp 29) (.tmp 31) 79 rfl w.heap.size 3 i0 (.int .i64 0) 1 8 Tryz.underlying79 hi hz0 hz1 hz2 rfl (by decide) _ k _ rfl (own_step hown (bl_alloc (bl_drewN (Below.refl _ _) _) _)) ⟨wr.heap.size,0,none⟩ 1 1 [.int .i64 (r:Int)] rfl rfl (blk_cells (Blk.new _ _ _)) (by simp [Value.oneCell']) (by omega) (by unfold maxLen;omega) (by omega) (by have:=hbr.size;simp;omega) (wr.heap.size+1) (by simp) ?_)
      intro g' cap w8 hown8 hgrow hat hlt8
      have hb8:Below w.heap.size w w8:=(bl_alloc (bl_drewN hbr _) _).grown hgrow (by have:=hbr.size;simp;omega) (fun j hj=>own_base hown hj)
      have HO8:=hide hown8;have HB8:=hide hb8
      clear hown8 hb8 hgrow hat hlt8
      go_wp2
      go_roundw
      case rel =>
       refine ⟨k+1,0,o++[r],by omega,by omega,by go_num,rfl,HN,HB8.out,?_⟩
       rw [dCs_app]
       exact HO8.out
      case measure=>simp [intOf];omega
  · obtain rfl:k=l1.length:=by omega
    go_wp2
    obtain ⟨e1,e2,e3⟩:=HD.out.done hl HV.out
    obtain ⟨A',c',rfl,hc',hcm'⟩:=own_slice' hown
    go_ret
    exact ⟨o,⟨A',c',by rw [e3];rfl,by omega,hcm',own_slN hown,hbr⟩,e1,e2,e3⟩
end
section
open Go.RowKit
theorem gave_set {P:Nat→Prop} {n:Int} {w w4:World} {g:Nat} {A:Option Addr} {c:Nat} {u v:Value} (hb:Below w.heap.size w w4) (hg:w.heap.size≤g) (hn:NumAt w4 (fun k=>P k∧k≠g) n A c) :
 GaveR P n w (.returned (numV n A c)) ((w4.setCell ⟨g,0,none⟩ u).setCell ⟨g,1,none⟩ v) :=
 ⟨A,c,rfl,((hn.set u).set v).mono fun _ hk=>hk.1,(hb.setCell (by exact hg) _).setCell (by exact hg) _⟩
def IntD (m k y:Nat) (o:List Nat):Prop:=o.length=k∧dOk o∧k≤4∧y<65536 ^ (4 - k)∧dval o+65536 ^ k*y=m
theorem IntD.start {m:Nat} (h:m<18446744073709551616):IntD m 0 m []:=⟨rfl,fun d hd=>by simp at hd,by omega,by simpa using h,by simp [dval]⟩
theorem IntD.step {m k y:Nat} {o:List Nat} (h:IntD m k y o) (hy:0<y):k<4∧IntD m (k+1) (y / 65536) (o++[y % 65536]):=by
 obtain ⟨h1,h2,h3,h4,h5⟩:=h
 have hk:k<4:=by
  rcases Nat.lt_or_ge k 4 with h | h
  · exact h
  · rw [show 4 - k=0 by omega,Nat.pow_zero] at h4;omega
 refine ⟨hk,by simp [h1],h2.snoc (by omega),by omega,?_,?_⟩
 · rw [show 4 - k=(4 - (k+1))+1 by omega,Nat.pow_succ] at h4
   omega
 · rw [dval_snoc,h1,Nat.pow_succ,Nat.mul_assoc]
   have e:65536 ^ k*(y % 65536)+65536 ^ k*(65536*(y / 65536))=65536 ^ k*y:=by
    rw [← Nat.mul_add,Nat.mod_add_div]
   omega
theorem IntD.done {m k:Nat} {o:List Nat} (h:IntD m k 0 o):dOk o∧dval o=m:=⟨h.2.1,by simpa using h.2.2.2.2⟩
theorem int_any (P:Nat→Prop) (x:Int) (hx:-9223372036854775808≤x∧x≤9223372036854775807) (w:World) (hP:Up w P) :
 Calls Tryz.prog 75 #[.int .i64 x] w (GaveR P x w):=by
 obtain ⟨m,hm⟩:∃ m,m=x.natAbs:=⟨_,rfl⟩
 obtain ⟨w0,hw0⟩:∃ w0,w0=w.alloc (.cells #[.int .i64 0,.slice none 0 0] 81):=⟨_,rfl⟩
 have hb0:Below w.heap.size w w0:=by rw [hw0];exact bA
 have B0:Blk w0 w.heap.size 81 #[.int .i64 0,.slice none 0 0]:=by rw [hw0];exact Blk.new _ _ _
 have hsz:w0.heap.size=w.heap.size+1:=by rw [hw0];simp
 have HS:=hide (IntD.start (m:=m) (by omega))
 have HP:=hide hP
 obtain ⟨i0,hi,hz0,hz1,hz2⟩:=info_parts int_info
 have HB0:=hide hb0;have HBB:=hide B0;have HSZ:=hide hsz
 clear hP hb0 B0 hsz
 by_cases hn:x<0
 · obtain ⟨u0,hu0⟩:∃ u0:Nat,(u0:Int)=18446744073709551616+x:=⟨(18446744073709551616+x).toNat,by omega⟩
   have hu:IntKind.u64.wrap x=(u0:Int):=by simp only [IntKind.wrap_u64];omega
   have hnu:IntKind.u64.wrap (-(u0:Int))=(m:Int):=by simp only [IntKind.wrap_u64];omega
   have HX:Hid ((-1:Int)*(m:Int)=x):=hide (by omega)
   have hs:(-1:Int)=1∨(-1:Int)=-1:=.inr rfl
   clear hu0 hm hx
   go_enter Tryz.func75,Tryz.ntmps75
   go_wp2
   rw [← hw0]
   clear hw0
   go_loopw [3,5] (fun u d wr=>∃ (k y:Nat) (o:List Nat),u=.int .u64 y∧Hid (IntD m k y o)∧Below w0.heap.size w0 wr∧wr.ownsRow w0.heap.size 3 1 d k (dCs o))
    (fun u _ _=>(intOf u).toNat)
   case atStart=>exact ⟨0,m,[],rfl,HS,Below.refl _ _,World.ownsRow_nil _ _ _ _⟩
   case round =>
    obtain ⟨k,y,o,rfl,HD,hbr,hown⟩:=hrel
    by_cases hy:0<y
    · obtain ⟨hk,hN⟩:=HD.out.step hy
      obtain ⟨r,hr⟩:∃ r,r=y % 65536:=⟨_,rfl⟩
      obtain ⟨q,hq⟩:∃ q,q=y / 65536:=⟨_,rfl⟩
      rw [← hr,← hq] at hN
      have hmod:(y:Int).tmod 65536=(r:Int):=by rw [Int.tmod_eq_emod_of_nonneg (by omega)];omega
      have hdiv:(y:Int).tdiv 65536=(q:Int):=by rw [Int.tdiv_eq_ediv_of_nonneg (by omega)];omega
      have hwr:IntKind.i64.wrap (r:Int)=(r:Int):=by rw [IntKind.wrap_i64];omega
      have hqy:Hid (q<y):=hide (by omega)
      have hwq:Hid (IntKind.u64.wrap (q:Int)=(q:Int)):=hide (by
       have h1:=HD.out.2.2.2.1
       have h2:65536 ^ (4 - k)≤65536 ^ 4:=Nat.pow_le_pow_right (by omega) (by omega)
       simp only [IntKind.wrap_u64]
       omega)
      have HN:=hide hN
      clear hN hr hq HD
      go_wp2_with (at_builtin;refine wpList_append_lies _ rfl (.tmp 14) (.tmp 18) 79 rfl w0.heap.size 3 i0 (.int .i64 0) 1 8 Tryz.underlying79 hi hz0 hz1 hz2 rfl (by decide) _ k _ rfl (own_step hown (bA)) ⟨wr.heap.size,0,none⟩ 1 1 [.int .i64 (r:Int)] rfl rfl (blk_cells (Blk.new _ _ _)) (by simp [Value.oneCell']) (by omega) (by unfold maxLen;omega) (by omega) (by have:=hbr.size;simp;omega) (wr.heap.size+1) (by simp) ?_)
      intro g' cap w8 hown8 hgrow hat hlt8
      have hb8:Below w0.heap.size w0 w8:=(bl_alloc hbr _).grown hgrow (by have:=hbr.size;simp;omega) (fun j hj=>own_base hown hj)
      have HO8:=hide hown8;have HB8:=hide hb8
      clear hown8 hb8 hgrow hat hlt8
      go_wp2
      go_roundw
      case rel =>
       refine ⟨k+1,q,o++[r],by rw [hwq.out],HN,HB8.out,?_⟩
       rw [dCs_app]
       exact HO8.out
      case measure=>rw [hwq.out];simp [intOf];exact hqy.out
    · obtain rfl:y=0:=by omega
      obtain ⟨e1,e2⟩:=HD.out.done
      obtain ⟨A',c',rfl,hc',hcm'⟩:=own_slice' hown
      have hol:=HD.out.1
      subst hol
      have hnl:SlN wr (fun k=>P k∧k≠w.heap.size) A' (dCs o):=(own_slN hown).mono fun k hk=>⟨HP.out k (by have:=HSZ.out;omega),by have:=HSZ.out;omega⟩
      have HM:=hide (make16_any _ (-1) o A' c' wr hnl e1 hc' hcm' (fun _=>.inr rfl))
      rw [e2,HX.out] at HM
      have hwr:Below w.heap.size w wr:=bl_step HB0.out hbr
      have hbb:=HBB.out.step hbr
      clear hown hnl e1 e2
      go_wp2_with fail
      refine HM.out.mono ?_
      rintro e w5 ⟨A5,c5,rfl,hN5,hb5⟩
      have hb55:=bl_step hwr hb5
      have B5:=hbb.step hb5
      have hlt:=B5.lt
      have b0:=B5.cell (i:=0) rfl
      have b1:=B5.cell (i:=1) rfl
      have f0:=B5.frozen 0
      have f1:=B5.frozen 1
      unfold numV
      go_wp2
      refine bodyPost_ret (results_num rfl rfl ((B5.set 0 _).set 1 _)) rfl ?_
      exact gave_set hb55 (Nat.le_refl _) hN5
 · have hu:IntKind.u64.wrap x=(m:Int):=by simp only [IntKind.wrap_u64];omega
   have HX:Hid ((1:Int)*(m:Int)=x):=hide (by omega)
   clear hm hx
   go_enter Tryz.func75,Tryz.ntmps75
   go_wp2
   rw [← hw0]
   clear hw0
   go_loopw [3,5] (fun u d wr=>∃ (k y:Nat) (o:List Nat),u=.int .u64 y∧Hid (IntD m k y o)∧Below w0.heap.size w0 wr∧wr.ownsRow w0.heap.size 3 1 d k (dCs o))
    (fun u _ _=>(intOf u).toNat)
   case atStart=>exact ⟨0,m,[],rfl,HS,Below.refl _ _,World.ownsRow_nil _ _ _ _⟩
   case round =>
    obtain ⟨k,y,o,rfl,HD,hbr,hown⟩:=hrel
    by_cases hy:0<y
    · obtain ⟨hk,hN⟩:=HD.out.step hy
      obtain ⟨r,hr⟩:∃ r,r=y % 65536:=⟨_,rfl⟩
      obtain ⟨q,hq⟩:∃ q,q=y / 65536:=⟨_,rfl⟩
      rw [← hr,← hq] at hN
      have hmod:(y:Int).tmod 65536=(r:Int):=by rw [Int.tmod_eq_emod_of_nonneg (by omega)];omega
      have hdiv:(y:Int).tdiv 65536=(q:Int):=by rw [Int.tdiv_eq_ediv_of_nonneg (by omega)];omega
      have hwr:IntKind.i64.wrap (r:Int)=(r:Int):=by rw [IntKind.wrap_i64];omega
      have hqy:Hid (q<y):=hide (by omega)
      have hwq:Hid (IntKind.u64.wrap (q:Int)=(q:Int)):=hide (by
       have h1:=HD.out.2.2.2.1
       have h2:65536 ^ (4 - k)≤65536 ^ 4:=Nat.pow_le_pow_right (by omega) (by omega)
       simp only [IntKind.wrap_u64]
       omega)
      have HN:=hide hN
      clear hN hr hq HD
      go_wp2_with (at_builtin;refine wpList_append_lies _ rfl (.tmp 14) (.tmp 18) 79 rfl w0.heap.size 3 i0 (.int .i64 0) 1 8 Tryz.underlying79 hi hz0 hz1 hz2 rfl (by decide) _ k _ rfl (own_step hown (bA)) ⟨wr.heap.size,0,none⟩ 1 1 [.int .i64 (r:Int)] rfl rfl (blk_cells (Blk.new _ _ _)) (by simp [Value.oneCell']) (by omega) (by unfold maxLen;omega) (by omega) (by have:=hbr.size;simp;omega) (wr.heap.size+1) (by simp) ?_)
      intro g' cap w8 hown8 hgrow hat hlt8
      have hb8:Below w0.heap.size w0 w8:=(bl_alloc hbr _).grown hgrow (by have:=hbr.size;simp;omega) (fun j hj=>own_base hown hj)
      have HO8:=hide hown8;have HB8:=hide hb8
      clear hown8 hb8 hgrow hat hlt8
      go_wp2
      go_roundw
      case rel =>
       refine ⟨k+1,q,o++[r],by rw [hwq.out],HN,HB8.out,?_⟩
       rw [dCs_app]
       exact HO8.out
      case measure=>rw [hwq.out];simp [intOf];exact hqy.out
    · obtain rfl:y=0:=by omega
      obtain ⟨e1,e2⟩:=HD.out.done
      obtain ⟨A',c',rfl,hc',hcm'⟩:=own_slice' hown
      have hol:=HD.out.1
      subst hol
      have hnl:SlN wr (fun k=>P k∧k≠w.heap.size) A' (dCs o):=(own_slN hown).mono fun k hk=>⟨HP.out k (by have:=HSZ.out;omega),by have:=HSZ.out;omega⟩
      have HM:=hide (make16_any _ 1 o A' c' wr hnl e1 hc' hcm' (fun _=>.inl rfl))
      rw [e2,HX.out] at HM
      have hwr:Below w.heap.size w wr:=bl_step HB0.out hbr
      have hbb:=HBB.out.step hbr
      clear hown hnl e1 e2
      go_wp2_with fail
      refine HM.out.mono ?_
      rintro e w5 ⟨A5,c5,rfl,hN5,hb5⟩
      have hb55:=bl_step hwr hb5
      have B5:=hbb.step hb5
      have hlt:=B5.lt
      have b0:=B5.cell (i:=0) rfl
      have b1:=B5.cell (i:=1) rfl
      have f0:=B5.frozen 0
      have f1:=B5.frozen 1
      unfold numV
      go_wp2
      refine bodyPost_ret (results_num rfl rfl ((B5.set 0 _).set 1 _)) rfl ?_
      exact gave_set hb55 (Nat.le_refl _) hN5
def NB (w:World) (P:Nat→Prop) (g:Nat) (n:Int):Prop:=∃ A c,Blk w g 81 #[.int .i64 n.sign,.slice A (digs n.natAbs).length c]∧NumAt w P n A c
theorem neg_raw (s s2:Int) (m c:Nat) (A:Option Addr) (w:World) (hsg:IntKind.i64.wrap (-s)=s2) :
 Calls Tryz.prog 76 #[.agg #[.int .i64 s,.slice A m c]] w fun e w'=>e=.returned (.agg #[.int .i64 s2,.slice A m c])∧Below w.heap.size w w':=by
 go_enter Tryz.func76,Tryz.ntmps76
 go_wp2
 refine bodyPost_ret (results_num rfl rfl (Blk.new2 _ _ _ _)) rfl ?_
 exact ⟨rfl,bl_alloc (bA) _⟩
theorem neg_any (P:Nat→Prop) (n:Int) (A:Option Addr) (c:Nat) (w:World) (hn:NumAt w P n A c) :
 Calls Tryz.prog 76 #[numV n A c] w (GaveR P (-n) w):=by
 have hsg:IntKind.i64.wrap (-n.sign)=(-n).sign:=by
  rw [Int.sign_neg,IntKind.wrap_i64]
  rcases Int.lt_trichotomy n 0 with h | h | h
  · rw [Int.sign_eq_neg_one_of_neg h];rfl
  · subst h;rfl
  · rw [Int.sign_eq_one_of_pos h];rfl
 unfold numV
 refine (neg_raw n.sign (-n).sign _ c A w hsg).mono ?_
 rintro e w' ⟨rfl,hb⟩
 have hab:(-n).natAbs=n.natAbs:=Int.natAbs_neg n
 refine ⟨A,c,?_,?_,hb⟩
 · unfold numV;rw [hab]
 · unfold NumAt;rw [hab];exact hn.step hb
end
section
open Go.RowKit
theorem dCs_set (l:List Nat) (i d:Nat):dCs (l.set i d)=(dCs l).set i (.int .i64 (d:Int)):=by unfold dCs;rw [List.map_set]
theorem mul_raw (P:Nat→Prop) (s1 s2 s:Int) (l1 l2:List Nat) (la lb:Nat) (A B:Option Addr) (c d:Nat) (w:World) (hA:Sl w w.heap.size A (dCs l1)) (hB:Sl w w.heap.size B (dCs l2)) (ok1:dOk l1) (ok2:dOk l2)
 (hla:l1.length=la) (hlb:l2.length=lb) (hm:la≤400) (hn:lb≤400) (hP:Up w P) (hs:IntKind.i64.wrap (s1*s2)=s) (hsg:dval l1*dval l2≠0→s=1∨s=-1) (N:Int) (hN:s*(dval l1*dval l2:Nat)=N) :
 Calls Tryz.prog 74 #[.agg #[.int .i64 s1,.slice A la c],.agg #[.int .i64 s2,.slice B lb d]] w (GaveR P N w):=by
 obtain ⟨w0,hw0⟩:∃ w0,w0=((w.alloc (.cells #[.int .i64 s1,.slice A la c] 81)).alloc (.cells #[.int .i64 s2,.slice B lb d] 81)).alloc (.cells #[.int .i64 0,.slice none 0 0] 81):=⟨_,rfl⟩
 have hb0:Below w.heap.size w w0:=by rw [hw0];exact bl_alloc (bl_alloc (bA) _) _
 have B1:Blk w0 w.heap.size 81 #[.int .i64 s1,.slice A la c]:=by rw [hw0];exact ((Blk.new _ _ _).alloc _).alloc _
 have B2:Blk w0 (w.heap.size+1) 81 #[.int .i64 s2,.slice B lb d]:=by rw [hw0];exact (Blk.new2 _ _ _ _).alloc _
 have B3:Blk w0 (w.heap.size+1+1) 81 #[.int .i64 0,.slice none 0 0]:=by
  rw [hw0]
  have h:=Blk.new ((w.alloc (.cells #[.int .i64 s1,.slice A la c] 81)).alloc (.cells #[.int .i64 s2,.slice B lb d] 81)) 81 #[.int .i64 0,.slice none 0 0]
  simpa using h
 have hsz:w0.heap.size=w.heap.size+1+1+1:=by rw [hw0];simp
 have HA:=hide hA;have HB:=hide hB;have OK1:=hide ok1;have OK2:=hide ok2;have HP:=hide hP;have HSG:=hide hsg
 have HB0:=hide hb0;have HB1:=hide B1;have HB2:=hide B2;have HB3:=hide B3;have HSZ:=hide hsz
 obtain ⟨i0,hi,hz0,hz1,hz2⟩:=info_parts int_info
 have HLA:=hide hla;have HLB:=hide hlb;have HNN:=hide hN
 clear hA hB ok1 ok2 hP hsg hb0 B1 B2 B3 hsz hla hlb hN
 go_enter Tryz.func74,Tryz.ntmps74
 go_wp2
 rw [← hw0]
 clear hw0
 go_loopw [5,6] (fun u i wr=>∃ k:Nat,k≤la+lb∧i=.int .i64 k∧Below w0.heap.size w0 wr∧wr.ownsRow w0.heap.size 3 1 u k (dCs (List.replicate k 0)))
  (fun _ i _=>(la+lb) - (intOf i).toNat)
 case atStart=>exact ⟨0,by omega,rfl,Below.refl _ _,World.ownsRow_nil _ _ _ _⟩
 case round =>
  obtain ⟨k,hk,rfl,hbr,hown⟩:=hrel
  have r1:=(HB1.out.step hbr).cell (i:=1) rfl
  have r2:=(HB2.out.step hbr).cell (i:=1) rfl
  by_cases h:k<la+lb
  · have hki:(k:Int)<(la:Int)+(lb:Int):=by omega
    go_wp2_with (at_builtin;refine wpList_append_lies _ rfl (.tmp 22) (.tmp 23) 79 rfl w0.heap.size 3 i0 (.int .i64 0) 1 8 Tryz.underlying79 hi hz0 hz1 hz2 rfl (by decide) _ k _ rfl (own_step hown (bA)) ⟨wr.heap.size,0,none⟩ 1 1 [.int .i64 0] rfl rfl (blk_cells (Blk.new _ _ _)) (by simp [Value.oneCell']) (by omega) (by unfold maxLen;omega) (by omega) (by have:=hbr.size;simp;omega) (wr.heap.size+1) (by simp) ?_)
    intro g' cap w8 hown8 hgrow hat hlt8
    have hb8:Below w0.heap.size w0 w8:=(bl_alloc hbr _).grown hgrow (by have:=hbr.size;simp;omega) (fun j hj=>own_base hown hj)
    have HO8:=hide hown8;have HB8:=hide hb8
    clear hown8 hb8 hgrow hat hlt8
    go_wp2
    go_roundw
    case rel =>
     refine ⟨k+1,by omega,by go_num,HB8.out,?_⟩
     have h1:=HO8.out
     rw [List.replicate_succ',dCs_app]
     exact h1
    case measure=>simp [intOf];omega
  · obtain rfl:k=la+lb:=by omega
    have hki:¬ ((la+lb:Nat):Int)<(la:Int)+(lb:Int):=by omega
    go_wp2
    obtain ⟨A',cap,rfl,hcap,hcapm⟩:=own_slice' hown
    have hnl:∀ k,IntKind.i64.wrap ((k:Int)+(lb:Int))=IntKind.i64.wrap ((k:Int)+(lb:Int)):=fun _=>rfl
    clear hnl r1 r2 hki h hk
    go_loopw [7,8,9,10] (fun u7 _ _ _ wk=>∃ (k:Nat) (o:List Nat),k≤la∧u7=.int .i64 k∧Hid (MulO l1 l2 k o)∧Below w0.heap.size w0 wk∧wk.ownsRow w0.heap.size 3 1 (.slice A' (la+lb) cap) (la+lb) (dCs o))
     (fun u7 _ _ _ _=>la - (intOf u7).toNat)
    case atStart =>
     refine ⟨0,List.replicate (la+lb) 0,by omega,rfl,hide ?_,hbr,hown⟩
     have h:=MulO.start l1 l2
     rw [HLA.out,HLB.out] at h
     exact h
    case round =>
     obtain ⟨k,o,hk,rfl,HO,hbk,howk⟩:=hrel
     clear hown hbr
     have r1:=(HB1.out.step hbk).cell (i:=1) rfl
     have r2:=(HB2.out.step hbk).cell (i:=1) rfl
     by_cases h:k<la
     · obtain ⟨x,hx⟩:∃ x,l1[k]?=some x:=⟨_,List.getElem?_eq_getElem (by have:=HLA.out;omega)⟩
       obtain ⟨g,cap',hv,hgb,hgl,_⟩:=own_form howk (by omega)
       obtain ⟨rfl,rfl⟩:A'=some ⟨g,0,none⟩∧cap=cap':=by
        have h:=hv
        simp only [Value.slice.injEq] at h
        exact ⟨h.1,h.2.2⟩
       have hx6:=OK1.out.at_ hx
       have HX:=hide hx
       clear hv hx hgl
       go_wp2
       go_loopw [8,9,10] (fun u8 u9 _ wj=>∃ (j cy:Nat) (o':List Nat),j≤lb∧u8=.int .i64 cy∧u9=.int .i64 j∧Hid (MulI o l2 x k j cy o')∧Below w0.heap.size w0 wj∧wj.ownsRow w0.heap.size 3 1 (.slice (some ⟨g,0,none⟩) (la+lb) cap) (la+lb) (dCs o'))
        (fun _ u9 _ _=>lb - (intOf u9).toNat)
       case atStart=>exact ⟨0,0,o,by omega,rfl,rfl,hide (MulI.start x k HO.out.2.1),hbk,howk⟩
       case round =>
        obtain ⟨j,cy,o',hj,rfl,rfl,HI,hbj,howj⟩:=hrel
        clear howk hbk r1 r2
        have r1:=(HB1.out.step hbj).cell (i:=1) rfl
        have r2:=(HB2.out.step hbj).cell (i:=1) rfl
        have hlen:o'.length=la+lb:=by rw [HI.out.1,HO.out.1,HLA.out,HLB.out]
        have hcy:=HI.out.2.2.1
        by_cases hjl:j<lb
        · obtain ⟨y,hy⟩:∃ y,l2[j]?=some y:=⟨_,List.getElem?_eq_getElem (by have:=HLB.out;omega)⟩
          obtain ⟨z,hz⟩:∃ z,o'[k+j]?=some z:=⟨_,List.getElem?_eq_getElem (by omega)⟩
          have hy6:=OK2.out.at_ hy
          have hz6:=HI.out.2.1.at_ hz
          obtain ⟨b,off,rfl,hb,hc1⟩:=((HA.out.below HB0.out).more (by have:=HSZ.out;omega:w.heap.size≤w0.heap.size)).below hbj |>.dg HX.out
          obtain ⟨b',off',rfl,hb',hc2⟩:=((HB.out.below HB0.out).more (by have:=HSZ.out;omega:w.heap.size≤w0.heap.size)).below hbj |>.dg hy
          obtain ⟨hc3,hf3⟩:=own_cell howj (dCs_get hz)
          have hN:=HI.out.step hx6 hy6 hy hz
          obtain ⟨kj,hkj⟩:∃ kj,kj=k+j:=⟨_,rfl⟩
          rw [← hkj] at hN hc3 hf3
          have hkji:(k:Int)+(j:Int)=(kj:Int):=by omega
          have hxyb:x*y≤65535*65535:=Nat.mul_le_mul (by omega) (by omega)
          obtain ⟨xy,hxy⟩:∃ xy,xy=x*y:=⟨_,rfl⟩
          rw [← hxy] at hN hxyb
          have hxyi:(x:Int)*(y:Int)=(xy:Int):=by rw [hxy];simp
          obtain ⟨r,hr⟩:∃ r,r=(z+xy+cy) % 65536:=⟨_,rfl⟩
          obtain ⟨q,hq⟩:∃ q,q=(z+xy+cy) / 65536:=⟨_,rfl⟩
          rw [← hr,← hq] at hN
          have hmod:((z:Int)+(xy:Int)+(cy:Int)).tmod 65536=(r:Int):=by rw [Int.tmod_eq_emod_of_nonneg (by omega)];omega
          have hdiv:((z:Int)+(xy:Int)+(cy:Int)).tdiv 65536=(q:Int):=by rw [Int.tdiv_eq_ediv_of_nonneg (by omega)];omega
          have hkjl:kj<la+lb:=by omega
          have hkji2:(kj:Int)<(la:Int)+(lb:Int):=by omega
          have howj2:=fun n u=>own_put (own_step howj (bl_drewN (Below.refl _ _) n)) kj u
          have hqb:q<65536:=hN.2.2.1
          have HN:=hide hN;have HOW:=hide howj2;have HBJ:=hide hbj
          clear hN howj2 hr hq hxy hkj hlen howj HI hbj hy hz
          go_wp2
          go_quiet (fail)
          go_wp2
          go_roundw
          case rel =>
           refine ⟨j+1,q,o'.set kj r,by omega,by go_num,by go_num,HN,(bl_drewN HBJ.out _).setCell (by exact hgb) _,?_⟩
           rw [dCs_set]
           exact HOW.out _ _
          case measure=>simp [intOf];omega
        · obtain rfl:j=lb:=by omega
          have hI:=HI.out
          rw [← HLB.out] at hI
          obtain ⟨hz,hN⟩:=HO.out.step HX.out hI
          rw [HLB.out] at hz hN
          obtain ⟨hc3,hf3⟩:=own_cell howj (dCs_get hz)
          have hkl:k+j<la+j:=by omega
          obtain ⟨kj,hkj⟩:∃ kj,kj=k+j:=⟨_,rfl⟩
          rw [← hkj] at hN hc3 hf3
          have hkji:(k:Int)+(j:Int)=(kj:Int):=by omega
          have hkji2:(kj:Int)<(la:Int)+(j:Int):=by omega
          have howj2:=fun u=>own_put howj kj u
          have HN:=hide hN;have HOW:=hide howj2;have HBJ:=hide hbj
          clear hN howj2 hkj hlen howj HI hI hbj hz
          go_wp2
          go_roundw
          case rel =>
           refine ⟨k+1,o'.set kj cy,by omega,by go_num,HN,HBJ.out.setCell (by exact hgb) _,?_⟩
           rw [dCs_set]
           exact HOW.out _
          case measure=>simp [intOf];omega
     · obtain rfl:k=la:=by omega
       have hO:=HO.out
       rw [← HLA.out] at hO
       obtain ⟨e1,e2,e3⟩:=hO.done
       have hnl:SlN wr (fun i=>P i∧i≠w.heap.size+1+1) A' (dCs o):=(own_slN howk).mono fun i hi=>⟨HP.out i (by have:=HSZ.out;omega),by have:=HSZ.out;omega⟩
       have r10:=(HB1.out.step hbk).cell (i:=0) rfl
       have r20:=(HB2.out.step hbk).cell (i:=0) rfl
       have hsg:=HSG.out
       rw [← e2] at hsg
       have hol:o.length=k+lb:=by rw [e3,HLA.out,HLB.out]
       have HM:=make16_any _ s o A' cap wr hnl e1 (by omega) hcapm hsg
       rw [e2,hol,HNN.out] at HM
       have HMM:=hide HM
       have hwk:Below w.heap.size w wr:=bl_step HB0.out hbk
       have hbb:=HB3.out.step hbk
       have HBW:=hide hwk;have HBB:=hide hbb
       clear howk hnl e1 e2 e3 HM hsg hO HO hwk hbb hol
       go_wp2_with fail
       refine HMM.out.mono ?_
       rintro e w5 ⟨A5,c5,rfl,hN5,hb5⟩
       have hb55:=bl_step HBW.out hb5
       have B5:=HBB.out.step hb5
       have hlt:=B5.lt
       have b0:=B5.cell (i:=0) rfl
       have b1:=B5.cell (i:=1) rfl
       have f0:=B5.frozen 0
       have f1:=B5.frozen 1
       unfold numV
       go_wp2
       refine bodyPost_ret (results_num rfl rfl ((B5.set 0 _).set 1 _)) rfl ?_
       exact gave_set hb55 (by omega) hN5
theorem mul_any' {Pa Pb:Nat→Prop} (P:Nat→Prop) (a b:Int) (A B:Option Addr) (c d:Nat) (w:World) (ha:NumAt w Pa a A c) (hb:NumAt w Pb b B d) (hla:(digs a.natAbs).length≤400) (hlb:(digs b.natAbs).length≤400) (hP:Up w P) :
 Calls Tryz.prog 74 #[numV a A c,numV b B d] w (GaveR P (a*b) w):=by
 have sg:∀ n:Int,n.sign=-1∨n.sign=0∨n.sign=1:=fun n=>by
  rcases Int.lt_trichotomy n 0 with h | h | h
  · exact .inl (Int.sign_eq_neg_one_of_neg h)
  · subst h;exact .inr (.inl rfl)
  · exact .inr (.inr (Int.sign_eq_one_of_pos h))
 have h:=mul_raw P a.sign b.sign (a*b).sign (digs a.natAbs) (digs b.natAbs) _ _ A B c d w ha.1.any hb.1.any (digs_ok _) (digs_ok _) rfl rfl hla hlb hP
  (by rw [Int.sign_mul,IntKind.wrap_i64];rcases sg a with h | h | h <;> rcases sg b with h' | h' | h' <;> rw [h,h'] <;> rfl)
  (by
    rw [dval_digs,dval_digs]
    intro h0
    have h1:a*b≠0:=by
     intro h2
     rw [← Int.natAbs_mul,h2] at h0
     exact h0 rfl
    rcases Int.lt_trichotomy (a*b) 0 with h | h | h
    · exact .inr (Int.sign_eq_neg_one_of_neg h)
    · exact absurd h h1
    · exact .inl (Int.sign_eq_one_of_pos h)) (a*b) (by rw [dval_digs,dval_digs,← Int.natAbs_mul,Int.sign_mul_natAbs])
 exact h
theorem mul_any (P:Nat→Prop) (a b:Int) (A B:Option Addr) (c d:Nat) (w:World) (ha:NumAt w P a A c) (hb:NumAt w P b B d) (hla:(digs a.natAbs).length≤400) (hlb:(digs b.natAbs).length≤400) (hP:Up w P) :
 Calls Tryz.prog 74 #[numV a A c,numV b B d] w (GaveR P (a*b) w):=mul_any' P a b A B c d w ha hb hla hlb hP
end
end Go.Proofs.YthnenedoblncjaaGreatDoor
