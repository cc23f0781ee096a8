/- RefPoly2 RefFence2 RefEngine -/
import Derived.BigQuiet
import Derived.ChangeAlike
import Derived.Deep.QuietTactic
import Derived.Test.YthnenedoblncjaaGreatDoorPkP28
import Derived.Test.YthnenedoblncjaaGreatDoorPkP31
set_option maxRecDepth 1000000
set_option maxHeartbeats 8000000
namespace Go.Proofs.YthnenedoblncjaaGreatDoor
section
open Go.RowKit
def isP (n:Nat):Bool:=decide (3≤n∧n≤64)
theorem ris_any (n:Nat) (A:Option Addr) (c:Nat) (w:World):Calls Tryz.prog 123 #[.slice A n c] w fun e w'=>e=.returned (.bool (isP n))∧w'=w:=by
 by_cases h3:3≤n
 · have h3i:(3:Int)≤(n:Int):=by omega
   by_cases h64:n≤64
   · have h64i:(n:Int)≤64:=by omega
     have H:Hid (isP n=true):=hide (by simp [isP];omega)
     go_enter Tryz.func123,Tryz.ntmps123
     go_wp2
     go_ret
     exact ⟨by rw [H.out];rfl,rfl⟩
   · have h64i:¬ (n:Int)≤64:=by omega
     have H:Hid (isP n=false):=hide (by simp [isP];omega)
     go_enter Tryz.func123,Tryz.ntmps123
     go_wp2
     go_ret
     exact ⟨by rw [H.out];rfl,rfl⟩
 · have h3i:¬ (3:Int)≤(n:Int):=by omega
   have H:Hid (isP n=false):=hide (by simp [isP];omega)
   go_enter Tryz.func123,Tryz.ntmps123
   go_wp2
   go_ret
   exact ⟨by rw [H.out];rfl,rfl⟩
theorem rorientation_any (ps:List Pt) (hps:PsJ ps) (A:Option Addr) (c:Nat) (w:World) (hs:Sl w w.heap.size A (ptCs ps)) :
 Calls Tryz.prog 124 #[.slice A ps.length c] w fun e w'=>e=.returned (.int .i64 (orientV ps))∧Below w.heap.size w w':=by
 by_cases hi:3≤ps.length∧ps.length≤64
 · have hI:Calls Tryz.prog 123 #[.slice A ps.length c] w fun e w'=>e=.returned (.bool true)∧w'=w:=by
    have h:=ris_any ps.length A c w
    rw [show isP ps.length=true by simp [isP];omega] at h
    exact h
   have ho:orientV ps=(orientD (ptAt ps 0) (ptAt ps 1) (ptAt ps 2)).sign:=by unfold orientV;rw [if_pos hi]
   rw [ho]
   obtain ⟨b,off,rfl,hb⟩:=sl_pts hs (by omega)
   obtain ⟨a0,a1⟩:=sl_pt hs (k:=0) (by omega)
   obtain ⟨b0,b1⟩:=sl_pt hs (k:=1) (by omega)
   obtain ⟨c0,c1⟩:=sl_pt hs (k:=2) (by omega)
   have l0:0<ps.length:=by omega
   have l1:(1:Int)<((ps.length:Nat):Int):=by omega
   have l2:(2:Int)<((ps.length:Nat):Int):=by omega
   have HO:Hid (∀ wk,Below w.heap.size w wk→Calls Tryz.prog 40 #[.agg #[.int .i64 (ptAt ps 0).1,.int .i64 (ptAt ps 0).2],.agg #[.int .i64 (ptAt ps 1).1,.int .i64 (ptAt ps 1).2],.agg #[.int .i64 (ptAt ps 2).1,.int .i64 (ptAt ps 2).2]] wk fun e w'=>e=.returned (.int .i64 (orientD (ptAt ps 0) (ptAt ps 1) (ptAt ps 2)).sign)∧Below wk.heap.size wk w') :=
    hide fun wk _=>rsign_any _ _ _ (hps.at_ 0) (hps.at_ 1) (hps.at_ 2) wk
   generalize hos:(orientD (ptAt ps 0) (ptAt ps 1) (ptAt ps 2)).sign=os at *
   generalize hpa:ptAt ps 0=pa at *
   generalize hpb:ptAt ps 1=pb at *
   generalize hpc:ptAt ps 2=pc at *
   obtain ⟨a,a'⟩:=pa
   obtain ⟨b2,b'⟩:=pb
   obtain ⟨c2,c'⟩:=pc
   dsimp only at *
   simp only [Nat.zero_mul,Nat.add_zero,Nat.one_mul,Nat.reduceMul] at a0 a1 b0 b1 c0 c1
   have HI:=hide hI
   clear hI hos hpa hpb hpc ho hs hps
   have hbd:=bl_drew (Below.refl w.heap.size w)
   go_enter Tryz.func124,Tryz.ntmps124
   go_wp2_with fail
   refine HI.out.mono ?_
   rintro e w1 ⟨rfl,hw1⟩
   rw [hw1]
   clear hw1
   go_wp2
   go_region_held3 (fun w'=>(Below w.heap.size w w'∧w'.cell? ⟨b,off,none⟩=some (.int .i64 a)∧w'.cell? ⟨b,off+1,none⟩=some (.int .i64 a'))∧(w'.cell? ⟨b,off+2,none⟩=some (.int .i64 b2)∧w'.cell? ⟨b,off+2+1,none⟩=some (.int .i64 b'))∧w'.cell? ⟨b,off+4,none⟩=some (.int .i64 c2)∧w'.cell? ⟨b,off+4+1,none⟩=some (.int .i64 c'))
    (first | exact ⟨⟨hbd,a0,a1⟩,⟨b0,b1⟩,c0,c1⟩ | exact ⟨⟨bl_step hbd (by assumption),(hb1.cell (p:=⟨b,_,none⟩) hb).trans a0,(hb1.cell (p:=⟨b,_,none⟩) hb).trans a1⟩,⟨(hb1.cell (p:=⟨b,_,none⟩) hb).trans b0,(hb1.cell (p:=⟨b,_,none⟩) hb).trans b1⟩,(hb1.cell (p:=⟨b,_,none⟩) hb).trans c0,(hb1.cell (p:=⟨b,_,none⟩) hb).trans c1⟩)
    (first
      | (go_at_call 40;((with_reducible refine (HO.out _ hbd).mono ?_);rintro e w' ⟨rfl,hb1⟩)))
   all_goals
    go_wp2
    go_ret
    exact ⟨rfl,bl_step hbd hb1⟩
 · have hI:Hid (Calls Tryz.prog 123 #[.slice A ps.length c] w fun e w'=>e=.returned (.bool false)∧w'=w):=hide (by
    have h:=ris_any ps.length A c w
    rw [show isP ps.length=false by simp [isP];omega] at h
    exact h)
   have ho:orientV ps=0:=by unfold orientV;rw [if_neg hi]
   rw [ho]
   clear hps hs ho hi
   go_enter Tryz.func124,Tryz.ntmps124
   go_wp2_with fail
   refine hI.out.mono ?_
   rintro e w1 ⟨rfl,rfl⟩
   go_wp2
   go_ret
   exact ⟨rfl,Below.refl _ _⟩
theorem rpside_raw (ps:List Pt) (hps:PsJ ps) (n:Nat) (hln:ps.length=n) (i:Nat) (hi:i<n) (hn:n≤10000) (p:Pt) (hp:PJ p) (A:Option Addr) (c:Nat) (w:World) (hs:Sl w w.heap.size A (ptCs ps)) :
 Calls Tryz.prog 125 #[.slice A n c,.int .i64 i,ptV p] w fun e w'=>e=.returned (.int .i64 (orientD (ptAt ps i) (ptAt ps ((i+1) % n)) p).sign)∧Below w.heap.size w w':=by
 obtain ⟨p1,p2⟩:=p
 unfold ptV
 obtain ⟨w0,hw0⟩:∃ w0,w0=w.alloc (.cells #[.int .i64 p1,.int .i64 p2] 41):=⟨_,rfl⟩
 have hb0:Below w.heap.size w w0:=by rw [hw0];exact bA
 have B0:Blk w0 w.heap.size 41 #[.int .i64 p1,.int .i64 p2]:=by rw [hw0];exact Blk.new _ _ _
 have hs0:=(hs.below hb0).more hb0.size
 obtain ⟨b,off,rfl,hb⟩:=sl_pts hs0 (by omega)
 obtain ⟨ni,hni⟩:∃ ni,ni=(i+1) % n:=⟨_,rfl⟩
 have hnl:ni<n:=by rw [hni];exact Nat.mod_lt _ (by omega)
 obtain ⟨a0,a1⟩:=sl_pt hs0 (k:=i) (by omega)
 obtain ⟨b0,b1⟩:=sl_pt hs0 (k:=ni) (by omega)
 have c0:w0.cell? ⟨w.heap.size,0,none⟩=some (.int .i64 p1):=B0.cell (i:=0) rfl
 have c1:w0.cell? ⟨w.heap.size,1,none⟩=some (.int .i64 p2):=B0.cell (i:=1) rfl
 have hg:=B0.lt
 have hmod:((i:Int)+1).tmod (n:Int)=(ni:Int):=by rw [Int.tmod_eq_emod_of_nonneg (by omega),hni];simp
 have hil:(i:Int)<((n:Nat):Int):=by omega
 have hsum:IntKind.i64.wrap ((i:Int)+1)=(i:Int)+1:=by rw [IntKind.wrap_i64];omega
 have hwn:IntKind.i64.wrap (ni:Int)=(ni:Int):=by rw [IntKind.wrap_i64];omega
 have hnil:(ni:Int)<((n:Nat):Int):=by omega
 have hl0:((n:Nat):Int)≠0:=by omega
 have hl1:((n:Int) == 0)=false:=by simp;omega
 have hl2:n≠0:=by omega
 have HO:Hid (∀ wk,Calls Tryz.prog 40 #[.agg #[.int .i64 (ptAt ps i).1,.int .i64 (ptAt ps i).2],.agg #[.int .i64 (ptAt ps ni).1,.int .i64 (ptAt ps ni).2],.agg #[.int .i64 p1,.int .i64 p2]] wk fun e w'=>e=.returned (.int .i64 (orientD (ptAt ps i) (ptAt ps ni) (p1,p2)).sign)∧Below wk.heap.size wk w') :=
  hide fun wk=>rsign_any _ _ (p1,p2) (hps.at_ i) (hps.at_ ni) hp wk
 rw [← hni]
 generalize hos:(orientD (ptAt ps i) (ptAt ps ni) (p1,p2)).sign=os at *
 generalize hpa:ptAt ps i=pa at *
 generalize hpb:ptAt ps ni=pb at *
 obtain ⟨a,a'⟩:=pa
 obtain ⟨b2,b'⟩:=pb
 dsimp only at *
 have hbd:=bl_drew (Below.refl w0.heap.size w0)
 have HB0:=hide hb0
 clear hos hpa hpb hs hs0 hps hp hni B0 hb0 hln
 go_enter Tryz.func125,Tryz.ntmps125
 go_wp2
 rw [← hw0]
 have HW0:=hide hw0
 clear hw0
 go_region_held3 (fun w'=>(Below w0.heap.size w0 w'∧w'.cell? ⟨b,off+i*2,none⟩=some (.int .i64 a)∧w'.cell? ⟨b,off+i*2+1,none⟩=some (.int .i64 a'))∧(w'.cell? ⟨b,off+ni*2,none⟩=some (.int .i64 b2)∧w'.cell? ⟨b,off+ni*2+1,none⟩=some (.int .i64 b'))∧w'.cell? ⟨w.heap.size,0,none⟩=some (.int .i64 p1)∧w'.cell? ⟨w.heap.size,1,none⟩=some (.int .i64 p2))
  (first | exact ⟨⟨hbd,a0,a1⟩,⟨b0,b1⟩,c0,c1⟩ | exact ⟨⟨bl_step hbd (by assumption),(hb1.cell (p:=⟨b,_,none⟩) hb).trans a0,(hb1.cell (p:=⟨b,_,none⟩) hb).trans a1⟩,⟨(hb1.cell (p:=⟨b,_,none⟩) hb).trans b0,(hb1.cell (p:=⟨b,_,none⟩) hb).trans b1⟩,(hb1.cell (p:=⟨_,_,none⟩) hg).trans c0,(hb1.cell (p:=⟨_,_,none⟩) hg).trans c1⟩)
  (first
    | (go_at_call 40;((with_reducible refine (HO.out _).mono ?_);rintro e w' ⟨rfl,hb1⟩)))
 all_goals
  go_wp2
  go_ret
  exact ⟨rfl,bl_step HB0.out (bl_step hbd hb1)⟩
end
section
open Go.RowKit
theorem innerF_all (s:Int) (ps:List Pt) (i:Nat) (v:Bool) (k:Nat):innerF s ps i v k=(v && (List.range k).all (okE s ps i)):=by
 induction k with
 | zero=>simp [innerF]
 | succ k ih=>rw [innerF_succ,ih,List.range_succ,List.all_append];simp [Bool.and_assoc]
theorem vF_all (s:Int) (ps:List Pt) (k:Nat):vF s ps (List.range k)=(!decide (s=0) && (List.range k).all fun i=>(List.range ps.length).all (okE s ps i)):=by
 induction k with
 | zero=>simp [vF]
 | succ k ih=>rw [List.range_succ,vF_snoc,innerF_all,ih,List.all_append];simp [Bool.and_assoc]
theorem validV_no {ps:List Pt} (h:¬ (3≤ps.length∧ps.length≤64)):validV ps=false:=by
 unfold validV edgeN
 rw [if_neg h,vF_all]
 unfold orientV
 rw [if_neg h]
 rfl
theorem validV_bad {ps:List Pt} (h:3≤ps.length∧ps.length≤64) {i j:Nat} (hi:i<ps.length) (hj:j<ps.length) (hb:okE (orientV ps) ps i j=false):validV ps=false:=by
 unfold validV edgeN
 rw [if_pos h,vF_all]
 have h1:((List.range ps.length).all fun i=>(List.range ps.length).all (okE (orientV ps) ps i))=false:=by
  rw [List.all_eq_false]
  refine ⟨i,List.mem_range.2 hi,?_⟩
  rw [Bool.not_eq_true,List.all_eq_false]
  exact ⟨j,List.mem_range.2 hj,by rw [hb];simp⟩
 rw [h1,Bool.and_false]
theorem validV_good {ps:List Pt} (h:3≤ps.length∧ps.length≤64) (hb:∀ i,i<ps.length→∀ j,j<ps.length→okE (orientV ps) ps i j=true):validV ps=!decide (orientV ps=0):=by
 unfold validV edgeN
 rw [if_pos h,vF_all]
 have h1:((List.range ps.length).all fun i=>(List.range ps.length).all (okE (orientV ps) ps i))=true:=by
  rw [List.all_eq_true]
  intro i hi
  rw [List.all_eq_true]
  intro j hj
  exact hb i (List.mem_range.1 hi) j (List.mem_range.1 hj)
 rw [h1,Bool.and_true]
def rmin (ps:List Pt) (p:Pt) (k:Nat):Int:=if k=0 then 1 else sgnM (locF (orientV ps) ps p (List.range k)).1 (locF (orientV ps) ps p (List.range k)).2
theorem rmin_succ (ps:List Pt) (p:Pt) (k:Nat):min (rmin ps p k) (sideE (orientV ps) ps p k)=rmin ps p (k+1):=by
 have hb:=sideE_bd ps p k
 unfold rmin
 rw [if_neg (Nat.succ_ne_zero k),List.range_succ,locF_snoc]
 generalize sideE (orientV ps) ps p k=x at *
 by_cases hk:k=0
 · subst hk
   have h:x=-1∨x=0∨x=1:=by omega
   simp only [List.range_zero,show locF (orientV ps) ps p []=(true,false) from rfl]
   rcases h with rfl | rfl | rfl <;> decide
 · rw [if_neg hk]
   generalize locF (orientV ps) ps p (List.range k)=st
   obtain ⟨a,b⟩:=st
   have h:x=-1∨x=0∨x=1:=by omega
   simp only [hk,decide_false,cond_false]
   rcases h with rfl | rfl | rfl <;> cases a <;> cases b <;> decide
theorem rmin_bd (ps:List Pt) (p:Pt) (k:Nat):-1≤rmin ps p k∧rmin ps p k≤1:=by
 unfold rmin
 split
 · omega
 · generalize locF (orientV ps) ps p (List.range k)=st
   obtain ⟨a,b⟩:=st
   cases a <;> cases b <;> decide
theorem rmin_loc {ps:List Pt} (p:Pt) (h:3≤ps.length∧ps.length≤64):rmin ps p ps.length=locV ps p:=by
 unfold rmin locV edgeN
 rw [if_neg (by omega),if_pos h]
theorem locV_no {ps:List Pt} (p:Pt) (h:¬ (3≤ps.length∧ps.length≤64)):locV ps p=-1:=by
 unfold locV edgeN
 rw [if_neg h]
 rfl
theorem rvalid_raw (ps:List Pt) (hps:PsJ ps) (n:Nat) (hln:ps.length=n) (hi:3≤n∧n≤64) (A:Option Addr) (c:Nat) (w:World) (hs:Sl w w.heap.size A (ptCs ps)) :
 Calls Tryz.prog 82 #[.slice A n c] w fun e w'=>e=.returned (.bool (validV ps))∧Below w.heap.size w w':=by
 have HI:Hid (Calls Tryz.prog 123 #[.slice A n c] w fun e w'=>e=.returned (.bool true)∧w'=w):=hide (by
  have h:=ris_any n A c w
  rw [show isP n=true by simp [isP];omega] at h
  exact h)
 have HOR:Hid (Calls Tryz.prog 124 #[.slice A n c] w fun e w'=>e=.returned (.int .i64 (orientV ps))∧Below w.heap.size w w'):=hide (by
  have h:=rorientation_any ps hps A c w hs
  rw [hln] at h
  exact h)
 have HSI:Hid (∀ (i j:Nat) (wk:World),i<n→Below w.heap.size w wk→Calls Tryz.prog 125 #[.slice A n c,.int .i64 i,.agg #[.int .i64 (ptAt ps j).1,.int .i64 (ptAt ps j).2]] wk fun e w'=>e=.returned (.int .i64 (orientD (ptAt ps i) (ptAt ps ((i+1) % n)) (ptAt ps j)).sign)∧Below wk.heap.size wk w') :=
  hide fun i j wk hi hk=>rpside_raw ps hps n hln i hi (by omega) (ptAt ps j) (hps.at_ j) A c wk ((hs.below hk).more hk.size)
 have HBAD:Hid (∀ i j,i<n→j<n→okE (orientV ps) ps i j=false→validV ps=false):=hide fun i j h1 h2 h3=>validV_bad (by rw [hln];exact hi) (by omega) (by omega) h3
 have HGOOD:Hid ((∀ i,i<n→∀ j,j<n→okE (orientV ps) ps i j=true)→validV ps=!decide (orientV ps=0)):=hide fun h=>validV_good (by rw [hln];exact hi) (by rw [hln];exact h)
 have HOK:Hid (∀ i j,okE (orientV ps) ps i j=(decide (j=i) || decide (j=(i+1) % n) || decide ((orientD (ptAt ps i) (ptAt ps ((i+1) % n)) (ptAt ps j)).sign=orientV ps))):=hide fun i j=>by unfold okE;rw [hln]
 have HS:=hide hs;have HLN:=hide hln
 have hn0:(n:Int)≠0:=by omega
 clear hps hs hln
 obtain ⟨s,hs⟩:∃ s,s=orientV ps:=⟨_,rfl⟩
 rw [← hs] at HOR HBAD HGOOD HOK
 clear hs
 go_enter Tryz.func82,Tryz.ntmps82
 go_wp2_with fail
 refine HI.out.mono ?_
 rintro e w1 ⟨rfl,hw1⟩
 rw [hw1]
 clear hw1
 go_wp2_with fail
 refine HOR.out.mono ?_
 rintro e w2 ⟨rfl,hb2⟩
 go_wp2
 go_loopw [4,5] (fun u4 _ wr=>∃ i:Nat,i≤n∧u4=.int .i64 i∧Hid (∀ i',i'<i→∀ j,j<n→okE s ps i' j=true)∧Below w.heap.size w wr)
  (fun u4 _ _=>n - (intOf u4).toNat)
 case atStart=>exact ⟨0,by omega,rfl,hide (fun i' h=>absurd h (by omega)),hb2⟩
 case round =>
  obtain ⟨i,hin,rfl,HD,hbr⟩:=hrel
  clear hb2
  by_cases h:i<n
  · go_wp2
    go_loopw [5] (fun u5 wj=>∃ j:Nat,j≤n∧u5=.int .i64 j∧Hid (∀ j',j'<j→okE s ps i j'=true)∧Below w.heap.size w wj)
     (fun u5 _=>n - (intOf u5).toNat)
    case atStart=>exact ⟨0,by omega,rfl,hide (fun i' h=>absurd h (by omega)),hbr⟩
    case round =>
     obtain ⟨j,hjn,rfl,HJ,hbj⟩:=hrel
     clear hbr
     by_cases hj:j<n
     · obtain ⟨b,off,rfl,hb⟩:=sl_pts HS.out (by have:=HLN.out;omega)
       obtain ⟨a0,a1⟩:=sl_pt (HS.out.below hbj) (k:=j) (by have:=HLN.out;omega)
       have hsi:=HSI.out i j wr h hbj
       have hok:=HOK.out i j
       have hbad:=HBAD.out i j h hj
       obtain ⟨ni,hni⟩:∃ ni,ni=(i+1) % n:=⟨_,rfl⟩
       rw [← hni] at hsi hok
       have hmod:((i:Int)+1).tmod (n:Int)=(ni:Int):=by rw [Int.tmod_eq_emod_of_nonneg (by omega),hni];simp
       generalize (orientD (ptAt ps i) (ptAt ps ni) (ptAt ps j)).sign=os at *
       generalize ptAt ps j=pj at *
       obtain ⟨x,y⟩:=pj
       have HSJ:=hide hsi;have HBD:=hide hbad
       have hnext:okE s ps i j=true→Hid (∀ j',j'<j+1→okE s ps i j'=true):=fun h=>hide fun j' hj'=>by
        rcases Nat.lt_or_ge j' j with h1 | h1
        · exact HJ.out j' h1
        · rw [show j'=j by omega];exact h
       clear hsi hni hbad
       by_cases h1:j=i
       · subst h1
         have HN:=hnext (by rw [hok];simp)
         clear hok hnext HJ
         go_wp2
         go_roundw
         case rel=>exact ⟨j+1,by omega,by go_num,HN,hbj⟩
         case measure=>simp [intOf];omega
       · have h1i:(j:Int)≠(i:Int):=by omega
         by_cases h2:j=ni
         · subst h2
           have HN:=hnext (by rw [hok];simp)
           clear hok hnext HJ
           go_wp2
           go_roundw
           case rel=>exact ⟨j+1,by omega,by go_num,HN,hbj⟩
           case measure=>simp [intOf];omega
         · have h2i:(j:Int)≠(ni:Int):=by omega
           by_cases h3:os=s
           · subst h3
             have HN:=hnext (by rw [hok];simp)
             clear hok hnext HJ
             go_wp2_with fail
             refine HSJ.out.mono ?_
             rintro e w5 ⟨rfl,hb5⟩
             go_wp2
             go_roundw
             case rel=>exact ⟨j+1,by omega,by go_num,HN,bl_step hbj hb5⟩
             case measure=>simp [intOf];omega
           · have q1:((j:Int) != (i:Int))=true:=bne_iff_ne.2 h1i
             have q2:((j:Int) != (ni:Int))=true:=bne_iff_ne.2 h2i
             have q3:(os != s)=true:=bne_iff_ne.2 h3
             have HF:Hid (validV ps=false):=hide (HBD.out (by rw [hok];simp [h1,h2,h3]))
             clear hok hnext HJ
             go_wp2_with fail
             refine HSJ.out.mono ?_
             rintro e w5 ⟨rfl,hb5⟩
             go_wp2
             go_ret
             exact ⟨by rw [HF.out];rfl,bl_step hbj hb5⟩
     · obtain rfl:j=n:=by omega
       have HN:Hid (∀ i',i'<i+1→∀ k,k<j→okE s ps i' k=true):=hide fun i' hi' k hk=>by
        rcases Nat.lt_or_ge i' i with h1 | h1
        · exact HD.out i' h1 k hk
        · rw [show i'=i by omega];exact HJ.out k hk
       clear HD HJ
       go_wp2
       go_roundw
       case rel=>exact ⟨i+1,by omega,by go_num,HN,hbj⟩
       case measure=>simp [intOf];omega
  · obtain rfl:i=n:=by omega
    have HF:=hide (HGOOD.out HD.out)
    go_wp2
    go_ret
    exact ⟨by rw [HF.out];rfl,hbr⟩
theorem rvalid_any (ps:List Pt) (hps:PsJ ps) (A:Option Addr) (c:Nat) (w:World) (hs:Sl w w.heap.size A (ptCs ps)) :
 Calls Tryz.prog 82 #[.slice A ps.length c] w fun e w'=>e=.returned (.bool (validV ps))∧Below w.heap.size w w':=by
 by_cases hi:3≤ps.length∧ps.length≤64
 · exact rvalid_raw ps hps _ rfl hi A c w hs
 · have HI:Hid (Calls Tryz.prog 123 #[.slice A ps.length c] w fun e w'=>e=.returned (.bool false)∧w'=w):=hide (by
    have h:=ris_any ps.length A c w
    rw [show isP ps.length=false by simp [isP];omega] at h
    exact h)
   rw [validV_no hi]
   clear hps hs hi
   go_enter Tryz.func82,Tryz.ntmps82
   go_wp2_with fail
   refine HI.out.mono ?_
   rintro e w1 ⟨rfl,hw1⟩
   rw [hw1]
   clear hw1
   go_wp2
   go_ret
   exact ⟨rfl,Below.refl _ _⟩
theorem rlocate_raw (ps:List Pt) (hps:PsJ ps) (n:Nat) (hln:ps.length=n) (hi:3≤n∧n≤64) (p:Pt) (hp:PJ p) (A:Option Addr) (c:Nat) (w:World) (hs:Sl w w.heap.size A (ptCs ps)) :
 Calls Tryz.prog 83 #[.slice A n c,ptV p] w fun e w'=>e=.returned (.int .i64 (locV ps p))∧Below w.heap.size w w':=by
 obtain ⟨p1,p2⟩:=p
 unfold ptV
 obtain ⟨w0,hw0⟩:∃ w0,w0=w.alloc (.cells #[.int .i64 p1,.int .i64 p2] 41):=⟨_,rfl⟩
 have hb0:Below w.heap.size w w0:=by rw [hw0];exact bA
 have B0:Blk w0 w.heap.size 41 #[.int .i64 p1,.int .i64 p2]:=by rw [hw0];exact Blk.new _ _ _
 have hs0:=(hs.below hb0).more hb0.size
 have HI:Hid (Calls Tryz.prog 123 #[.slice A n c] w0 fun e w'=>e=.returned (.bool true)∧w'=w0):=hide (by
  have h:=ris_any n A c w0
  rw [show isP n=true by simp [isP];omega] at h
  exact h)
 have HOR:Hid (Calls Tryz.prog 124 #[.slice A n c] w0 fun e w'=>e=.returned (.int .i64 (orientV ps))∧Below w0.heap.size w0 w'):=hide (by
  have h:=rorientation_any ps hps A c w0 hs0
  rw [hln] at h
  exact h)
 have HSI:Hid (∀ (i:Nat) (wk:World),i<n→Below w0.heap.size w0 wk→Calls Tryz.prog 125 #[.slice A n c,.int .i64 i,.agg #[.int .i64 p1,.int .i64 p2]] wk fun e w'=>e=.returned (.int .i64 (orientD (ptAt ps i) (ptAt ps ((i+1) % n)) (p1,p2)).sign)∧Below wk.heap.size wk w') :=
  hide fun i wk hi hk=>rpside_raw ps hps n hln i hi (by omega) (p1,p2) hp A c wk ((hs0.below hk).more hk.size)
 have HFIN:Hid (rmin ps (p1,p2) n=locV ps (p1,p2)):=hide (by have h:=rmin_loc (ps:=ps) (p1,p2) (by rw [hln];exact hi);rw [hln] at h;exact h)
 have HW:Hid (∀ i,IntKind.i64.wrap (orientV ps*(orientD (ptAt ps i) (ptAt ps ((i+1) % n)) (p1,p2)).sign)=sideE (orientV ps) ps (p1,p2) i):=hide fun i=>by have h:=sideE_wrap ps (p1,p2) i;rw [hln] at h;exact h
 have HST:Hid (∀ i,min (rmin ps (p1,p2) i) (sideE (orientV ps) ps (p1,p2) i)=rmin ps (p1,p2) (i+1)):=hide fun i=>rmin_succ _ _ i
 have HBD:Hid (∀ i,-1≤rmin ps (p1,p2) i∧rmin ps (p1,p2) i≤1):=hide fun i=>rmin_bd _ _ i
 have HSB:Hid (∀ i,-1≤sideE (orientV ps) ps (p1,p2) i∧sideE (orientV ps) ps (p1,p2) i≤1):=hide fun i=>sideE_bd _ _ i
 have H0:Hid (rmin ps (p1,p2) 0=1):=hide rfl
 have HB0:=hide hb0;have HBB:=hide B0
 clear hps hs hln hs0 hb0 B0 hp
 obtain ⟨s,hs⟩:∃ s,s=orientV ps:=⟨_,rfl⟩
 rw [← hs] at HOR HW HST HSB
 clear hs
 go_enter Tryz.func83,Tryz.ntmps83
 go_wp2_with fail
 rw [← hw0]
 clear hw0
 refine HI.out.mono ?_
 rintro e w1 ⟨rfl,hw1⟩
 rw [hw1]
 clear hw1
 go_wp2_with fail
 refine HOR.out.mono ?_
 rintro e w2 ⟨rfl,hb2⟩
 go_wp2
 go_loopw [6,7] (fun u6 u7 wr=>∃ i:Nat,i≤n∧u7=.int .i64 i∧u6=.int .i64 (rmin ps (p1,p2) i)∧Below w0.heap.size w0 wr)
  (fun _ u7 _=>n - (intOf u7).toNat)
 case atStart=>exact ⟨0,by omega,rfl,by rw [H0.out],hb2⟩
 case round =>
  obtain ⟨i,hin,rfl,rfl,hbr⟩:=hrel
  clear hb2
  by_cases h:i<n
  · have c0:wr.cell? ⟨w.heap.size,0,none⟩=some (.int .i64 p1):=(HBB.out.step hbr).cell (i:=0) rfl
    have c1:wr.cell? ⟨w.heap.size,1,none⟩=some (.int .i64 p2):=(HBB.out.step hbr).cell (i:=1) rfl
    have hsi:=HSI.out i wr h hbr
    have hw:=HW.out i
    have hst:=HST.out i
    have hsb:=HSB.out i
    have hbd:=HBD.out i
    generalize (orientD (ptAt ps i) (ptAt ps ((i+1) % n)) (p1,p2)).sign=os at *
    generalize hr:rmin ps (p1,p2) i=r at *
    generalize sideE s ps (p1,p2) i=z at *
    have HSJ:=hide hsi;have HSS:=hide hst
    clear hsi hst hr
    go_wp2_with fail
    refine HSJ.out.mono ?_
    rintro e w5 ⟨rfl,hb5⟩
    go_wp2
    go_roundw
    case rel =>
     refine ⟨i+1,by omega,by go_num,?_,bl_step hbr hb5⟩
     rw [← HSS.out]
     congr 1
     omega
    case measure=>simp [intOf];omega
  · obtain rfl:i=n:=by omega
    go_wp2
    go_ret
    exact ⟨by rw [HFIN.out];rfl,bl_step HB0.out hbr⟩
theorem rlocate_any (ps:List Pt) (hps:PsJ ps) (p:Pt) (hp:PJ p) (A:Option Addr) (c:Nat) (w:World) (hs:Sl w w.heap.size A (ptCs ps)) :
 Calls Tryz.prog 83 #[.slice A ps.length c,ptV p] w fun e w'=>e=.returned (.int .i64 (locV ps p))∧Below w.heap.size w w':=by
 by_cases hi:3≤ps.length∧ps.length≤64
 · exact rlocate_raw ps hps _ rfl hi p hp A c w hs
 · have HI:Hid (∀ wk,Calls Tryz.prog 123 #[.slice A ps.length c] wk fun e w'=>e=.returned (.bool false)∧w'=wk):=hide (fun wk=>by
    have h:=ris_any ps.length A c wk
    rw [show isP ps.length=false by simp [isP];omega] at h
    exact h)
   rw [locV_no p hi]
   clear hps hs hi hp
   unfold ptV
   go_enter Tryz.func83,Tryz.ntmps83
   go_wp2_with fail
   refine (HI.out _).mono ?_
   rintro e w1 ⟨rfl,hw1⟩
   rw [hw1]
   clear hw1
   go_wp2
   go_ret
   exact ⟨rfl,bA⟩
end
section
open Go.RowKit
theorem rdisc_raw (ps:List Pt) (hps:PsJ ps) (hln:ps.length=3) (A:Option Addr) (c:Nat) (w:World) (hs:Sl w w.heap.size A (ptCs ps)) :
 Calls Tryz.prog 126 #[.slice A 3 c] w fun e w'=>e=.returned (.bool (discOk ps))∧Below w.heap.size w w':=by
 obtain ⟨b,off,rfl,hb⟩:=sl_pts hs (by omega)
 obtain ⟨a0,a1⟩:=sl_pt hs (k:=0) (by omega)
 obtain ⟨b0,b1⟩:=sl_pt hs (k:=1) (by omega)
 obtain ⟨c0,c1⟩:=sl_pt hs (k:=2) (by omega)
 have HO:Hid (∀ wk,Calls Tryz.prog 40 #[.agg #[.int .i64 (ptAt ps 0).1,.int .i64 (ptAt ps 0).2],.agg #[.int .i64 (ptAt ps 1).1,.int .i64 (ptAt ps 1).2],.agg #[.int .i64 (ptAt ps 2).1,.int .i64 (ptAt ps 2).2]] wk fun e w'=>e=.returned (.int .i64 (orientD (ptAt ps 0) (ptAt ps 1) (ptAt ps 2)).sign)∧Below wk.heap.size wk w') :=
  hide fun wk=>rsign_any _ _ _ (hps.at_ 0) (hps.at_ 1) (hps.at_ 2) wk
 have HD:Hid (discOk ps=!decide ((orientD (ptAt ps 0) (ptAt ps 1) (ptAt ps 2)).sign=0)):=hide (by unfold discOk;rw [hln];simp)
 generalize (orientD (ptAt ps 0) (ptAt ps 1) (ptAt ps 2)).sign=os at *
 generalize ptAt ps 0=pa at *
 generalize ptAt ps 1=pb at *
 generalize ptAt ps 2=pc at *
 obtain ⟨a,a'⟩:=pa
 obtain ⟨b2,b'⟩:=pb
 obtain ⟨c2,c'⟩:=pc
 dsimp only at *
 simp only [Nat.zero_mul,Nat.add_zero,Nat.one_mul,Nat.reduceMul] at a0 a1 b0 b1 c0 c1
 clear hs hps hln
 have hbd:=bl_drew (Below.refl w.heap.size w)
 go_enter Tryz.func126,Tryz.ntmps126
 go_wp2
 go_region_held3 (fun w'=>(Below w.heap.size w w'∧w'.cell? ⟨b,off,none⟩=some (.int .i64 a)∧w'.cell? ⟨b,off+1,none⟩=some (.int .i64 a'))∧(w'.cell? ⟨b,off+2,none⟩=some (.int .i64 b2)∧w'.cell? ⟨b,off+2+1,none⟩=some (.int .i64 b'))∧w'.cell? ⟨b,off+4,none⟩=some (.int .i64 c2)∧w'.cell? ⟨b,off+4+1,none⟩=some (.int .i64 c'))
  (first | exact ⟨⟨hbd,a0,a1⟩,⟨b0,b1⟩,c0,c1⟩ | exact ⟨⟨bl_step hbd (by assumption),(hb1.cell (p:=⟨b,_,none⟩) hb).trans a0,(hb1.cell (p:=⟨b,_,none⟩) hb).trans a1⟩,⟨(hb1.cell (p:=⟨b,_,none⟩) hb).trans b0,(hb1.cell (p:=⟨b,_,none⟩) hb).trans b1⟩,(hb1.cell (p:=⟨b,_,none⟩) hb).trans c0,(hb1.cell (p:=⟨b,_,none⟩) hb).trans c1⟩)
  (first
    | (go_at_call 40;((with_reducible refine (HO.out _).mono ?_);rintro e w' ⟨rfl,hb1⟩)))
 all_goals
  go_wp2
  go_ret
  exact ⟨by rw [HD.out];rfl,bl_step hbd hb1⟩
theorem rdiscValid_any (ps:List Pt) (hps:PsJ ps) (A:Option Addr) (c:Nat) (w:World) (hs:Sl w w.heap.size A (ptCs ps)) :
 Calls Tryz.prog 126 #[.slice A ps.length c] w fun e w'=>e=.returned (.bool (discOk ps))∧Below w.heap.size w w':=by
 by_cases h3:ps.length=3
 · have h:=rdisc_raw ps hps h3 A c w hs
   rw [h3]
   exact h
 · have h3i:((ps.length:Nat):Int)≠3:=by omega
   have h3b:(((ps.length:Nat):Int) == 3)=false:=by simp;omega
   have HD:Hid (discOk ps=false):=hide (by unfold discOk;simp [h3])
   clear hs hps
   go_enter Tryz.func126,Tryz.ntmps126
   go_wp2
   go_quiet (fail)
   go_wp2
   go_ret
   exact ⟨by rw [HD.out];rfl,bl_drewN (Below.refl _ _) _⟩
theorem rdiscL_raw (ps:List Pt) (hps:PsJ ps) (hln:ps.length=3) (p:Pt) (hp:PJ p) (A:Option Addr) (c:Nat) (w:World) (hs:Sl w w.heap.size A (ptCs ps)) :
 Calls Tryz.prog 175 #[.slice A 3 c,ptV p] w fun e w'=>e=.returned (.int .i64 (discL ps p))∧Below w.heap.size w w':=by
 obtain ⟨p1,p2⟩:=p
 unfold ptV
 obtain ⟨w0,hw0⟩:∃ w0,w0=w.alloc (.cells #[.int .i64 p1,.int .i64 p2] 41):=⟨_,rfl⟩
 have hb0:Below w.heap.size w w0:=by rw [hw0];exact bA
 have B0:Blk w0 w.heap.size 41 #[.int .i64 p1,.int .i64 p2]:=by rw [hw0];exact Blk.new _ _ _
 have hs0:=(hs.below hb0).more hb0.size
 obtain ⟨b,off,rfl,hb⟩:=sl_pts hs0 (by omega)
 obtain ⟨a0,a1⟩:=sl_pt hs0 (k:=0) (by omega)
 obtain ⟨b0,b1⟩:=sl_pt hs0 (k:=1) (by omega)
 obtain ⟨c0,c1⟩:=sl_pt hs0 (k:=2) (by omega)
 have d0:w0.cell? ⟨w.heap.size,0,none⟩=some (.int .i64 p1):=B0.cell (i:=0) rfl
 have d1:w0.cell? ⟨w.heap.size,1,none⟩=some (.int .i64 p2):=B0.cell (i:=1) rfl
 have hg:=B0.lt
 have HO:Hid (∀ wk,Calls Tryz.prog 237 #[.agg #[.int .i64 (ptAt ps 0).1,.int .i64 (ptAt ps 0).2],.agg #[.int .i64 (ptAt ps 1).1,.int .i64 (ptAt ps 1).2],.agg #[.int .i64 (ptAt ps 2).1,.int .i64 (ptAt ps 2).2],.agg #[.int .i64 p1,.int .i64 p2]] wk fun e w'=>e=.returned (.int .i64 (discL ps (p1,p2)))∧Below wk.heap.size wk w') :=
  hide fun wk=>rside_raw _ _ _ _ _ _ _ _ (circleD (ptAt ps 0) (ptAt ps 1) (ptAt ps 2) (p1,p2)) (orientD (ptAt ps 0) (ptAt ps 1) (ptAt ps 2)) _ (hps.at_ 0) (hps.at_ 1) (hps.at_ 2) hp (rcircle (ptAt ps 0) (ptAt ps 1) (ptAt ps 2) (p1,p2)) (rorient _ _ _) (by rw [sign_mul_wrap];unfold discL;rw [if_pos hln]) wk
 generalize discL ps (p1,p2)=os at *
 generalize ptAt ps 0=pa at *
 generalize ptAt ps 1=pb at *
 generalize ptAt ps 2=pc at *
 obtain ⟨a,a'⟩:=pa
 obtain ⟨b2,b'⟩:=pb
 obtain ⟨c2,c'⟩:=pc
 dsimp only at *
 simp only [Nat.zero_mul,Nat.add_zero,Nat.one_mul,Nat.reduceMul] at a0 a1 b0 b1 c0 c1
 have hbd:=bl_drew (Below.refl w0.heap.size w0)
 have HB0:=hide hb0
 clear hs hs0 hps hln hp B0 hb0
 go_enter Tryz.func175,Tryz.ntmps175
 go_wp2
 rw [← hw0]
 have HW0:=hide hw0
 clear hw0
 go_region_held3 (fun w'=>(Below w0.heap.size w0 w'∧w'.cell? ⟨b,off,none⟩=some (.int .i64 a)∧w'.cell? ⟨b,off+1,none⟩=some (.int .i64 a'))∧(w'.cell? ⟨b,off+2,none⟩=some (.int .i64 b2)∧w'.cell? ⟨b,off+2+1,none⟩=some (.int .i64 b'))∧(w'.cell? ⟨b,off+4,none⟩=some (.int .i64 c2)∧w'.cell? ⟨b,off+4+1,none⟩=some (.int .i64 c'))∧w'.cell? ⟨w.heap.size,0,none⟩=some (.int .i64 p1)∧w'.cell? ⟨w.heap.size,1,none⟩=some (.int .i64 p2))
  (first | exact ⟨⟨hbd,a0,a1⟩,⟨b0,b1⟩,⟨c0,c1⟩,d0,d1⟩ | exact ⟨⟨bl_step hbd (by assumption),(hb1.cell (p:=⟨b,_,none⟩) hb).trans a0,(hb1.cell (p:=⟨b,_,none⟩) hb).trans a1⟩,⟨(hb1.cell (p:=⟨b,_,none⟩) hb).trans b0,(hb1.cell (p:=⟨b,_,none⟩) hb).trans b1⟩,⟨(hb1.cell (p:=⟨b,_,none⟩) hb).trans c0,(hb1.cell (p:=⟨b,_,none⟩) hb).trans c1⟩,(hb1.cell (p:=⟨_,_,none⟩) hg).trans d0,(hb1.cell (p:=⟨_,_,none⟩) hg).trans d1⟩)
  (first
    | (go_at_call 237;((with_reducible refine (HO.out _).mono ?_);rintro e w' ⟨rfl,hb1⟩)))
 all_goals
  go_wp2
  go_ret
  exact ⟨rfl,bl_step HB0.out (bl_step hbd hb1)⟩
theorem rdiscL_any (ps:List Pt) (hps:PsJ ps) (p:Pt) (hp:PJ p) (A:Option Addr) (c:Nat) (w:World) (hs:Sl w w.heap.size A (ptCs ps)) :
 Calls Tryz.prog 175 #[.slice A ps.length c,ptV p] w fun e w'=>e=.returned (.int .i64 (discL ps p))∧Below w.heap.size w w':=by
 by_cases h3:ps.length=3
 · have h:=rdiscL_raw ps hps h3 p hp A c w hs
   rw [h3]
   exact h
 · have h3i:((ps.length:Nat):Int)≠3:=by omega
   have h3b:(((ps.length:Nat):Int) != 3)=true:=by simp;omega
   have HD:Hid (discL ps p=-1):=hide (by unfold discL;rw [if_neg h3])
   clear hs hps hp
   unfold ptV
   go_enter Tryz.func175,Tryz.ntmps175
   go_wp2
   go_ret
   exact ⟨by rw [HD.out];rfl,bA⟩
theorem rfcheck_raw (rs:List Rg) (m:Nat) (hm:rs.length=m) (A:Option Addr) (c:Nat) (w:World) (hs:Sl w w.heap.size A (rgCells rs)) :
 Calls Tryz.prog 19 #[.slice A m c] w fun e w'=>e=.returned (.int .i64 (fcheck rs))∧w'=w:=by
 have HS:=hide hs;clear hs
 by_cases hc:m<1∨64<m
 · have hf:fcheck rs=6:=by unfold fcheck;rw [if_pos (by omega)]
   rw [hf]
   have hci:(m:Int)<1∨(¬ (m:Int)<1∧(64:Int)<(m:Int)):=by omega
   clear hf hc
   rcases hci with h | ⟨h,h2⟩
   · go_enter Tryz.func19,Tryz.ntmps19
     go_wp2
     go_ret
     exact ⟨rfl,rfl⟩
   · go_enter Tryz.func19,Tryz.ntmps19
     go_wp2
     go_ret
     exact ⟨rfl,rfl⟩
 · have hf:fcheck rs=fcheckL rs:=by unfold fcheck;rw [if_neg (by omega)]
   rw [hf]
   have h1:¬ (m:Int)<1:=by omega
   have h2:¬ (64:Int)<(m:Int):=by omega
   have HM:=hide hm
   clear hf hc hm
   go_enter Tryz.func19,Tryz.ntmps19
   go_wp2
   go_loopw [3,4] (fun i _ wr=>∃ k:Nat,k≤m∧i=.int .i64 k∧Hid (fcheckL rs=fcheckL (rs.drop k))∧wr=w)
    (fun i _ _=>m - (intOf i).toNat)
   case atStart=>exact ⟨0,Nat.zero_le _,rfl,hide (by simp),rfl⟩
   case round =>
    obtain ⟨k,hk,rfl,hF,hwr⟩:=hrel
    subst hwr
    by_cases hlt:k<m
    · obtain ⟨r,hr⟩:∃ r,rs[k]?=some r:=⟨_,List.getElem?_eq_getElem (by have:=HM.out;omega)⟩
      obtain ⟨b,off,rfl,hB,c0,c1,c2⟩:=HS.out.rg hr
      have hD:=hide (hF.out.trans (fcheckL_drop rs k r hr))
      obtain ⟨d,v,A,n,c⟩:=r
      dsimp only at *
      have HSZ:=hide (refSize_any v wr)
      obtain ⟨z,hz⟩:∃ z,z=sizeOfReg v:=⟨_,rfl⟩
      rw [← hz] at hD HSZ
      clear hr hF hz
      by_cases h0:z=0
      · have hD':Hid (fcheckL rs=7):=hide (hD.out.trans (if_pos h0))
        clear hD
        subst h0
        go_wp2_with fail
        refine HSZ.out.mono ?_
        rintro e w2 ⟨rfl,hw2⟩
        rw [← hw2]
        clear hw2
        go_wp2
        go_ret
        exact ⟨by rw [hD'.out];rfl,rfl⟩
      · have h0i:(z == 0)=false:=by simp [h0]
        by_cases hn:z=(n:Int)
        · have hD':Hid (fcheckL rs=fcheckL (rs.drop (k+1))):=hide (hD.out.trans ((if_neg h0).trans (if_pos hn)))
          clear hD
          subst hn
          go_wp2_with fail
          refine HSZ.out.mono ?_
          rintro e w2 ⟨rfl,hw2⟩
          rw [← hw2]
          clear hw2
          go_wp2
          go_roundw
          case rel=>exact ⟨k+1,by omega,by go_num,hD',trivial⟩
          case measure=>simp [intOf];omega
        · have hD':Hid (fcheckL rs=8):=hide (hD.out.trans ((if_neg h0).trans (if_neg hn)))
          have hni:((n:Int) != z)=true:=bne_iff_ne.2 (fun h=>hn h.symm)
          have hni2:(n:Int)≠z:=fun h=>hn h.symm
          clear hD
          go_wp2_with fail
          refine HSZ.out.mono ?_
          rintro e w2 ⟨rfl,hw2⟩
          rw [← hw2]
          clear hw2
          go_wp2
          go_ret
          exact ⟨by rw [hD'.out];rfl,rfl⟩
    · obtain rfl:k=m:=by omega
      go_wp2
      go_ret
      have h:=hF.out
      rw [List.drop_of_length_le (by have:=HM.out;omega)] at h
      exact ⟨by rw [h];rfl,rfl⟩
end
section
open Go.RowKit
theorem fcheckL_zero:∀ {rs:List Rg},fcheckL rs=0→∀ r∈rs,(r.v=0∨3≤r.v∧r.v≤64)∧sizeOfReg r.v=(r.n:Int)
 | [],_,r,h=>by simp at h
 | x::rs,h0,r,h=>by
   unfold fcheckL at h0
   split at h0
   · omega
   · rename_i h1
     split at h0
     · rename_i h2
       rcases List.mem_cons.1 h with rfl | h
       · refine ⟨?_,h2⟩
         unfold sizeOfReg at h1
         split at h1
         · exact .inl (by assumption)
         · split at h1
           · exact .inr (by assumption)
           · omega
       · exact fcheckL_zero h0 r h
     · omega
theorem fcheck_zero {rs:List Rg} (h:fcheck rs=0):∀ r∈rs,(r.v=0∨3≤r.v∧r.v≤64)∧sizeOfReg r.v=(r.n:Int):=by
 unfold fcheck at h
 split at h
 · omega
 · exact fcheckL_zero h
theorem fcheck_le {rs:List Rg} (h:fcheck rs=0):rs.length≤64:=by
 unfold fcheck at h
 split at h <;> omega
def GsR (w:World) (gs:List Gr):Prop:=∀ g∈gs,g.1.n=g.2.length∧Sl w w.heap.size g.1.A (ptCs g.2)∧PsJ g.2
theorem GsR.step {w w':World} {gs:List Gr} (h:GsR w gs) (hb:Below w.heap.size w w'):GsR w' gs:=fun g hg=>⟨(h g hg).1,((h g hg).2.1.below hb).more hb.size,(h g hg).2.2⟩
theorem fvOk_bad {gs:List Gr} {k:Nat} {g:Gr} (h:gs[k]?=some g) (hb:rgOk g.1.v g.2=false):fvOk gs=false:=by
 have e:∀ (l:List Gr) (b:Bool),l.foldl (fun b g=>b && rgOk g.1.v g.2) b=(b && l.all fun g=>rgOk g.1.v g.2):=by
  intro l
  induction l with
  | nil=>intro b;simp
  | cons x l ih=>intro b;rw [List.foldl_cons,ih,List.all_cons,Bool.and_assoc]
 unfold fvOk
 rw [e,Bool.true_and,List.all_eq_false]
 exact ⟨g,List.mem_of_getElem? h,by rw [hb];simp⟩
theorem map_get {gs:List Gr} {k:Nat} {g:Gr} (h:gs[k]?=some g):(gs.map (·.1))[k]?=some g.1:=by rw [List.getElem?_map,h];rfl
theorem rfvalid_raw (gs:List Gr) (m:Nat) (hm:gs.length=m) (GA:Option Addr) (gc:Nat) (w:World) (hs:Sl w w.heap.size GA (rgCells (gs.map (·.1)))) (hgs:GsR w gs) :
 Calls Tryz.prog 84 #[.slice GA m gc] w fun e w'=>e=.returned (.bool (fenceOk gs))∧Below w.heap.size w w':=by
 have HC:=rfcheck_raw (gs.map (·.1)) m (by simpa using hm) GA gc w hs
 by_cases hc:fcheck (gs.map (·.1))=0
 · have hF:fenceOk gs=fvOk gs:=by unfold fenceOk;simp [hc]
   have hz:=fcheck_zero hc
   have hm64:m≤64:=by
    have h:=fcheck_le hc
    rw [List.length_map,hm] at h
    exact h
   rw [hF]
   rw [hc] at HC
   have HD:Hid (∀ (ps:List Pt) (A:Option Addr) (c:Nat) (wk:World),PsJ ps→Sl wk wk.heap.size A (ptCs ps)→Calls Tryz.prog 126 #[.slice A ps.length c] wk fun e w'=>e=.returned (.bool (discOk ps))∧Below wk.heap.size wk w'):=hide fun ps A c wk h1 h2=>rdiscValid_any ps h1 A c wk h2
   have HP:Hid (∀ (ps:List Pt) (A:Option Addr) (c:Nat) (wk:World),PsJ ps→Sl wk wk.heap.size A (ptCs ps)→Calls Tryz.prog 82 #[.slice A ps.length c] wk fun e w'=>e=.returned (.bool (validV ps))∧Below wk.heap.size wk w'):=hide fun ps A c wk h1 h2=>rvalid_any ps h1 A c wk h2
   have HZ:=hide hz;have HCC:=hide HC;have HS:=hide hs;have HG:=hide hgs;have HM:=hide hm
   clear hz HC hc hF hs hgs hm
   go_enter Tryz.func84,Tryz.ntmps84
   go_wp2_with fail
   refine HCC.out.mono ?_
   rintro e w1 ⟨rfl,hw1⟩
   rw [hw1]
   clear hw1
   go_wp2
   go_loopw [3] (fun u wr=>∃ k:Nat,k≤m∧u=.int .i64 k∧Hid (fvOk (gs.take k)=true)∧Below w.heap.size w wr)
    (fun u _=>m - (intOf u).toNat)
   case atStart=>exact ⟨0,by omega,rfl,hide rfl,Below.refl _ _⟩
   case round =>
    obtain ⟨k,hk,rfl,HK,hbr⟩:=hrel
    by_cases h:k<m
    · obtain ⟨g,hg⟩:∃ g,gs[k]?=some g:=⟨_,List.getElem?_eq_getElem (by have:=HM.out;omega)⟩
      obtain ⟨b,off,rfl,hB,c0,c1,c2⟩:=(HS.out.below hbr).rg (map_get hg)
      obtain ⟨gn,gsl,gpj⟩:=(HG.out.step hbr) g (List.mem_of_getElem? hg)
      obtain ⟨hv,_⟩:=HZ.out g.1 (List.mem_map.2 ⟨g,List.mem_of_getElem? hg,rfl⟩)
      have htake:=fvOk_take hg
      have hbad:=fun hb=>fvOk_bad hg hb
      rw [HK.out,Bool.true_and] at htake
      obtain ⟨⟨d,v,A,n,c⟩,ps⟩:=g
      dsimp only at *
      subst gn
      have HD1:=hide (HD.out ps A c wr gpj gsl)
      have HP1:=hide (HP.out ps A c wr gpj gsl)
      have HT:=hide htake;have HBD:=hide hbad
      clear hg gsl gpj htake hbad
      by_cases h0:v=0
      · subst h0
        have hro:rgOk 0 ps=discOk ps:=rfl
        cases hd:discOk ps
        · have HF:Hid (fvOk gs=false):=hide (HBD.out (by rw [hro,hd]))
          rw [hd] at HD1
          clear HT HBD hro HP1
          go_wp2_with fail
          refine HD1.out.mono ?_
          rintro e w2 ⟨rfl,hb2⟩
          go_wp2
          go_ret
          exact ⟨by rw [HF.out];rfl,bl_step hbr hb2⟩
        · have HN:Hid (fvOk (gs.take (k+1))=true):=hide (by rw [HT.out,hro,hd])
          rw [hd] at HD1
          have HC1:Hid (∀ w2:World,Below wr.heap.size wr w2→w2.cell? ⟨b,off+k*3+1,none⟩=some (.int .i64 0)):=hide fun w2 hb=>(hb.cell (p:=⟨_,_,none⟩) (cell_lt c1)).trans c1
          clear HT HBD hro HP1
          go_wp2_with fail
          refine HD1.out.mono ?_
          rintro e w2 ⟨rfl,hb2⟩
          have c1':=HC1.out _ hb2
          go_wp2
          go_roundw
          case rel=>exact ⟨k+1,by omega,by go_num,HN,bl_step hbr hb2⟩
          case measure=>simp [intOf];omega
      · have hv3:0<v:=by omega
        have h0b:(v == 0)=false:=by simp [h0]
        have hro:rgOk v ps=validV ps:=by unfold rgOk;rw [if_neg h0]
        cases hd:validV ps
        · have HF:Hid (fvOk gs=false):=hide (HBD.out (by rw [hro,hd]))
          rw [hd] at HP1
          clear HT HBD hro HD1
          go_wp2_with fail
          refine HP1.out.mono ?_
          rintro e w2 ⟨rfl,hb2⟩
          go_wp2
          go_ret
          exact ⟨by rw [HF.out];rfl,bl_step hbr hb2⟩
        · have HN:Hid (fvOk (gs.take (k+1))=true):=hide (by rw [HT.out,hro,hd])
          rw [hd] at HP1
          clear HT HBD hro HD1
          go_wp2_with fail
          refine HP1.out.mono ?_
          rintro e w2 ⟨rfl,hb2⟩
          go_wp2
          go_roundw
          case rel=>exact ⟨k+1,by omega,by go_num,HN,bl_step hbr hb2⟩
          case measure=>simp [intOf];omega
    · obtain rfl:k=m:=by omega
      have HF:Hid (fvOk gs=true):=hide (by have h:=HK.out;rw [List.take_of_length_le (by have:=HM.out;omega)] at h;exact h)
      go_wp2
      go_ret
      exact ⟨by rw [HF.out];rfl,hbr⟩
 · have hF:fenceOk gs=false:=by unfold fenceOk;simp [hc]
   rw [hF]
   generalize fcheck (gs.map (·.1))=q at *
   have hq:(q != 0)=true:=bne_iff_ne.2 hc
   have HCC:=hide HC
   clear HC hF hs hgs hm
   go_enter Tryz.func84,Tryz.ntmps84
   go_wp2_with fail
   refine HCC.out.mono ?_
   rintro e w1 ⟨rfl,hw1⟩
   rw [hw1]
   clear hw1
   go_wp2
   go_ret
   exact ⟨rfl,Below.refl _ _⟩
theorem rfvalid_any (gs:List Gr) (GA:Option Addr) (gc:Nat) (w:World) (hs:Sl w w.heap.size GA (rgCells (gs.map (·.1)))) (hgs:GsR w gs) :
 Calls Tryz.prog 84 #[.slice GA gs.length gc] w fun e w'=>e=.returned (.bool (fenceOk gs))∧Below w.heap.size w w':=rfvalid_raw gs _ rfl GA gc w hs hgs
theorem rglocate_any (d:Bool) (v:Int) (ps:List Pt) (hps:PsJ ps) (p:Pt) (hp:PJ p) (A:Option Addr) (c:Nat) (w:World) (hs:Sl w w.heap.size A (ptCs ps)) :
 Calls Tryz.prog 127 #[.agg #[.bool d,.int .i64 v,.slice A ps.length c],ptV p] w fun e w'=>e=.returned (.int .i64 (rgL v ps p))∧Below w.heap.size w w':=by
 obtain ⟨p1,p2⟩:=p
 have HD:Hid (∀ (wk:World),Below w.heap.size w wk→Calls Tryz.prog 175 #[.slice A ps.length c,.agg #[.int .i64 p1,.int .i64 p2]] wk fun e w'=>e=.returned (.int .i64 (discL ps (p1,p2)))∧Below wk.heap.size wk w'):=hide fun wk h=>rdiscL_any ps hps (p1,p2) hp A c wk ((hs.below h).more h.size)
 have HP:Hid (∀ (wk:World),Below w.heap.size w wk→Calls Tryz.prog 83 #[.slice A ps.length c,.agg #[.int .i64 p1,.int .i64 p2]] wk fun e w'=>e=.returned (.int .i64 (locV ps (p1,p2)))∧Below wk.heap.size wk w'):=hide fun wk h=>rlocate_any ps hps (p1,p2) hp A c wk ((hs.below h).more h.size)
 unfold ptV
 have hbb:Below w.heap.size w ((w.alloc (.cells #[.bool d,.int .i64 v,.slice A ps.length c] 38)).alloc (.cells #[.int .i64 p1,.int .i64 p2] 41)):=bl_alloc (bA) _
 have HB:=hide hbb
 clear hps hp hs hbb
 by_cases h0:v=0
 · subst h0
   have HR:Hid (rgL 0 ps (p1,p2)=discL ps (p1,p2)):=hide rfl
   clear HP
   go_enter Tryz.func127,Tryz.ntmps127
   go_wp2_with fail
   refine (HD.out _ HB.out).mono ?_
   rintro e w1 ⟨rfl,hb1⟩
   go_wp2
   go_ret
   exact ⟨by rw [HR.out];rfl,bl_step HB.out hb1⟩
 · have h0b:(v == 0)=false:=by simp [h0]
   have HR:Hid (rgL v ps (p1,p2)=locV ps (p1,p2)):=hide (by unfold rgL;rw [if_neg h0])
   clear HD
   go_enter Tryz.func127,Tryz.ntmps127
   go_wp2_with fail
   refine (HP.out _ HB.out).mono ?_
   rintro e w1 ⟨rfl,hb1⟩
   go_wp2
   go_ret
   exact ⟨by rw [HR.out];rfl,bl_step HB.out hb1⟩
theorem memF_deny {p:Pt} {gs:List Gr} {k:Nat} {g:Gr} (h:gs[k]?=some g) (hd:g.1.d=true) (hl:0≤rgL g.1.v g.2 p):(memF p gs).2=true:=by
 have mono:∀ (l:List Gr) (s:Bool × Bool),s.2=true→(l.foldl (fun s g=>bif g.1.d then (s.1,s.2 || !decide (rgL g.1.v g.2 p<0)) else (s.1 || !decide (rgL g.1.v g.2 p<0),s.2)) s).2=true:=by
  intro l
  induction l with
  | nil=>intro s hs;exact hs
  | cons x l ih =>
    intro s hs
    rw [List.foldl_cons]
    apply ih
    cases x.1.d <;> simp [hs]
 have h1:=memF_take p h
 rw [hd,cond_true] at h1
 have h2:(memF p (gs.take (k+1))).2=true:=by
  rw [h1]
  simp [show ¬ rgL g.1.v g.2 p<0 by omega]
 unfold memF
 rw [← List.take_append_drop (k+1) gs,List.foldl_append]
 exact mono _ _ h2
theorem rmember_raw (gs:List Gr) (m:Nat) (hm:gs.length=m) (p:Pt) (hp:PJ p) (GA:Option Addr) (gc:Nat) (w:World) (hs:Sl w w.heap.size GA (rgCells (gs.map (·.1)))) (hgs:GsR w gs) :
 Calls Tryz.prog 85 #[.slice GA m gc,ptV p] w fun e w'=>e=.returned (.bool (memOk gs p))∧Below w.heap.size w w':=by
 obtain ⟨p1,p2⟩:=p
 unfold ptV
 obtain ⟨w0,hw0⟩:∃ w0,w0=w.alloc (.cells #[.int .i64 p1,.int .i64 p2] 41):=⟨_,rfl⟩
 have hb0:Below w.heap.size w w0:=by rw [hw0];exact bA
 have B0:Blk w0 w.heap.size 41 #[.int .i64 p1,.int .i64 p2]:=by rw [hw0];exact Blk.new _ _ _
 have hs0:=(hs.below hb0).more hb0.size
 have hgs0:=hgs.step hb0
 have HC:=rfcheck_raw (gs.map (·.1)) m (by simpa using hm) GA gc w0 hs0
 by_cases hc:fcheck (gs.map (·.1))=0
 · have hF:memOk gs (p1,p2)=((memF (p1,p2) gs).1 && !(memF (p1,p2) gs).2):=by unfold memOk;simp [hc]
   have hm64:m≤64:=by
    have h:=fcheck_le hc
    rw [List.length_map,hm] at h
    exact h
   rw [hF]
   rw [hc] at HC
   have HL:Hid (∀ (d:Bool) (v:Int) (ps:List Pt) (A:Option Addr) (c:Nat) (wk:World),PsJ ps→Sl wk wk.heap.size A (ptCs ps)→Calls Tryz.prog 127 #[.agg #[.bool d,.int .i64 v,.slice A ps.length c],.agg #[.int .i64 p1,.int .i64 p2]] wk fun e w'=>e=.returned (.int .i64 (rgL v ps (p1,p2)))∧Below wk.heap.size wk w'):=hide fun d v ps A c wk h1 h2=>rglocate_any d v ps h1 (p1,p2) hp A c wk h2
   have HCC:=hide HC;have HS:=hide hs0;have HG:=hide hgs0;have HM:=hide hm;have HB0:=hide hb0;have HBB:=hide B0
   clear HC hc hF hs hgs hm hs0 hgs0 hb0 B0 hp
   go_enter Tryz.func85,Tryz.ntmps85
   go_wp2_with fail
   rw [← hw0]
   clear hw0
   refine HCC.out.mono ?_
   rintro e w1 ⟨rfl,hw1⟩
   rw [hw1]
   clear hw1
   go_wp2
   go_loopw [5,6] (fun u5 u6 wr=>∃ (k:Nat) (x:Bool),k≤m∧u6=.int .i64 k∧u5=.bool x∧Hid (memF (p1,p2) (gs.take k)=(x,false))∧Below w0.heap.size w0 wr)
    (fun _ u6 _=>m - (intOf u6).toNat)
   case atStart=>exact ⟨0,false,by omega,rfl,rfl,hide rfl,Below.refl _ _⟩
   case round =>
    obtain ⟨k,x,hk,rfl,rfl,HK,hbr⟩:=hrel
    by_cases h:k<m
    · obtain ⟨g,hg⟩:∃ g,gs[k]?=some g:=⟨_,List.getElem?_eq_getElem (by have:=HM.out;omega)⟩
      obtain ⟨b,off,rfl,hB,c0,c1,c2⟩:=(HS.out.below hbr).rg (map_get hg)
      obtain ⟨gn,gsl,gpj⟩:=(HG.out.step hbr) g (List.mem_of_getElem? hg)
      have htake:=memF_take (p1,p2) hg
      have hden:=fun a b=>memF_deny (p:=(p1,p2)) hg a b
      rw [HK.out] at htake
      obtain ⟨⟨d,v,A,n,c⟩,ps⟩:=g
      dsimp only at *
      subst gn
      have p0:wr.cell? ⟨w.heap.size,0,none⟩=some (.int .i64 p1):=(HBB.out.step hbr).cell (i:=0) rfl
      have p0':wr.cell? ⟨w.heap.size,1,none⟩=some (.int .i64 p2):=(HBB.out.step hbr).cell (i:=1) rfl
      have hki:(k:Int)<(m:Int):=by omega
      have hkl:w.heap.size<wr.heap.size:=cell_lt p0
      have hbl:b<wr.heap.size:=cell_lt c0
      have HL1:Hid (∀ wk,Below wr.heap.size wr wk→Calls Tryz.prog 127 #[.agg #[.bool d,.int .i64 v,.slice A ps.length c],.agg #[.int .i64 p1,.int .i64 p2]] wk fun e w'=>e=.returned (.int .i64 (rgL v ps (p1,p2)))∧Below wk.heap.size wk w'):=hide fun wk hb=>HL.out d v ps A c wk gpj ((gsl.below hb).more hb.size)
      have hF:(memF (p1,p2) gs).2=true→((memF (p1,p2) gs).1 && !(memF (p1,p2) gs).2)=false:=fun h=>by rw [h];simp
      generalize rgL v ps (p1,p2)=z at *
      have HT:=hide htake;have HDN:=hide hden;have HF0:=hide hF
      have hbd:=bl_drew (Below.refl wr.heap.size wr)
      clear hg gsl gpj htake hden hF
      by_cases hz:0≤z
      · cases d
        · have HN:Hid (memF (p1,p2) (gs.take (k+1))=(true,false)):=hide (by rw [HT.out];simp [show ¬ z<0 by omega])
          clear HT HDN HF0
          go_wp2
          go_region_held3 (fun w'=>(Below wr.heap.size wr w'∧w'.cell? ⟨b,off+k*3,none⟩=some (.bool false))∧w'.cell? ⟨b,off+k*3+1,none⟩=some (.int .i64 v)∧w'.cell? ⟨b,off+k*3+2,none⟩=some (.slice A ps.length c)∧w'.cell? ⟨w.heap.size,0,none⟩=some (.int .i64 p1)∧w'.cell? ⟨w.heap.size,1,none⟩=some (.int .i64 p2))
           (first | exact ⟨⟨hbd,c0⟩,c1,c2,p0,p0'⟩ | exact ⟨⟨bl_step hbd (by assumption),(hb1.cell (p:=⟨b,_,none⟩) hbl).trans c0⟩,(hb1.cell (p:=⟨b,_,none⟩) hbl).trans c1,(hb1.cell (p:=⟨b,_,none⟩) hbl).trans c2,(hb1.cell (p:=⟨_,_,none⟩) hkl).trans p0,(hb1.cell (p:=⟨_,_,none⟩) hkl).trans p0'⟩)
           (first
             | (go_at_call 127;((with_reducible refine (HL1.out _ hbd).mono ?_);rintro e w9 ⟨rfl,hb1⟩)))
          all_goals
           have hbw:=bl_step hbr (bl_step hbd hb1)
           have e0:w9.cell? ⟨b,off+k*3,none⟩=some (.bool false):=(hb1.cell (p:=⟨b,_,none⟩) hbl).trans c0
           go_wp2
           go_roundw
           case rel=>exact ⟨k+1,true,by omega,by go_num,rfl,HN,hbw⟩
           case measure=>simp [intOf];omega
        · have HN:Hid (((memF (p1,p2) gs).1 && !(memF (p1,p2) gs).2)=false):=hide (HF0.out (HDN.out rfl hz))
          clear HT HDN HF0
          go_wp2
          go_region_held3 (fun w'=>(Below wr.heap.size wr w'∧w'.cell? ⟨b,off+k*3,none⟩=some (.bool true))∧w'.cell? ⟨b,off+k*3+1,none⟩=some (.int .i64 v)∧w'.cell? ⟨b,off+k*3+2,none⟩=some (.slice A ps.length c)∧w'.cell? ⟨w.heap.size,0,none⟩=some (.int .i64 p1)∧w'.cell? ⟨w.heap.size,1,none⟩=some (.int .i64 p2))
           (first | exact ⟨⟨hbd,c0⟩,c1,c2,p0,p0'⟩ | exact ⟨⟨bl_step hbd (by assumption),(hb1.cell (p:=⟨b,_,none⟩) hbl).trans c0⟩,(hb1.cell (p:=⟨b,_,none⟩) hbl).trans c1,(hb1.cell (p:=⟨b,_,none⟩) hbl).trans c2,(hb1.cell (p:=⟨_,_,none⟩) hkl).trans p0,(hb1.cell (p:=⟨_,_,none⟩) hkl).trans p0'⟩)
           (first
             | (go_at_call 127;((with_reducible refine (HL1.out _ hbd).mono ?_);rintro e w9 ⟨rfl,hb1⟩)))
          all_goals
           have hbw:=bl_step HB0.out (bl_step hbr (bl_step hbd hb1))
           have e0:w9.cell? ⟨b,off+k*3,none⟩=some (.bool true):=(hb1.cell (p:=⟨b,_,none⟩) hbl).trans c0
           go_wp2
           go_ret
           exact ⟨by rw [HN.out];rfl,hbw⟩
      · have HN:Hid (memF (p1,p2) (gs.take (k+1))=(x,false)):=hide (by rw [HT.out];cases d <;> simp [show z<0 by omega])
        clear HT HDN HF0
        go_wp2
        go_region_held3 (fun w'=>(Below wr.heap.size wr w'∧w'.cell? ⟨b,off+k*3,none⟩=some (.bool d))∧w'.cell? ⟨b,off+k*3+1,none⟩=some (.int .i64 v)∧w'.cell? ⟨b,off+k*3+2,none⟩=some (.slice A ps.length c)∧w'.cell? ⟨w.heap.size,0,none⟩=some (.int .i64 p1)∧w'.cell? ⟨w.heap.size,1,none⟩=some (.int .i64 p2))
         (first | exact ⟨⟨hbd,c0⟩,c1,c2,p0,p0'⟩ | exact ⟨⟨bl_step hbd (by assumption),(hb1.cell (p:=⟨b,_,none⟩) hbl).trans c0⟩,(hb1.cell (p:=⟨b,_,none⟩) hbl).trans c1,(hb1.cell (p:=⟨b,_,none⟩) hbl).trans c2,(hb1.cell (p:=⟨_,_,none⟩) hkl).trans p0,(hb1.cell (p:=⟨_,_,none⟩) hkl).trans p0'⟩)
         (first
           | (go_at_call 127;((with_reducible refine (HL1.out _ hbd).mono ?_);rintro e w9 ⟨rfl,hb1⟩)))
        all_goals
         have hbw:=bl_step hbr (bl_step hbd hb1)
         have e0:w9.cell? ⟨b,off+k*3,none⟩=some (.bool d):=(hb1.cell (p:=⟨b,_,none⟩) hbl).trans c0
         go_wp2
         go_roundw
         case rel=>exact ⟨k+1,x,by omega,by go_num,rfl,HN,hbw⟩
         case measure=>simp [intOf];omega
    · obtain rfl:k=m:=by omega
      have HF:Hid (((memF (p1,p2) gs).1 && !(memF (p1,p2) gs).2)=x):=hide (by have h:=HK.out;rw [List.take_of_length_le (by have:=HM.out;omega)] at h;rw [h];simp)
      go_wp2
      go_ret
      exact ⟨by rw [HF.out];rfl,bl_step HB0.out hbr⟩
 · have hF:memOk gs (p1,p2)=false:=by unfold memOk;simp [hc]
   rw [hF]
   generalize fcheck (gs.map (·.1))=q at *
   have hq:(q != 0)=true:=bne_iff_ne.2 hc
   have HCC:=hide HC;have HB0:=hide hb0
   clear HC hF hs hgs hm hs0 hgs0 hb0 B0 hp
   go_enter Tryz.func85,Tryz.ntmps85
   go_wp2_with fail
   rw [← hw0]
   clear hw0
   refine HCC.out.mono ?_
   rintro e w1 ⟨rfl,hw1⟩
   rw [hw1]
   clear hw1
   go_wp2
   go_ret
   exact ⟨rfl,HB0.out⟩
theorem rmember_any (gs:List Gr) (p:Pt) (hp:PJ p) (GA:Option Addr) (gc:Nat) (w:World) (hs:Sl w w.heap.size GA (rgCells (gs.map (·.1)))) (hgs:GsR w gs) :
 Calls Tryz.prog 85 #[.slice GA gs.length gc,ptV p] w fun e w'=>e=.returned (.bool (memOk gs p))∧Below w.heap.size w w':=rmember_raw gs _ rfl p hp GA gc w hs hgs
end
section
open Go.RowKit
theorem locV_bd (ps:List Pt) (p:Pt):-1≤locV ps p∧locV ps p≤1:=sgnM_bd _ _
theorem rconvex_any (ps:List Pt) (hps:PsJ ps) (p:Pt) (hp:PJ p) (A:Option Addr) (c:Nat) (w:World) (hs:Sl w w.heap.size A (ptCs ps)) :
 Calls Tryz.prog 42 #[.slice A ps.length c,ptV p] w fun e w'=>e=.returned (.int .i64 (convexA ps p))∧Below w.heap.size w w':=by
 obtain ⟨p1,p2⟩:=p
 unfold ptV
 obtain ⟨w0,hw0⟩:∃ w0,w0=w.alloc (.cells #[.int .i64 p1,.int .i64 p2] 41):=⟨_,rfl⟩
 have hb0:Below w.heap.size w w0:=by rw [hw0];exact bA
 have B0:Blk w0 w.heap.size 41 #[.int .i64 p1,.int .i64 p2]:=by rw [hw0];exact Blk.new _ _ _
 have hs0:=(hs.below hb0).more hb0.size
 have HV:=hide (rvalid_any ps hps A c w0 hs0)
 have HL:Hid (∀ wk,Below w0.heap.size w0 wk→Calls Tryz.prog 83 #[.slice A ps.length c,.agg #[.int .i64 p1,.int .i64 p2]] wk fun e w'=>e=.returned (.int .i64 (locV ps (p1,p2)))∧Below wk.heap.size wk w'):=hide fun wk h=>rlocate_any ps hps (p1,p2) hp A c wk ((hs0.below h).more h.size)
 have hlb:=locV_bd ps (p1,p2)
 have HC:Hid (convexA ps (p1,p2)=bif validV ps then locV ps (p1,p2)+1 else 3):=hide rfl
 generalize locV ps (p1,p2)=l at *
 have HB0:=hide hb0;have HBB:=hide B0
 clear hps hp hs hs0 hb0 B0
 cases hv:validV ps
 · rw [hv] at HV HC
   go_enter Tryz.func42,Tryz.ntmps42
   go_wp2_with fail
   rw [← hw0]
   clear hw0
   refine HV.out.mono ?_
   rintro e w1 ⟨rfl,hb1⟩
   go_wp2
   go_ret
   exact ⟨by rw [HC.out];rfl,bl_step HB0.out hb1⟩
 · rw [hv] at HV HC
   go_enter Tryz.func42,Tryz.ntmps42
   go_wp2_with fail
   rw [← hw0]
   clear hw0
   refine HV.out.mono ?_
   rintro e w1 ⟨rfl,hb1⟩
   have c0:w1.cell? ⟨w.heap.size,0,none⟩=some (.int .i64 p1):=(HBB.out.step hb1).cell (i:=0) rfl
   have c1:w1.cell? ⟨w.heap.size,1,none⟩=some (.int .i64 p2):=(HBB.out.step hb1).cell (i:=1) rfl
   have hb1':=hide hb1
   clear hb1
   go_wp2_with fail
   refine (HL.out _ hb1'.out).mono ?_
   rintro e w2 ⟨rfl,hb2⟩
   go_wp2
   go_ret
   exact ⟨by rw [HC.out];rfl,bl_step HB0.out (bl_step hb1'.out hb2)⟩
theorem rfence_any (gs:List Gr) (p:Pt) (hp:PJ p) (GA:Option Addr) (gc:Nat) (w:World) (hs:Sl w w.heap.size GA (rgCells (gs.map (·.1)))) (hgs:GsR w gs) :
 Calls Tryz.prog 43 #[.slice GA gs.length gc,ptV p] w fun e w'=>e=.returned (.int .i64 (fenceA gs p))∧Below w.heap.size w w':=by
 obtain ⟨p1,p2⟩:=p
 unfold ptV
 obtain ⟨w0,hw0⟩:∃ w0,w0=w.alloc (.cells #[.int .i64 p1,.int .i64 p2] 41):=⟨_,rfl⟩
 have hb0:Below w.heap.size w w0:=by rw [hw0];exact bA
 have B0:Blk w0 w.heap.size 41 #[.int .i64 p1,.int .i64 p2]:=by rw [hw0];exact Blk.new _ _ _
 have hs0:=(hs.below hb0).more hb0.size
 have hgs0:=hgs.step hb0
 have HV:=hide (rfvalid_any gs GA gc w0 hs0 hgs0)
 have HL:Hid (∀ wk,Below w0.heap.size w0 wk→Calls Tryz.prog 85 #[.slice GA gs.length gc,.agg #[.int .i64 p1,.int .i64 p2]] wk fun e w'=>e=.returned (.bool (memOk gs (p1,p2)))∧Below wk.heap.size wk w'):=hide fun wk h=>rmember_any gs (p1,p2) hp GA gc wk ((hs0.below h).more h.size) (hgs0.step h)
 have HC:Hid (fenceA gs (p1,p2)=bif fenceOk gs then (bif memOk gs (p1,p2) then 1 else 0) else 2):=hide rfl
 have HB0:=hide hb0;have HBB:=hide B0
 clear hp hs hs0 hgs hgs0 hb0 B0
 generalize memOk gs (p1,p2)=l at *
 cases hv:fenceOk gs
 · rw [hv] at HV HC
   go_enter Tryz.func43,Tryz.ntmps43
   go_wp2_with fail
   rw [← hw0]
   clear hw0
   refine HV.out.mono ?_
   rintro e w1 ⟨rfl,hb1⟩
   go_wp2
   go_ret
   exact ⟨by rw [HC.out];rfl,bl_step HB0.out hb1⟩
 · rw [hv] at HV HC
   cases l
   all_goals
    go_enter Tryz.func43,Tryz.ntmps43
    go_wp2_with fail
    rw [← hw0]
    clear hw0
    refine HV.out.mono ?_
    rintro e w1 ⟨rfl,hb1⟩
    have c0:w1.cell? ⟨w.heap.size,0,none⟩=some (.int .i64 p1):=(HBB.out.step hb1).cell (i:=0) rfl
    have c1:w1.cell? ⟨w.heap.size,1,none⟩=some (.int .i64 p2):=(HBB.out.step hb1).cell (i:=1) rfl
    have hb1':=hide hb1
    clear hb1
    go_wp2_with fail
    refine (HL.out _ hb1'.out).mono ?_
    rintro e w2 ⟨rfl,hb2⟩
    go_wp2
    go_ret
    exact ⟨by rw [HC.out];rfl,bl_step HB0.out (bl_step hb1'.out hb2)⟩
end
end Go.Proofs.YthnenedoblncjaaGreatDoor
