/- RefPoly2 -/
import Derived.Test.YtpnoofphfomjoaaGreatDoorPkM07
import Derived.Test.YtpnoofphfomjoaaGreatDoorPkM30
import Derived.Test.YtpnoofphfomjoaaGreatDoorPkM51
set_option maxRecDepth 1000000
set_option maxHeartbeats 8000000
namespace Go.Proofs.YtpnoofphfomjoaaGreatDoor
section
open Go.RowKit
def isP (n:Nat):Bool:=decide (3≤n∧n≤64)
theorem ris_any (n:Nat) (A:Option Addr) (c:Nat) (w:World):Calls Tryz.prog 36 #[.slice A n c] w fun e w'=>e=.returned (.bool (isP n))∧w'=w:=by
 by_cases h3:3≤n
 · have h3i:(3:Int)≤(n:Int):=by omega
   by_cases h64:n≤64
   · have h64i:(n:Int)≤64:=by omega
     have H:Hid (isP n=true):=hide (by simp [isP];omega)
     go_enter Tryz.func36,Tryz.ntmps36
     go_wp2
     go_ret
     exact ⟨by rw [H.out];rfl,rfl⟩
   · have h64i:¬ (n:Int)≤64:=by omega
     have H:Hid (isP n=false):=hide (by simp [isP];omega)
     go_enter Tryz.func36,Tryz.ntmps36
     go_wp2
     go_ret
     exact ⟨by rw [H.out];rfl,rfl⟩
 · have h3i:¬ (3:Int)≤(n:Int):=by omega
   have H:Hid (isP n=false):=hide (by simp [isP];omega)
   go_enter Tryz.func36,Tryz.ntmps36
   go_wp2
   go_ret
   exact ⟨by rw [H.out];rfl,rfl⟩
theorem rorientation_any (ps:List Pt) (hps:PsJ ps) (A:Option Addr) (c:Nat) (w:World) (hs:Sl w w.heap.size A (ptCs ps)) :
 Calls Tryz.prog 115 #[.slice A ps.length c] w fun e w'=>e=.returned (.int .i64 (orientV ps))∧Below w.heap.size w w':=by
 by_cases hi:3≤ps.length∧ps.length≤64
 · have hI:Calls Tryz.prog 36 #[.slice A ps.length c] w fun e w'=>e=.returned (.bool true)∧w'=w:=by
    have h:=ris_any ps.length A c w
    rw [show isP ps.length=true by simp [isP];omega] at h
    exact h
   have ho:orientV ps=(orientD (ptAt ps 0) (ptAt ps 1) (ptAt ps 2)).sign:=by unfold orientV;rw [if_pos hi]
   rw [ho]
   obtain ⟨b,off,rfl,hb⟩:=sl_pts hs (by omega)
   obtain ⟨a0,a1⟩:=sl_pt hs (k:=0) (by omega)
   obtain ⟨b0,b1⟩:=sl_pt hs (k:=1) (by omega)
   obtain ⟨c0,c1⟩:=sl_pt hs (k:=2) (by omega)
   have l0:0<ps.length:=by omega
   have l1:(1:Int)<((ps.length:Nat):Int):=by omega
   have l2:(2:Int)<((ps.length:Nat):Int):=by omega
   have HO:Hid (∀ wk,Below w.heap.size w wk→Calls Tryz.prog 138 #[.agg #[.int .i64 (ptAt ps 0).1,.int .i64 (ptAt ps 0).2],.agg #[.int .i64 (ptAt ps 1).1,.int .i64 (ptAt ps 1).2],.agg #[.int .i64 (ptAt ps 2).1,.int .i64 (ptAt ps 2).2]] wk fun e w'=>e=.returned (.int .i64 (orientD (ptAt ps 0) (ptAt ps 1) (ptAt ps 2)).sign)∧Below wk.heap.size wk w') :=
    hide fun wk _=>rsign_any _ _ _ (hps.at_ 0) (hps.at_ 1) (hps.at_ 2) wk
   generalize hos:(orientD (ptAt ps 0) (ptAt ps 1) (ptAt ps 2)).sign=os at *
   generalize hpa:ptAt ps 0=pa at *
   generalize hpb:ptAt ps 1=pb at *
   generalize hpc:ptAt ps 2=pc at *
   obtain ⟨a,a'⟩:=pa
   obtain ⟨b2,b'⟩:=pb
   obtain ⟨c2,c'⟩:=pc
   dsimp only at *
   simp only [Nat.zero_mul,Nat.add_zero,Nat.one_mul,Nat.reduceMul] at a0 a1 b0 b1 c0 c1
   have HI:=hide hI
   clear hI hos hpa hpb hpc ho hs hps
   have hbd:=bl_drew (Below.refl w.heap.size w)
   go_enter Tryz.func115,Tryz.ntmps115
   go_wp2_with fail
   refine HI.out.mono ?_
   rintro e w1 ⟨rfl,hw1⟩
   rw [hw1]
   clear hw1
   go_wp2
   go_region_held3 (fun w'=>(Below w.heap.size w w'∧w'.cell? ⟨b,off,none⟩=some (.int .i64 a)∧w'.cell? ⟨b,off+1,none⟩=some (.int .i64 a'))∧(w'.cell? ⟨b,off+2,none⟩=some (.int .i64 b2)∧w'.cell? ⟨b,off+2+1,none⟩=some (.int .i64 b'))∧w'.cell? ⟨b,off+4,none⟩=some (.int .i64 c2)∧w'.cell? ⟨b,off+4+1,none⟩=some (.int .i64 c'))
    (first | exact ⟨⟨hbd,a0,a1⟩,⟨b0,b1⟩,c0,c1⟩ | exact ⟨⟨bl_step hbd (by assumption),(hb1.cell (p:=⟨b,_,none⟩) hb).trans a0,(hb1.cell (p:=⟨b,_,none⟩) hb).trans a1⟩,⟨(hb1.cell (p:=⟨b,_,none⟩) hb).trans b0,(hb1.cell (p:=⟨b,_,none⟩) hb).trans b1⟩,(hb1.cell (p:=⟨b,_,none⟩) hb).trans c0,(hb1.cell (p:=⟨b,_,none⟩) hb).trans c1⟩)
    (first
      | (go_at_call 138;((with_reducible refine (HO.out _ hbd).mono ?_);rintro e w' ⟨rfl,hb1⟩)))
   all_goals
    go_wp2
    go_ret
    exact ⟨rfl,bl_step hbd hb1⟩
 · have hI:Hid (Calls Tryz.prog 36 #[.slice A ps.length c] w fun e w'=>e=.returned (.bool false)∧w'=w):=hide (by
    have h:=ris_any ps.length A c w
    rw [show isP ps.length=false by simp [isP];omega] at h
    exact h)
   have ho:orientV ps=0:=by unfold orientV;rw [if_neg hi]
   rw [ho]
   clear hps hs ho hi
   go_enter Tryz.func115,Tryz.ntmps115
   go_wp2_with fail
   refine hI.out.mono ?_
   rintro e w1 ⟨rfl,rfl⟩
   go_wp2
   go_ret
   exact ⟨rfl,Below.refl _ _⟩
theorem rpside_raw (ps:List Pt) (hps:PsJ ps) (n:Nat) (hln:ps.length=n) (i:Nat) (hi:i<n) (hn:n≤10000) (p:Pt) (hp:PJ p) (A:Option Addr) (c:Nat) (w:World) (hs:Sl w w.heap.size A (ptCs ps)) :
 Calls Tryz.prog 116 #[.slice A n c,.int .i64 i,ptV p] w fun e w'=>e=.returned (.int .i64 (orientD (ptAt ps i) (ptAt ps ((i+1) % n)) p).sign)∧Below w.heap.size w w':=by
 obtain ⟨p1,p2⟩:=p
 unfold ptV
 obtain ⟨w0,hw0⟩:∃ w0,w0=w.alloc (.cells #[.int .i64 p1,.int .i64 p2] 69):=⟨_,rfl⟩
 have hb0:Below w.heap.size w w0:=by rw [hw0];exact bA
 have B0:Blk w0 w.heap.size 69 #[.int .i64 p1,.int .i64 p2]:=by rw [hw0];exact Blk.new _ _ _
 have hs0:=(hs.below hb0).more hb0.size
 obtain ⟨b,off,rfl,hb⟩:=sl_pts hs0 (by omega)
 obtain ⟨ni,hni⟩:∃ ni,ni=(i+1) % n:=⟨_,rfl⟩
 have hnl:ni<n:=by rw [hni];exact Nat.mod_lt _ (by omega)
 obtain ⟨a0,a1⟩:=sl_pt hs0 (k:=i) (by omega)
 obtain ⟨b0,b1⟩:=sl_pt hs0 (k:=ni) (by omega)
 have c0:w0.cell? ⟨w.heap.size,0,none⟩=some (.int .i64 p1):=B0.cell (i:=0) rfl
 have c1:w0.cell? ⟨w.heap.size,1,none⟩=some (.int .i64 p2):=B0.cell (i:=1) rfl
 have hg:=B0.lt
 have hmod:((i:Int)+1).tmod (n:Int)=(ni:Int):=by rw [Int.tmod_eq_emod_of_nonneg (by omega),hni];simp
 have hil:(i:Int)<((n:Nat):Int):=by omega
 have hsum:IntKind.i64.wrap ((i:Int)+1)=(i:Int)+1:=by rw [IntKind.wrap_i64];omega
 have hwn:IntKind.i64.wrap (ni:Int)=(ni:Int):=by rw [IntKind.wrap_i64];omega
 have hnil:(ni:Int)<((n:Nat):Int):=by omega
 have hl0:((n:Nat):Int)≠0:=by omega
 have hl1:((n:Int) == 0)=false:=by simp;omega
 have hl2:n≠0:=by omega
 have HO:Hid (∀ wk,Calls Tryz.prog 138 #[.agg #[.int .i64 (ptAt ps i).1,.int .i64 (ptAt ps i).2],.agg #[.int .i64 (ptAt ps ni).1,.int .i64 (ptAt ps ni).2],.agg #[.int .i64 p1,.int .i64 p2]] wk fun e w'=>e=.returned (.int .i64 (orientD (ptAt ps i) (ptAt ps ni) (p1,p2)).sign)∧Below wk.heap.size wk w') :=
  hide fun wk=>rsign_any _ _ (p1,p2) (hps.at_ i) (hps.at_ ni) hp wk
 rw [← hni]
 generalize hos:(orientD (ptAt ps i) (ptAt ps ni) (p1,p2)).sign=os at *
 generalize hpa:ptAt ps i=pa at *
 generalize hpb:ptAt ps ni=pb at *
 obtain ⟨a,a'⟩:=pa
 obtain ⟨b2,b'⟩:=pb
 dsimp only at *
 have hbd:=bl_drew (Below.refl w0.heap.size w0)
 have HB0:=hide hb0
 clear hos hpa hpb hs hs0 hps hp hni B0 hb0 hln
 go_enter Tryz.func116,Tryz.ntmps116
 go_wp2
 rw [← hw0]
 have HW0:=hide hw0
 clear hw0
 go_region_held3 (fun w'=>(Below w0.heap.size w0 w'∧w'.cell? ⟨b,off+i*2,none⟩=some (.int .i64 a)∧w'.cell? ⟨b,off+i*2+1,none⟩=some (.int .i64 a'))∧(w'.cell? ⟨b,off+ni*2,none⟩=some (.int .i64 b2)∧w'.cell? ⟨b,off+ni*2+1,none⟩=some (.int .i64 b'))∧w'.cell? ⟨w.heap.size,0,none⟩=some (.int .i64 p1)∧w'.cell? ⟨w.heap.size,1,none⟩=some (.int .i64 p2))
  (first | exact ⟨⟨hbd,a0,a1⟩,⟨b0,b1⟩,c0,c1⟩ | exact ⟨⟨bl_step hbd (by assumption),(hb1.cell (p:=⟨b,_,none⟩) hb).trans a0,(hb1.cell (p:=⟨b,_,none⟩) hb).trans a1⟩,⟨(hb1.cell (p:=⟨b,_,none⟩) hb).trans b0,(hb1.cell (p:=⟨b,_,none⟩) hb).trans b1⟩,(hb1.cell (p:=⟨_,_,none⟩) hg).trans c0,(hb1.cell (p:=⟨_,_,none⟩) hg).trans c1⟩)
  (first
    | (go_at_call 138;((with_reducible refine (HO.out _).mono ?_);rintro e w' ⟨rfl,hb1⟩)))
 all_goals
  go_wp2
  go_ret
  exact ⟨rfl,bl_step HB0.out (bl_step hbd hb1)⟩
end
section
open Go.RowKit
theorem innerF_all (s:Int) (ps:List Pt) (i:Nat) (v:Bool) (k:Nat):innerF s ps i v k=(v && (List.range k).all (okE s ps i)):=by
 induction k with
 | zero=>simp [innerF]
 | succ k ih=>rw [innerF_succ,ih,List.range_succ,List.all_append];simp [Bool.and_assoc]
theorem vF_all (s:Int) (ps:List Pt) (k:Nat):vF s ps (List.range k)=(!decide (s=0) && (List.range k).all fun i=>(List.range ps.length).all (okE s ps i)):=by
 induction k with
 | zero=>simp [vF]
 | succ k ih=>rw [List.range_succ,vF_snoc,innerF_all,ih,List.all_append];simp [Bool.and_assoc]
theorem validV_no {ps:List Pt} (h:¬ (3≤ps.length∧ps.length≤64)):validV ps=false:=by
 unfold validV edgeN
 rw [if_neg h,vF_all]
 unfold orientV
 rw [if_neg h]
 rfl
theorem validV_bad {ps:List Pt} (h:3≤ps.length∧ps.length≤64) {i j:Nat} (hi:i<ps.length) (hj:j<ps.length) (hb:okE (orientV ps) ps i j=false):validV ps=false:=by
 unfold validV edgeN
 rw [if_pos h,vF_all]
 have h1:((List.range ps.length).all fun i=>(List.range ps.length).all (okE (orientV ps) ps i))=false:=by
  rw [List.all_eq_false]
  refine ⟨i,List.mem_range.2 hi,?_⟩
  rw [Bool.not_eq_true,List.all_eq_false]
  exact ⟨j,List.mem_range.2 hj,by rw [hb];simp⟩
 rw [h1,Bool.and_false]
theorem validV_good {ps:List Pt} (h:3≤ps.length∧ps.length≤64) (hb:∀ i,i<ps.length→∀ j,j<ps.length→okE (orientV ps) ps i j=true):validV ps=!decide (orientV ps=0):=by
 unfold validV edgeN
 rw [if_pos h,vF_all]
 have h1:((List.range ps.length).all fun i=>(List.range ps.length).all (okE (orientV ps) ps i))=true:=by
  rw [List.all_eq_true]
  intro i hi
  rw [List.all_eq_true]
  intro j hj
  exact hb i (List.mem_range.1 hi) j (List.mem_range.1 hj)
 rw [h1,Bool.and_true]
def rmin (ps:List Pt) (p:Pt) (k:Nat):Int:=if k=0 then 1 else sgnM (locF (orientV ps) ps p (List.range k)).1 (locF (orientV ps) ps p (List.range k)).2
theorem rmin_succ (ps:List Pt) (p:Pt) (k:Nat):min (rmin ps p k) (sideE (orientV ps) ps p k)=rmin ps p (k+1):=by
 have hb:=sideE_bd ps p k
 unfold rmin
 rw [if_neg (Nat.succ_ne_zero k),List.range_succ,locF_snoc]
 generalize sideE (orientV ps) ps p k=x at *
 by_cases hk:k=0
 · subst hk
   have h:x=-1∨x=0∨x=1:=by omega
   simp only [List.range_zero,show locF (orientV ps) ps p []=(true,false) from rfl]
   rcases h with rfl | rfl | rfl <;> decide
 · rw [if_neg hk]
   generalize locF (orientV ps) ps p (List.range k)=st
   obtain ⟨a,b⟩:=st
   have h:x=-1∨x=0∨x=1:=by omega
   simp only [hk,decide_false,cond_false]
   rcases h with rfl | rfl | rfl <;> cases a <;> cases b <;> decide
theorem rmin_bd (ps:List Pt) (p:Pt) (k:Nat):-1≤rmin ps p k∧rmin ps p k≤1:=by
 unfold rmin
 split
 · omega
 · generalize locF (orientV ps) ps p (List.range k)=st
   obtain ⟨a,b⟩:=st
   cases a <;> cases b <;> decide
theorem rmin_loc {ps:List Pt} (p:Pt) (h:3≤ps.length∧ps.length≤64):rmin ps p ps.length=locV ps p:=by
 unfold rmin locV edgeN
 rw [if_neg (by omega),if_pos h]
theorem locV_no {ps:List Pt} (p:Pt) (h:¬ (3≤ps.length∧ps.length≤64)):locV ps p=-1:=by
 unfold locV edgeN
 rw [if_neg h]
 rfl
theorem rvalid_raw (ps:List Pt) (hps:PsJ ps) (n:Nat) (hln:ps.length=n) (hi:3≤n∧n≤64) (A:Option Addr) (c:Nat) (w:World) (hs:Sl w w.heap.size A (ptCs ps)) :
 Calls Tryz.prog 82 #[.slice A n c] w fun e w'=>e=.returned (.bool (validV ps))∧Below w.heap.size w w':=by
 have HI:Hid (Calls Tryz.prog 36 #[.slice A n c] w fun e w'=>e=.returned (.bool true)∧w'=w):=hide (by
  have h:=ris_any n A c w
  rw [show isP n=true by simp [isP];omega] at h
  exact h)
 have HOR:Hid (Calls Tryz.prog 115 #[.slice A n c] w fun e w'=>e=.returned (.int .i64 (orientV ps))∧Below w.heap.size w w'):=hide (by
  have h:=rorientation_any ps hps A c w hs
  rw [hln] at h
  exact h)
 have HSI:Hid (∀ (i j:Nat) (wk:World),i<n→Below w.heap.size w wk→Calls Tryz.prog 116 #[.slice A n c,.int .i64 i,.agg #[.int .i64 (ptAt ps j).1,.int .i64 (ptAt ps j).2]] wk fun e w'=>e=.returned (.int .i64 (orientD (ptAt ps i) (ptAt ps ((i+1) % n)) (ptAt ps j)).sign)∧Below wk.heap.size wk w') :=
  hide fun i j wk hi hk=>rpside_raw ps hps n hln i hi (by omega) (ptAt ps j) (hps.at_ j) A c wk ((hs.below hk).more hk.size)
 have HBAD:Hid (∀ i j,i<n→j<n→okE (orientV ps) ps i j=false→validV ps=false):=hide fun i j h1 h2 h3=>validV_bad (by rw [hln];exact hi) (by omega) (by omega) h3
 have HGOOD:Hid ((∀ i,i<n→∀ j,j<n→okE (orientV ps) ps i j=true)→validV ps=!decide (orientV ps=0)):=hide fun h=>validV_good (by rw [hln];exact hi) (by rw [hln];exact h)
 have HOK:Hid (∀ i j,okE (orientV ps) ps i j=(decide (j=i) || decide (j=(i+1) % n) || decide ((orientD (ptAt ps i) (ptAt ps ((i+1) % n)) (ptAt ps j)).sign=orientV ps))):=hide fun i j=>by unfold okE;rw [hln]
 have HS:=hide hs;have HLN:=hide hln
 have hn0:(n:Int)≠0:=by omega
 clear hps hs hln
 obtain ⟨s,hs⟩:∃ s,s=orientV ps:=⟨_,rfl⟩
 rw [← hs] at HOR HBAD HGOOD HOK
 clear hs
 go_enter Tryz.func82,Tryz.ntmps82
 go_wp2_with fail
 refine HI.out.mono ?_
 rintro e w1 ⟨rfl,hw1⟩
 rw [hw1]
 clear hw1
 go_wp2_with fail
 refine HOR.out.mono ?_
 rintro e w2 ⟨rfl,hb2⟩
 go_wp2
 go_loopw [4,5] (fun u4 _ wr=>∃ i:Nat,i≤n∧u4=.int .i64 i∧Hid (∀ i',i'<i→∀ j,j<n→okE s ps i' j=true)∧Below w.heap.size w wr)
  (fun u4 _ _=>n - (intOf u4).toNat)
 case atStart=>exact ⟨0,by omega,rfl,hide (fun i' h=>absurd h (by omega)),hb2⟩
 case round =>
  obtain ⟨i,hin,rfl,HD,hbr⟩:=hrel
  clear hb2
  by_cases h:i<n
  · go_wp2
    go_loopw [5] (fun u5 wj=>∃ j:Nat,j≤n∧u5=.int .i64 j∧Hid (∀ j',j'<j→okE s ps i j'=true)∧Below w.heap.size w wj)
     (fun u5 _=>n - (intOf u5).toNat)
    case atStart=>exact ⟨0,by omega,rfl,hide (fun i' h=>absurd h (by omega)),hbr⟩
    case round =>
     obtain ⟨j,hjn,rfl,HJ,hbj⟩:=hrel
     clear hbr
     by_cases hj:j<n
     · obtain ⟨b,off,rfl,hb⟩:=sl_pts HS.out (by have:=HLN.out;omega)
       obtain ⟨a0,a1⟩:=sl_pt (HS.out.below hbj) (k:=j) (by have:=HLN.out;omega)
       have hsi:=HSI.out i j wr h hbj
       have hok:=HOK.out i j
       have hbad:=HBAD.out i j h hj
       obtain ⟨ni,hni⟩:∃ ni,ni=(i+1) % n:=⟨_,rfl⟩
       rw [← hni] at hsi hok
       have hmod:((i:Int)+1).tmod (n:Int)=(ni:Int):=by rw [Int.tmod_eq_emod_of_nonneg (by omega),hni];simp
       generalize (orientD (ptAt ps i) (ptAt ps ni) (ptAt ps j)).sign=os at *
       generalize ptAt ps j=pj at *
       obtain ⟨x,y⟩:=pj
       have HSJ:=hide hsi;have HBD:=hide hbad
       have hnext:okE s ps i j=true→Hid (∀ j',j'<j+1→okE s ps i j'=true):=fun h=>hide fun j' hj'=>by
        rcases Nat.lt_or_ge j' j with h1 | h1
        · exact HJ.out j' h1
        · rw [show j'=j by omega];exact h
       clear hsi hni hbad
       by_cases h1:j=i
       · subst h1
         have HN:=hnext (by rw [hok];simp)
         clear hok hnext HJ
         go_wp2
         go_roundw
         case rel=>exact ⟨j+1,by omega,by go_num,HN,hbj⟩
         case measure=>simp [intOf];omega
       · have h1i:(j:Int)≠(i:Int):=by omega
         by_cases h2:j=ni
         · subst h2
           have HN:=hnext (by rw [hok];simp)
           clear hok hnext HJ
           go_wp2
           go_roundw
           case rel=>exact ⟨j+1,by omega,by go_num,HN,hbj⟩
           case measure=>simp [intOf];omega
         · have h2i:(j:Int)≠(ni:Int):=by omega
           by_cases h3:os=s
           · subst h3
             have HN:=hnext (by rw [hok];simp)
             clear hok hnext HJ
             go_wp2_with fail
             refine HSJ.out.mono ?_
             rintro e w5 ⟨rfl,hb5⟩
             go_wp2
             go_roundw
             case rel=>exact ⟨j+1,by omega,by go_num,HN,bl_step hbj hb5⟩
             case measure=>simp [intOf];omega
           · have q1:((j:Int) != (i:Int))=true:=bne_iff_ne.2 h1i
             have q2:((j:Int) != (ni:Int))=true:=bne_iff_ne.2 h2i
             have q3:(os != s)=true:=bne_iff_ne.2 h3
             have HF:Hid (validV ps=false):=hide (HBD.out (by rw [hok];simp [h1,h2,h3]))
             clear hok hnext HJ
             go_wp2_with fail
             refine HSJ.out.mono ?_
             rintro e w5 ⟨rfl,hb5⟩
             go_wp2
             go_ret
             exact ⟨by rw [HF.out];rfl,bl_step hbj hb5⟩
     · obtain rfl:j=n:=by omega
       have HN:Hid (∀ i',i'<i+1→∀ k,k<j→okE s ps i' k=true):=hide fun i' hi' k hk=>by
        rcases Nat.lt_or_ge i' i with h1 | h1
        · exact HD.out i' h1 k hk
        · rw [show i'=i by omega];exact HJ.out k hk
       clear HD HJ
       go_wp2
       go_roundw
       case rel=>exact ⟨i+1,by omega,by go_num,HN,hbj⟩
       case measure=>simp [intOf];omega
  · obtain rfl:i=n:=by omega
    have HF:=hide (HGOOD.out HD.out)
    go_wp2
    go_ret
    exact ⟨by rw [HF.out];rfl,hbr⟩
theorem rvalid_any (ps:List Pt) (hps:PsJ ps) (A:Option Addr) (c:Nat) (w:World) (hs:Sl w w.heap.size A (ptCs ps)) :
 Calls Tryz.prog 82 #[.slice A ps.length c] w fun e w'=>e=.returned (.bool (validV ps))∧Below w.heap.size w w':=by
 by_cases hi:3≤ps.length∧ps.length≤64
 · exact rvalid_raw ps hps _ rfl hi A c w hs
 · have HI:Hid (Calls Tryz.prog 36 #[.slice A ps.length c] w fun e w'=>e=.returned (.bool false)∧w'=w):=hide (by
    have h:=ris_any ps.length A c w
    rw [show isP ps.length=false by simp [isP];omega] at h
    exact h)
   rw [validV_no hi]
   clear hps hs hi
   go_enter Tryz.func82,Tryz.ntmps82
   go_wp2_with fail
   refine HI.out.mono ?_
   rintro e w1 ⟨rfl,hw1⟩
   rw [hw1]
   clear hw1
   go_wp2
   go_ret
   exact ⟨rfl,Below.refl _ _⟩
theorem rlocate_raw (ps:List Pt) (hps:PsJ ps) (n:Nat) (hln:ps.length=n) (hi:3≤n∧n≤64) (p:Pt) (hp:PJ p) (A:Option Addr) (c:Nat) (w:World) (hs:Sl w w.heap.size A (ptCs ps)) :
 Calls Tryz.prog 83 #[.slice A n c,ptV p] w fun e w'=>e=.returned (.int .i64 (locV ps p))∧Below w.heap.size w w':=by
 obtain ⟨p1,p2⟩:=p
 unfold ptV
 obtain ⟨w0,hw0⟩:∃ w0,w0=w.alloc (.cells #[.int .i64 p1,.int .i64 p2] 69):=⟨_,rfl⟩
 have hb0:Below w.heap.size w w0:=by rw [hw0];exact bA
 have B0:Blk w0 w.heap.size 69 #[.int .i64 p1,.int .i64 p2]:=by rw [hw0];exact Blk.new _ _ _
 have hs0:=(hs.below hb0).more hb0.size
 have HI:Hid (Calls Tryz.prog 36 #[.slice A n c] w0 fun e w'=>e=.returned (.bool true)∧w'=w0):=hide (by
  have h:=ris_any n A c w0
  rw [show isP n=true by simp [isP];omega] at h
  exact h)
 have HOR:Hid (Calls Tryz.prog 115 #[.slice A n c] w0 fun e w'=>e=.returned (.int .i64 (orientV ps))∧Below w0.heap.size w0 w'):=hide (by
  have h:=rorientation_any ps hps A c w0 hs0
  rw [hln] at h
  exact h)
 have HSI:Hid (∀ (i:Nat) (wk:World),i<n→Below w0.heap.size w0 wk→Calls Tryz.prog 116 #[.slice A n c,.int .i64 i,.agg #[.int .i64 p1,.int .i64 p2]] wk fun e w'=>e=.returned (.int .i64 (orientD (ptAt ps i) (ptAt ps ((i+1) % n)) (p1,p2)).sign)∧Below wk.heap.size wk w') :=
  hide fun i wk hi hk=>rpside_raw ps hps n hln i hi (by omega) (p1,p2) hp A c wk ((hs0.below hk).more hk.size)
 have HFIN:Hid (rmin ps (p1,p2) n=locV ps (p1,p2)):=hide (by have h:=rmin_loc (ps:=ps) (p1,p2) (by rw [hln];exact hi);rw [hln] at h;exact h)
 have HW:Hid (∀ i,IntKind.i64.wrap (orientV ps*(orientD (ptAt ps i) (ptAt ps ((i+1) % n)) (p1,p2)).sign)=sideE (orientV ps) ps (p1,p2) i):=hide fun i=>by have h:=sideE_wrap ps (p1,p2) i;rw [hln] at h;exact h
 have HST:Hid (∀ i,min (rmin ps (p1,p2) i) (sideE (orientV ps) ps (p1,p2) i)=rmin ps (p1,p2) (i+1)):=hide fun i=>rmin_succ _ _ i
 have HBD:Hid (∀ i,-1≤rmin ps (p1,p2) i∧rmin ps (p1,p2) i≤1):=hide fun i=>rmin_bd _ _ i
 have HSB:Hid (∀ i,-1≤sideE (orientV ps) ps (p1,p2) i∧sideE (orientV ps) ps (p1,p2) i≤1):=hide fun i=>sideE_bd _ _ i
 have H0:Hid (rmin ps (p1,p2) 0=1):=hide rfl
 have HB0:=hide hb0;have HBB:=hide B0
 clear hps hs hln hs0 hb0 B0 hp
 obtain ⟨s,hs⟩:∃ s,s=orientV ps:=⟨_,rfl⟩
 rw [← hs] at HOR HW HST HSB
 clear hs
 go_enter Tryz.func83,Tryz.ntmps83
 go_wp2_with fail
 rw [← hw0]
 clear hw0
 refine HI.out.mono ?_
 rintro e w1 ⟨rfl,hw1⟩
 rw [hw1]
 clear hw1
 go_wp2_with fail
 refine HOR.out.mono ?_
 rintro e w2 ⟨rfl,hb2⟩
 go_wp2
 go_loopw [6,7] (fun u6 u7 wr=>∃ i:Nat,i≤n∧u7=.int .i64 i∧u6=.int .i64 (rmin ps (p1,p2) i)∧Below w0.heap.size w0 wr)
  (fun _ u7 _=>n - (intOf u7).toNat)
 case atStart=>exact ⟨0,by omega,rfl,by rw [H0.out],hb2⟩
 case round =>
  obtain ⟨i,hin,rfl,rfl,hbr⟩:=hrel
  clear hb2
  by_cases h:i<n
  · have c0:wr.cell? ⟨w.heap.size,0,none⟩=some (.int .i64 p1):=(HBB.out.step hbr).cell (i:=0) rfl
    have c1:wr.cell? ⟨w.heap.size,1,none⟩=some (.int .i64 p2):=(HBB.out.step hbr).cell (i:=1) rfl
    have hsi:=HSI.out i wr h hbr
    have hw:=HW.out i
    have hst:=HST.out i
    have hsb:=HSB.out i
    have hbd:=HBD.out i
    generalize (orientD (ptAt ps i) (ptAt ps ((i+1) % n)) (p1,p2)).sign=os at *
    generalize hr:rmin ps (p1,p2) i=r at *
    generalize sideE s ps (p1,p2) i=z at *
    have HSJ:=hide hsi;have HSS:=hide hst
    clear hsi hst hr
    go_wp2_with fail
    refine HSJ.out.mono ?_
    rintro e w5 ⟨rfl,hb5⟩
    go_wp2
    go_roundw
    case rel =>
     refine ⟨i+1,by omega,by go_num,?_,bl_step hbr hb5⟩
     rw [← HSS.out]
     congr 1
     omega
    case measure=>simp [intOf];omega
  · obtain rfl:i=n:=by omega
    go_wp2
    go_ret
    exact ⟨by rw [HFIN.out];rfl,bl_step HB0.out hbr⟩
theorem rlocate_any (ps:List Pt) (hps:PsJ ps) (p:Pt) (hp:PJ p) (A:Option Addr) (c:Nat) (w:World) (hs:Sl w w.heap.size A (ptCs ps)) :
 Calls Tryz.prog 83 #[.slice A ps.length c,ptV p] w fun e w'=>e=.returned (.int .i64 (locV ps p))∧Below w.heap.size w w':=by
 by_cases hi:3≤ps.length∧ps.length≤64
 · exact rlocate_raw ps hps _ rfl hi p hp A c w hs
 · have HI:Hid (∀ wk,Calls Tryz.prog 36 #[.slice A ps.length c] wk fun e w'=>e=.returned (.bool false)∧w'=wk):=hide (fun wk=>by
    have h:=ris_any ps.length A c wk
    rw [show isP ps.length=false by simp [isP];omega] at h
    exact h)
   rw [locV_no p hi]
   clear hps hs hi hp
   unfold ptV
   go_enter Tryz.func83,Tryz.ntmps83
   go_wp2_with fail
   refine (HI.out _).mono ?_
   rintro e w1 ⟨rfl,hw1⟩
   rw [hw1]
   clear hw1
   go_wp2
   go_ret
   exact ⟨rfl,bA⟩
end
end Go.Proofs.YtpnoofphfomjoaaGreatDoor
