/- RefFence2 -/
import Derived.Test.YtpnoofphfomjoaaGreatDoorPkM34
import Derived.Test.YtpnoofphfomjoaaGreatDoorPkM52
set_option maxRecDepth 1000000
set_option maxHeartbeats 8000000
namespace Go.Proofs.YtpnoofphfomjoaaGreatDoor
section
open Go.RowKit
theorem rdisc_raw (ps:List Pt) (hps:PsJ ps) (hln:ps.length=3) (A:Option Addr) (c:Nat) (w:World) (hs:Sl w w.heap.size A (ptCs ps)) :
 Calls Tryz.prog 137 #[.slice A 3 c] w fun e w'=>e=.returned (.bool (discOk ps))∧Below w.heap.size w w':=by
 obtain ⟨b,off,rfl,hb⟩:=sl_pts hs (by omega)
 obtain ⟨a0,a1⟩:=sl_pt hs (k:=0) (by omega)
 obtain ⟨b0,b1⟩:=sl_pt hs (k:=1) (by omega)
 obtain ⟨c0,c1⟩:=sl_pt hs (k:=2) (by omega)
 have HO:Hid (∀ wk,Calls Tryz.prog 138 #[.agg #[.int .i64 (ptAt ps 0).1,.int .i64 (ptAt ps 0).2],.agg #[.int .i64 (ptAt ps 1).1,.int .i64 (ptAt ps 1).2],.agg #[.int .i64 (ptAt ps 2).1,.int .i64 (ptAt ps 2).2]] wk fun e w'=>e=.returned (.int .i64 (orientD (ptAt ps 0) (ptAt ps 1) (ptAt ps 2)).sign)∧Below wk.heap.size wk w') :=
  hide fun wk=>rsign_any _ _ _ (hps.at_ 0) (hps.at_ 1) (hps.at_ 2) wk
 have HD:Hid (discOk ps=!decide ((orientD (ptAt ps 0) (ptAt ps 1) (ptAt ps 2)).sign=0)):=hide (by unfold discOk;rw [hln];simp)
 generalize (orientD (ptAt ps 0) (ptAt ps 1) (ptAt ps 2)).sign=os at *
 generalize ptAt ps 0=pa at *
 generalize ptAt ps 1=pb at *
 generalize ptAt ps 2=pc at *
 obtain ⟨a,a'⟩:=pa
 obtain ⟨b2,b'⟩:=pb
 obtain ⟨c2,c'⟩:=pc
 dsimp only at *
 simp only [Nat.zero_mul,Nat.add_zero,Nat.one_mul,Nat.reduceMul] at a0 a1 b0 b1 c0 c1
 clear hs hps hln
 have hbd:=bl_drew (Below.refl w.heap.size w)
 go_enter Tryz.func137,Tryz.ntmps137
 go_wp2
 go_region_held3 (fun w'=>(Below w.heap.size w w'∧w'.cell? ⟨b,off,none⟩=some (.int .i64 a)∧w'.cell? ⟨b,off+1,none⟩=some (.int .i64 a'))∧(w'.cell? ⟨b,off+2,none⟩=some (.int .i64 b2)∧w'.cell? ⟨b,off+2+1,none⟩=some (.int .i64 b'))∧w'.cell? ⟨b,off+4,none⟩=some (.int .i64 c2)∧w'.cell? ⟨b,off+4+1,none⟩=some (.int .i64 c'))
  (first | exact ⟨⟨hbd,a0,a1⟩,⟨b0,b1⟩,c0,c1⟩ | exact ⟨⟨bl_step hbd (by assumption),(hb1.cell (p:=⟨b,_,none⟩) hb).trans a0,(hb1.cell (p:=⟨b,_,none⟩) hb).trans a1⟩,⟨(hb1.cell (p:=⟨b,_,none⟩) hb).trans b0,(hb1.cell (p:=⟨b,_,none⟩) hb).trans b1⟩,(hb1.cell (p:=⟨b,_,none⟩) hb).trans c0,(hb1.cell (p:=⟨b,_,none⟩) hb).trans c1⟩)
  (first
    | (go_at_call 138;((with_reducible refine (HO.out _).mono ?_);rintro e w' ⟨rfl,hb1⟩)))
 all_goals
  go_wp2
  go_ret
  exact ⟨by rw [HD.out];rfl,bl_step hbd hb1⟩
theorem rdiscValid_any (ps:List Pt) (hps:PsJ ps) (A:Option Addr) (c:Nat) (w:World) (hs:Sl w w.heap.size A (ptCs ps)) :
 Calls Tryz.prog 137 #[.slice A ps.length c] w fun e w'=>e=.returned (.bool (discOk ps))∧Below w.heap.size w w':=by
 by_cases h3:ps.length=3
 · have h:=rdisc_raw ps hps h3 A c w hs
   rw [h3]
   exact h
 · have h3i:((ps.length:Nat):Int)≠3:=by omega
   have h3b:(((ps.length:Nat):Int) == 3)=false:=by simp;omega
   have HD:Hid (discOk ps=false):=hide (by unfold discOk;simp [h3])
   clear hs hps
   go_enter Tryz.func137,Tryz.ntmps137
   go_wp2
   go_quiet (fail)
   go_wp2
   go_ret
   exact ⟨by rw [HD.out];rfl,bl_drewN (Below.refl _ _) _⟩
theorem rdiscL_raw (ps:List Pt) (hps:PsJ ps) (hln:ps.length=3) (p:Pt) (hp:PJ p) (A:Option Addr) (c:Nat) (w:World) (hs:Sl w w.heap.size A (ptCs ps)) :
 Calls Tryz.prog 193 #[.slice A 3 c,ptV p] w fun e w'=>e=.returned (.int .i64 (discL ps p))∧Below w.heap.size w w':=by
 obtain ⟨p1,p2⟩:=p
 unfold ptV
 obtain ⟨w0,hw0⟩:∃ w0,w0=w.alloc (.cells #[.int .i64 p1,.int .i64 p2] 69):=⟨_,rfl⟩
 have hb0:Below w.heap.size w w0:=by rw [hw0];exact bA
 have B0:Blk w0 w.heap.size 69 #[.int .i64 p1,.int .i64 p2]:=by rw [hw0];exact Blk.new _ _ _
 have hs0:=(hs.below hb0).more hb0.size
 obtain ⟨b,off,rfl,hb⟩:=sl_pts hs0 (by omega)
 obtain ⟨a0,a1⟩:=sl_pt hs0 (k:=0) (by omega)
 obtain ⟨b0,b1⟩:=sl_pt hs0 (k:=1) (by omega)
 obtain ⟨c0,c1⟩:=sl_pt hs0 (k:=2) (by omega)
 have d0:w0.cell? ⟨w.heap.size,0,none⟩=some (.int .i64 p1):=B0.cell (i:=0) rfl
 have d1:w0.cell? ⟨w.heap.size,1,none⟩=some (.int .i64 p2):=B0.cell (i:=1) rfl
 have hg:=B0.lt
 have HO:Hid (∀ wk,Calls Tryz.prog 214 #[.agg #[.int .i64 (ptAt ps 0).1,.int .i64 (ptAt ps 0).2],.agg #[.int .i64 (ptAt ps 1).1,.int .i64 (ptAt ps 1).2],.agg #[.int .i64 (ptAt ps 2).1,.int .i64 (ptAt ps 2).2],.agg #[.int .i64 p1,.int .i64 p2]] wk fun e w'=>e=.returned (.int .i64 (discL ps (p1,p2)))∧Below wk.heap.size wk w') :=
  hide fun wk=>rside_raw _ _ _ _ _ _ _ _ (circleD (ptAt ps 0) (ptAt ps 1) (ptAt ps 2) (p1,p2)) (orientD (ptAt ps 0) (ptAt ps 1) (ptAt ps 2)) _ (hps.at_ 0) (hps.at_ 1) (hps.at_ 2) hp (rcircle (ptAt ps 0) (ptAt ps 1) (ptAt ps 2) (p1,p2)) (rorient _ _ _) (by rw [sign_mul_wrap];unfold discL;rw [if_pos hln]) wk
 generalize discL ps (p1,p2)=os at *
 generalize ptAt ps 0=pa at *
 generalize ptAt ps 1=pb at *
 generalize ptAt ps 2=pc at *
 obtain ⟨a,a'⟩:=pa
 obtain ⟨b2,b'⟩:=pb
 obtain ⟨c2,c'⟩:=pc
 dsimp only at *
 simp only [Nat.zero_mul,Nat.add_zero,Nat.one_mul,Nat.reduceMul] at a0 a1 b0 b1 c0 c1
 have hbd:=bl_drew (Below.refl w0.heap.size w0)
 have HB0:=hide hb0
 clear hs hs0 hps hln hp B0 hb0
 go_enter Tryz.func193,Tryz.ntmps193
 go_wp2
 rw [← hw0]
 have HW0:=hide hw0
 clear hw0
 go_region_held3 (fun w'=>(Below w0.heap.size w0 w'∧w'.cell? ⟨b,off,none⟩=some (.int .i64 a)∧w'.cell? ⟨b,off+1,none⟩=some (.int .i64 a'))∧(w'.cell? ⟨b,off+2,none⟩=some (.int .i64 b2)∧w'.cell? ⟨b,off+2+1,none⟩=some (.int .i64 b'))∧(w'.cell? ⟨b,off+4,none⟩=some (.int .i64 c2)∧w'.cell? ⟨b,off+4+1,none⟩=some (.int .i64 c'))∧w'.cell? ⟨w.heap.size,0,none⟩=some (.int .i64 p1)∧w'.cell? ⟨w.heap.size,1,none⟩=some (.int .i64 p2))
  (first | exact ⟨⟨hbd,a0,a1⟩,⟨b0,b1⟩,⟨c0,c1⟩,d0,d1⟩ | exact ⟨⟨bl_step hbd (by assumption),(hb1.cell (p:=⟨b,_,none⟩) hb).trans a0,(hb1.cell (p:=⟨b,_,none⟩) hb).trans a1⟩,⟨(hb1.cell (p:=⟨b,_,none⟩) hb).trans b0,(hb1.cell (p:=⟨b,_,none⟩) hb).trans b1⟩,⟨(hb1.cell (p:=⟨b,_,none⟩) hb).trans c0,(hb1.cell (p:=⟨b,_,none⟩) hb).trans c1⟩,(hb1.cell (p:=⟨_,_,none⟩) hg).trans d0,(hb1.cell (p:=⟨_,_,none⟩) hg).trans d1⟩)
  (first
    | (go_at_call 214;((with_reducible refine (HO.out _).mono ?_);rintro e w' ⟨rfl,hb1⟩)))
 all_goals
  go_wp2
  go_ret
  exact ⟨rfl,bl_step HB0.out (bl_step hbd hb1)⟩
theorem rdiscL_any (ps:List Pt) (hps:PsJ ps) (p:Pt) (hp:PJ p) (A:Option Addr) (c:Nat) (w:World) (hs:Sl w w.heap.size A (ptCs ps)) :
 Calls Tryz.prog 193 #[.slice A ps.length c,ptV p] w fun e w'=>e=.returned (.int .i64 (discL ps p))∧Below w.heap.size w w':=by
 by_cases h3:ps.length=3
 · have h:=rdiscL_raw ps hps h3 p hp A c w hs
   rw [h3]
   exact h
 · have h3i:((ps.length:Nat):Int)≠3:=by omega
   have h3b:(((ps.length:Nat):Int) != 3)=true:=by simp;omega
   have HD:Hid (discL ps p=-1):=hide (by unfold discL;rw [if_neg h3])
   clear hs hps hp
   unfold ptV
   go_enter Tryz.func193,Tryz.ntmps193
   go_wp2
   go_ret
   exact ⟨by rw [HD.out];rfl,bA⟩
theorem rfcheck_raw (rs:List Rg) (m:Nat) (hm:rs.length=m) (A:Option Addr) (c:Nat) (w:World) (hs:Sl w w.heap.size A (rgCells rs)) :
 Calls Tryz.prog 43 #[.slice A m c] w fun e w'=>e=.returned (.int .i64 (fcheck rs))∧w'=w:=by
 have HS:=hide hs;clear hs
 by_cases hc:m<1∨64<m
 · have hf:fcheck rs=6:=by unfold fcheck;rw [if_pos (by omega)]
   rw [hf]
   have hci:(m:Int)<1∨(¬ (m:Int)<1∧(64:Int)<(m:Int)):=by omega
   clear hf hc
   rcases hci with h | ⟨h,h2⟩
   · go_enter Tryz.func43,Tryz.ntmps43
     go_wp2
     go_ret
     exact ⟨rfl,rfl⟩
   · go_enter Tryz.func43,Tryz.ntmps43
     go_wp2
     go_ret
     exact ⟨rfl,rfl⟩
 · have hf:fcheck rs=fcheckL rs:=by unfold fcheck;rw [if_neg (by omega)]
   rw [hf]
   have h1:¬ (m:Int)<1:=by omega
   have h2:¬ (64:Int)<(m:Int):=by omega
   have HM:=hide hm
   clear hf hc hm
   go_enter Tryz.func43,Tryz.ntmps43
   go_wp2
   go_loopw [3,4] (fun i _ wr=>∃ k:Nat,k≤m∧i=.int .i64 k∧Hid (fcheckL rs=fcheckL (rs.drop k))∧wr=w)
    (fun i _ _=>m - (intOf i).toNat)
   case atStart=>exact ⟨0,Nat.zero_le _,rfl,hide (by simp),rfl⟩
   case round =>
    obtain ⟨k,hk,rfl,hF,hwr⟩:=hrel
    subst hwr
    by_cases hlt:k<m
    · obtain ⟨r,hr⟩:∃ r,rs[k]?=some r:=⟨_,List.getElem?_eq_getElem (by have:=HM.out;omega)⟩
      obtain ⟨b,off,rfl,hB,c0,c1,c2⟩:=HS.out.rg hr
      have hD:=hide (hF.out.trans (fcheckL_drop rs k r hr))
      obtain ⟨d,v,A,n,c⟩:=r
      dsimp only at *
      have HSZ:=hide (refSize_any v wr)
      obtain ⟨z,hz⟩:∃ z,z=sizeOfReg v:=⟨_,rfl⟩
      rw [← hz] at hD HSZ
      clear hr hF hz
      by_cases h0:z=0
      · have hD':Hid (fcheckL rs=7):=hide (hD.out.trans (if_pos h0))
        clear hD
        subst h0
        go_wp2_with fail
        refine HSZ.out.mono ?_
        rintro e w2 ⟨rfl,hw2⟩
        rw [← hw2]
        clear hw2
        go_wp2
        go_ret
        exact ⟨by rw [hD'.out];rfl,rfl⟩
      · have h0i:(z == 0)=false:=by simp [h0]
        by_cases hn:z=(n:Int)
        · have hD':Hid (fcheckL rs=fcheckL (rs.drop (k+1))):=hide (hD.out.trans ((if_neg h0).trans (if_pos hn)))
          clear hD
          subst hn
          go_wp2_with fail
          refine HSZ.out.mono ?_
          rintro e w2 ⟨rfl,hw2⟩
          rw [← hw2]
          clear hw2
          go_wp2
          go_roundw
          case rel=>exact ⟨k+1,by omega,by go_num,hD',trivial⟩
          case measure=>simp [intOf];omega
        · have hD':Hid (fcheckL rs=8):=hide (hD.out.trans ((if_neg h0).trans (if_neg hn)))
          have hni:((n:Int) != z)=true:=bne_iff_ne.2 (fun h=>hn h.symm)
          have hni2:(n:Int)≠z:=fun h=>hn h.symm
          clear hD
          go_wp2_with fail
          refine HSZ.out.mono ?_
          rintro e w2 ⟨rfl,hw2⟩
          rw [← hw2]
          clear hw2
          go_wp2
          go_ret
          exact ⟨by rw [hD'.out];rfl,rfl⟩
    · obtain rfl:k=m:=by omega
      go_wp2
      go_ret
      have h:=hF.out
      rw [List.drop_of_length_le (by have:=HM.out;omega)] at h
      exact ⟨by rw [h];rfl,rfl⟩
theorem rfcheck_any (rs:List Rg) (A:Option Addr) (c:Nat) (w:World) (hs:Sl w w.heap.size A (rgCells rs)) :
 Calls Tryz.prog 43 #[.slice A rs.length c] w fun e w'=>e=.returned (.int .i64 (fcheck rs))∧w'=w:=rfcheck_raw rs _ rfl A c w hs
end
section
open Go.RowKit
theorem fcheckL_zero:∀ {rs:List Rg},fcheckL rs=0→∀ r∈rs,(r.v=0∨3≤r.v∧r.v≤64)∧sizeOfReg r.v=(r.n:Int)
 | [],_,r,h=>by simp at h
 | x::rs,h0,r,h=>by
   unfold fcheckL at h0
   split at h0
   · omega
   · rename_i h1
     split at h0
     · rename_i h2
       rcases List.mem_cons.1 h with rfl | h
       · refine ⟨?_,h2⟩
         unfold sizeOfReg at h1
         split at h1
         · exact .inl (by assumption)
         · split at h1
           · exact .inr (by assumption)
           · omega
       · exact fcheckL_zero h0 r h
     · omega
theorem fcheck_zero {rs:List Rg} (h:fcheck rs=0):∀ r∈rs,(r.v=0∨3≤r.v∧r.v≤64)∧sizeOfReg r.v=(r.n:Int):=by
 unfold fcheck at h
 split at h
 · omega
 · exact fcheckL_zero h
theorem fcheck_le {rs:List Rg} (h:fcheck rs=0):rs.length≤64:=by
 unfold fcheck at h
 split at h <;> omega
def GsR (w:World) (gs:List Gr):Prop:=∀ g∈gs,g.1.n=g.2.length∧Sl w w.heap.size g.1.A (ptCs g.2)∧PsJ g.2
theorem GsR.step {w w':World} {gs:List Gr} (h:GsR w gs) (hb:Below w.heap.size w w'):GsR w' gs:=fun g hg=>⟨(h g hg).1,((h g hg).2.1.below hb).more hb.size,(h g hg).2.2⟩
theorem fvOk_bad {gs:List Gr} {k:Nat} {g:Gr} (h:gs[k]?=some g) (hb:rgOk g.1.v g.2=false):fvOk gs=false:=by
 have e:∀ (l:List Gr) (b:Bool),l.foldl (fun b g=>b && rgOk g.1.v g.2) b=(b && l.all fun g=>rgOk g.1.v g.2):=by
  intro l
  induction l with
  | nil=>intro b;simp
  | cons x l ih=>intro b;rw [List.foldl_cons,ih,List.all_cons,Bool.and_assoc]
 unfold fvOk
 rw [e,Bool.true_and,List.all_eq_false]
 exact ⟨g,List.mem_of_getElem? h,by rw [hb];simp⟩
theorem map_get {gs:List Gr} {k:Nat} {g:Gr} (h:gs[k]?=some g):(gs.map (·.1))[k]?=some g.1:=by rw [List.getElem?_map,h];rfl
theorem rfvalid_raw (gs:List Gr) (m:Nat) (hm:gs.length=m) (GA:Option Addr) (gc:Nat) (w:World) (hs:Sl w w.heap.size GA (rgCells (gs.map (·.1)))) (hgs:GsR w gs) :
 Calls Tryz.prog 98 #[.slice GA m gc] w fun e w'=>e=.returned (.bool (fenceOk gs))∧Below w.heap.size w w':=by
 have HC:=rfcheck_raw (gs.map (·.1)) m (by simpa using hm) GA gc w hs
 by_cases hc:fcheck (gs.map (·.1))=0
 · have hF:fenceOk gs=fvOk gs:=by unfold fenceOk;simp [hc]
   have hz:=fcheck_zero hc
   have hm64:m≤64:=by
    have h:=fcheck_le hc
    rw [List.length_map,hm] at h
    exact h
   rw [hF]
   rw [hc] at HC
   have HD:Hid (∀ (ps:List Pt) (A:Option Addr) (c:Nat) (wk:World),PsJ ps→Sl wk wk.heap.size A (ptCs ps)→Calls Tryz.prog 137 #[.slice A ps.length c] wk fun e w'=>e=.returned (.bool (discOk ps))∧Below wk.heap.size wk w'):=hide fun ps A c wk h1 h2=>rdiscValid_any ps h1 A c wk h2
   have HP:Hid (∀ (ps:List Pt) (A:Option Addr) (c:Nat) (wk:World),PsJ ps→Sl wk wk.heap.size A (ptCs ps)→Calls Tryz.prog 82 #[.slice A ps.length c] wk fun e w'=>e=.returned (.bool (validV ps))∧Below wk.heap.size wk w'):=hide fun ps A c wk h1 h2=>rvalid_any ps h1 A c wk h2
   have HZ:=hide hz;have HCC:=hide HC;have HS:=hide hs;have HG:=hide hgs;have HM:=hide hm
   clear hz HC hc hF hs hgs hm
   go_enter Tryz.func98,Tryz.ntmps98
   go_wp2_with fail
   refine HCC.out.mono ?_
   rintro e w1 ⟨rfl,hw1⟩
   rw [hw1]
   clear hw1
   go_wp2
   go_loopw [3] (fun u wr=>∃ k:Nat,k≤m∧u=.int .i64 k∧Hid (fvOk (gs.take k)=true)∧Below w.heap.size w wr)
    (fun u _=>m - (intOf u).toNat)
   case atStart=>exact ⟨0,by omega,rfl,hide rfl,Below.refl _ _⟩
   case round =>
    obtain ⟨k,hk,rfl,HK,hbr⟩:=hrel
    by_cases h:k<m
    · obtain ⟨g,hg⟩:∃ g,gs[k]?=some g:=⟨_,List.getElem?_eq_getElem (by have:=HM.out;omega)⟩
      obtain ⟨b,off,rfl,hB,c0,c1,c2⟩:=(HS.out.below hbr).rg (map_get hg)
      obtain ⟨gn,gsl,gpj⟩:=(HG.out.step hbr) g (List.mem_of_getElem? hg)
      obtain ⟨hv,_⟩:=HZ.out g.1 (List.mem_map.2 ⟨g,List.mem_of_getElem? hg,rfl⟩)
      have htake:=fvOk_take hg
      have hbad:=fun hb=>fvOk_bad hg hb
      rw [HK.out,Bool.true_and] at htake
      obtain ⟨⟨d,v,A,n,c⟩,ps⟩:=g
      dsimp only at *
      subst gn
      have HD1:=hide (HD.out ps A c wr gpj gsl)
      have HP1:=hide (HP.out ps A c wr gpj gsl)
      have HT:=hide htake;have HBD:=hide hbad
      clear hg gsl gpj htake hbad
      by_cases h0:v=0
      · subst h0
        have hro:rgOk 0 ps=discOk ps:=rfl
        cases hd:discOk ps
        · have HF:Hid (fvOk gs=false):=hide (HBD.out (by rw [hro,hd]))
          rw [hd] at HD1
          clear HT HBD hro HP1
          go_wp2_with fail
          refine HD1.out.mono ?_
          rintro e w2 ⟨rfl,hb2⟩
          go_wp2
          go_ret
          exact ⟨by rw [HF.out];rfl,bl_step hbr hb2⟩
        · have HN:Hid (fvOk (gs.take (k+1))=true):=hide (by rw [HT.out,hro,hd])
          rw [hd] at HD1
          have HC1:Hid (∀ w2:World,Below wr.heap.size wr w2→w2.cell? ⟨b,off+k*3+1,none⟩=some (.int .i64 0)):=hide fun w2 hb=>(hb.cell (p:=⟨_,_,none⟩) (cell_lt c1)).trans c1
          clear HT HBD hro HP1
          go_wp2_with fail
          refine HD1.out.mono ?_
          rintro e w2 ⟨rfl,hb2⟩
          have c1':=HC1.out _ hb2
          go_wp2
          go_roundw
          case rel=>exact ⟨k+1,by omega,by go_num,HN,bl_step hbr hb2⟩
          case measure=>simp [intOf];omega
      · have hv3:0<v:=by omega
        have h0b:(v == 0)=false:=by simp [h0]
        have hro:rgOk v ps=validV ps:=by unfold rgOk;rw [if_neg h0]
        cases hd:validV ps
        · have HF:Hid (fvOk gs=false):=hide (HBD.out (by rw [hro,hd]))
          rw [hd] at HP1
          clear HT HBD hro HD1
          go_wp2_with fail
          refine HP1.out.mono ?_
          rintro e w2 ⟨rfl,hb2⟩
          go_wp2
          go_ret
          exact ⟨by rw [HF.out];rfl,bl_step hbr hb2⟩
        · have HN:Hid (fvOk (gs.take (k+1))=true):=hide (by rw [HT.out,hro,hd])
          rw [hd] at HP1
          clear HT HBD hro HD1
          go_wp2_with fail
          refine HP1.out.mono ?_
          rintro e w2 ⟨rfl,hb2⟩
          go_wp2
          go_roundw
          case rel=>exact ⟨k+1,by omega,by go_num,HN,bl_step hbr hb2⟩
          case measure=>simp [intOf];omega
    · obtain rfl:k=m:=by omega
      have HF:Hid (fvOk gs=true):=hide (by have h:=HK.out;rw [List.take_of_length_le (by have:=HM.out;omega)] at h;exact h)
      go_wp2
      go_ret
      exact ⟨by rw [HF.out];rfl,hbr⟩
 · have hF:fenceOk gs=false:=by unfold fenceOk;simp [hc]
   rw [hF]
   generalize fcheck (gs.map (·.1))=q at *
   have hq:(q != 0)=true:=bne_iff_ne.2 hc
   have HCC:=hide HC
   clear HC hF hs hgs hm
   go_enter Tryz.func98,Tryz.ntmps98
   go_wp2_with fail
   refine HCC.out.mono ?_
   rintro e w1 ⟨rfl,hw1⟩
   rw [hw1]
   clear hw1
   go_wp2
   go_ret
   exact ⟨rfl,Below.refl _ _⟩
theorem rfvalid_any (gs:List Gr) (GA:Option Addr) (gc:Nat) (w:World) (hs:Sl w w.heap.size GA (rgCells (gs.map (·.1)))) (hgs:GsR w gs) :
 Calls Tryz.prog 98 #[.slice GA gs.length gc] w fun e w'=>e=.returned (.bool (fenceOk gs))∧Below w.heap.size w w':=rfvalid_raw gs _ rfl GA gc w hs hgs
theorem rglocate_any (d:Bool) (v:Int) (ps:List Pt) (hps:PsJ ps) (p:Pt) (hp:PJ p) (A:Option Addr) (c:Nat) (w:World) (hs:Sl w w.heap.size A (ptCs ps)) :
 Calls Tryz.prog 166 #[.agg #[.bool d,.int .i64 v,.slice A ps.length c],ptV p] w fun e w'=>e=.returned (.int .i64 (rgL v ps p))∧Below w.heap.size w w':=by
 obtain ⟨p1,p2⟩:=p
 have HD:Hid (∀ (wk:World),Below w.heap.size w wk→Calls Tryz.prog 193 #[.slice A ps.length c,.agg #[.int .i64 p1,.int .i64 p2]] wk fun e w'=>e=.returned (.int .i64 (discL ps (p1,p2)))∧Below wk.heap.size wk w'):=hide fun wk h=>rdiscL_any ps hps (p1,p2) hp A c wk ((hs.below h).more h.size)
 have HP:Hid (∀ (wk:World),Below w.heap.size w wk→Calls Tryz.prog 83 #[.slice A ps.length c,.agg #[.int .i64 p1,.int .i64 p2]] wk fun e w'=>e=.returned (.int .i64 (locV ps (p1,p2)))∧Below wk.heap.size wk w'):=hide fun wk h=>rlocate_any ps hps (p1,p2) hp A c wk ((hs.below h).more h.size)
 unfold ptV
 have hbb:Below w.heap.size w ((w.alloc (.cells #[.bool d,.int .i64 v,.slice A ps.length c] 87)).alloc (.cells #[.int .i64 p1,.int .i64 p2] 69)):=bl_alloc (bA) _
 have HB:=hide hbb
 clear hps hp hs hbb
 by_cases h0:v=0
 · subst h0
   have HR:Hid (rgL 0 ps (p1,p2)=discL ps (p1,p2)):=hide rfl
   clear HP
   go_enter Tryz.func166,Tryz.ntmps166
   go_wp2_with fail
   refine (HD.out _ HB.out).mono ?_
   rintro e w1 ⟨rfl,hb1⟩
   go_wp2
   go_ret
   exact ⟨by rw [HR.out];rfl,bl_step HB.out hb1⟩
 · have h0b:(v == 0)=false:=by simp [h0]
   have HR:Hid (rgL v ps (p1,p2)=locV ps (p1,p2)):=hide (by unfold rgL;rw [if_neg h0])
   clear HD
   go_enter Tryz.func166,Tryz.ntmps166
   go_wp2_with fail
   refine (HP.out _ HB.out).mono ?_
   rintro e w1 ⟨rfl,hb1⟩
   go_wp2
   go_ret
   exact ⟨by rw [HR.out];rfl,bl_step HB.out hb1⟩
theorem memF_deny {p:Pt} {gs:List Gr} {k:Nat} {g:Gr} (h:gs[k]?=some g) (hd:g.1.d=true) (hl:0≤rgL g.1.v g.2 p):(memF p gs).2=true:=by
 have mono:∀ (l:List Gr) (s:Bool × Bool),s.2=true→(l.foldl (fun s g=>bif g.1.d then (s.1,s.2 || !decide (rgL g.1.v g.2 p<0)) else (s.1 || !decide (rgL g.1.v g.2 p<0),s.2)) s).2=true:=by
  intro l
  induction l with
  | nil=>intro s hs;exact hs
  | cons x l ih =>
    intro s hs
    rw [List.foldl_cons]
    apply ih
    cases x.1.d <;> simp [hs]
 have h1:=memF_take p h
 rw [hd,cond_true] at h1
 have h2:(memF p (gs.take (k+1))).2=true:=by
  rw [h1]
  simp [show ¬ rgL g.1.v g.2 p<0 by omega]
 unfold memF
 rw [← List.take_append_drop (k+1) gs,List.foldl_append]
 exact mono _ _ h2
theorem rmember_raw (gs:List Gr) (m:Nat) (hm:gs.length=m) (p:Pt) (hp:PJ p) (GA:Option Addr) (gc:Nat) (w:World) (hs:Sl w w.heap.size GA (rgCells (gs.map (·.1)))) (hgs:GsR w gs) :
 Calls Tryz.prog 134 #[.slice GA m gc,ptV p] w fun e w'=>e=.returned (.bool (memOk gs p))∧Below w.heap.size w w':=by
 obtain ⟨p1,p2⟩:=p
 unfold ptV
 obtain ⟨w0,hw0⟩:∃ w0,w0=w.alloc (.cells #[.int .i64 p1,.int .i64 p2] 69):=⟨_,rfl⟩
 have hb0:Below w.heap.size w w0:=by rw [hw0];exact bA
 have B0:Blk w0 w.heap.size 69 #[.int .i64 p1,.int .i64 p2]:=by rw [hw0];exact Blk.new _ _ _
 have hs0:=(hs.below hb0).more hb0.size
 have hgs0:=hgs.step hb0
 have HC:=rfcheck_raw (gs.map (·.1)) m (by simpa using hm) GA gc w0 hs0
 by_cases hc:fcheck (gs.map (·.1))=0
 · have hF:memOk gs (p1,p2)=((memF (p1,p2) gs).1 && !(memF (p1,p2) gs).2):=by unfold memOk;simp [hc]
   have hm64:m≤64:=by
    have h:=fcheck_le hc
    rw [List.length_map,hm] at h
    exact h
   rw [hF]
   rw [hc] at HC
   have HL:Hid (∀ (d:Bool) (v:Int) (ps:List Pt) (A:Option Addr) (c:Nat) (wk:World),PsJ ps→Sl wk wk.heap.size A (ptCs ps)→Calls Tryz.prog 166 #[.agg #[.bool d,.int .i64 v,.slice A ps.length c],.agg #[.int .i64 p1,.int .i64 p2]] wk fun e w'=>e=.returned (.int .i64 (rgL v ps (p1,p2)))∧Below wk.heap.size wk w'):=hide fun d v ps A c wk h1 h2=>rglocate_any d v ps h1 (p1,p2) hp A c wk h2
   have HCC:=hide HC;have HS:=hide hs0;have HG:=hide hgs0;have HM:=hide hm;have HB0:=hide hb0;have HBB:=hide B0
   clear HC hc hF hs hgs hm hs0 hgs0 hb0 B0 hp
   go_enter Tryz.func134,Tryz.ntmps134
   go_wp2_with fail
   rw [← hw0]
   clear hw0
   refine HCC.out.mono ?_
   rintro e w1 ⟨rfl,hw1⟩
   rw [hw1]
   clear hw1
   go_wp2
   go_loopw [5,6] (fun u5 u6 wr=>∃ (k:Nat) (x:Bool),k≤m∧u6=.int .i64 k∧u5=.bool x∧Hid (memF (p1,p2) (gs.take k)=(x,false))∧Below w0.heap.size w0 wr)
    (fun _ u6 _=>m - (intOf u6).toNat)
   case atStart=>exact ⟨0,false,by omega,rfl,rfl,hide rfl,Below.refl _ _⟩
   case round =>
    obtain ⟨k,x,hk,rfl,rfl,HK,hbr⟩:=hrel
    by_cases h:k<m
    · obtain ⟨g,hg⟩:∃ g,gs[k]?=some g:=⟨_,List.getElem?_eq_getElem (by have:=HM.out;omega)⟩
      obtain ⟨b,off,rfl,hB,c0,c1,c2⟩:=(HS.out.below hbr).rg (map_get hg)
      obtain ⟨gn,gsl,gpj⟩:=(HG.out.step hbr) g (List.mem_of_getElem? hg)
      have htake:=memF_take (p1,p2) hg
      have hden:=fun a b=>memF_deny (p:=(p1,p2)) hg a b
      rw [HK.out] at htake
      obtain ⟨⟨d,v,A,n,c⟩,ps⟩:=g
      dsimp only at *
      subst gn
      have p0:wr.cell? ⟨w.heap.size,0,none⟩=some (.int .i64 p1):=(HBB.out.step hbr).cell (i:=0) rfl
      have p0':wr.cell? ⟨w.heap.size,1,none⟩=some (.int .i64 p2):=(HBB.out.step hbr).cell (i:=1) rfl
      have hki:(k:Int)<(m:Int):=by omega
      have hkl:w.heap.size<wr.heap.size:=cell_lt p0
      have hbl:b<wr.heap.size:=cell_lt c0
      have HL1:Hid (∀ wk,Below wr.heap.size wr wk→Calls Tryz.prog 166 #[.agg #[.bool d,.int .i64 v,.slice A ps.length c],.agg #[.int .i64 p1,.int .i64 p2]] wk fun e w'=>e=.returned (.int .i64 (rgL v ps (p1,p2)))∧Below wk.heap.size wk w'):=hide fun wk hb=>HL.out d v ps A c wk gpj ((gsl.below hb).more hb.size)
      have hF:(memF (p1,p2) gs).2=true→((memF (p1,p2) gs).1 && !(memF (p1,p2) gs).2)=false:=fun h=>by rw [h];simp
      generalize rgL v ps (p1,p2)=z at *
      have HT:=hide htake;have HDN:=hide hden;have HF0:=hide hF
      have hbd:=bl_drew (Below.refl wr.heap.size wr)
      clear hg gsl gpj htake hden hF
      by_cases hz:0≤z
      · cases d
        · have HN:Hid (memF (p1,p2) (gs.take (k+1))=(true,false)):=hide (by rw [HT.out];simp [show ¬ z<0 by omega])
          clear HT HDN HF0
          go_wp2
          go_region_held3 (fun w'=>(Below wr.heap.size wr w'∧w'.cell? ⟨b,off+k*3,none⟩=some (.bool false))∧w'.cell? ⟨b,off+k*3+1,none⟩=some (.int .i64 v)∧w'.cell? ⟨b,off+k*3+2,none⟩=some (.slice A ps.length c)∧w'.cell? ⟨w.heap.size,0,none⟩=some (.int .i64 p1)∧w'.cell? ⟨w.heap.size,1,none⟩=some (.int .i64 p2))
           (first | exact ⟨⟨hbd,c0⟩,c1,c2,p0,p0'⟩ | exact ⟨⟨bl_step hbd (by assumption),(hb1.cell (p:=⟨b,_,none⟩) hbl).trans c0⟩,(hb1.cell (p:=⟨b,_,none⟩) hbl).trans c1,(hb1.cell (p:=⟨b,_,none⟩) hbl).trans c2,(hb1.cell (p:=⟨_,_,none⟩) hkl).trans p0,(hb1.cell (p:=⟨_,_,none⟩) hkl).trans p0'⟩)
           (first
             | (go_at_call 166;((with_reducible refine (HL1.out _ hbd).mono ?_);rintro e w9 ⟨rfl,hb1⟩)))
          all_goals
           have hbw:=bl_step hbr (bl_step hbd hb1)
           have e0:w9.cell? ⟨b,off+k*3,none⟩=some (.bool false):=(hb1.cell (p:=⟨b,_,none⟩) hbl).trans c0
           go_wp2
           go_roundw
           case rel=>exact ⟨k+1,true,by omega,by go_num,rfl,HN,hbw⟩
           case measure=>simp [intOf];omega
        · have HN:Hid (((memF (p1,p2) gs).1 && !(memF (p1,p2) gs).2)=false):=hide (HF0.out (HDN.out rfl hz))
          clear HT HDN HF0
          go_wp2
          go_region_held3 (fun w'=>(Below wr.heap.size wr w'∧w'.cell? ⟨b,off+k*3,none⟩=some (.bool true))∧w'.cell? ⟨b,off+k*3+1,none⟩=some (.int .i64 v)∧w'.cell? ⟨b,off+k*3+2,none⟩=some (.slice A ps.length c)∧w'.cell? ⟨w.heap.size,0,none⟩=some (.int .i64 p1)∧w'.cell? ⟨w.heap.size,1,none⟩=some (.int .i64 p2))
           (first | exact ⟨⟨hbd,c0⟩,c1,c2,p0,p0'⟩ | exact ⟨⟨bl_step hbd (by assumption),(hb1.cell (p:=⟨b,_,none⟩) hbl).trans c0⟩,(hb1.cell (p:=⟨b,_,none⟩) hbl).trans c1,(hb1.cell (p:=⟨b,_,none⟩) hbl).trans c2,(hb1.cell (p:=⟨_,_,none⟩) hkl).trans p0,(hb1.cell (p:=⟨_,_,none⟩) hkl).trans p0'⟩)
           (first
             | (go_at_call 166;((with_reducible refine (HL1.out _ hbd).mono ?_);rintro e w9 ⟨rfl,hb1⟩)))
          all_goals
           have hbw:=bl_step HB0.out (bl_step hbr (bl_step hbd hb1))
           have e0:w9.cell? ⟨b,off+k*3,none⟩=some (.bool true):=(hb1.cell (p:=⟨b,_,none⟩) hbl).trans c0
           go_wp2
           go_ret
           exact ⟨by rw [HN.out];rfl,hbw⟩
      · have HN:Hid (memF (p1,p2) (gs.take (k+1))=(x,false)):=hide (by rw [HT.out];cases d <;> simp [show z<0 by omega])
        clear HT HDN HF0
        go_wp2
        go_region_held3 (fun w'=>(Below wr.heap.size wr w'∧w'.cell? ⟨b,off+k*3,none⟩=some (.bool d))∧w'.cell? ⟨b,off+k*3+1,none⟩=some (.int .i64 v)∧w'.cell? ⟨b,off+k*3+2,none⟩=some (.slice A ps.length c)∧w'.cell? ⟨w.heap.size,0,none⟩=some (.int .i64 p1)∧w'.cell? ⟨w.heap.size,1,none⟩=some (.int .i64 p2))
         (first | exact ⟨⟨hbd,c0⟩,c1,c2,p0,p0'⟩ | exact ⟨⟨bl_step hbd (by assumption),(hb1.cell (p:=⟨b,_,none⟩) hbl).trans c0⟩,(hb1.cell (p:=⟨b,_,none⟩) hbl).trans c1,(hb1.cell (p:=⟨b,_,none⟩) hbl).trans c2,(hb1.cell (p:=⟨_,_,none⟩) hkl).trans p0,(hb1.cell (p:=⟨_,_,none⟩) hkl).trans p0'⟩)
         (first
           | (go_at_call 166;((with_reducible refine (HL1.out _ hbd).mono ?_);rintro e w9 ⟨rfl,hb1⟩)))
        all_goals
         have hbw:=bl_step hbr (bl_step hbd hb1)
         have e0:w9.cell? ⟨b,off+k*3,none⟩=some (.bool d):=(hb1.cell (p:=⟨b,_,none⟩) hbl).trans c0
         go_wp2
         go_roundw
         case rel=>exact ⟨k+1,x,by omega,by go_num,rfl,HN,hbw⟩
         case measure=>simp [intOf];omega
    · obtain rfl:k=m:=by omega
      have HF:Hid (((memF (p1,p2) gs).1 && !(memF (p1,p2) gs).2)=x):=hide (by have h:=HK.out;rw [List.take_of_length_le (by have:=HM.out;omega)] at h;rw [h];simp)
      go_wp2
      go_ret
      exact ⟨by rw [HF.out];rfl,bl_step HB0.out hbr⟩
 · have hF:memOk gs (p1,p2)=false:=by unfold memOk;simp [hc]
   rw [hF]
   generalize fcheck (gs.map (·.1))=q at *
   have hq:(q != 0)=true:=bne_iff_ne.2 hc
   have HCC:=hide HC;have HB0:=hide hb0
   clear HC hF hs hgs hm hs0 hgs0 hb0 B0 hp
   go_enter Tryz.func134,Tryz.ntmps134
   go_wp2_with fail
   rw [← hw0]
   clear hw0
   refine HCC.out.mono ?_
   rintro e w1 ⟨rfl,hw1⟩
   rw [hw1]
   clear hw1
   go_wp2
   go_ret
   exact ⟨rfl,HB0.out⟩
theorem rmember_any (gs:List Gr) (p:Pt) (hp:PJ p) (GA:Option Addr) (gc:Nat) (w:World) (hs:Sl w w.heap.size GA (rgCells (gs.map (·.1)))) (hgs:GsR w gs) :
 Calls Tryz.prog 134 #[.slice GA gs.length gc,ptV p] w fun e w'=>e=.returned (.bool (memOk gs p))∧Below w.heap.size w w':=rmember_raw gs _ rfl p hp GA gc w hs hgs
end
end Go.Proofs.YtpnoofphfomjoaaGreatDoor
