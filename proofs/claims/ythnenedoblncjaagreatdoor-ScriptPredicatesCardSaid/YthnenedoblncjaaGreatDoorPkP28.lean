/- FenceMember Engine Ops OpFns -/
import Derived.BigQuiet
import Derived.ChangeAlike
import Derived.Deep.QuietTactic
import Derived.Maps.OwnSet
import Derived.Test.YthnenedoblncjaaGreatDoorPkP27
set_option maxRecDepth 1000000
set_option maxHeartbeats 8000000
namespace Go.Proofs.YthnenedoblncjaaGreatDoor
open List (getElem_toArray getElem_cons_succ getElem_cons_zero setIfInBounds_toArray set_cons_zero set_cons_succ)
section
open Go.RowKit Go.Shelf
def fmEv:Nat→List Gr→List Ev
 | _,[]=>[]
 | i,g::gs=>(7,(i:Int),1)::(rgLEv g.1.v g.2.length++fmEv (i+1) gs)
theorem fmEv_snoc:∀ (i:Nat) (l:List Gr) (g:Gr),fmEv i (l++[g])=fmEv i l++((7,((i+l.length:Nat):Int),1)::rgLEv g.1.v g.2.length)
 | i,[],g=>by simp [fmEv]
 | i,x::l,g=>by
   have h:=fmEv_snoc (i+1) l g
   have e:i+1+l.length=i+(x::l).length:=by simp;omega
   rw [List.cons_append,fmEv,h,fmEv,e]
   simp
theorem fmEv_take {gs:List Gr} {k:Nat} {g:Gr} (h:gs[k]?=some g):fmEv 0 (gs.take (k+1))=fmEv 0 (gs.take k)++((7,(k:Int),1)::rgLEv g.1.v g.2.length):=by
 have hlt:k<gs.length:=(List.getElem?_eq_some_iff.1 h).1
 rw [List.take_add_one,h]
 show fmEv 0 (gs.take k++[g])=_
 rw [fmEv_snoc,List.length_take,Nat.min_eq_left (Nat.le_of_lt hlt),Nat.zero_add]
theorem fmEv_length:∀ (i:Nat) (l:List Gr),(fmEv i l).length≤65*l.length
 | i,[]=>by simp [fmEv]
 | i,x::l=>by
   have h:=fmEv_length (i+1) l
   have h2:=rgLEv_length x.1.v x.2.length
   simp only [fmEv,List.length_cons,List.length_append]
   omega
def memF (p:Pt) (gs:List Gr):Bool × Bool:=gs.foldl (fun s g=>bif g.1.d then (s.1,s.2 || !decide (rgL g.1.v g.2 p<0)) else (s.1 || !decide (rgL g.1.v g.2 p<0),s.2)) (false,false)
theorem memF_take {gs:List Gr} {k:Nat} {g:Gr} (p:Pt) (h:gs[k]?=some g):memF p (gs.take (k+1)) =
 (bif g.1.d then ((memF p (gs.take k)).1,(memF p (gs.take k)).2 || !decide (rgL g.1.v g.2 p<0)) else ((memF p (gs.take k)).1 || !decide (rgL g.1.v g.2 p<0),(memF p (gs.take k)).2)):=by
 unfold memF
 rw [List.take_add_one,h]
 simp
def memOk (gs:List Gr) (p:Pt):Bool:=decide (fcheck (gs.map (·.1))=0) && ((memF p gs).1 && !(memF p gs).2)
def fenceMEv (gs:List Gr):List Ev:=if fcheck (gs.map (·.1))=0 then fmEv 0 gs else []
theorem sgnM_bd (a b:Bool):-1≤sgnM a b∧sgnM a b≤1:=by cases a <;> cases b <;> decide
theorem rgL_bd (v:Int) (ps:List Pt) (p:Pt):-1≤rgL v ps p∧rgL v ps p≤1:=by
 unfold rgL
 split
 · unfold discL
   split
   · rcases sign_bd (circleD (ptAt ps 0) (ptAt ps 1) (ptAt ps 2) p) with h | h | h <;> rcases sign_bd (orientD (ptAt ps 0) (ptAt ps 1) (ptAt ps 2)) with h' | h' | h' <;> rw [h,h'] <;> decide
   · decide
 · exact sgnM_bd _ _
theorem msk_andNot (a b:Bool):bits BinOp.andNot IntKind.u64 (msk a) (msk b)=msk (a && !b):=by cases a <;> cases b <;> decide
theorem KeepP.mono' {w0 wk:World} {P R:Nat→Prop} {b:Nat} (h:KeepP R w0 wk) (hPR:∀ k,P k→R k) (hb:¬ P b) (o:Nat) (u:Value):KeepP P w0 (wk.setCell ⟨b,o,none⟩ u) :=
 (h.mono hPR).trans (KeepP.setCell hb o u wk)
theorem fenceMember_any (P:Nat→Prop) (t:Option (Nat × Nat)) (es:List Ev) (gs:List Gr) (GA:Option Addr) (gc:Nat) (p:Pt) (hp:PJ p) (w:World) (hP:∀ k,P k→k<w.heap.size) (hg0:P 8) (hs:SlP w P GA (rgCells (gs.map (·.1)))) (hgs:GsP w P gs) (hw:MW w) (ht:Tp w P t es) (hl:es.length≤890000) :
 Calls Tryz.prog 197 #[.pointer (tapeA t),.slice GA gs.length gc,.agg #[.int .i64 p.1,.int .i64 p.2]] w fun e w'=>e=.returned (.int .u64 (msk (memOk gs p)))∧KeepP P w w'∧Tp w' P t (es++fenceMEv gs):=by
 obtain ⟨w0,hw0⟩:∃ w0,w0=w.alloc (.cells #[.int .i64 p.1,.int .i64 p.2] 41):=⟨_,rfl⟩
 obtain ⟨pb,hpb⟩:∃ pb,pb=w.heap.size:=⟨_,rfl⟩
 have hb0:Below w.heap.size w w0:=by rw [hw0];exact bA
 have P0:Blk w0 pb 41 #[.int .i64 p.1,.int .i64 p.2]:=by rw [hw0,hpb];exact Blk.new _ _ _
 have HC0:=fcheck_any (gs.map (·.1)) GA gc w0 (((hs.sl hP).below hb0).more hb0.size)
 rw [List.length_map] at HC0
 have HC:=hide HC0
 clear HC0
 by_cases hf:fcheck (gs.map (·.1))=0
 · have hf64:gs.length≤64:=by
    unfold fcheck at hf
    split at hf
    · omega
    · rename_i h;rw [List.length_map] at h;omega
   have e1:memOk gs p=((memF p gs).1 && !(memF p gs).2):=by unfold memOk;rw [decide_eq_true hf];rfl
   have e2:fenceMEv gs=fmEv 0 gs:=by unfold fenceMEv;rw [if_pos hf]
   rw [e1,e2]
   rw [hf] at HC
   have HP:=hide hP;have HG0:=hide hg0;have HS:=hide hs;have HGS:=hide hgs;have HW:=hide hw;have HT:=hide ht;have HPJ:=hide hp
   clear hf e1 e2 hP hg0 hs hgs hw ht hp
   refine (callsIn_wide (n:=6)).1 ?_
   refine callsIn_of_wp Tryz.func197 rfl trivial ?_ rfl
   simp only [Tryz.ntmps197,List.size_toArray,List.length_cons,List.length_nil,Nat.reduceAdd,Nat.reduceSub,Array.replicate_succ,Array.replicate_zero,List.push_toArray,List.append_toArray,List.nil_append,List.cons_append]
   gi_wp2_with fail
   rw [← hw0,← hpb]
   have HW0:=hide hw0
   clear hw0
   refine ⟨trivial,?_⟩
   refine (callsIn_wide.2 HC.out).mono ?_
   rintro e w1 ⟨rfl,hb1⟩
   have HB01:=hide (bl_step hb0 hb1)
   have P1:=P0.step hb1
   clear hb1 HC hb0
   obtain ⟨W2,hW2⟩:∃ W2,W2=w1.alloc (.cells #[.int .u64 0,.int .u64 0] 311):=⟨_,rfl⟩
   obtain ⟨ab,hab⟩:∃ ab,ab=w1.heap.size:=⟨_,rfl⟩
   have hB2:Below w.heap.size w W2:=by rw [hW2];exact bl_alloc HB01.out _
   have A2:Blk W2 ab 311 #[.int .u64 (msk false),.int .u64 (msk false)]:=by rw [hW2,hab];exact Blk.new _ _ _
   have P2:Blk W2 pb 41 #[.int .i64 p.1,.int .i64 p.2]:=by rw [hW2];exact P1.alloc _
   have hpa:pb<ab:=by rw [hab];exact P1.lt
   have HMP:Hid (More P w W2 pb):=.inr ⟨by omega,P2.lt⟩
   have HMA:Hid (More P w W2 ab):=.inr ⟨by omega,A2.lt⟩
   have HNA:Hid (¬ P ab):=fun h=>by have:=HP.out _ h;omega
   have HPM:=hide (more_lt HP.out hB2)
   have HK0:=hide (KeepP.of_below hB2 HP.out)
   have HT2:=hide (HT.out.more hB2)
   have hsz2:ab<W2.heap.size:=A2.lt
   have hmix:Tryz.prog.follows .mixedOrders=true:=by kernel_rfl
   have HPB:=hide hpb;have HAB:=hide hab;have HWW:=hide hW2
   clear P1 hB2 hpb
   gi_wp2_with fail
   rw [← hW2,← hab]
   clear hW2 hab
   gi_loopw [16] (fun i wr=>∃ (k:Nat) (s0 s1:Bool),k≤gs.length∧i=.int .i64 k∧Hid (memF p (gs.take k)=(s0,s1))∧Blk wr ab 311 #[.int .u64 (msk s0),.int .u64 (msk s1)]∧Blk wr pb 41 #[.int .i64 p.1,.int .i64 p.2]∧KeepP P W2 wr∧Tp wr (More P w W2) t (es++fmEv 0 (gs.take k)))
    (fun i _=>gs.length - (intOf i).toNat)
   case atStart=>exact ⟨0,false,false,Nat.zero_le _,rfl,hide rfl,A2,P2,KeepP.refl _ _,by simpa [fmEv] using HT2.out⟩
   case round =>
    clear A2 P2
    obtain ⟨k,s0,s1,hk,rfl,hst,Ar,Pr,hkp,htp⟩:=hrel
    by_cases hlt:k<gs.length
    · obtain ⟨g,hg⟩:∃ g,gs[k]?=some g:=⟨_,List.getElem?_eq_getElem hlt⟩
      obtain ⟨hgn,hps1,hps2,hpn⟩:=HGS.out g (List.mem_of_getElem? hg)
      have hr:(gs.map (·.1))[k]?=some g.1:=by rw [List.getElem?_map,hg];rfl
      obtain ⟨b,off,rfl,hB,c0,c1,c2⟩:=((HS.out.kept (HK0.out.trans hkp)).sl (fun j hj=>Nat.lt_of_lt_of_le (HP.out j hj) (HK0.out.trans hkp).size)).rg hr
      have HE:=hide (fmEv_take hg)
      have HM:=memF_take p hg
      rw [hst.out] at HM
      have HM:=hide HM
      have hlti:((k:Nat):Int)<((gs.length:Nat):Int):=by omega
      obtain ⟨⟨d,v,A,n,c⟩,ps⟩:=g
      dsimp only at *
      subst hgn
      clear hg hr
      obtain ⟨L,hL⟩:∃ L,L=rgL v ps p:=⟨_,rfl⟩
      have HLB:=hide (rgL_bd v ps p)
      rw [← hL] at HLB HM
      have hrs:ab<wr.heap.size:=Ar.lt
      have hle0:(es++fmEv 0 (gs.take k)).length≤899000:=by
       have:=fmEv_length 0 (gs.take k)
       rw [List.length_take] at this
       rw [List.length_append];omega
      have hle:(es++fmEv 0 (gs.take k)++[(7,(k:Int),1)]).length≤900000:=by
       rw [List.length_append];simp only [List.length_singleton];omega
      obtain ⟨w3,hw3⟩:∃ w3,w3=wr.alloc (.cells #[.bool d,.int .i64 v,.slice A ps.length c] 38):=⟨_,rfl⟩
      have hb3:Below wr.heap.size wr w3:=by rw [hw3];exact bA
      have B3:Blk w3 wr.heap.size 38 #[.bool d,.int .i64 v,.slice A ps.length c]:=by rw [hw3];exact Blk.new _ _ _
      have A3:=Ar.step hb3
      have P3:=Pr.step hb3
      have hPr:∀ j,Also (More P w W2) wr.heap.size j→j<w3.heap.size:=fun j hj=>by
       have h1:=B3.lt
       have h2:=A3.lt
       rcases hj with hj | hj
       · have:=HPM.out j hj;have:=hkp.size;omega
       · subst hj;exact h1
      have ht3:Tp w3 (Also (More P w W2) wr.heap.size) t (es++fmEv 0 (gs.take k)):=(htp.add fun j hj=>by
       rcases hj with hj | hj
       · exact .inl hj
       · exact .inr (by omega)).step hb3
      have HNO:=hide (note_any (Also (More P w W2) wr.heap.size) t (es++fmEv 0 (gs.take k)) 7 (k:Int) 1 w3 hPr ht3 (by omega) (by unfold I64w;omega))
      have hPin:∀ j,P j→Also (More P w W2) wr.heap.size j:=fun j hj=>.inl (.inl hj)
      have HPin:=hide hPin
      have hk03:KeepP P W2 w3:=hkp.trans (KeepP.of_below hb3 fun j hj=>Nat.lt_of_lt_of_le (HP.out j hj) (HK0.out.trans hkp).size)
      have HK03:=hide hk03
      have HPR:=hide hPr
      have HNEXT:Hid (∀ n0 n1:Bool,(bif d then (s0,s1 || !decide (L<0)) else (s0 || !decide (L<0),s1))=(n0,n1)→∀ w8,Blk w8 ab 311 #[.int .u64 (msk n0),.int .u64 (msk n1)]→Blk w8 pb 41 #[.int .i64 p.1,.int .i64 p.2]→KeepP P W2 w8→Tp w8 (More P w W2) t (es++fmEv 0 (gs.take k)++[(7,(k:Int),1)]++rgLEv v ps.length) →
       Hid (memF p (gs.take (k+1))=(n0,n1))∧Blk w8 ab 311 #[.int .u64 (msk n0),.int .u64 (msk n1)]∧Blk w8 pb 41 #[.int .i64 p.1,.int .i64 p.2]∧KeepP P W2 w8∧Tp w8 (More P w W2) t (es++fmEv 0 (gs.take (k+1)))):=hide fun n0 n1 hn w8 h1 h2 h3 h4=>⟨hide (HM.out.trans hn),h1,h2,h3,by
       rw [HE.out]
       rw [show es++(fmEv 0 (gs.take k)++((7,(k:Int),1)::rgLEv v ps.length))=es++fmEv 0 (gs.take k)++[(7,(k:Int),1)]++rgLEv v ps.length by simp]
       exact h4⟩
      have HLE:=hide hle
      have HPS1:=hide hps1;have HPS2:=hide hps2;have HPN:=hide hpn
      have HLL:=hide hL
      clear HE hle0 hle hb3 htp hkp hPr hB ht3 hk03 hPin Ar Pr HM hst hps1 hps2 hpn hL
      gi_wp2_with fail
      rw [← hw3]
      clear hw3
      refine ⟨trivial,?_⟩
      refine (callsIn_wide.2 HNO.out).mono ?_
      rintro e w4 ⟨rfl,hk4,_,ht4⟩
      have B4:=B3.kept hk4 (.inr rfl)
      have A4:=A3.kept hk4 (.inl HMA.out)
      have P4:=P3.kept hk4 (.inl HMP.out)
      have hk04:KeepP P W2 w4:=HK03.out.trans (hk4.mono HPin.out)
      have HP4:Hid (∀ j,Also (More P w W2) wr.heap.size j→j<w4.drew.heap.size):=fun j hj=>Nat.lt_of_lt_of_le (HPR.out j hj) hk4.size
      clear hk4 B3 A3 P3 HNO HK03 HPR c0 c1 c2
      by_cases hv:v=0
      · have hL2:L=discL ps p:=HLL.out.trans (if_pos hv)
        have HEV:rgLEv v ps.length=discLEv ps.length:=if_pos hv
        rw [HEV] at HNEXT
        have HLOC:=hide (fun (w5:World) (h1:KeepP P W2 w5) (h0:∀ j,Also (More P w W2) wr.heap.size j→j<w5.heap.size) (h2:Tp w5 (Also (More P w W2) wr.heap.size) t (es++fmEv 0 (gs.take k)++[(7,(k:Int),1)]))=>roundLocate (Also (More P w W2) wr.heap.size) t (es++fmEv 0 (gs.take k)++[(7,(k:Int),1)]) d 0 ps HPS2.out A c w5 h0 (HPin.out _ HG0.out) ((HPS1.out.kept (HK0.out.trans h1)).mono HPin.out) (HW.out.kept (HK0.out.trans h1) HG0.out) h2 HLE.out p HPJ.out)
        rw [← hL2] at HLOC
        subst hv
        clear HEV hL2 HLL
        cases d with
        | false =>
          have z0:w4.cell? ⟨wr.heap.size,0,none⟩=some (.bool false):=B4.cell (i:=0) rfl
          gi_wp2_with fail
          clear z0
          refine startH 12 (S:=fun w'=>Blk w' ab 311 #[.int .u64 (msk s0),.int .u64 (msk s1)]∧Blk w' wr.heap.size 38 #[.bool false,.int .i64 0,.slice A ps.length c]∧Blk w' pb 41 #[.int .i64 p.1,.int .i64 p.2]) hmix ?_
          have hS:Blk w4.drew ab 311 #[.int .u64 (msk s0),.int .u64 (msk s1)]∧Blk w4.drew wr.heap.size 38 #[.bool false,.int .i64 0,.slice A ps.length c]∧Blk w4.drew pb 41 #[.int .i64 p.1,.int .i64 p.2]:=⟨A4.drew,B4.drew,P4.drew⟩
          refine' takeH (i:=0) (v:=_) (noDefer_of (by kernel_rfl)) rfl (by kernel_rfl) (by kernel_rfl) (by kernel_rfl) (fun _ _ _ h=>h) (by kernel_rfl) ⟨Or.inl ⟨by rfl,?hy0k1⟩,fun _=>rfl⟩ hS ?rest0k1
          case hy0k1 =>
           intro w' hSw
           go_simp
           rfl
          simp only [Act.put,getElem_toArray,getElem_cons_zero,setIfInBounds_toArray,set_cons_zero,set_cons_succ]
          refine' takeH (i:=1) (v:=_) (noDefer_of (by kernel_rfl)) rfl (by kernel_rfl) (by kernel_rfl) (by kernel_rfl) (fun _ _ _ h=>h) (by kernel_rfl) ⟨Or.inl ⟨by rfl,?hy1k2⟩,fun _=>rfl⟩ hS ?rest1k2
          case hy1k2 =>
           intro w' hSw
           go_simp
           rfl
          simp only [Act.put,getElem_toArray,getElem_cons_succ,getElem_cons_zero,setIfInBounds_toArray,set_cons_zero,set_cons_succ]
          refine' takeH (i:=2) (v:=_) (noDefer_of (by kernel_rfl)) rfl (by kernel_rfl) (by kernel_rfl) (by kernel_rfl) (fun _ _ _ h=>h) (by kernel_rfl) ⟨Or.inl ⟨by rfl,?hy2k3⟩,fun _=>rfl⟩ hS ?rest2k3
          case hy2k3 =>
           intro w' hSw
           obtain ⟨r1,r2,r3⟩:=hSw
           have z1:w'.cell? ⟨ab,0,none⟩=some (.int .u64 (msk s0)):=r1.cell (i:=0) rfl
           go_simp
           rfl
          simp only [Act.put,getElem_toArray,getElem_cons_succ,getElem_cons_zero,setIfInBounds_toArray,set_cons_zero,set_cons_succ]
          refine' takeH (i:=3) (v:=_) (noDefer_of (by kernel_rfl)) rfl (by kernel_rfl) (by kernel_rfl) (by kernel_rfl) (fun _ _ _ h=>h) (by kernel_rfl) ⟨Or.inl ⟨by rfl,?hy3k4⟩,fun _=>rfl⟩ hS ?rest3k4
          case hy3k4 =>
           intro w' hSw
           obtain ⟨r1,r2,r3⟩:=hSw
           have z1:=r2.cell (i:=0) rfl
           have z2:=r2.cell (i:=1) rfl
           have z3:=r2.cell (i:=2) rfl
           go_simp
           rfl
          simp only [Act.put,getElem_toArray,getElem_cons_succ,getElem_cons_zero,setIfInBounds_toArray,set_cons_zero,set_cons_succ]
          refine' takeH (i:=5) (v:=_) (noDefer_of (by kernel_rfl)) rfl (by kernel_rfl) (by kernel_rfl) (by kernel_rfl) (fun _ _ _ h=>h) (by kernel_rfl) ⟨Or.inl ⟨by rfl,?hy5k5⟩,fun _=>rfl⟩ hS ?rest5k5
          case hy5k5 =>
           intro w' hSw
           go_simp
           rfl
          simp only [Act.put,getElem_toArray,getElem_cons_succ,getElem_cons_zero,setIfInBounds_toArray,set_cons_zero,set_cons_succ]
          refine' takeH (i:=6) (v:=_) (noDefer_of (by kernel_rfl)) rfl (by kernel_rfl) (by kernel_rfl) (by kernel_rfl) (fun _ _ _ h=>h) (by kernel_rfl) ⟨Or.inl ⟨by rfl,?hy6k6⟩,fun _=>rfl⟩ hS ?rest6k6
          case hy6k6 =>
           intro w' hSw
           obtain ⟨r1,r2,r3⟩:=hSw
           have z1:=r3.cell (i:=0) rfl
           have z2:=r3.cell (i:=1) rfl
           go_simp
           rfl
          simp only [Act.put,getElem_toArray,getElem_cons_succ,getElem_cons_zero,setIfInBounds_toArray,set_cons_zero,set_cons_succ]
          refine oneH (i:=4) (by kernel_rfl) rfl ?_
          intro K hK
          rw [if_pos (by rfl)]
          go_simp
          refine ⟨trivial,?_⟩
          refine (callsIn_wide.2 (shapeOf_zero _ A ps.length c _)).mono ?_
          rintro e w5 ⟨rfl,hb5⟩
          have hS5:Blk w5 ab 311 #[.int .u64 (msk s0),.int .u64 (msk s1)]∧Blk w5 wr.heap.size 38 #[.bool false,.int .i64 0,.slice A ps.length c]∧Blk w5 pb 41 #[.int .i64 p.1,.int .i64 p.2]:=⟨A4.drew.step hb5,B4.drew.step hb5,P4.drew.step hb5⟩
          refine hK.out _ _ (fun _=>hS5) ?_
          clear hK K
          have hk5:KeepP (Also (More P w W2) wr.heap.size) w4 w5:=(KeepP.drew _ _).trans (KeepP.of_below hb5 HP4.out)
          have ht5:=ht4.drew.step hb5
          (try simp only [Act.put,getElem_toArray,getElem_cons_succ,getElem_cons_zero,setIfInBounds_toArray,set_cons_zero,set_cons_succ])
          have HV:=hide (HLOC.out w5 (hk04.trans (hk5.mono HPin.out)) (fun j hj=>Nat.lt_of_lt_of_le (HP4.out j hj) hb5.size) ht5)
          have hmr:=methL_round
          refine oneH (i:=7) (by kernel_rfl) rfl ?_
          intro K hK
          rw [if_pos (by rfl)]
          go_simp
          refine ⟨trivial,?_⟩
          refine (callsIn_wide.2 HV.out).mono ?_
          rintro e w6 ⟨rfl,hk6,ht6⟩
          obtain ⟨a5,b5,p5⟩:=hS5
          have hS6:Blk w6 ab 311 #[.int .u64 (msk s0),.int .u64 (msk s1)]∧Blk w6 wr.heap.size 38 #[.bool false,.int .i64 0,.slice A ps.length c]∧Blk w6 pb 41 #[.int .i64 p.1,.int .i64 p.2]:=⟨a5.kept hk6 (.inl HMA.out),b5.kept hk6 (.inr rfl),p5.kept hk6 (.inl HMP.out)⟩
          refine hK.out _ _ (fun _=>hS6) ?_
          clear hK K hmr HV
          have HNE:=hide (negative_any L (by have:=HLB.out;omega) (by have:=HLB.out;omega) w6)
          (try simp only [Act.put,getElem_toArray,getElem_cons_succ,getElem_cons_zero,setIfInBounds_toArray,set_cons_zero,set_cons_succ])
          refine oneH (i:=8) (by kernel_rfl) rfl ?_
          intro K hK
          rw [if_pos (by rfl)]
          go_simp
          refine ⟨trivial,?_⟩
          refine (callsIn_wide.2 HNE.out).mono ?_
          rintro e w7 ⟨rfl,rfl⟩
          refine hK.out _ _ (fun _=>hS6) ?_
          clear hK K HNE
          have hnt:=msk_not (decide (L<0))
          have hnt2:bits BinOp.xor IntKind.u64 (if IntKind.u64.signed=true then -1 else IntKind.u64.max) (msk (decide (L<0)))=msk (!decide (L<0)):=hnt
          have hor:=msk_or s0 (!decide (L<0))
          (try simp only [Act.put,getElem_toArray,getElem_cons_succ,getElem_cons_zero,setIfInBounds_toArray,set_cons_zero,set_cons_succ])
          refine' takeH (i:=9) (v:=_) (noDefer_of (by kernel_rfl)) rfl (by kernel_rfl) (by kernel_rfl) (by kernel_rfl) (fun _ _ _ h=>h) (by kernel_rfl) ⟨Or.inl ⟨by rfl,?hy9k7⟩,fun _=>rfl⟩ hS6 ?rest9k7
          case hy9k7 =>
           intro w' hSw
           go_simp
           rfl
          simp only [Act.put,getElem_toArray,getElem_cons_succ,getElem_cons_zero,setIfInBounds_toArray,set_cons_zero,set_cons_succ]
          refine' takeH (i:=10) (v:=_) (noDefer_of (by kernel_rfl)) rfl (by kernel_rfl) (by kernel_rfl) (by kernel_rfl) (fun _ _ _ h=>h) (by kernel_rfl) ⟨Or.inl ⟨by rfl,?hy10k8⟩,fun _=>rfl⟩ hS6 ?rest10k8
          case hy10k8 =>
           intro w' hSw
           go_simp
           rfl
          simp only [Act.put,getElem_toArray,getElem_cons_succ,getElem_cons_zero,setIfInBounds_toArray,set_cons_zero,set_cons_succ]
          refine' takeH (i:=11) (v:=_) (noDefer_of (by kernel_rfl)) rfl (by kernel_rfl) (by kernel_rfl) (by kernel_rfl) (fun _ _ _ h=>h) (by kernel_rfl) ⟨Or.inl ⟨by rfl,?hy11k9⟩,fun _=>rfl⟩ hS6 ?rest11k9
          case hy11k9 =>
           intro w' hSw
           go_simp
           rfl
          simp only [Act.put,getElem_toArray,getElem_cons_succ,getElem_cons_zero,setIfInBounds_toArray,set_cons_zero,set_cons_succ]
          obtain ⟨a6,b6,p6⟩:=hS6
          have c7:w6.cell? ⟨ab,0,none⟩=some (.int .u64 (msk s0)):=a6.cell (i:=0) rfl
          have f7:=a6.frozen 0
          refine oneH (i:=12) (by kernel_rfl) rfl ?_
          intro K hK
          rw [if_pos (by rfl)]
          go_simp
          refine hK.out _ _ (fun h=>absurd rfl h) ?_
          clear hK K
          refine doneH (by kernel_rfl) ?_ _
          have a7:Blk (w6.setCell ⟨ab,0,none⟩ (.int .u64 (msk (s0 || !decide (L<0))))) ab 311 #[.int .u64 (msk (s0 || !decide (L<0))),.int .u64 (msk s1)]:=a6.set 0 (.int .u64 (msk (s0 || !decide (L<0))))
          have p7:=p6.far (p:=⟨ab,0,none⟩) (by dsimp only;omega) (.int .u64 (msk (s0 || !decide (L<0))))
          have t7:=(ht6.mono (R:=More P w W2) fun j h=>.inl h).set (b:=ab) HMA.out 0 (.int .u64 (msk (s0 || !decide (L<0))))
          have k7:KeepP P W2 (w6.setCell ⟨ab,0,none⟩ (.int .u64 (msk (s0 || !decide (L<0))))):=(hk04.trans ((hk5.trans hk6).mono HPin.out)).mono' (fun j h=>h) HNA.out 0 (.int .u64 (msk (s0 || !decide (L<0))))
          have HREL:=hide (HNEXT.out _ _ rfl _ a7 p7 k7 t7)
          clear a7 p7 t7 k7 a6 b6 p6 c7 f7 hS a5 b5 p5 hk5 ht5 hb5 hk6 ht6 hk04 ht4 A4 B4 P4 HNEXT HLOC hnt hnt2 hor
          gi_wp2
          go_roundw
          case rel=>exact ⟨k+1,_,_,by omega,by go_num,HREL.out⟩
          case measure=>simp [intOf];omega
        | true =>
          have z0:w4.cell? ⟨wr.heap.size,0,none⟩=some (.bool true):=B4.cell (i:=0) rfl
          gi_wp2_with fail
          clear z0
          refine startH 12 (S:=fun w'=>Blk w' ab 311 #[.int .u64 (msk s0),.int .u64 (msk s1)]∧Blk w' wr.heap.size 38 #[.bool true,.int .i64 0,.slice A ps.length c]∧Blk w' pb 41 #[.int .i64 p.1,.int .i64 p.2]) hmix ?_
          have hS:Blk w4.drew ab 311 #[.int .u64 (msk s0),.int .u64 (msk s1)]∧Blk w4.drew wr.heap.size 38 #[.bool true,.int .i64 0,.slice A ps.length c]∧Blk w4.drew pb 41 #[.int .i64 p.1,.int .i64 p.2]:=⟨A4.drew,B4.drew,P4.drew⟩
          refine' takeH (i:=0) (v:=_) (noDefer_of (by kernel_rfl)) rfl (by kernel_rfl) (by kernel_rfl) (by kernel_rfl) (fun _ _ _ h=>h) (by kernel_rfl) ⟨Or.inl ⟨by rfl,?hy0k10⟩,fun _=>rfl⟩ hS ?rest0k10
          case hy0k10 =>
           intro w' hSw
           go_simp
           rfl
          simp only [Act.put,getElem_toArray,getElem_cons_zero,setIfInBounds_toArray,set_cons_zero,set_cons_succ]
          refine' takeH (i:=1) (v:=_) (noDefer_of (by kernel_rfl)) rfl (by kernel_rfl) (by kernel_rfl) (by kernel_rfl) (fun _ _ _ h=>h) (by kernel_rfl) ⟨Or.inl ⟨by rfl,?hy1k11⟩,fun _=>rfl⟩ hS ?rest1k11
          case hy1k11 =>
           intro w' hSw
           go_simp
           rfl
          simp only [Act.put,getElem_toArray,getElem_cons_succ,getElem_cons_zero,setIfInBounds_toArray,set_cons_zero,set_cons_succ]
          refine' takeH (i:=2) (v:=_) (noDefer_of (by kernel_rfl)) rfl (by kernel_rfl) (by kernel_rfl) (by kernel_rfl) (fun _ _ _ h=>h) (by kernel_rfl) ⟨Or.inl ⟨by rfl,?hy2k12⟩,fun _=>rfl⟩ hS ?rest2k12
          case hy2k12 =>
           intro w' hSw
           obtain ⟨r1,r2,r3⟩:=hSw
           have z1:w'.cell? ⟨ab,1,none⟩=some (.int .u64 (msk s1)):=r1.cell (i:=1) rfl
           go_simp
           rfl
          simp only [Act.put,getElem_toArray,getElem_cons_succ,getElem_cons_zero,setIfInBounds_toArray,set_cons_zero,set_cons_succ]
          refine' takeH (i:=3) (v:=_) (noDefer_of (by kernel_rfl)) rfl (by kernel_rfl) (by kernel_rfl) (by kernel_rfl) (fun _ _ _ h=>h) (by kernel_rfl) ⟨Or.inl ⟨by rfl,?hy3k13⟩,fun _=>rfl⟩ hS ?rest3k13
          case hy3k13 =>
           intro w' hSw
           obtain ⟨r1,r2,r3⟩:=hSw
           have z1:=r2.cell (i:=0) rfl
           have z2:=r2.cell (i:=1) rfl
           have z3:=r2.cell (i:=2) rfl
           go_simp
           rfl
          simp only [Act.put,getElem_toArray,getElem_cons_succ,getElem_cons_zero,setIfInBounds_toArray,set_cons_zero,set_cons_succ]
          refine' takeH (i:=5) (v:=_) (noDefer_of (by kernel_rfl)) rfl (by kernel_rfl) (by kernel_rfl) (by kernel_rfl) (fun _ _ _ h=>h) (by kernel_rfl) ⟨Or.inl ⟨by rfl,?hy5k14⟩,fun _=>rfl⟩ hS ?rest5k14
          case hy5k14 =>
           intro w' hSw
           go_simp
           rfl
          simp only [Act.put,getElem_toArray,getElem_cons_succ,getElem_cons_zero,setIfInBounds_toArray,set_cons_zero,set_cons_succ]
          refine' takeH (i:=6) (v:=_) (noDefer_of (by kernel_rfl)) rfl (by kernel_rfl) (by kernel_rfl) (by kernel_rfl) (fun _ _ _ h=>h) (by kernel_rfl) ⟨Or.inl ⟨by rfl,?hy6k15⟩,fun _=>rfl⟩ hS ?rest6k15
          case hy6k15 =>
           intro w' hSw
           obtain ⟨r1,r2,r3⟩:=hSw
           have z1:=r3.cell (i:=0) rfl
           have z2:=r3.cell (i:=1) rfl
           go_simp
           rfl
          simp only [Act.put,getElem_toArray,getElem_cons_succ,getElem_cons_zero,setIfInBounds_toArray,set_cons_zero,set_cons_succ]
          refine oneH (i:=4) (by kernel_rfl) rfl ?_
          intro K hK
          rw [if_pos (by rfl)]
          go_simp
          refine ⟨trivial,?_⟩
          refine (callsIn_wide.2 (shapeOf_zero _ A ps.length c _)).mono ?_
          rintro e w5 ⟨rfl,hb5⟩
          have hS5:Blk w5 ab 311 #[.int .u64 (msk s0),.int .u64 (msk s1)]∧Blk w5 wr.heap.size 38 #[.bool true,.int .i64 0,.slice A ps.length c]∧Blk w5 pb 41 #[.int .i64 p.1,.int .i64 p.2]:=⟨A4.drew.step hb5,B4.drew.step hb5,P4.drew.step hb5⟩
          refine hK.out _ _ (fun _=>hS5) ?_
          clear hK K
          have hk5:KeepP (Also (More P w W2) wr.heap.size) w4 w5:=(KeepP.drew _ _).trans (KeepP.of_below hb5 HP4.out)
          have ht5:=ht4.drew.step hb5
          (try simp only [Act.put,getElem_toArray,getElem_cons_succ,getElem_cons_zero,setIfInBounds_toArray,set_cons_zero,set_cons_succ])
          have HV:=hide (HLOC.out w5 (hk04.trans (hk5.mono HPin.out)) (fun j hj=>Nat.lt_of_lt_of_le (HP4.out j hj) hb5.size) ht5)
          have hmr:=methL_round
          refine oneH (i:=7) (by kernel_rfl) rfl ?_
          intro K hK
          rw [if_pos (by rfl)]
          go_simp
          refine ⟨trivial,?_⟩
          refine (callsIn_wide.2 HV.out).mono ?_
          rintro e w6 ⟨rfl,hk6,ht6⟩
          obtain ⟨a5,b5,p5⟩:=hS5
          have hS6:Blk w6 ab 311 #[.int .u64 (msk s0),.int .u64 (msk s1)]∧Blk w6 wr.heap.size 38 #[.bool true,.int .i64 0,.slice A ps.length c]∧Blk w6 pb 41 #[.int .i64 p.1,.int .i64 p.2]:=⟨a5.kept hk6 (.inl HMA.out),b5.kept hk6 (.inr rfl),p5.kept hk6 (.inl HMP.out)⟩
          refine hK.out _ _ (fun _=>hS6) ?_
          clear hK K hmr HV
          have HNE:=hide (negative_any L (by have:=HLB.out;omega) (by have:=HLB.out;omega) w6)
          (try simp only [Act.put,getElem_toArray,getElem_cons_succ,getElem_cons_zero,setIfInBounds_toArray,set_cons_zero,set_cons_succ])
          refine oneH (i:=8) (by kernel_rfl) rfl ?_
          intro K hK
          rw [if_pos (by rfl)]
          go_simp
          refine ⟨trivial,?_⟩
          refine (callsIn_wide.2 HNE.out).mono ?_
          rintro e w7 ⟨rfl,rfl⟩
          refine hK.out _ _ (fun _=>hS6) ?_
          clear hK K HNE
          have hnt:=msk_not (decide (L<0))
          have hnt2:bits BinOp.xor IntKind.u64 (if IntKind.u64.signed=true then -1 else IntKind.u64.max) (msk (decide (L<0)))=msk (!decide (L<0)):=hnt
          have hor:=msk_or s1 (!decide (L<0))
          (try simp only [Act.put,getElem_toArray,getElem_cons_succ,getElem_cons_zero,setIfInBounds_toArray,set_cons_zero,set_cons_succ])
          refine' takeH (i:=9) (v:=_) (noDefer_of (by kernel_rfl)) rfl (by kernel_rfl) (by kernel_rfl) (by kernel_rfl) (fun _ _ _ h=>h) (by kernel_rfl) ⟨Or.inl ⟨by rfl,?hy9k16⟩,fun _=>rfl⟩ hS6 ?rest9k16
          case hy9k16 =>
           intro w' hSw
           go_simp
           rfl
          simp only [Act.put,getElem_toArray,getElem_cons_succ,getElem_cons_zero,setIfInBounds_toArray,set_cons_zero,set_cons_succ]
          refine' takeH (i:=10) (v:=_) (noDefer_of (by kernel_rfl)) rfl (by kernel_rfl) (by kernel_rfl) (by kernel_rfl) (fun _ _ _ h=>h) (by kernel_rfl) ⟨Or.inl ⟨by rfl,?hy10k17⟩,fun _=>rfl⟩ hS6 ?rest10k17
          case hy10k17 =>
           intro w' hSw
           go_simp
           rfl
          simp only [Act.put,getElem_toArray,getElem_cons_succ,getElem_cons_zero,setIfInBounds_toArray,set_cons_zero,set_cons_succ]
          refine' takeH (i:=11) (v:=_) (noDefer_of (by kernel_rfl)) rfl (by kernel_rfl) (by kernel_rfl) (by kernel_rfl) (fun _ _ _ h=>h) (by kernel_rfl) ⟨Or.inl ⟨by rfl,?hy11k18⟩,fun _=>rfl⟩ hS6 ?rest11k18
          case hy11k18 =>
           intro w' hSw
           go_simp
           rfl
          simp only [Act.put,getElem_toArray,getElem_cons_succ,getElem_cons_zero,setIfInBounds_toArray,set_cons_zero,set_cons_succ]
          obtain ⟨a6,b6,p6⟩:=hS6
          have c7:w6.cell? ⟨ab,1,none⟩=some (.int .u64 (msk s1)):=a6.cell (i:=1) rfl
          have f7:=a6.frozen 1
          refine oneH (i:=12) (by kernel_rfl) rfl ?_
          intro K hK
          rw [if_pos (by rfl)]
          go_simp
          refine hK.out _ _ (fun h=>absurd rfl h) ?_
          clear hK K
          refine doneH (by kernel_rfl) ?_ _
          have a7:Blk (w6.setCell ⟨ab,1,none⟩ (.int .u64 (msk (s1 || !decide (L<0))))) ab 311 #[.int .u64 (msk s0),.int .u64 (msk (s1 || !decide (L<0)))]:=a6.set 1 (.int .u64 (msk (s1 || !decide (L<0))))
          have p7:=p6.far (p:=⟨ab,1,none⟩) (by dsimp only;omega) (.int .u64 (msk (s1 || !decide (L<0))))
          have t7:=(ht6.mono (R:=More P w W2) fun j h=>.inl h).set (b:=ab) HMA.out 1 (.int .u64 (msk (s1 || !decide (L<0))))
          have k7:KeepP P W2 (w6.setCell ⟨ab,1,none⟩ (.int .u64 (msk (s1 || !decide (L<0))))):=(hk04.trans ((hk5.trans hk6).mono HPin.out)).mono' (fun j h=>h) HNA.out 1 (.int .u64 (msk (s1 || !decide (L<0))))
          have HREL:=hide (HNEXT.out _ _ rfl _ a7 p7 k7 t7)
          clear a7 p7 t7 k7 a6 b6 p6 c7 f7 hS a5 b5 p5 hk5 ht5 hb5 hk6 ht6 hk04 ht4 A4 B4 P4 HNEXT HLOC hnt hnt2 hor
          gi_wp2
          go_roundw
          case rel=>exact ⟨k+1,_,_,by omega,by go_num,HREL.out⟩
          case measure=>simp [intOf];omega
      · have hL2:L=locV ps p:=HLL.out.trans (if_neg hv)
        have HEV:rgLEv v ps.length=locEv (List.range (edgeN ps.length)):=if_neg hv
        rw [HEV] at HNEXT
        have HLOC:=hide (fun (w5:World) (h1:KeepP P W2 w5) (h0:∀ j,Also (More P w W2) wr.heap.size j→j<w5.heap.size) (h2:Tp w5 (Also (More P w W2) wr.heap.size) t (es++fmEv 0 (gs.take k)++[(7,(k:Int),1)]))=>convexLocate (Also (More P w W2) wr.heap.size) t (es++fmEv 0 (gs.take k)++[(7,(k:Int),1)]) d v ps HPS2.out HPN.out A c w5 h0 (HPin.out _ HG0.out) ((HPS1.out.kept (HK0.out.trans h1)).mono HPin.out) (HW.out.kept (HK0.out.trans h1) HG0.out) h2 HLE.out p HPJ.out)
        rw [← hL2] at HLOC
        have hvb:(v == 0)=false:=by simpa using hv
        clear HEV hL2 HLL
        cases d with
        | false =>
          have z0:w4.cell? ⟨wr.heap.size,0,none⟩=some (.bool false):=B4.cell (i:=0) rfl
          gi_wp2_with fail
          clear z0
          refine startH 12 (S:=fun w'=>Blk w' ab 311 #[.int .u64 (msk s0),.int .u64 (msk s1)]∧Blk w' wr.heap.size 38 #[.bool false,.int .i64 v,.slice A ps.length c]∧Blk w' pb 41 #[.int .i64 p.1,.int .i64 p.2]) hmix ?_
          have hS:Blk w4.drew ab 311 #[.int .u64 (msk s0),.int .u64 (msk s1)]∧Blk w4.drew wr.heap.size 38 #[.bool false,.int .i64 v,.slice A ps.length c]∧Blk w4.drew pb 41 #[.int .i64 p.1,.int .i64 p.2]:=⟨A4.drew,B4.drew,P4.drew⟩
          refine' takeH (i:=0) (v:=_) (noDefer_of (by kernel_rfl)) rfl (by kernel_rfl) (by kernel_rfl) (by kernel_rfl) (fun _ _ _ h=>h) (by kernel_rfl) ⟨Or.inl ⟨by rfl,?hy0k19⟩,fun _=>rfl⟩ hS ?rest0k19
          case hy0k19 =>
           intro w' hSw
           go_simp
           rfl
          simp only [Act.put,getElem_toArray,getElem_cons_zero,setIfInBounds_toArray,set_cons_zero,set_cons_succ]
          refine' takeH (i:=1) (v:=_) (noDefer_of (by kernel_rfl)) rfl (by kernel_rfl) (by kernel_rfl) (by kernel_rfl) (fun _ _ _ h=>h) (by kernel_rfl) ⟨Or.inl ⟨by rfl,?hy1k20⟩,fun _=>rfl⟩ hS ?rest1k20
          case hy1k20 =>
           intro w' hSw
           go_simp
           rfl
          simp only [Act.put,getElem_toArray,getElem_cons_succ,getElem_cons_zero,setIfInBounds_toArray,set_cons_zero,set_cons_succ]
          refine' takeH (i:=2) (v:=_) (noDefer_of (by kernel_rfl)) rfl (by kernel_rfl) (by kernel_rfl) (by kernel_rfl) (fun _ _ _ h=>h) (by kernel_rfl) ⟨Or.inl ⟨by rfl,?hy2k21⟩,fun _=>rfl⟩ hS ?rest2k21
          case hy2k21 =>
           intro w' hSw
           obtain ⟨r1,r2,r3⟩:=hSw
           have z1:w'.cell? ⟨ab,0,none⟩=some (.int .u64 (msk s0)):=r1.cell (i:=0) rfl
           go_simp
           rfl
          simp only [Act.put,getElem_toArray,getElem_cons_succ,getElem_cons_zero,setIfInBounds_toArray,set_cons_zero,set_cons_succ]
          refine' takeH (i:=3) (v:=_) (noDefer_of (by kernel_rfl)) rfl (by kernel_rfl) (by kernel_rfl) (by kernel_rfl) (fun _ _ _ h=>h) (by kernel_rfl) ⟨Or.inl ⟨by rfl,?hy3k22⟩,fun _=>rfl⟩ hS ?rest3k22
          case hy3k22 =>
           intro w' hSw
           obtain ⟨r1,r2,r3⟩:=hSw
           have z1:=r2.cell (i:=0) rfl
           have z2:=r2.cell (i:=1) rfl
           have z3:=r2.cell (i:=2) rfl
           go_simp
           rfl
          simp only [Act.put,getElem_toArray,getElem_cons_succ,getElem_cons_zero,setIfInBounds_toArray,set_cons_zero,set_cons_succ]
          refine' takeH (i:=5) (v:=_) (noDefer_of (by kernel_rfl)) rfl (by kernel_rfl) (by kernel_rfl) (by kernel_rfl) (fun _ _ _ h=>h) (by kernel_rfl) ⟨Or.inl ⟨by rfl,?hy5k23⟩,fun _=>rfl⟩ hS ?rest5k23
          case hy5k23 =>
           intro w' hSw
           go_simp
           rfl
          simp only [Act.put,getElem_toArray,getElem_cons_succ,getElem_cons_zero,setIfInBounds_toArray,set_cons_zero,set_cons_succ]
          refine' takeH (i:=6) (v:=_) (noDefer_of (by kernel_rfl)) rfl (by kernel_rfl) (by kernel_rfl) (by kernel_rfl) (fun _ _ _ h=>h) (by kernel_rfl) ⟨Or.inl ⟨by rfl,?hy6k24⟩,fun _=>rfl⟩ hS ?rest6k24
          case hy6k24 =>
           intro w' hSw
           obtain ⟨r1,r2,r3⟩:=hSw
           have z1:=r3.cell (i:=0) rfl
           have z2:=r3.cell (i:=1) rfl
           go_simp
           rfl
          simp only [Act.put,getElem_toArray,getElem_cons_succ,getElem_cons_zero,setIfInBounds_toArray,set_cons_zero,set_cons_succ]
          refine oneH (i:=4) (by kernel_rfl) rfl ?_
          intro K hK
          rw [if_pos (by rfl)]
          go_simp
          refine ⟨trivial,?_⟩
          refine (callsIn_wide.2 (shapeOf_other _ v hvb A ps.length c _)).mono ?_
          rintro e w5 ⟨rfl,hb5⟩
          have hS5:Blk w5 ab 311 #[.int .u64 (msk s0),.int .u64 (msk s1)]∧Blk w5 wr.heap.size 38 #[.bool false,.int .i64 v,.slice A ps.length c]∧Blk w5 pb 41 #[.int .i64 p.1,.int .i64 p.2]:=⟨A4.drew.step hb5,B4.drew.step hb5,P4.drew.step hb5⟩
          refine hK.out _ _ (fun _=>hS5) ?_
          clear hK K
          have hk5:KeepP (Also (More P w W2) wr.heap.size) w4 w5:=(KeepP.drew _ _).trans (KeepP.of_below hb5 HP4.out)
          have ht5:=ht4.drew.step hb5
          (try simp only [Act.put,getElem_toArray,getElem_cons_succ,getElem_cons_zero,setIfInBounds_toArray,set_cons_zero,set_cons_succ])
          have HV:=hide (HLOC.out w5 (hk04.trans (hk5.mono HPin.out)) (fun j hj=>Nat.lt_of_lt_of_le (HP4.out j hj) hb5.size) ht5)
          have hmr:=methL_convex
          refine oneH (i:=7) (by kernel_rfl) rfl ?_
          intro K hK
          rw [if_pos (by rfl)]
          go_simp
          refine ⟨trivial,?_⟩
          refine (callsIn_wide.2 HV.out).mono ?_
          rintro e w6 ⟨rfl,hk6,ht6⟩
          obtain ⟨a5,b5,p5⟩:=hS5
          have hS6:Blk w6 ab 311 #[.int .u64 (msk s0),.int .u64 (msk s1)]∧Blk w6 wr.heap.size 38 #[.bool false,.int .i64 v,.slice A ps.length c]∧Blk w6 pb 41 #[.int .i64 p.1,.int .i64 p.2]:=⟨a5.kept hk6 (.inl HMA.out),b5.kept hk6 (.inr rfl),p5.kept hk6 (.inl HMP.out)⟩
          refine hK.out _ _ (fun _=>hS6) ?_
          clear hK K hmr HV
          have HNE:=hide (negative_any L (by have:=HLB.out;omega) (by have:=HLB.out;omega) w6)
          (try simp only [Act.put,getElem_toArray,getElem_cons_succ,getElem_cons_zero,setIfInBounds_toArray,set_cons_zero,set_cons_succ])
          refine oneH (i:=8) (by kernel_rfl) rfl ?_
          intro K hK
          rw [if_pos (by rfl)]
          go_simp
          refine ⟨trivial,?_⟩
          refine (callsIn_wide.2 HNE.out).mono ?_
          rintro e w7 ⟨rfl,rfl⟩
          refine hK.out _ _ (fun _=>hS6) ?_
          clear hK K HNE
          have hnt:=msk_not (decide (L<0))
          have hnt2:bits BinOp.xor IntKind.u64 (if IntKind.u64.signed=true then -1 else IntKind.u64.max) (msk (decide (L<0)))=msk (!decide (L<0)):=hnt
          have hor:=msk_or s0 (!decide (L<0))
          (try simp only [Act.put,getElem_toArray,getElem_cons_succ,getElem_cons_zero,setIfInBounds_toArray,set_cons_zero,set_cons_succ])
          refine' takeH (i:=9) (v:=_) (noDefer_of (by kernel_rfl)) rfl (by kernel_rfl) (by kernel_rfl) (by kernel_rfl) (fun _ _ _ h=>h) (by kernel_rfl) ⟨Or.inl ⟨by rfl,?hy9k25⟩,fun _=>rfl⟩ hS6 ?rest9k25
          case hy9k25 =>
           intro w' hSw
           go_simp
           rfl
          simp only [Act.put,getElem_toArray,getElem_cons_succ,getElem_cons_zero,setIfInBounds_toArray,set_cons_zero,set_cons_succ]
          refine' takeH (i:=10) (v:=_) (noDefer_of (by kernel_rfl)) rfl (by kernel_rfl) (by kernel_rfl) (by kernel_rfl) (fun _ _ _ h=>h) (by kernel_rfl) ⟨Or.inl ⟨by rfl,?hy10k26⟩,fun _=>rfl⟩ hS6 ?rest10k26
          case hy10k26 =>
           intro w' hSw
           go_simp
           rfl
          simp only [Act.put,getElem_toArray,getElem_cons_succ,getElem_cons_zero,setIfInBounds_toArray,set_cons_zero,set_cons_succ]
          refine' takeH (i:=11) (v:=_) (noDefer_of (by kernel_rfl)) rfl (by kernel_rfl) (by kernel_rfl) (by kernel_rfl) (fun _ _ _ h=>h) (by kernel_rfl) ⟨Or.inl ⟨by rfl,?hy11k27⟩,fun _=>rfl⟩ hS6 ?rest11k27
          case hy11k27 =>
           intro w' hSw
           go_simp
           rfl
          simp only [Act.put,getElem_toArray,getElem_cons_succ,getElem_cons_zero,setIfInBounds_toArray,set_cons_zero,set_cons_succ]
          obtain ⟨a6,b6,p6⟩:=hS6
          have c7:w6.cell? ⟨ab,0,none⟩=some (.int .u64 (msk s0)):=a6.cell (i:=0) rfl
          have f7:=a6.frozen 0
          refine oneH (i:=12) (by kernel_rfl) rfl ?_
          intro K hK
          rw [if_pos (by rfl)]
          go_simp
          refine hK.out _ _ (fun h=>absurd rfl h) ?_
          clear hK K
          refine doneH (by kernel_rfl) ?_ _
          have a7:Blk (w6.setCell ⟨ab,0,none⟩ (.int .u64 (msk (s0 || !decide (L<0))))) ab 311 #[.int .u64 (msk (s0 || !decide (L<0))),.int .u64 (msk s1)]:=a6.set 0 (.int .u64 (msk (s0 || !decide (L<0))))
          have p7:=p6.far (p:=⟨ab,0,none⟩) (by dsimp only;omega) (.int .u64 (msk (s0 || !decide (L<0))))
          have t7:=(ht6.mono (R:=More P w W2) fun j h=>.inl h).set (b:=ab) HMA.out 0 (.int .u64 (msk (s0 || !decide (L<0))))
          have k7:KeepP P W2 (w6.setCell ⟨ab,0,none⟩ (.int .u64 (msk (s0 || !decide (L<0))))):=(hk04.trans ((hk5.trans hk6).mono HPin.out)).mono' (fun j h=>h) HNA.out 0 (.int .u64 (msk (s0 || !decide (L<0))))
          have HREL:=hide (HNEXT.out _ _ rfl _ a7 p7 k7 t7)
          clear a7 p7 t7 k7 a6 b6 p6 c7 f7 hS a5 b5 p5 hk5 ht5 hb5 hk6 ht6 hk04 ht4 A4 B4 P4 HNEXT HLOC hnt hnt2 hor
          gi_wp2
          go_roundw
          case rel=>exact ⟨k+1,_,_,by omega,by go_num,HREL.out⟩
          case measure=>simp [intOf];omega
        | true =>
          have z0:w4.cell? ⟨wr.heap.size,0,none⟩=some (.bool true):=B4.cell (i:=0) rfl
          gi_wp2_with fail
          clear z0
          refine startH 12 (S:=fun w'=>Blk w' ab 311 #[.int .u64 (msk s0),.int .u64 (msk s1)]∧Blk w' wr.heap.size 38 #[.bool true,.int .i64 v,.slice A ps.length c]∧Blk w' pb 41 #[.int .i64 p.1,.int .i64 p.2]) hmix ?_
          have hS:Blk w4.drew ab 311 #[.int .u64 (msk s0),.int .u64 (msk s1)]∧Blk w4.drew wr.heap.size 38 #[.bool true,.int .i64 v,.slice A ps.length c]∧Blk w4.drew pb 41 #[.int .i64 p.1,.int .i64 p.2]:=⟨A4.drew,B4.drew,P4.drew⟩
          refine' takeH (i:=0) (v:=_) (noDefer_of (by kernel_rfl)) rfl (by kernel_rfl) (by kernel_rfl) (by kernel_rfl) (fun _ _ _ h=>h) (by kernel_rfl) ⟨Or.inl ⟨by rfl,?hy0k28⟩,fun _=>rfl⟩ hS ?rest0k28
          case hy0k28 =>
           intro w' hSw
           go_simp
           rfl
          simp only [Act.put,getElem_toArray,getElem_cons_zero,setIfInBounds_toArray,set_cons_zero,set_cons_succ]
          refine' takeH (i:=1) (v:=_) (noDefer_of (by kernel_rfl)) rfl (by kernel_rfl) (by kernel_rfl) (by kernel_rfl) (fun _ _ _ h=>h) (by kernel_rfl) ⟨Or.inl ⟨by rfl,?hy1k29⟩,fun _=>rfl⟩ hS ?rest1k29
          case hy1k29 =>
           intro w' hSw
           go_simp
           rfl
          simp only [Act.put,getElem_toArray,getElem_cons_succ,getElem_cons_zero,setIfInBounds_toArray,set_cons_zero,set_cons_succ]
          refine' takeH (i:=2) (v:=_) (noDefer_of (by kernel_rfl)) rfl (by kernel_rfl) (by kernel_rfl) (by kernel_rfl) (fun _ _ _ h=>h) (by kernel_rfl) ⟨Or.inl ⟨by rfl,?hy2k30⟩,fun _=>rfl⟩ hS ?rest2k30
          case hy2k30 =>
           intro w' hSw
           obtain ⟨r1,r2,r3⟩:=hSw
           have z1:w'.cell? ⟨ab,1,none⟩=some (.int .u64 (msk s1)):=r1.cell (i:=1) rfl
           go_simp
           rfl
          simp only [Act.put,getElem_toArray,getElem_cons_succ,getElem_cons_zero,setIfInBounds_toArray,set_cons_zero,set_cons_succ]
          refine' takeH (i:=3) (v:=_) (noDefer_of (by kernel_rfl)) rfl (by kernel_rfl) (by kernel_rfl) (by kernel_rfl) (fun _ _ _ h=>h) (by kernel_rfl) ⟨Or.inl ⟨by rfl,?hy3k31⟩,fun _=>rfl⟩ hS ?rest3k31
          case hy3k31 =>
           intro w' hSw
           obtain ⟨r1,r2,r3⟩:=hSw
           have z1:=r2.cell (i:=0) rfl
           have z2:=r2.cell (i:=1) rfl
           have z3:=r2.cell (i:=2) rfl
           go_simp
           rfl
          simp only [Act.put,getElem_toArray,getElem_cons_succ,getElem_cons_zero,setIfInBounds_toArray,set_cons_zero,set_cons_succ]
          refine' takeH (i:=5) (v:=_) (noDefer_of (by kernel_rfl)) rfl (by kernel_rfl) (by kernel_rfl) (by kernel_rfl) (fun _ _ _ h=>h) (by kernel_rfl) ⟨Or.inl ⟨by rfl,?hy5k32⟩,fun _=>rfl⟩ hS ?rest5k32
          case hy5k32 =>
           intro w' hSw
           go_simp
           rfl
          simp only [Act.put,getElem_toArray,getElem_cons_succ,getElem_cons_zero,setIfInBounds_toArray,set_cons_zero,set_cons_succ]
          refine' takeH (i:=6) (v:=_) (noDefer_of (by kernel_rfl)) rfl (by kernel_rfl) (by kernel_rfl) (by kernel_rfl) (fun _ _ _ h=>h) (by kernel_rfl) ⟨Or.inl ⟨by rfl,?hy6k33⟩,fun _=>rfl⟩ hS ?rest6k33
          case hy6k33 =>
           intro w' hSw
           obtain ⟨r1,r2,r3⟩:=hSw
           have z1:=r3.cell (i:=0) rfl
           have z2:=r3.cell (i:=1) rfl
           go_simp
           rfl
          simp only [Act.put,getElem_toArray,getElem_cons_succ,getElem_cons_zero,setIfInBounds_toArray,set_cons_zero,set_cons_succ]
          refine oneH (i:=4) (by kernel_rfl) rfl ?_
          intro K hK
          rw [if_pos (by rfl)]
          go_simp
          refine ⟨trivial,?_⟩
          refine (callsIn_wide.2 (shapeOf_other _ v hvb A ps.length c _)).mono ?_
          rintro e w5 ⟨rfl,hb5⟩
          have hS5:Blk w5 ab 311 #[.int .u64 (msk s0),.int .u64 (msk s1)]∧Blk w5 wr.heap.size 38 #[.bool true,.int .i64 v,.slice A ps.length c]∧Blk w5 pb 41 #[.int .i64 p.1,.int .i64 p.2]:=⟨A4.drew.step hb5,B4.drew.step hb5,P4.drew.step hb5⟩
          refine hK.out _ _ (fun _=>hS5) ?_
          clear hK K
          have hk5:KeepP (Also (More P w W2) wr.heap.size) w4 w5:=(KeepP.drew _ _).trans (KeepP.of_below hb5 HP4.out)
          have ht5:=ht4.drew.step hb5
          (try simp only [Act.put,getElem_toArray,getElem_cons_succ,getElem_cons_zero,setIfInBounds_toArray,set_cons_zero,set_cons_succ])
          have HV:=hide (HLOC.out w5 (hk04.trans (hk5.mono HPin.out)) (fun j hj=>Nat.lt_of_lt_of_le (HP4.out j hj) hb5.size) ht5)
          have hmr:=methL_convex
          refine oneH (i:=7) (by kernel_rfl) rfl ?_
          intro K hK
          rw [if_pos (by rfl)]
          go_simp
          refine ⟨trivial,?_⟩
          refine (callsIn_wide.2 HV.out).mono ?_
          rintro e w6 ⟨rfl,hk6,ht6⟩
          obtain ⟨a5,b5,p5⟩:=hS5
          have hS6:Blk w6 ab 311 #[.int .u64 (msk s0),.int .u64 (msk s1)]∧Blk w6 wr.heap.size 38 #[.bool true,.int .i64 v,.slice A ps.length c]∧Blk w6 pb 41 #[.int .i64 p.1,.int .i64 p.2]:=⟨a5.kept hk6 (.inl HMA.out),b5.kept hk6 (.inr rfl),p5.kept hk6 (.inl HMP.out)⟩
          refine hK.out _ _ (fun _=>hS6) ?_
          clear hK K hmr HV
          have HNE:=hide (negative_any L (by have:=HLB.out;omega) (by have:=HLB.out;omega) w6)
          (try simp only [Act.put,getElem_toArray,getElem_cons_succ,getElem_cons_zero,setIfInBounds_toArray,set_cons_zero,set_cons_succ])
          refine oneH (i:=8) (by kernel_rfl) rfl ?_
          intro K hK
          rw [if_pos (by rfl)]
          go_simp
          refine ⟨trivial,?_⟩
          refine (callsIn_wide.2 HNE.out).mono ?_
          rintro e w7 ⟨rfl,rfl⟩
          refine hK.out _ _ (fun _=>hS6) ?_
          clear hK K HNE
          have hnt:=msk_not (decide (L<0))
          have hnt2:bits BinOp.xor IntKind.u64 (if IntKind.u64.signed=true then -1 else IntKind.u64.max) (msk (decide (L<0)))=msk (!decide (L<0)):=hnt
          have hor:=msk_or s1 (!decide (L<0))
          (try simp only [Act.put,getElem_toArray,getElem_cons_succ,getElem_cons_zero,setIfInBounds_toArray,set_cons_zero,set_cons_succ])
          refine' takeH (i:=9) (v:=_) (noDefer_of (by kernel_rfl)) rfl (by kernel_rfl) (by kernel_rfl) (by kernel_rfl) (fun _ _ _ h=>h) (by kernel_rfl) ⟨Or.inl ⟨by rfl,?hy9k34⟩,fun _=>rfl⟩ hS6 ?rest9k34
          case hy9k34 =>
           intro w' hSw
           go_simp
           rfl
          simp only [Act.put,getElem_toArray,getElem_cons_succ,getElem_cons_zero,setIfInBounds_toArray,set_cons_zero,set_cons_succ]
          refine' takeH (i:=10) (v:=_) (noDefer_of (by kernel_rfl)) rfl (by kernel_rfl) (by kernel_rfl) (by kernel_rfl) (fun _ _ _ h=>h) (by kernel_rfl) ⟨Or.inl ⟨by rfl,?hy10k35⟩,fun _=>rfl⟩ hS6 ?rest10k35
          case hy10k35 =>
           intro w' hSw
           go_simp
           rfl
          simp only [Act.put,getElem_toArray,getElem_cons_succ,getElem_cons_zero,setIfInBounds_toArray,set_cons_zero,set_cons_succ]
          refine' takeH (i:=11) (v:=_) (noDefer_of (by kernel_rfl)) rfl (by kernel_rfl) (by kernel_rfl) (by kernel_rfl) (fun _ _ _ h=>h) (by kernel_rfl) ⟨Or.inl ⟨by rfl,?hy11k36⟩,fun _=>rfl⟩ hS6 ?rest11k36
          case hy11k36 =>
           intro w' hSw
           go_simp
           rfl
          simp only [Act.put,getElem_toArray,getElem_cons_succ,getElem_cons_zero,setIfInBounds_toArray,set_cons_zero,set_cons_succ]
          obtain ⟨a6,b6,p6⟩:=hS6
          have c7:w6.cell? ⟨ab,1,none⟩=some (.int .u64 (msk s1)):=a6.cell (i:=1) rfl
          have f7:=a6.frozen 1
          refine oneH (i:=12) (by kernel_rfl) rfl ?_
          intro K hK
          rw [if_pos (by rfl)]
          go_simp
          refine hK.out _ _ (fun h=>absurd rfl h) ?_
          clear hK K
          refine doneH (by kernel_rfl) ?_ _
          have a7:Blk (w6.setCell ⟨ab,1,none⟩ (.int .u64 (msk (s1 || !decide (L<0))))) ab 311 #[.int .u64 (msk s0),.int .u64 (msk (s1 || !decide (L<0)))]:=a6.set 1 (.int .u64 (msk (s1 || !decide (L<0))))
          have p7:=p6.far (p:=⟨ab,1,none⟩) (by dsimp only;omega) (.int .u64 (msk (s1 || !decide (L<0))))
          have t7:=(ht6.mono (R:=More P w W2) fun j h=>.inl h).set (b:=ab) HMA.out 1 (.int .u64 (msk (s1 || !decide (L<0))))
          have k7:KeepP P W2 (w6.setCell ⟨ab,1,none⟩ (.int .u64 (msk (s1 || !decide (L<0))))):=(hk04.trans ((hk5.trans hk6).mono HPin.out)).mono' (fun j h=>h) HNA.out 1 (.int .u64 (msk (s1 || !decide (L<0))))
          have HREL:=hide (HNEXT.out _ _ rfl _ a7 p7 k7 t7)
          clear a7 p7 t7 k7 a6 b6 p6 c7 f7 hS a5 b5 p5 hk5 ht5 hb5 hk6 ht6 hk04 ht4 A4 B4 P4 HNEXT HLOC hnt hnt2 hor
          gi_wp2
          go_roundw
          case rel=>exact ⟨k+1,_,_,by omega,by go_num,HREL.out⟩
          case measure=>simp [intOf];omega
    · obtain rfl:k=gs.length:=by omega
      rw [List.take_length] at htp hst
      have hand:=msk_andNot s0 s1
      have z0:wr.cell? ⟨ab,0,none⟩=some (.int .u64 (msk s0)):=Ar.cell (i:=0) rfl
      have z1:wr.cell? ⟨ab,1,none⟩=some (.int .u64 (msk s1)):=Ar.cell (i:=1) rfl
      have hfin:(s0 && !s1)=((memF p gs).1 && !(memF p gs).2):=by rw [hst.out]
      have HF:=hide hfin
      clear hfin
      gi_wp2
      go_ret
      refine ⟨?_,HK0.out.trans hkp,htp.mono fun j h=>.inl h⟩
      rw [← HF.out];rfl
 · have e1:memOk gs p=false:=by unfold memOk;rw [decide_eq_false hf];rfl
   have e2:fenceMEv gs=[]:=by unfold fenceMEv;rw [if_neg hf]
   rw [e1,e2,List.append_nil]
   have HP:=hide hP;have HT:=hide ht
   obtain ⟨z,hz⟩:∃ z,z=fcheck (gs.map (·.1)):=⟨_,rfl⟩
   rw [← hz] at HC hf
   clear e1 e2 hP hg0 hs hgs hw ht hz hpb P0
   go_enter Tryz.func197,Tryz.ntmps197
   go_wp2_with fail
   rw [← hw0]
   have HW0:=hide hw0
   clear hw0
   refine HC.out.mono ?_
   rintro e w1 ⟨rfl,hb1⟩
   go_wp2
   go_ret
   exact ⟨rfl,KeepP.of_below (bl_step hb0 hb1) HP.out,HT.out.step (bl_step hb0 hb1)⟩
end
section
open Go.RowKit Go.Shelf
theorem choose_any (b:Bool) (x o:Int) (h0:0≤x) (h1:x≤1000) (h2:0≤o) (h3:o≤1000) (w:World):Calls Tryz.prog 193 #[.int .u64 (msk b),.int .i64 x,.int .u64 o] w fun e w'=>e=.returned (.int .i64 (bif b then x else o))∧w=w':=by
 have hx:IntKind.u64.wrap x=x:=by rw [IntKind.wrap_u64];omega
 have hv:IntKind.i64.wrap (bif b then x else o)=(bif b then x else o):=by rw [IntKind.wrap_i64];cases b <;> simp <;> omega
 have HS:=hide (select_any b x o h0 (by omega) h2 (by omega) w)
 obtain ⟨r,hr⟩:∃ r,r=(bif b then x else o):=⟨_,rfl⟩
 rw [← hr] at hv HS
 rw [← hr]
 clear hr
 go_enter Tryz.func193,Tryz.ntmps193
 go_wp2_with fail
 refine HS.out.mono ?_
 rintro e w' ⟨rfl,rfl⟩
 go_wp2
 go_ret
 exact ⟨rfl,rfl⟩
theorem bit_any (b:Bool) (w:World):Calls Tryz.prog 196 #[.int .u64 (msk b)] w fun e w'=>e=.returned (.int .u64 (bif b then 1 else 0))∧w=w':=by
 have h:bits BinOp.and IntKind.u64 (msk b) 1=(bif b then 1 else 0):=by cases b <;> decide
 go_enter Tryz.func196,Tryz.ntmps196
 go_wp2
 go_ret
 exact ⟨rfl,rfl⟩
def convexA (ps:List Pt) (p:Pt):Int:=bif validV ps then locV ps p+1 else 3
def convexEv (n:Nat):List Ev:=vEv n (List.range (edgeN n))++locEv (List.range (edgeN n))
def fenceA (gs:List Gr) (p:Pt):Int:=bif fenceOk gs then (bif memOk gs p then 1 else 0) else 2
def fenceEv (gs:List Gr):List Ev:=fenceVEv gs++fenceMEv gs
theorem fenceVEv_length (gs:List Gr):(fenceVEv gs).length≤262208:=by
 unfold fenceVEv
 split
 · rename_i h
   have h1:=fvEv_length 0 gs
   have h2:gs.length≤64:=by
    unfold fcheck at h
    split at h
    · omega
    · rename_i h2;rw [List.length_map] at h2;omega
   omega
 · simp
section
variable (P:Nat→Prop) (t:Option (Nat × Nat)) (es:List Ev) (p:Pt) (hp:PJ p) (w:World) (hP:∀ k,P k→k<w.heap.size) (hg0:P 8) (hw:MW w) (ht:Tp w P t es) (hl:es.length≤600000)
include hp hP hg0 hw ht hl
theorem convex_any (ps:List Pt) (hps:PsJ ps) (hn:ps.length≤10000) (A:Option Addr) (c:Nat) (hs:SlP w P A (ptCs ps)) :
 Calls Tryz.prog 141 #[.pointer (tapeA t),.slice A ps.length c,.agg #[.int .i64 p.1,.int .i64 p.2]] w fun e w'=>e=.returned (.int .i64 (convexA ps p))∧KeepP P w w'∧Tp w' P t (es++convexEv ps.length):=by
 obtain ⟨w0,hw0⟩:∃ w0,w0=w.alloc (.cells #[.int .i64 p.1,.int .i64 p.2] 41):=⟨_,rfl⟩
 have hb0:Below w.heap.size w w0:=by rw [hw0];exact bA
 have B0:Blk w0 w.heap.size 41 #[.int .i64 p.1,.int .i64 p.2]:=by rw [hw0];exact Blk.new _ _ _
 have hm:=more_lt hP hb0
 have hk0:KeepP P w w0:=KeepP.of_below hb0 hP
 have HV:=hide (valid_any (More P w w0) t es ps hps hn A c w0 hm (.inl hg0) ((hs.kept hk0).mono fun k h=>.inl h) (hw.step hb0) (ht.more hb0) (by omega))
 have HI:Hid (More P w w0 w.heap.size):=.inr ⟨Nat.le_refl _,B0.lt⟩
 have HP:=hide hP;have HG:=hide hg0;have HS:=hide hs;have HW:=hide hw;have HPS:=hide hps;have HPJ:=hide hp;have HB0:=hide hb0;have HM:=hide hm
 clear hP hg0 hs hw hps hp ht hb0 hm hk0
 go_enter Tryz.func141,Tryz.ntmps141
 go_wp2_with fail
 rw [← hw0]
 have HW0:=hide hw0
 clear hw0
 refine HV.out.mono ?_
 rintro e w1 ⟨rfl,hk1,ht1⟩
 have B1:=B0.kept hk1 HI.out
 have z0:=B1.cell (i:=0) rfl
 have z1:=B1.cell (i:=1) rfl
 dsimp at z0 z1
 have hk01:KeepP P w w1:=KeepP.more HB0.out HP.out hk1
 have hle:(es++vEv ps.length (List.range (edgeN ps.length))).length≤900000:=by
  have h1:=rgVEv_length 1 ps.length
  have h2:rgVEv 1 ps.length=vEv ps.length (List.range (edgeN ps.length)):=rfl
  rw [h2] at h1
  rw [List.length_append];omega
 have HL:=hide (locate_any P t _ ps HPS.out hn A c p HPJ.out w1 (fun k hk=>Nat.lt_of_lt_of_le (HP.out k hk) hk01.size) HG.out (HS.out.kept hk01) (HW.out.kept hk01 HG.out) (ht1.mono fun k h=>.inl h) hle)
 have HK1:=hide hk01
 have hlb:=sgnM_bd (locF (orientV ps) ps p (List.range (edgeN ps.length))).1 (locF (orientV ps) ps p (List.range (edgeN ps.length))).2
 have hloc:locV ps p=sgnM (locF (orientV ps) ps p (List.range (edgeN ps.length))).1 (locF (orientV ps) ps p (List.range (edgeN ps.length))).2:=rfl
 rw [← hloc] at hlb
 obtain ⟨L,hL⟩:∃ L,L=locV ps p:=⟨_,rfl⟩
 rw [← hL] at hlb HL
 have hwr:IntKind.i64.wrap (L+1)=L+1:=by rw [IntKind.wrap_i64];omega
 have HA:Hid (convexA ps p=bif validV ps then L+1 else 3):=by rw [hL];exact rfl
 clear hk1 ht1 B1 B0 hk01 hle HV hloc hL
 go_wp2_with fail
 refine HL.out.mono ?_
 rintro e w2 ⟨rfl,hk2,ht2⟩
 have HCH:=hide (fun w=>choose_any (validV ps) (L+1) 3 (by omega) (by omega) (by omega) (by omega) w)
 clear z0 z1
 go_wp2_with fail
 refine (HCH.out w2).mono ?_
 rintro e w3 ⟨rfl,rfl⟩
 go_wp2
 go_ret
 refine ⟨ret_int HA.out.symm,HK1.out.trans hk2,?_⟩
 rw [List.append_assoc] at ht2
 exact ht2
theorem efence_any (gs:List Gr) (GA:Option Addr) (gc:Nat) (hs:SlP w P GA (rgCells (gs.map (·.1)))) (hgs:GsP w P gs) :
 Calls Tryz.prog 143 #[.pointer (tapeA t),.slice GA gs.length gc,.agg #[.int .i64 p.1,.int .i64 p.2]] w fun e w'=>e=.returned (.int .i64 (fenceA gs p))∧KeepP P w w'∧Tp w' P t (es++fenceEv gs):=by
 obtain ⟨w0,hw0⟩:∃ w0,w0=w.alloc (.cells #[.int .i64 p.1,.int .i64 p.2] 41):=⟨_,rfl⟩
 have hb0:Below w.heap.size w w0:=by rw [hw0];exact bA
 have B0:Blk w0 w.heap.size 41 #[.int .i64 p.1,.int .i64 p.2]:=by rw [hw0];exact Blk.new _ _ _
 have hm:=more_lt hP hb0
 have hk0:KeepP P w w0:=KeepP.of_below hb0 hP
 have HV:=hide (fenceValid_any (More P w w0) t es gs GA gc w0 hm (.inl hg0) ((hs.kept hk0).mono fun k h=>.inl h) (fun g hg=>⟨(hgs g hg).1,((hgs g hg).2.1.kept hk0).mono fun k h=>.inl h,(hgs g hg).2.2⟩) (hw.step hb0) (ht.more hb0) hl)
 have HI:Hid (More P w w0 w.heap.size):=.inr ⟨Nat.le_refl _,B0.lt⟩
 have HP:=hide hP;have HG:=hide hg0;have HS:=hide hs;have HW:=hide hw;have HGS:=hide hgs;have HPJ:=hide hp;have HB0:=hide hb0;have HM:=hide hm
 clear hP hg0 hs hw hgs hp ht hb0 hm hk0
 go_enter Tryz.func143,Tryz.ntmps143
 go_wp2_with fail
 rw [← hw0]
 have HW0:=hide hw0
 clear hw0
 refine HV.out.mono ?_
 rintro e w1 ⟨rfl,hk1,ht1⟩
 have B1:=B0.kept hk1 HI.out
 have z0:=B1.cell (i:=0) rfl
 have z1:=B1.cell (i:=1) rfl
 dsimp at z0 z1
 have hk01:KeepP P w w1:=KeepP.more HB0.out HP.out hk1
 have hle:(es++fenceVEv gs).length≤890000:=by
  have h1:=fenceVEv_length gs
  rw [List.length_append];omega
 have HL:=hide (fenceMember_any P t _ gs GA gc p HPJ.out w1 (fun k hk=>Nat.lt_of_lt_of_le (HP.out k hk) hk01.size) HG.out (HS.out.kept hk01) (HGS.out.kept hk01) (HW.out.kept hk01 HG.out) (ht1.mono fun k h=>.inl h) hle)
 have HK1:=hide hk01
 have HA:Hid (fenceA gs p=bif fenceOk gs then (bif memOk gs p then 1 else 0) else 2):=rfl
 obtain ⟨mb,hmb⟩:∃ mb,mb=memOk gs p:=⟨_,rfl⟩
 rw [← hmb] at HL HA
 obtain ⟨bt,hbt⟩:∃ bt:Int,bt=(bif mb then 1 else 0):=⟨_,rfl⟩
 have hbb:0≤bt∧bt≤1:=by rw [hbt];cases mb <;> decide
 have HBI:=hide (fun w=>bit_any mb w)
 rw [← hbt] at HBI HA
 have hwr:IntKind.i64.wrap bt=bt:=by rw [IntKind.wrap_i64];omega
 clear hk1 ht1 B1 B0 hk01 hle HV hmb hbt
 go_wp2_with fail
 refine HL.out.mono ?_
 rintro e w2 ⟨rfl,hk2,ht2⟩
 clear z0 z1
 go_wp2_with fail
 refine (HBI.out w2).mono ?_
 rintro e w2' ⟨rfl,rfl⟩
 have HCH:=hide (fun w=>choose_any (fenceOk gs) bt 2 (by omega) (by omega) (by omega) (by omega) w)
 go_wp2_with fail
 refine (HCH.out w2).mono ?_
 rintro e w3 ⟨rfl,rfl⟩
 go_wp2
 go_ret
 refine ⟨ret_int HA.out.symm,HK1.out.trans hk2,?_⟩
 rw [List.append_assoc] at ht2
 exact ht2
end
end
section
open Go.RowKit Go.Shelf Go.Maps
def opR (v:Value):Option (DataW Unit × List MemPlace) :=
 match v with
 | .agg cs=>match cs.toList with
   | [.func (.func n) f c]=>if f.size=0∧c.size=0 then some (.lit (.int .i64 n),[]) else some (.lit (.int .i64 0),[])
   | _=>some (.lit (.int .i64 0),[])
 | _=>some (.lit (.int .i64 0),[])
def opsD:DataW Unit:=(((DataW.map []).put (.int .i64 1) (.lit (.int .i64 330))).put (.int .i64 2) (.lit (.int .i64 331))).put (.int .i64 3) (.lit (.int .i64 332)) |>.put (.int .i64 4) (.lit (.int .i64 333))
def Ops (w:World) (b:Nat):Prop:=w.ownsMap Tryz.prog 3 opR b 4 opsD
theorem Ops.step {w w':World} {b:Nat} (h:Ops w b) (hb:Below w.heap.size w w'):Ops w' b:=World.ownsMap.kept h (below_grown hb) (by simp)
end
section
open Go.RowKit Go.Shelf
def PtC (w:World) (b off:Nat) (ps:List Pt) (j:Nat):Prop:=w.cell? ⟨b,off+j*2,none⟩=some (.int .i64 (ptAt ps j).1)∧w.cell? ⟨b,off+j*2+1,none⟩=some (.int .i64 (ptAt ps j).2)
theorem PtC.step {w w':World} {b off:Nat} {ps:List Pt} {j:Nat} (h:PtC w b off ps j) (hb:Below w.heap.size w w'):PtC w' b off ps j :=
 ⟨(hb.cell (p:=⟨b,off+j*2,none⟩) (cell_lt h.1)).trans h.1,(hb.cell (p:=⟨b,off+j*2+1,none⟩) (cell_lt h.2)).trans h.2⟩
section
variable (P:Nat→Prop) (t:Option (Nat × Nat)) (es:List Ev) (op vs pts:Int) (HA:Option Addr) (hn hc:Nat) (gs:List Gr) (GA:Option Addr) (gc:Nat) (ps:List Pt) (PA:Option Addr) (pc:Nat) (QA:Option Addr) (qn qc:Nat) (w:World)
variable (hP:∀ k,P k→k<w.heap.size) (hg0:P 8) (hw:MW w) (ht:Tp w P t es) (hl:es.length≤600000) (hps:PsJ ps) (hs:SlP w P PA (ptCs ps))
include hP hg0 hw ht hl hps hs
end
theorem PtC.kept {w w':World} {P:Nat→Prop} {b off:Nat} {ps:List Pt} {j:Nat} (h:PtC w b off ps j) (hk:KeepP P w w') (hb:P b):PtC w' b off ps j:=⟨(hk.cell hb _).trans h.1,(hk.cell hb _).trans h.2⟩
theorem ptCs_take (ps:List Pt) (n j:Nat) (u:Value) (h:(ptCs (ps.take n))[j]?=some u):(ptCs ps)[j]?=some u:=by
 have e:ptCs ps=ptCs (ps.take n)++ptCs (ps.drop n):=by
  unfold ptCs
  rw [← List.flatMap_append,List.take_append_drop]
 rw [e,List.getElem?_append_left (List.getElem?_eq_some_iff.1 h).1]
 exact h
section
variable (P:Nat→Prop) (t:Option (Nat × Nat)) (es:List Ev) (op vs pts:Int) (HA:Option Addr) (hn hc:Nat) (gs:List Gr) (GA:Option Addr) (gc:Nat) (ps:List Pt) (PA:Option Addr) (pc:Nat) (QA:Option Addr) (qn qc:Nat) (w:World)
variable (hP:∀ k,P k→k<w.heap.size) (hg0:P 8) (hw:MW w) (ht:Tp w P t es) (hl:es.length≤600000) (hps:PsJ ps) (hs:SlP w P PA (ptCs ps))
include hP hg0 hw ht hl hps hs
end
end
end Go.Proofs.YthnenedoblncjaaGreatDoor
