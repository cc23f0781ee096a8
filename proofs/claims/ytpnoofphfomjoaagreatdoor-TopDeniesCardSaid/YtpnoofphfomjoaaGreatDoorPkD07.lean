/- TopKit TopDen -/
import Derived.Test.YtpnoofphfomjoaaGreatDoorPkM07
import Derived.Test.YtpnoofphfomjoaaGreatDoorPkM13
import Derived.Test.YtpnoofphfomjoaaGreatDoorPkM40
import Derived.Test.YtpnoofphfomjoaaGreatDoorPkD04
import Derived.Test.YtpnoofphfomjoaaGreatDoorPkD06
set_option maxRecDepth 1000000
set_option maxHeartbeats 8000000
namespace Go.Proofs.YtpnoofphfomjoaaGreatDoor
section
open Go.RowKit Go.Shelf
theorem serves_any (w:World) (hfix:Fixed w) (hg:0<w.heap.size) (hw:MW w):Calls Tryz.prog 37 #[] w fun e w'=>e=.returned (.bool true)∧Below w.heap.size w w':=by
 have SV:∀ (w':World) (bs:List Int) (A:Option Addr) (c:Nat),Below w.heap.size w w'→Sl w' w'.heap.size A (byCells bs)→bs.length≤c→By bs→bs.length≤300000→∀ n out,hserve bs=out→out.length=n→Calls Tryz.prog 20 #[.slice A bs.length c] w' (Gives out n w'):=by
  intro w' bs A c hb hs hcap hby hmax n out ho hn
  subst ho hn
  refine (serve_any bs A c w' hs hcap hby hmax (hfix.below hb hg) (Nat.lt_of_lt_of_le hg hb.size) (hw.step hb)).mono ?_
  rintro e w2 ⟨A',c',he,_,hb2,hs2⟩
  exact ⟨A',c',he,hb2,hs2⟩
 have HSV:=hide SV
 clear SV hfix hg hw
 go_enter Tryz.func37,Tryz.ntmps37
 have hmk:∀ wx:World,(Instr.makeSlice 44 (.int .i64 49) (.int .i64 49)).run Tryz.prog wx=.ok (.slice (some ⟨wx.heap.size,0,none⟩) 49 49) (wx.alloc (.cells (byCells (List.replicate 49 0)).toArray 5)):=fun _=>by kernel_rfl
 go_wp2_with fail
 clear hmk
 obtain ⟨gb,hgb⟩:∃ gb,gb=w.heap.size:=⟨_,rfl⟩
 obtain ⟨w0,hw0⟩:∃ w0,w0=w.alloc (.cells (byCells ex49).toArray 5):=⟨_,rfl⟩
 have hb0:Below w.heap.size w w0:=by rw [hw0];exact bA
 have B0:Blk w0 gb 5 (byCells ex49).toArray:=by rw [hw0,hgb];exact Blk.new _ _ _
 have S1:=HSV.out w0 [] none 0 hb0 (Sl.nil _ _ _) (by decide) (fun x hx=>by cases hx) (by decide) 1 [4] sv_nil rfl
 rw [hw0] at S1
 refine S1.mono ?_
 rw [← hw0]
 clear S1
 rintro e w1 ⟨A1,c1,rfl,hb1,hs1⟩
 have HB1:=bl_step hb0 hb1
 have B1:=B0.step hb1
 clear hw0 hb0 hb1 B0 hs1
 rw [← hgb]
 have HGB:=hide hgb
 clear hgb
 go_wp2_with fail
 refine (HSV.out w1 ex49 (some ⟨gb,0,none⟩) 49 HB1 (slb B1) (by decide) by_49 (by decide) 2 [0,2] sv_49 rfl).mono ?_
 rintro e w2 ⟨A2,c2,rfl,hb2,hs2⟩
 have HB2:=bl_step HB1 hb2
 clear B1 hb2
 have HS2:=hide hs2
 clear hs2
 go_wp2_with fail
 have hb3:=bl_alloc (Below.refl w2.heap.size w2) (.cells #[.int .u8 0,.int .u8 2] 5)
 refine (equal_true [0,2] A2 (some ⟨w2.heap.size,0,none⟩) c2 2 _ ((HS2.out.below hb3).more hb3.size) (slb (Blk.new _ _ _))).mono ?_
 rintro e w3 ⟨rfl,rfl⟩
 have HB3:=bl_step HB2 hb3
 obtain ⟨w3,hw3⟩:∃ w3,w3=w2.alloc (.cells #[.int .u8 0,.int .u8 2] 5):=⟨_,rfl⟩
 rw [← hw3] at HB3 ⊢
 clear hw3 hb3 HS2
 go_wp2_with fail
 refine (HSV.out w3 [] none 0 HB3 (Sl.nil _ _ _) (by decide) (fun x hx=>by cases hx) (by decide) 1 [4] sv_nil rfl).mono ?_
 rintro e w4 ⟨A4,c4,rfl,hb4,hs4⟩
 have HB4:=bl_step HB3 hb4
 clear hb4
 have HS4:=hide hs4
 clear hs4
 go_wp2_with fail
 have hb5:=bl_alloc (Below.refl w4.heap.size w4) (.cells #[.int .u8 4] 5)
 refine (equal_true [4] A4 (some ⟨w4.heap.size,0,none⟩) c4 1 _ ((HS4.out.below hb5).more hb5.size) (slb (Blk.new _ _ _))).mono ?_
 rintro e w5 ⟨rfl,rfl⟩
 have HB5:=bl_step HB4 hb5
 go_wp2
 go_ret
 exact ⟨rfl,HB5⟩
def pubRg (r:Rg):Rg:=⟨r.d,r.v,none,0,0⟩
theorem pubR_map (gs:List Gr):gs.map pubR=(gs.map (·.1)).map pubRg:=by rw [List.map_map];rfl
theorem rgCells_app (a b:List Rg):rgCells (a++b)=rgCells a++rgCells b:=by simp [rgCells]
theorem public_any (rs:List Rg) (A:Option Addr) (c:Nat) (w:World) (hs:Sl w w.heap.size A (rgCells rs)) (hn:rs.length≤1000) :
 Calls Tryz.prog 44 #[.slice A rs.length c] w fun e w'=>∃ PA pc,e=.returned (.slice PA rs.length pc)∧Sl w' w'.heap.size PA (rgCells (rs.map pubRg))∧Below w.heap.size w w':=by
 obtain ⟨i0,hi,hz0,hz1,hz2⟩:=info_parts rg_info
 have HS:=hide hs
 clear hs
 go_enter Tryz.func44,Tryz.ntmps44
 go_wp2
 go_loopw [3,8] (fun o i wr=>∃ k:Nat,k≤rs.length∧i=.int .i64 (k:Int)∧wr.ownsRow w.heap.size 87 3 o k (rgCells ((rs.take k).map pubRg))∧Below w.heap.size w wr)
  (fun _ i _=>rs.length - (intOf i).toNat)
 case atStart=>exact ⟨0,Nat.zero_le _,rfl,World.ownsRow_nil _ _ _ _,Below.refl _ _⟩
 case round =>
  obtain ⟨k,hk,rfl,hown,hbr⟩:=hrel
  obtain ⟨OA,oc,rfl,hoc⟩:=own_slice hown
  by_cases hkn:k<rs.length
  · have hki:(k:Int)<(rs.length:Int):=by omega
    obtain ⟨r,hr⟩:∃ r,rs[k]?=some r:=⟨_,List.getElem?_eq_getElem hkn⟩
    obtain ⟨b,off,hA,hB,q0,q1,q2⟩:=(HS.out.below hbr).rg hr
    have HTK:Hid (rgCells ((rs.take (k+1)).map pubRg)=rgCells ((rs.take k).map pubRg)++rgCells [pubRg r]):=hide (by rw [List.take_add_one,hr,← rgCells_app];simp)
    subst hA
    obtain ⟨d,v,RA,n,rc⟩:=r
    dsimp only at q0 q1 q2 HTK
    have hbl:=cell_lt q0
    have N1:=Blk.new wr 87 #[.bool d,.int .i64 v,.slice RA n rc]
    have hb1:=bl_alloc (Below.refl wr.heap.size wr) (.cells #[.bool d,.int .i64 v,.slice RA n rc] 87)
    have b0:=N1.cell (i:=0) rfl
    have b1:=N1.cell (i:=1) rfl
    obtain ⟨w1,hw1⟩:∃ w1,w1=wr.alloc (.cells #[.bool d,.int .i64 v,.slice RA n rc] 87):=⟨_,rfl⟩
    have hwr:wr.heap.size<w1.heap.size:=by rw [hw1];exact N1.lt
    have hown1:=own_step hown hb1
    rw [← hw1] at hb1 hown1
    have hbr1:=bl_step hbr hb1
    have N2:=Blk.new w1 87 #[.bool d,.int .i64 v,.slice none 0 0]
    have hb2:=bl_alloc (Below.refl w1.heap.size w1) (.cells #[.bool d,.int .i64 v,.slice none 0 0] 87)
    have hown2:=own_step hown1 hb2
    have hbr2:=bl_step hbr1 hb2
    obtain ⟨g7,cap7,w7,hrun,hown7,hgrow7,_,_⟩:=run_append_lies (P:=Tryz.prog) (w1.alloc (.cells #[.bool d,.int .i64 v,.slice none 0 0] 87)) 22 22 w.heap.size 87 i0 (.agg #[.bool false,.int .i64 0,.slice none 0 0]) 3 40 Tryz.underlying22 hi hz0 hz1 hz2 rfl (by decide) _ k (rgCells ((rs.take k).map pubRg)) hown2 ⟨w1.heap.size,0,none⟩ 1 1 [.bool d,.int .i64 v,.slice none 0 0] rfl (fun j u hu=>by rw [add_zero_off];exact N2.cell (by simpa using hu)) (by simp [Value.oneCell']) (by omega) (by unfold maxLen;omega) (by omega) hbr2.size _ rfl
    have hw7:Below w.heap.size w w7:=hbr2.grown hgrow7 hbr2.size (fun j hj=>own_base hown2 hj)
    have HO7:Hid (w7.ownsRow w.heap.size 87 3 (.slice (some ⟨g7,0,none⟩) (k+1) cap7) (k+1) (rgCells ((rs.take (k+1)).map pubRg))):=hide (by rw [HTK.out];exact hown7)
    rw [hw1] at hrun
    simp only [World.size_alloc] at hrun
    clear hown7 hgrow7 N1 N2 hown1 hown2 hbr1 hbr2 hb1 hb2 hown hbr hw1 hwr HTK
    go_wp2_with (at_builtin;refine wpList_append_run (.tmp 12) (.tmp 18) 22 rfl rfl _ _ rfl rfl hrun ?_)
    clear hrun b0 b1 q0 q1 q2
    go_wp2
    go_roundw
    case rel=>exact ⟨k+1,by omega,by go_num,HO7.out,hw7⟩
    case measure=>simp [intOf];omega
  · obtain rfl:k=rs.length:=by omega
    have hki:¬ (rs.length:Int)<(rs.length:Int):=by omega
    rw [List.take_length] at hown
    have HO:=hide (Sl.of_own hown)
    clear hown
    go_wp2
    go_ret
    exact ⟨OA,⟨oc,rfl⟩,HO.out,hbr⟩
def Enc (r:List Int) (w:World) (e:Ending) (w':World):Prop:=∃ A c,e=.returned (.slice A r.length c)∧r.length≤c∧Sl w' w'.heap.size A (byCells r)∧Below w.heap.size w w'
section
variable (op vs pts:Int) (hrs:List Rg) (HA:Option Addr) (hc:Nat) (gs:List Gr) (GA:Option Addr) (gc:Nat) (ps:List (Int × Int)) (PA:Option Addr) (pc:Nat) (qs:List ((Int × Int) × Int)) (QA:Option Addr) (qc:Nat) (w:World)
variable (hh:Sl w w.heap.size HA (rgCells hrs)) (hgc:Sl w w.heap.size GA (rgCells (gs.map (·.1)))) (hgs:GsOk w w.heap.size gs) (hps:Sl w w.heap.size PA (ptCs ps)) (hqs:Sl w w.heap.size QA (quCs qs)) (hqu:∀ q∈qs,U64 q.2)
include hh hgc hgs hps hqs hqu
theorem request_any:Calls Tryz.prog 84 #[.agg #[.int .i64 op,.int .i64 vs,.slice HA hrs.length hc,.int .i64 pts,.slice GA gs.length gc,.slice PA ps.length pc,.slice QA qs.length qc]] w (Enc (hencode op vs hrs pts gs ps qs).1 w):=by
 have hb0:=bl_alloc (Below.refl w.heap.size w) (.cells #[.int .i64 op,.int .i64 vs,.slice HA hrs.length hc,.int .i64 pts,.slice GA gs.length gc,.slice PA ps.length pc,.slice QA qs.length qc] 41)
 have N0:=Blk.new w 41 #[.int .i64 op,.int .i64 vs,.slice HA hrs.length hc,.int .i64 pts,.slice GA gs.length gc,.slice PA ps.length pc,.slice QA qs.length qc]
 have HE:=hide (rencode_any op vs pts hrs HA hc gs GA gc ps PA pc qs QA qc _ ((hh.below hb0).more hb0.size) ((hgc.below hb0).more hb0.size) (fun g hg=>⟨(hgs g hg).1,((hgs g hg).2.below hb0).more hb0.size⟩) ((hps.below hb0).more hb0.size) ((hqs.below hb0).more hb0.size) hqu)
 have b0:=N0.cell (i:=0) rfl
 have b1:=N0.cell (i:=1) rfl
 have b2:=N0.cell (i:=2) rfl
 have b3:=N0.cell (i:=3) rfl
 have b4:=N0.cell (i:=4) rfl
 have b5:=N0.cell (i:=5) rfl
 have b6:=N0.cell (i:=6) rfl
 clear hh hgc hgs hps hqs hqu N0
 go_enter Tryz.func84,Tryz.ntmps84
 go_wp2_with fail
 refine HE.out.mono ?_
 rintro e w1 ⟨v,rfl,hv,hb1⟩
 obtain ⟨A,c,rfl,hc⟩:=own_slice hv
 go_wp2
 go_ret
 exact ⟨A,c,rfl,hc,Sl.of_own hv,bl_step hb0 hb1⟩
end
structure BatW (w:World) (gs:List Gr) (GA:Option Addr) (qs:List ((Int × Int) × Int)) (QA:Option Addr):Prop where
 hg:Sl w w.heap.size GA (rgCells (gs.map (·.1)))
 gk:GsOk w w.heap.size gs
 gj:∀ g∈gs,PsJ g.2
 hq:Sl w w.heap.size QA (quCs qs)
 qj:∀ q∈qs,PJ q.1
 qu:∀ q∈qs,U64 q.2
theorem BatW.below {w w':World} {gs:List Gr} {GA:Option Addr} {qs:List ((Int × Int) × Int)} {QA:Option Addr} (h:BatW w gs GA qs QA) (hb:Below w.heap.size w w'):BatW w' gs GA qs QA :=
 ⟨(h.hg.below hb).more hb.size,fun g hg=>⟨(h.gk g hg).1,((h.gk g hg).2.below hb).more hb.size⟩,h.gj,(h.hq.below hb).more hb.size,h.qj,h.qu⟩
theorem BatW.len {w:World} {gs:List Gr} {GA:Option Addr} {qs:List ((Int × Int) × Int)} {QA:Option Addr} (h:BatW w gs GA qs QA):∀ g∈gs,g.1.n=g.2.length:=fun g hg=>(h.gk g hg).1
theorem batch_any (gs:List Gr) (GA:Option Addr) (gc:Nat) (qs:List ((Int × Int) × Int)) (QA:Option Addr) (qc:Nat) (w:World) (h:BatW w gs GA qs QA) (hn:gs.length≤1000) :
 Calls Tryz.prog 45 #[.slice GA gs.length gc,.slice QA qs.length qc] w (Enc (hencode 5 0 (gs.map pubR) qs.length gs [] qs).1 w):=by
 have HP:=hide (public_any (gs.map (·.1)) GA gc w h.hg (by rw [List.length_map];exact hn))
 have HR:=hide (fun (w':World) (hb:Below w.heap.size w w') (PA:Option Addr) (pc:Nat) (hs:Sl w' w'.heap.size PA (rgCells (gs.map pubR)))=>request_any 5 0 qs.length (gs.map pubR) PA pc gs GA gc [] none 0 qs QA qc w' hs (h.below hb).hg (h.below hb).gk (Sl.nil _ _ _) (h.below hb).hq h.qu)
 rw [List.length_map,← pubR_map] at HP
 rw [List.length_map] at HR
 obtain ⟨E,hE⟩:∃ E,E=(hencode 5 0 (gs.map pubR) qs.length gs [] qs).1:=⟨_,rfl⟩
 rw [← hE] at HR ⊢
 clear hE h
 go_enter Tryz.func45,Tryz.ntmps45
 go_wp2_with fail
 refine HP.out.mono ?_
 rintro e w1 ⟨PA,pc,rfl,hs1,hb1⟩
 have R1:=hide (HR.out w1 hb1 PA pc hs1)
 clear hs1 HR HP
 go_wp2_with fail
 refine R1.out.mono ?_
 rintro e w2 ⟨A,c,rfl,hc,hs2,hb2⟩
 go_wp2
 go_ret
 exact ⟨A,c,rfl,hc,hs2,bl_step hb1 hb2⟩
end
section
open Go.RowKit Go.Shelf
theorem appSlR (v:Value) (n m:Nat) (xs ys:List Value) (A:Option Addr) (c:Nat) (B:Nat) (w:World) (h1:w.ownsRow B 87 3 v n xs) (hs:Sl w w.heap.size A ys) (hy:ys.length=m*3) (oy:∀ u∈ys,u.oneCell'=true) (hn:n+m≤1000000) (hB:B≤w.heap.size) :
 ∃ v3 w3,(Builtin.append_ #[22,22] 22 #[v,.slice A m c]).run Tryz.prog w=.ok v3 w3∧w3.ownsRow B 87 3 v3 (n+m) (xs++ys)∧∀ w0:World,Below w0.heap.size w0 w→w0.heap.size≤B→Below w0.heap.size w0 w3:=by
 obtain ⟨i0,hi,hz0',hz1',hz2'⟩:=info_parts rg_info
 cases A with
 | none =>
   have he:ys=[]:=by
    rcases hs with h | ⟨b,off,hA,_⟩
    · exact h
    · cases hA
   subst he
   have hm:m=0:=by simp at hy;omega
   subst hm
   rw [List.append_nil]
   exact ⟨v,w,run_append_owned_none (P:=Tryz.prog) w B 22 22 87 i0 3 Tryz.underlying22 hi _ _ _ h1,h1,fun w h _=>h⟩
 | some a =>
   have hcells:∀ j u,ys[j]?=some u→w.cell? (a.add j)=some u:=fun j u hu=>by
    rcases hs with h | ⟨b',off',hA,_,hc⟩
    · rw [h] at hu;simp at hu
    · cases hA
      have e:(⟨b',off',none⟩:Addr).add j=⟨b',off'+j,none⟩:=by unfold Addr.add;split <;> simp_all
      rw [e]
      exact hc j u hu
   obtain ⟨v3,w3,hrun,hown3,hgrow3,_⟩:=run_append_own (P:=Tryz.prog) w B 22 22 87 i0 (.agg #[.bool false,.int .i64 0,.slice none 0 0]) 3 40 Tryz.underlying22 hi hz0' hz1' hz2' rfl (by decide) v n xs h1 a m c ys hy hcells oy (by unfold maxLen;omega) (by omega) hB
   exact ⟨v3,w3,hrun,hown3,fun w0 h hwB=>h.grown hgrow3 h.size (fun j hj=>Nat.le_trans hwB (own_base h1 hj))⟩
theorem rgCells_one (rs:List Rg):∀ u∈rgCells rs,u.oneCell'=true:=by
 intro u hu
 unfold rgCells at hu
 obtain ⟨e,_,he⟩:=List.mem_flatMap.1 hu
 simp [Rg.cells] at he
 rcases he with rfl | rfl | rfl <;> rfl
theorem cloneR (rs:List Rg) (A:Option Addr) (c:Nat) (w:World) (hs:Sl w w.heap.size A (rgCells rs)) (hp:0<rs.length) (hn:rs.length≤1000) :
 Calls Tryz.prog 47 #[.slice A rs.length c] w fun e w'=>∃ v,e=.returned v∧w'.ownsRow w.heap.size 87 3 v rs.length (rgCells rs)∧Below w.heap.size w w':=by
 have hnil:∀ (w:World) (a:Option Addr) (n c n' c':Nat),(binOp .eql 22 (.slice a n c) (.slice none n' c')).run Tryz.prog w=.ok (.bool a.isNone) w:=fun w a n c n' c'=>Lib.run_eql_slice_nil w 22 87 a n c n' c' Tryz.underlying22
 obtain ⟨r,hr⟩:∃ r,rs[0]?=some r:=⟨_,List.getElem?_eq_getElem hp⟩
 obtain ⟨b,off,rfl,hlt,-⟩:=hs.rg hr
 have hbz:=bl_alloc (Below.refl w.heap.size w) (.cells #[] 87)
 obtain ⟨v3,w3,hrun,hown,hbl⟩:=appSlR (.slice (some ⟨w.heap.size,0,none⟩) 0 0) 0 rs.length [] (rgCells rs) (some ⟨b,off,none⟩) rs.length w.heap.size (w.alloc (.cells #[] 87)) (own_of_blk (xs:=[]) (Blk.new _ _ _) (Nat.le_refl _) rfl (by unfold maxLen;omega)) ((hs.below hbz).more hbz.size) (by rw [rgCells_length];omega) (rgCells_one rs) (by omega) hbz.size
 rw [Nat.zero_add,List.nil_append] at hown
 have HO:=hide hown
 have HB:=hbl w hbz (Nat.le_refl _)
 clear hs hbl hbz hown hr
 go_enter Tryz.func47,Tryz.ntmps47
 go_wp2_with (at_builtin;refine wpList_append_run (.tmp 5) (.tmp 6) 22 rfl rfl _ _ rfl rfl hrun ?_)
 clear hrun
 go_wp2
 go_ret
 exact ⟨_,rfl,HO.out,HB⟩
def denG (vb:Nat) (v:List Pt):Gr:=(⟨true,0,some ⟨vb,0,none⟩,3,3⟩,v)
theorem den_check:∀ (gs:List Gr) (g:Gr),fcheckL (gs.map (·.1))=0→g.1.v=0→g.1.n=3→fcheckL ((gs++[g]).map (·.1))=0
 | [],g,_,hv,hn=>by
   show fcheckL [g.1]=0
   unfold fcheckL sizeOfReg
   rw [hv,if_pos rfl,if_neg (by omega),hn,if_pos (by omega)]
   rfl
 | x::gs,g,h,hv,hn=>by
   rw [List.cons_append,List.map_cons]
   rw [List.map_cons] at h
   unfold fcheckL at h ⊢
   by_cases h1:sizeOfReg x.1.v=0
   · rw [if_pos h1] at h;omega
   rw [if_neg h1] at h ⊢
   by_cases h2:sizeOfReg x.1.v=(x.1.n:Int)
   · rw [if_pos h2] at h ⊢
     exact den_check gs g h hv hn
   · rw [if_neg h2] at h;omega
theorem den_fcheck {gs:List Gr} (g:Gr) (h:fcheck (gs.map (·.1))=0) (h60:gs.length<60) (hv:g.1.v=0) (hn:g.1.n=3):fcheck ((gs++[g]).map (·.1))=0:=by
 unfold fcheck at h ⊢
 rw [List.length_map] at h ⊢
 rw [List.length_append,List.length_singleton,if_neg (by omega)]
 by_cases h1:gs.length<1∨64<gs.length
 · rw [if_pos h1] at h;omega
 rw [if_neg h1] at h
 exact den_check gs g h hv hn
theorem den_sub (gs:List Gr) (g:Gr) (qs:List ((Int × Int) × Int)) (hd:g.1.d=true) (hf:fcheck (gs.map (·.1))=0) (hu:∀ q∈qs,U64 q.2) :
 ((batA (gs++[g]) qs).recs.take (cntL (hrecs (gs++[g]) qs))).Sublist ((batA gs qs).recs.take (cntL (hrecs gs qs)))∧cntL (hrecs (gs++[g]) qs)≤cntL (hrecs gs qs) :=
 live_sub (hrec gs) (hrec (gs++[g])) qs (fun q hq=>hrec_cln gs (hu q hq)) (fun q _=>deny_rec gs g hd hf q)
end
end Go.Proofs.YtpnoofphfomjoaaGreatDoor
