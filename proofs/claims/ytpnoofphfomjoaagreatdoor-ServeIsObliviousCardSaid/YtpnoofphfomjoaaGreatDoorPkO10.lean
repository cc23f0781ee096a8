/- LawObliv21 -/
import Derived.Test.YtpnoofphfomjoaaGreatDoorPkM15
import Derived.Test.YtpnoofphfomjoaaGreatDoorPkM43
import Derived.Test.YtpnoofphfomjoaaGreatDoorPkO08
import Derived.Test.YtpnoofphfomjoaaGreatDoorPkO09
set_option maxRecDepth 1000000
set_option maxHeartbeats 8000000
namespace Go.Proofs.YtpnoofphfomjoaaGreatDoor
section
open Go.RowKit Go.Shelf
theorem byCells_oneC (bs:List Int):∀ u∈byCells bs,u.oneCell'=true:=byCells_one bs
def TwoR (base:Nat) (x y:Value) (n:Nat) (a b:List Int) (w:World):Prop :=
 w.ownsRow base 5 1 x n (byCells a)∧w.ownsRow base 5 1 y n (byCells b)∧(x.ownBlock=none∨x.ownBlock≠y.ownBlock)∧(y.ownBlock=none∨y.ownBlock≠x.ownBlock)
theorem two_push (base n:Nat) (x y:Value) (a b:List Int) (p q:Int) (w:World) (h:TwoR base x y n a b w) (hb:base≤w.heap.size) (hn:n≤100000) :
 ∃ x' w7 y' w9,(Builtin.append_ #[44,44] 44 #[x,.slice (some ⟨w.heap.size,0,none⟩) 1 1]).run Tryz.prog (w.alloc (.cells #[.int .u8 p] 5))=.ok x' w7 ∧
   (Builtin.append_ #[44,44] 44 #[y,.slice (some ⟨w7.heap.size,0,none⟩) 1 1]).run Tryz.prog (w7.alloc (.cells #[.int .u8 q] 5))=.ok y' w9 ∧
   TwoR base x' y' (n+1) (a++[p]) (b++[q]) w9∧∀ w0:World,Below w0.heap.size w0 w→w0.heap.size≤base→Below w0.heap.size w0 w9:=by
 obtain ⟨i0,hi,hz0,hz1,hz2⟩:=info_parts u8_info
 obtain ⟨hx,hy,hxy,hyx⟩:=h
 have hba:=bl_alloc (Below.refl w.heap.size w) (.cells #[.int .u8 p] 5)
 have N6:=Blk.new w 5 #[.int .u8 p]
 have hx6:=own_step hx hba
 have hy6:=own_step hy hba
 obtain ⟨gx,cx,w7,hr7,hx7,hg7,hloc7,hlt7⟩:=run_append_lies (P:=Tryz.prog) (w.alloc (.cells #[.int .u8 p] 5)) 44 44 base 5 i0 (.int .u8 0) 1 1 Tryz.underlying44 hi hz0 hz1 hz2 rfl (by decide) x n (byCells a) hx6 ⟨w.heap.size,0,none⟩ 1 1 [.int .u8 p] rfl (fun j u hu=>by rw [add_zero_off];exact N6.cell (by simpa using hu)) (by simp [Value.oneCell']) (by omega) (by unfold maxLen;omega) (by omega) (Nat.le_trans hb hba.size) _ rfl
 have hy7:=hy6.kept hg7 hyx
 have hybl:∀ k,y.ownBlock=some k→k<(w.alloc (.cells #[.int .u8 p] 5)).heap.size:=fun k hk=>own_lt' hy6 hk
 have hxy7:(Value.slice (some ⟨gx,0,none⟩) (n+1) cx).ownBlock≠y.ownBlock:=by
  intro e
  have e1:y.ownBlock=some gx:=by rw [← e];rfl
  rcases hloc7 with h | h
  · rcases hyx with h2 | h2
    · rw [h2] at e1;cases e1
    · exact h2 (by rw [e1,h])
  · have:=hybl gx e1
    omega
 have hsz7:base≤w7.heap.size:=Nat.le_trans hb (Nat.le_trans hba.size hg7.size)
 have hbb:=bl_alloc (Below.refl w7.heap.size w7) (.cells #[.int .u8 q] 5)
 have N8:=Blk.new w7 5 #[.int .u8 q]
 have hx8:=own_step hx7 hbb
 have hy8:=own_step hy7 hbb
 obtain ⟨gy,cy,w9,hr9,hy9,hg9,hloc9,hlt9⟩:=run_append_lies (P:=Tryz.prog) (w7.alloc (.cells #[.int .u8 q] 5)) 44 44 base 5 i0 (.int .u8 0) 1 1 Tryz.underlying44 hi hz0 hz1 hz2 rfl (by decide) y n (byCells b) hy8 ⟨w7.heap.size,0,none⟩ 1 1 [.int .u8 q] rfl (fun j u hu=>by rw [add_zero_off];exact N8.cell (by simpa using hu)) (by simp [Value.oneCell']) (by omega) (by unfold maxLen;omega) (by omega) (Nat.le_trans hsz7 hbb.size) _ rfl
 have hx9:=hx8.kept hg9 (.inr hxy7)
 have hne:(Value.slice (some ⟨gx,0,none⟩) (n+1) cx).ownBlock≠(Value.slice (some ⟨gy,0,none⟩) (n+1) cy).ownBlock:=by
  intro e
  have e1:gx=gy:=by
   have:some gx=some gy:=e
   exact Option.some.inj this
  rcases hloc9 with h | h
  · exact hxy7 (by rw [h,← e1];rfl)
  · have:gx<(w7.alloc (.cells #[.int .u8 q] 5)).heap.size:=own_lt' hx8 rfl
    omega
 refine ⟨_,w7,_,w9,hr7,hr9,⟨?_,?_,.inr hne,.inr fun e=>hne e.symm⟩,fun w0 h0 hB=>?_⟩
 · rw [byCells_append];exact hx9
 · rw [byCells_append];exact hy9
 · have h1:Below w0.heap.size w0 w7:=(bl_step h0 hba).grown hg7 (Nat.le_trans hB (Nat.le_trans hb hba.size)) (fun j hj=>Nat.le_trans hB (own_base hx6 hj))
   exact (bl_step h1 hbb).grown hg9 (Nat.le_trans hB (Nat.le_trans hsz7 hbb.size)) (fun j hj=>Nat.le_trans hB (own_base hy8 hj))
section
variable (op vs pts:Int) (rs:List Rg) (HA:Option Addr) (hc:Nat) (fs:List Int) (A1:Option Addr) (c1:Nat) (ss:List Int) (A2:Option Addr) (c2:Nat) (w:World)
variable (hh:Sl w w.heap.size HA (rgCells rs)) (hf:Sl w w.heap.size A1 (byCells fs)) (hs:Sl w w.heap.size A2 (byCells ss)) (hbf:By fs) (hbs:By ss) (hfix:Fixed w) (hg:0<w.heap.size) (hw:MW w)
include hh hf hs hbf hbs hfix hg hw
theorem lawObliv21:Calls Tryz.prog 8 #[.agg #[.int .i64 op,.int .i64 vs,.slice HA rs.length hc,.int .i64 pts],.slice A1 fs.length c1,.slice A2 ss.length c2] w fun e w'=>e=.returned (.bool true)∧Below w.heap.size w w':=by
 obtain ⟨rb,hrb⟩:∃ rb,rb=w.heap.size:=⟨_,rfl⟩
 obtain ⟨w0,hw0⟩:∃ w0,w0=w.alloc (.cells #[.int .i64 op,.int .i64 vs,.slice HA rs.length hc,.int .i64 pts] 24):=⟨_,rfl⟩
 have HB0:Below w.heap.size w w0:=by rw [hw0];exact bA
 have B0:Blk w0 rb 24 #[.int .i64 op,.int .i64 vs,.slice HA rs.length hc,.int .i64 pts]:=by rw [hw0,hrb];exact Blk.new _ _ _
 have HAL:=hide (fun (w':World) (hb:Below w.heap.size w w')=>alive21 w' (hfix.below hb hg) (Nat.lt_of_lt_of_le hg hb.size) (hw.step hb))
 have HFM:=rformat_any op vs pts rs HA hc w0 ((hh.below HB0).more HB0.size)
 have HPY:=hide (fun (hz:hcheck op vs rs pts=0) (w':World) (hb:Below w.heap.size w w')=>rpayload_any op vs pts rs HA hc w' ((hh.below hb).more hb.size) hz)
 have HRS:=hide (fun (hz:hcheck op vs rs pts=0) (w':World)=>rresponse_any op vs pts rs HA hc w' hz)
 have HTR:=hide (fun (w':World) (hb:Below w.heap.size w w') (t:Option (Nat × Nat)) (hfr:FreshT w' t) (bs:List Int) (A:Option Addr) (c M:Nat) (hM:bs.length=M) (hs:Sl w' w'.heap.size A (byCells bs)) (hcap:M≤c) (hby:By bs) (hmax:M≤300000) (hq:(hdecode bs).1.qs.length≤40)=>by
  have:=traced_any t bs A c w' hs (by rw [hM];exact hcap) hby (by rw [hM];exact hmax) (hfix.below hb hg) (Nat.lt_of_lt_of_le hg hb.size) (hw.step hb) hfr (.inr (lg_100e (by omega)))
  rw [hM] at this
  exact this)
 have HF:=hide hf;have HS:=hide hs
 have HBF:=hide hbf;have HBS:=hide hbs
 have HRB:=hide hrb
 have b0:=B0.cell (i:=0) rfl
 have b1:=B0.cell (i:=1) rfl
 have b2:=B0.cell (i:=2) rfl
 have b3:=B0.cell (i:=3) rfl
 by_cases hz:hcheck op vs rs pts=0
 · have hfm:hformat op vs rs pts=(fbytes op vs rs pts,0):=if_pos hz
   rw [hfm] at HFM
   have HFMh:=hide HFM
   have HPY1:=hide (HPY.out hz)
   have HRS1:=hide (HRS.out hz)
   have hpn:0≤hpay op vs rs pts:=(hpay_bd op vs rs pts).1
   have HOB:=hide (fun (pl:List Int) (hl:(pl.length:Int)=hpay op vs rs pts) (hb:By (fbytes op vs rs pts++pl)) (hp:pts≤40)=>ob_serve hz hl hb hp)
   have hfl:=fbytes_len hz
   have HFB:Hid (By (fbytes op vs rs pts)):=hide (fun x hx=>by
    obtain ⟨j,hj⟩:=List.getElem?_of_mem hx
    exact fbytes_byte hz j x hj)
   obtain ⟨fb,hfb⟩:∃ fb,fb=fbytes op vs rs pts:=⟨_,rfl⟩
   rw [← hfb] at HFMh HOB hfl HFB
   obtain ⟨N,hN⟩:∃ N:Nat,hpay op vs rs pts=(N:Int):=⟨(hpay op vs rs pts).toNat,by omega⟩
   rw [hN] at HPY1 HOB
   obtain ⟨R,hR⟩:∃ R,R=hresp op vs rs pts:=⟨_,rfl⟩
   rw [← hR] at HRS1 HOB
   obtain ⟨EV,hEV⟩:∃ EV,EV=evH21 op vs (rs.map rgBack) pts:=⟨_,rfl⟩
   rw [← hEV] at HOB
   have HFL:=hide hfl
   have HEVL:Hid (pts≤40→EV.length≤1000000):=hide (fun hp=>by
    have hby:By (fb++List.replicate N 0):=HFB.out.append (fun x hx=>by rw [List.eq_of_mem_replicate hx];decide)
    obtain ⟨h1,_,h3⟩:=HOB.out (List.replicate N 0) (by rw [List.length_replicate]) hby hp
    rw [← h1]
    exact serveEv_len (fb++List.replicate N 0) hby (by omega))
   clear HFM hfm hpn hfb hN hR hEV HPY HRS hz hfl hh hf hs hbf hbs hfix hg hw
   rw [hw0] at b0 b1 b2 b3 HFMh
   go_enter Tryz.func8,Tryz.ntmps8
   rw [hrb] at b0 b1 b2 b3
   go_wp2_with fail
   refine HFMh.out.mono ?_
   rw [← hw0]
   rintro e w1 ⟨fv,rfl,hown1,hb1⟩
   dsimp only at hown1 ⊢
   rw [← hrb]
   obtain ⟨BA,bc,rfl,hbc⟩:=own_slice hown1
   have HB1:=bl_step HB0 hb1
   have B1:=B0.step hb1
   have SB1:=hide (Sl.of_own hown1)
   clear hw0 hrb hown1 hb1 HFMh b0 b1 b2 b3 B0
   have b0:=B1.cell (i:=0) rfl
   have b1:=B1.cell (i:=1) rfl
   have b2:=B1.cell (i:=2) rfl
   have b3:=B1.cell (i:=3) rfl
   have P1:=hide (HPY1.out w1 HB1)
   go_wp2_with fail
   refine P1.out.mono ?_
   rintro e w2 ⟨rfl,hb2⟩
   have HB2:=bl_step HB1 hb2
   have B2:=B1.step hb2
   have SB2:=hide ((SB1.out.below hb2).more hb2.size)
   clear P1 hb2 B1 SB1 b0 b1 b2 b3
   have b0:=B2.cell (i:=0) rfl
   have b1:=B2.cell (i:=1) rfl
   have b2:=B2.cell (i:=2) rfl
   have b3:=B2.cell (i:=3) rfl
   by_cases hN4:4000<(N:Int)
   · clear HPY1 HRS1 HTR HOB
     go_wp2_with fail
     refine (HAL.out w2 HB2).mono ?_
     rintro e w3 ⟨rfl,hb3⟩
     go_wp2
     go_ret
     exact ⟨rfl,bl_step HB2 hb3⟩
   by_cases hr20:20<(rs.length:Int)
   · clear HPY1 HRS1 HTR HOB
     go_wp2_with fail
     refine (HAL.out w2 HB2).mono ?_
     rintro e w3 ⟨rfl,hb3⟩
     go_wp2
     go_ret
     exact ⟨rfl,bl_step HB2 hb3⟩
   by_cases hp40:40<pts
   · clear HPY1 HRS1 HTR HOB
     go_wp2_with fail
     refine (HAL.out w2 HB2).mono ?_
     rintro e w3 ⟨rfl,hb3⟩
     go_wp2
     go_ret
     exact ⟨rfl,bl_step HB2 hb3⟩
   have hNn:N≤4000:=by omega
   have HEV2:=hide (HEVL.out (by omega))
   have HOB2:=hide (fun (pl:List Int) (hl:pl.length=N) (hb:By (fb++pl))=>HOB.out pl (by rw [hl]) hb (by omega))
   clear HEVL HOB
   have P2:=hide (HPY1.out w2 HB2)
   go_wp2_with fail
   refine P2.out.mono ?_
   rintro e w3 ⟨rfl,hb3⟩
   have HB3:=bl_step HB2 hb3
   have B3:=B2.step hb3
   have SB3:=hide ((SB2.out.below hb3).more hb3.size)
   have hrlt:rb<w3.heap.size:=B3.lt
   clear P2 hb3 B2 SB2 b0 b1 b2 b3 HPY1 HB2 hr20 hN4
   go_wp2_with fail
   go_loopw [9,10,44] (fun x y i wr=>∃ k:Nat,k≤N∧i=.int .i64 (k:Int)∧TwoR w3.heap.size x y k (plB fs 0 k) (plB ss 255 k) wr∧Below w3.heap.size w3 wr)
    (fun _ _ i _=>N - (intOf i).toNat)
   case atStart=>exact ⟨0,Nat.zero_le _,rfl,⟨World.ownsRow_nil _ _ _ _,World.ownsRow_nil _ _ _ _,.inl rfl,.inl rfl⟩,Below.refl _ _⟩
   case round =>
    obtain ⟨k,hk,rfl,htw,hbr⟩:=hrel
    by_cases hkn:k<N
    · have hki:(k:Int)<(N:Int):=by omega
      obtain ⟨p,hp⟩:∃ p,p=fs.getD k 0:=⟨_,rfl⟩
      obtain ⟨q,hq⟩:∃ q,q=ss.getD k 255:=⟨_,rfl⟩
      obtain ⟨x',w7,y',w9,hr7,hr9,htw9,hbl9⟩:=two_push w3.heap.size k _ _ _ _ p q wr htw hbr.size (by omega)
      have HB9:=hide (hbl9 w3 hbr (Nat.le_refl _))
      rw [hp,hq,← plB_succ,← plB_succ] at htw9
      have HT9:=hide htw9
      clear htw htw9 hbl9
      by_cases hkf:k<fs.length
      · by_cases hks:k<ss.length
        · obtain ⟨f0,hf0⟩:∃ z,fs[k]?=some z:=⟨_,List.getElem?_eq_getElem hkf⟩
          have hpv:p=f0:=by rw [hp,List.getD_eq_getElem?_getD,hf0];rfl
          obtain ⟨bf,of,hA1,hBf,hcf⟩:=((HF.out.below HB3).below (hbr.mono HB3.size)).by_ (by omega)
          have cf:=hcf k f0 hf0
          have hkfi:(k:Int)<(fs.length:Int):=by omega
          rw [← hpv] at cf
          subst hA1
          clear hf0 hpv hcf
          obtain ⟨s0,hs0⟩:∃ z,ss[k]?=some z:=⟨_,List.getElem?_eq_getElem hks⟩
          have hqv:q=s0:=by rw [hq,List.getD_eq_getElem?_getD,hs0];rfl
          obtain ⟨b2,o2,hA2,hB2,hc2⟩:=((HS.out.below HB3).below (hbr.mono HB3.size)).by_ (by omega)
          have cs:=hc2 k s0 hs0
          have hksi:(k:Int)<(ss.length:Int):=by omega
          rw [← hqv] at cs
          subst hA2
          clear hs0 hqv hc2
          clear hp hq
          go_wp2_with (first
           | (at_builtin;refine wpList_append_run (.tmp 63) (.tmp 65) 44 rfl rfl _ _ rfl rfl hr7 ?_)
           | (at_builtin;refine wpList_append_run (.tmp 67) (.tmp 69) 44 rfl rfl _ _ rfl rfl hr9 ?_))
          go_wp2
          go_roundw
          case rel=>exact ⟨k+1,by omega,by go_num,HT9.out,HB9.out⟩
          case measure=>simp [intOf];omega
        · obtain ⟨f0,hf0⟩:∃ z,fs[k]?=some z:=⟨_,List.getElem?_eq_getElem hkf⟩
          have hpv:p=f0:=by rw [hp,List.getD_eq_getElem?_getD,hf0];rfl
          obtain ⟨bf,of,hA1,hBf,hcf⟩:=((HF.out.below HB3).below (hbr.mono HB3.size)).by_ (by omega)
          have cf:=hcf k f0 hf0
          have hkfi:(k:Int)<(fs.length:Int):=by omega
          rw [← hpv] at cf
          subst hA1
          clear hf0 hpv hcf
          have hqv:q=255:=by rw [hq,List.getD_eq_getElem?_getD,List.getElem?_eq_none (by omega)];rfl
          have hksi:¬ (k:Int)<(ss.length:Int):=by omega
          rw [hqv] at hr9
          clear hp hq
          go_wp2_with (first
           | (at_builtin;refine wpList_append_run (.tmp 63) (.tmp 65) 44 rfl rfl _ _ rfl rfl hr7 ?_)
           | (at_builtin;refine wpList_append_run (.tmp 67) (.tmp 69) 44 rfl rfl _ _ rfl rfl hr9 ?_))
          go_wp2
          go_roundw
          case rel=>exact ⟨k+1,by omega,by go_num,HT9.out,HB9.out⟩
          case measure=>simp [intOf];omega
      · by_cases hks:k<ss.length
        · have hpv:p=0:=by rw [hp,List.getD_eq_getElem?_getD,List.getElem?_eq_none (by omega)];rfl
          have hkfi:¬ (k:Int)<(fs.length:Int):=by omega
          rw [hpv] at hr7
          obtain ⟨s0,hs0⟩:∃ z,ss[k]?=some z:=⟨_,List.getElem?_eq_getElem hks⟩
          have hqv:q=s0:=by rw [hq,List.getD_eq_getElem?_getD,hs0];rfl
          obtain ⟨b2,o2,hA2,hB2,hc2⟩:=((HS.out.below HB3).below (hbr.mono HB3.size)).by_ (by omega)
          have cs:=hc2 k s0 hs0
          have hksi:(k:Int)<(ss.length:Int):=by omega
          rw [← hqv] at cs
          subst hA2
          clear hs0 hqv hc2
          clear hp hq
          go_wp2_with (first
           | (at_builtin;refine wpList_append_run (.tmp 63) (.tmp 65) 44 rfl rfl _ _ rfl rfl hr7 ?_)
           | (at_builtin;refine wpList_append_run (.tmp 67) (.tmp 69) 44 rfl rfl _ _ rfl rfl hr9 ?_))
          go_wp2
          go_roundw
          case rel=>exact ⟨k+1,by omega,by go_num,HT9.out,HB9.out⟩
          case measure=>simp [intOf];omega
        · have hpv:p=0:=by rw [hp,List.getD_eq_getElem?_getD,List.getElem?_eq_none (by omega)];rfl
          have hkfi:¬ (k:Int)<(fs.length:Int):=by omega
          rw [hpv] at hr7
          have hqv:q=255:=by rw [hq,List.getD_eq_getElem?_getD,List.getElem?_eq_none (by omega)];rfl
          have hksi:¬ (k:Int)<(ss.length:Int):=by omega
          rw [hqv] at hr9
          clear hp hq
          go_wp2_with (first
           | (at_builtin;refine wpList_append_run (.tmp 63) (.tmp 65) 44 rfl rfl _ _ rfl rfl hr7 ?_)
           | (at_builtin;refine wpList_append_run (.tmp 67) (.tmp 69) 44 rfl rfl _ _ rfl rfl hr9 ?_))
          go_wp2
          go_roundw
          case rel=>exact ⟨k+1,by omega,by go_num,HT9.out,HB9.out⟩
          case measure=>simp [intOf];omega
    · obtain rfl:k=N:=by omega
      have hki:¬ (k:Int)<(k:Int):=by omega
      obtain ⟨hx,hy,-,-⟩:=htw
      obtain ⟨XA,xc,rfl,hxc⟩:=own_slice hx
      obtain ⟨YA,yc,rfl,hyc⟩:=own_slice hy
      have SX:=hide (Sl.of_own hx)
      have SY:=hide (Sl.of_own hy)
      have HBr:=bl_step HB3 hbr
      have Br:=B3.step hbr
      have SB:=hide ((SB3.out.below hbr).more hbr.size)
      have hrlr:rb<wr.heap.size:=Br.lt
      clear hx hy hbr B3 SB3
      go_wp2_with fail
      refine (new_fresh wr).mono ?_
      rintro e w4 ⟨rfl,hb4,hf4⟩
      have hz4:wr.heap.size+1<w4.heap.size:=hf4.1.lt
      go_wp2_with fail
      refine (new_fresh w4).mono ?_
      rintro e w5 ⟨rfl,hb5,hf5⟩
      have hz5:w4.heap.size+1<w5.heap.size:=hf5.1.lt
      have ft5:=hf4.step hb5
      have hb45:=bl_step hb4 hb5
      have HB5:=bl_step HBr hb45
      have B5:=Br.step hb45
      have SX5:=hide (SX.out.below hb45);have SY5:=hide (SY.out.below hb45);have SB5:=hide (SB.out.below hb45)
      obtain ⟨t,ht⟩:∃ t,t=newT wr:=⟨_,rfl⟩
      obtain ⟨u,hu⟩:∃ u,u=newT w4:=⟨_,rfl⟩
      have htu:t=some (wr.heap.size+1,wr.heap.size)∧u=some (w4.heap.size+1,w4.heap.size):=⟨ht,hu⟩
      rw [← ht] at ft5
      rw [← hu] at hf5
      rw [← ht,← hu]
      have FT5:=hide ft5;have FU5:=hide hf5;have HTU:=hide htu;have HZ4:=hide hz4;have HZ5:=hide hz5;have HRLR:=hide hrlr
      clear ft5 hf5 ht hu htu hf4 hb4 hb5 hb45 Br HBr SX SY SB
      -- the first request
      obtain ⟨w6,hw6⟩:∃ w6,w6=w5.alloc (.cells #[.slice BA fb.length bc,.slice XA k xc] 44):=⟨_,rfl⟩
      obtain ⟨s6,hs6⟩:∃ s6,s6=w5.heap.size:=⟨_,rfl⟩
      have hb6:Below w5.heap.size w5 w6:=by rw [hw6];exact bA
      have N6:Blk w6 s6 44 #[.slice BA fb.length bc,.slice XA k xc]:=by rw [hw6,hs6];exact Blk.new _ _ _
      have C6:=hide (concatB (byCells fb) (byCells (plB fs 0 k)) fb.length k (by simp [byCells]) (by simp [byCells,plB_len]) (byCells_oneC _) (byCells_oneC _) BA XA bc xc s6 w6 N6 (((SB5.out.more (by have:=HZ4.out;have:=HZ5.out;omega)).below hb6).more hb6.size) (((SX5.out.more (by have:=HZ4.out;have:=HZ5.out;omega)).below hb6).more hb6.size) (by have:=HFL.out.1;omega) (by have:=HFL.out.2;omega))
      rw [hw6] at C6
      rw [hs6] at C6
      go_wp2_with fail
      refine C6.out.mono ?_
      rw [← hw6]
      rintro e w7 ⟨v7,rfl,hown7,hb7⟩
      obtain ⟨VA,vc,rfl,hvc⟩:=own_slice hown7
      rw [← byCells_append] at hown7
      have S7:=Sl.of_own hown7
      have hb57:=bl_step hb6 hb7
      have HB7:=bl_step HB5 hb57
      have B7:=B5.step hb57
      have hl1:(fb++plB fs 0 k).length=fb.length+k:=by rw [List.length_append,plB_len]
      have hby1:By (fb++plB fs 0 k):=HFB.out.append (plB_by HBF.out (by decide) (by decide) k)
      obtain ⟨ev1,rl1,q1⟩:=HOB2.out (plB fs 0 k) (plB_len _ _ _) hby1
      have ft7:=FT5.out.step hb57
      have fu7:=FU5.out.step hb57
      have SX7:=hide (SX5.out.below (hb57.mono (by have:=HZ4.out;have:=HZ5.out;omega)));have SY7:=hide (SY5.out.below (hb57.mono (by have:=HZ4.out;have:=HZ5.out;omega)));have SB7:=hide (SB5.out.below (hb57.mono (by have:=HZ4.out;have:=HZ5.out;omega)))
      have T7:=HTR.out w7 HB7 t ft7 _ VA vc _ hl1 S7 hvc hby1 (by have:=HFL.out.2;omega) q1
      unfold Served at T7
      rw [ev1] at T7
      obtain ⟨L1,hL1⟩:∃ L1,L1=(hserve (fb++plB fs 0 k)).length:=⟨_,rfl⟩
      rw [← hL1] at rl1 T7
      have T7h:=hide T7
      have hz57:=hb57.size
      clear hw6 hs6 hb6 N6 C6 hown7 hb7 S7 ev1 q1 hl1 hby1 T7 FT5 FU5 SX5 SY5 SB5 B5 HB5 ft7 hL1 hb57
      go_wp2_with fail
      refine T7h.out.mono ?_
      rintro e w8 ⟨RA,rc,rfl,-,hk8,htp8,-⟩
      have hNT:∀ j,j<wr.heap.size→NT t w7.heap.size j:=fun j hj=>⟨by have:=HZ4.out;have:=HZ5.out;omega,fun v hv=>by rw [HTU.out.1] at hv;injection hv with hv;subst hv;dsimp only;omega⟩
      have hNTu:NT t w7.heap.size (w4.heap.size+1)∧NT t w7.heap.size w4.heap.size:=⟨⟨by have:=HZ5.out;omega,fun v hv=>by rw [HTU.out.1] at hv;injection hv with hv;subst hv;dsimp only;have:=HZ4.out;omega⟩,⟨by have:=HZ5.out;omega,fun v hv=>by rw [HTU.out.1] at hv;injection hv with hv;subst hv;dsimp only;have:=HZ4.out;omega⟩⟩
      have hbw8:Below wr.heap.size w7 w8:=hk8.below hNT
      have HB8:Below w.heap.size w w8:=HB7.trans (hbw8.mono (by have:=HRB.out;have:=HRLR.out;omega))
      have B8:=B7.kept hk8 (hNT rb HRLR.out)
      have SY8:=hide (SY7.out.below hbw8);have SB8:=hide (SB7.out.below hbw8)
      have fu8:FreshT w8 u:=by
       rw [HTU.out.2] at fu7 ⊢
       exact fu7.keep hk8 hNTu.1 hNTu.2
      have htp8':TpIn w8 (NT t w7.heap.size) (wr.heap.size+1) wr.heap.size EV:=by rw [HTU.out.1] at htp8 ⊢;exact htp8
      have HT8:=hide htp8'
      have FU8:=hide fu8
      have HZ8:Hid (w7.heap.size≤w8.heap.size):=hide hk8.size
      have HZ57:=hide hz57
      clear T7h hk8 htp8 htp8' fu8 fu7 hNT hNTu hbw8 B7 SX7 SY7 SB7 HB7
      -- the second request
      obtain ⟨w9,hw9⟩:∃ w9,w9=w8.alloc (.cells #[.slice BA fb.length bc,.slice YA k yc] 44):=⟨_,rfl⟩
      obtain ⟨s9,hs9⟩:∃ s9,s9=w8.heap.size:=⟨_,rfl⟩
      have hb9:Below w8.heap.size w8 w9:=by rw [hw9];exact bA
      have N9:Blk w9 s9 44 #[.slice BA fb.length bc,.slice YA k yc]:=by rw [hw9,hs9];exact Blk.new _ _ _
      have hle8:wr.heap.size≤w8.heap.size:=by have:=HZ4.out;have:=HZ5.out;have:=HZ57.out;have:=HZ8.out;omega
      have C9:=hide (concatB (byCells fb) (byCells (plB ss 255 k)) fb.length k (by simp [byCells]) (by simp [byCells,plB_len]) (byCells_oneC _) (byCells_oneC _) BA YA bc yc s9 w9 N9 (((SB8.out.more hle8).below hb9).more hb9.size) (((SY8.out.more hle8).below hb9).more hb9.size) (by have:=HFL.out.1;omega) (by have:=HFL.out.2;omega))
      rw [hw9] at C9
      rw [hs9] at C9
      go_wp2_with fail
      refine C9.out.mono ?_
      rw [← hw9]
      rintro e w10 ⟨v10,rfl,hown10,hb10⟩
      obtain ⟨VA,vc,rfl,hvc⟩:=own_slice hown10
      rw [← byCells_append] at hown10
      have S10:=Sl.of_own hown10
      have hb810:=bl_step hb9 hb10
      have HB10:=bl_step HB8 hb810
      have B10:=B8.step hb810
      have hl2:(fb++plB ss 255 k).length=fb.length+k:=by rw [List.length_append,plB_len]
      have hby2:By (fb++plB ss 255 k):=HFB.out.append (plB_by HBS.out (by decide) (by decide) k)
      obtain ⟨ev2,rl2,q2⟩:=HOB2.out (plB ss 255 k) (plB_len _ _ _) hby2
      have T10:=HTR.out w10 HB10 u (FU8.out.step hb810) _ VA vc _ hl2 S10 hvc hby2 (by have:=HFL.out.2;omega) q2
      unfold Served at T10
      rw [ev2] at T10
      obtain ⟨L2,hL2⟩:∃ L2,L2=(hserve (fb++plB ss 255 k)).length:=⟨_,rfl⟩
      rw [← hL2] at rl2 T10
      have T10h:=hide T10
      have HT10:=hide (Tp.step (t:=some (wr.heap.size+1,wr.heap.size)) HT8.out hb810)
      have HZ10:Hid (w8.heap.size≤w10.heap.size):=hide hb810.size
      clear hw9 hs9 hb9 N9 C9 hown10 hb10 S10 ev2 q2 hl2 hby2 T10 FU8 SY8 SB8 B8 HB8 hL2 hb810 HT8 hle8
      go_wp2_with fail
      refine T10h.out.mono ?_
      rintro e w11 ⟨RA2,rc2,rfl,-,hk11,htp11,-⟩
      have hNT2:∀ j,j<w4.heap.size→NT u w10.heap.size j:=fun j hj=>⟨by have:=HZ5.out;have:=HZ57.out;have:=HZ8.out;have:=HZ10.out;omega,fun v hv=>by rw [HTU.out.2] at hv;injection hv with hv;subst hv;dsimp only;omega⟩
      have HB11:Below w.heap.size w w11:=HB10.trans ((hk11.below hNT2).mono (by have:=HRB.out;have:=HRLR.out;have:=HZ4.out;omega))
      have B11:=B10.kept hk11 (hNT2 rb (by have:=HRLR.out;have:=HZ4.out;omega))
      have TT:TpIn w11 (NT t w7.heap.size) (wr.heap.size+1) wr.heap.size EV:=by
       refine TpIn.keep HT10.out hk11 fun j hj hnp=>?_
       refine ⟨hj,fun v hv=>?_⟩
       rw [HTU.out.2] at hv
       injection hv with hv
       subst hv
       dsimp only
       refine ⟨fun e=>hnp ?_,fun e=>hnp ?_⟩
       · subst e
         refine ⟨by have:=HZ5.out;have:=HZ57.out;omega,fun v hv=>?_⟩
         rw [HTU.out.1] at hv;injection hv with hv;subst hv;dsimp only;have:=HZ4.out;omega
       · subst e
         refine ⟨by have:=HZ5.out;have:=HZ57.out;omega,fun v hv=>?_⟩
         rw [HTU.out.1] at hv;injection hv with hv;subst hv;dsimp only;have:=HZ4.out;omega
      have TU:TpIn w11 (NT u w10.heap.size) (w4.heap.size+1) w4.heap.size EV:=by rw [HTU.out.2] at htp11 ⊢;exact htp11
      have HTT:=hide TT;have HTUU:=hide TU
      have htA:tapeA t=some ⟨wr.heap.size+1,0,none⟩∧tapeA u=some ⟨w4.heap.size+1,0,none⟩:=by rw [HTU.out.1,HTU.out.2];exact ⟨rfl,rfl⟩
      obtain ⟨ta,hta⟩:∃ ta,ta=tapeA t:=⟨_,rfl⟩
      obtain ⟨ua,hua⟩:∃ ua,ua=tapeA u:=⟨_,rfl⟩
      rw [← hta,← hua] at htA
      rw [← hta,← hua]
      have hta2:=htA.1
      have hua2:=htA.2
      subst hta2 hua2
      have HL12:Hid (L1=L2∧(L2:Int)=R):=hide ⟨by omega,rl2⟩
      clear T10h hk11 htp11 hNT2 TT TU HT10 B10 HB10 htA hta hua rl1 rl2
      go_wp2_with fail
      refine (HAL.out w11 HB11).mono ?_
      rintro e w12 ⟨rfl,hb12⟩
      have HB12:=bl_step HB11 hb12
      have B12:=B11.step hb12
      have E12:=hide (tequal_any _ _ _ _ _ _ EV w12 (Tp.step (t:=some (wr.heap.size+1,wr.heap.size)) HTT.out hb12) (Tp.step (t:=some (w4.heap.size+1,w4.heap.size)) HTUU.out hb12) HEV2.out)
      clear hb12 HTT HTUU B11 HB11
      go_wp2_with fail
      refine E12.out.mono ?_
      rintro e w13 ⟨rfl,hb13⟩
      have HB13:=bl_step HB12 hb13
      have B13:=B12.step hb13
      have b0:=B13.cell (i:=0) rfl
      have b1:=B13.cell (i:=1) rfl
      have b2:=B13.cell (i:=2) rfl
      have b3:=B13.cell (i:=3) rfl
      obtain ⟨hl12,hlR⟩:=HL12.out
      subst hl12
      clear hb13 E12 B12
      go_wp2_with fail
      refine (HRS1.out w13).mono ?_
      rintro e w14 ⟨rfl,hb14⟩
      rw [← hlR]
      go_wp2
      go_ret
      exact ⟨rfl,bl_step HB13 hb14⟩
 · have hfm:hformat op vs rs pts=([],hcheck op vs rs pts):=if_neg hz
   rw [hfm] at HFM
   obtain ⟨er,her⟩:∃ er,er=hcheck op vs rs pts:=⟨_,rfl⟩
   rw [← her] at HFM hz
   have HFMh:=hide HFM
   have hne:(er != 0)=true:=by simpa using hz
   clear HFM hfm her HPY HRS HTR hh hf hs hbf hbs hfix hg hw
   rw [hw0] at b0 b1 b2 b3 HFMh
   go_enter Tryz.func8,Tryz.ntmps8
   rw [hrb] at b0 b1 b2 b3
   go_wp2_with fail
   refine HFMh.out.mono ?_
   rw [← hw0]
   rintro e w1 ⟨fv,rfl,hown1,hb1⟩
   dsimp only at hown1 ⊢
   have HB1:=bl_step HB0 hb1
   clear HFMh hown1 b0 b1 b2 b3 hw0
   go_wp2_with fail
   refine (HAL.out w1 HB1).mono ?_
   rintro e w3 ⟨rfl,hb3⟩
   go_wp2
   go_ret
   exact ⟨rfl,bl_step HB1 hb3⟩
end
end
end Go.Proofs.YtpnoofphfomjoaaGreatDoor
