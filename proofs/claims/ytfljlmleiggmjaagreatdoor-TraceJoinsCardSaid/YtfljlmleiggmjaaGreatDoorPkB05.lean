/- Parse3 ParseAny Classify -/
import Derived.Test.YtfljlmleiggmjaaGreatDoorPkB04
set_option maxRecDepth 1000000
set_option maxHeartbeats 8000000
namespace Go.Proofs.YtfljlmleiggmjaaGreatDoor
section
open Go.RowKit
theorem ofInt_nat64 (a:Nat) (ha:a<9223372036854775808):(BitVec.ofInt 64 (a:Int)).toNat=a:=by
 rw [BitVec.ofInt_natCast,BitVec.toNat_ofNat];exact Nat.mod_eq_of_lt (by omega)
theorem or_shift (p q:Int) (hp1:0≤p) (hp2:p≤255) (hq1:0≤q) (hq2:q≤255):bits BinOp.or IntKind.i64 p (q*256)=p+q*256:=by
 obtain ⟨a,rfl⟩:=Int.eq_ofNat_of_zero_le hp1
 obtain ⟨d,rfl⟩:=Int.eq_ofNat_of_zero_le hq1
 have e:((d:Int)*256)=((d*256:Nat):Int):=by omega
 rw [e]
 show IntKind.i64.wrap ((BitVec.ofInt 64 (a:Int) ||| BitVec.ofInt 64 ((d*256:Nat):Int)).toNat:Int)=_
 rw [BitVec.toNat_or,ofInt_nat64 a (by omega),ofInt_nat64 (d*256) (by omega),IntKind.wrap_i64]
 have h:d*256 ||| a=d*256+a:=by
  have h2:=@Nat.shiftLeft_add_eq_or_of_lt 8 a (by omega) d
  rw [Nat.shiftLeft_eq,show (2:Nat) ^ 8=256 from rfl] at h2
  exact h2.symm
 rw [Nat.or_comm,h]
 omega
section
variable (bs:List Int) (A:Option Addr) (c:Nat) (w:World)
variable (hs:Sl w w.heap.size A (byCells bs)) (hcap:bs.length≤c) (hby:∀ (j:Nat) (x:Int),bs[j]?=some x→0≤x∧x≤255)
include hs hcap hby
theorem parse_regions5 (kn:Nat) (hop:bs.getD 0 0=5) (hkk:bs.getD 1 0=kn) (hk1:1≤kn) (hk2:kn≤64) (hl:2+kn≤bs.length) :
 Calls Tryz.prog 42 #[.slice A bs.length c] w (Parsed (hparse bs) w):=by
 obtain ⟨o,ho⟩:∃ o,bs[0]?=some o:=⟨_,List.getElem?_eq_getElem (by omega)⟩
 have hod:bs.getD 0 0=o:=by rw [List.getD_eq_getElem?_getD,ho];rfl
 rw [hod] at hop
 obtain ⟨b,off,rfl,hB,hc⟩:=hs.by_ (by omega)
 have c0:=hc 0 o ho
 rw [Nat.add_zero] at c0
 obtain ⟨k,hk⟩:∃ k,bs[1]?=some k:=⟨_,List.getElem?_eq_getElem (by omega)⟩
 have hkd:bs.getD 1 0=k:=by rw [List.getD_eq_getElem?_getD,hk];rfl
 have hkn:k=kn:=by rw [← hkd,hkk]
 subst hkn
 have c1:=hc 1 _ hk
 have HC:=hide hc;clear hc
 have HHK:=hide hkk;clear hkk
 have HOD:=hide hod;clear hod ho hkd hk
 obtain ⟨i0,hi,hz0,hz1,hz2⟩:=info_parts rg_info
 subst hop
 have e26:2+kn - 2=kn:=by omega
 have b1:decide ((bs.length:Int)<1)=false:=decide_eq_false (by omega)
 have b2:decide ((bs.length:Int)<2)=false:=decide_eq_false (by omega)
 have b3:decide ((kn:Int)<1)=false:=decide_eq_false (by omega)
 have b4:decide (64<(kn:Int))=false:=decide_eq_false (by omega)
 have b5:decide ((bs.length:Int)<2+kn)=false:=decide_eq_false (by omega)
 go_enter Tryz.func42,Tryz.ntmps42
 go_wp2
 refine wp_scope_fwd 0 rfl ?_
 go_wp2
 rw [e26]
 go_loopw [9,63] (fun _ i wr=>∃ j:Nat,j≤kn∧i=.int .i64 j∧PLoop w 5 ((bs.drop 2).take j) wr)
  (fun _ i _=>kn - (intOf i).toNat)
 case atStart=>exact ⟨0,by omega,rfl,ploop_start w 5⟩
 case round =>
  obtain ⟨j,hj,rfl,v,hv0,hv1,hown,hb⟩:=hrel
  have hz1:=hb.size
  by_cases hlt:j<kn
  · obtain ⟨x,hx⟩:∃ x,bs[2+j]?=some x:=⟨_,List.getElem?_eq_getElem (by omega)⟩
    have cx':=HC.out _ x hx
    rw [← Nat.add_assoc] at cx'
    have cx:=(hb.cell (p:=⟨b,off+2+j,none⟩) hB).trans cx'
    clear cx'
    obtain ⟨hx1,hx2⟩:=hby _ _ hx
    have HX:=hide hx;clear hx
    have d0:=hv1.cell (i:=2) rfl
    have d1:=hv1.frozen 2
    have hlen:(List.take j (List.drop 2 bs)).length=j:=by simp;omega
    have hand:=andNot_128 x hx1 hx2
    have hl1:w.heap.size+1<wr.heap.size:=hv1.lt
    go_wp2_with (at_builtin;refine wpList_append_own _ rfl (.tmp 68) (.tmp 75) 22 rfl (w.heap.size+2) 61 i0 (.agg #[.bool false,.int .i64 0,.slice none 0 0]) 3 40 Tryz.underlying22 hi hz0 ‹_› hz2 rfl (by decide) v _ _ rfl (hown.alloc _) ⟨wr.heap.size,0,none⟩ 1 1 (rgCells [rgOf x]) rfl rfl ?c1 ?c2 ?c3 ?c4 ?c5 ?_;rotate_right;intro v' w1 hown' hgrow _;obtain ⟨g1,cap1,rfl,hg1,hg1',hg2⟩:=own_form hown' (by omega);have hv1':=(hv1.alloc _).grown hgrow (own_ne hown (by omega));have d2:=hv1'.cell (i:=2) rfl;have d3:=hv1'.frozen 2)
    case c1 =>
     intro i u hu
     match i,hu with
     | 0,hu=>simp [rgCells,Rg.cells,rgOf] at hu;subst hu;simp [Addr.add]
     | 1,hu=>simp [rgCells,Rg.cells,rgOf] at hu;subst hu;simp [Addr.add]
     | 2,hu=>simp [rgCells,Rg.cells,rgOf] at hu;subst hu;simp [Addr.add]
    case c2=>intro u hu;simp [rgCells,Rg.cells,rgOf] at hu;rcases hu with rfl | rfl | rfl <;> rfl
    case c3=>rw [hlen];unfold maxLen;omega
    case c4=>rw [hlen];omega
    case c5=>simp;omega
    have hts:List.take (j+1) (List.drop 2 bs)=List.take j (List.drop 2 bs)++[x]:=by
     rw [List.take_add_one,List.getElem?_drop,HX.out];rfl
    have R:=ploop_step hv0 hv1 hown hb (x:=x) (by rw [hlen] at hown' ⊢;exact hown') hgrow
    have HTS:=hide hts
    have HR2:=hide R
    clear hts R hlen hown' hgrow hown hv0 hv1 d0 d1 d2 d3 hv1'
    go_roundw
    case rel=>exact ⟨j+1,by omega,by go_num,by rw [HTS.out];exact HR2.out⟩
    case measure=>simp [intOf];omega
  · have hjk:j=kn:=by omega
    subst hjk
    obtain ⟨A1,cap1,rfl,hcap1⟩:=own_slice hown
    have hlen:(List.take j (List.drop 2 bs)).length=j:=by simp;omega
    have hsl:=Sl.of_own hown
    have d0:=hv1.cell (i:=2) rfl
    go_wp2_with fail
    refine (containsFunc_n _ parse1_enters _ parse1_pred A1 cap1 _ ((List.take j (List.drop 2 bs)).map rgOf) (by rw [List.length_map,hlen]) wr hsl (by rw [List.length_map,hlen];unfold maxLen;omega)).mono ?_
    rintro e w2 ⟨rfl,hb2⟩
    have e0:=(hv0.step hb2)
    have e1:=(hv1.step hb2)
    have hsl2:=hsl.below hb2
    have hbw:Below w.heap.size w w2:=hb.trans (hb2.mono hb.size)
    have c1':=(hbw.cell (p:=⟨b,off+1,none⟩) hB).trans c1
    have f00:=e0.cell (i:=0) rfl
    have f01:=e0.cell (i:=1) rfl
    have f02:=e0.cell (i:=2) rfl
    have f03:=e0.cell (i:=3) rfl
    have z00:=e0.frozen 0
    have z01:=e0.frozen 1
    have z02:=e0.frozen 2
    have z03:=e0.frozen 3
    have f10:=e1.cell (i:=0) rfl
    have f11:=e1.cell (i:=1) rfl
    have f12:=e1.cell (i:=2) rfl
    have f13:=e1.cell (i:=3) rfl
    have z13:=e1.frozen 3
    generalize hq:((List.take j (List.drop 2 bs)).map rgOf).any wrongRg=q
    have HQ:=hide hq;clear hq
    cases q
    · by_cases hl4:(bs.length:Int)<4+j
      · go_wp2
        go_step3
        go_wp2
        refine jump_goto ?_
        unfold AtLabel
        go_wp2
        rw [Exit.noGoto_ret]
        have E:Blk _ w.heap.size 24 #[.int .i64 0,.int .i64 0,.slice none 0 0,.int .i64 0]:=(((e0.set 0 (.int .i64 0)).set 1 (.int .i64 0)).set 2 (.slice none 0 0)).set 3 (.int .i64 0)
        have hr:hparse bs=(phZero,0,4):=by
         unfold hparse
         rw [if_neg (by omega),HOD.out,if_neg (by omega),if_neg (by omega),if_neg (by omega),if_neg (by omega),HHK.out,if_neg (by omega),if_neg (by omega),Int.toNat_natCast,HQ.out,if_neg (by simp),if_neg (by omega),if_pos hl4]
        refine bodyPost_ret (results_hdr rfl rfl E) rfl ⟨none,0,?_,?_,?_⟩
        · rw [hr];rfl
        · rw [hr];exact Sl.nil _ _ _
        · exact (((hbw.setCell (by simp) _).setCell (by simp) _).setCell (by simp) _).setCell (by simp) _
      · obtain ⟨p,hp⟩:∃ p,bs[2+j]?=some p:=⟨_,List.getElem?_eq_getElem (by omega)⟩
        obtain ⟨q,hq⟩:∃ q,bs[3+j]?=some q:=⟨_,List.getElem?_eq_getElem (by omega)⟩
        obtain ⟨hp1,hp2⟩:=hby _ _ hp
        obtain ⟨hq1,hq2⟩:=hby _ _ hq
        have cp:=(hbw.cell (p:=⟨b,off+(2+j),none⟩) hB).trans (HC.out _ p hp)
        have cq:=(hbw.cell (p:=⟨b,off+(3+j),none⟩) hB).trans (HC.out _ q hq)
        have HP:=hide hp;clear hp
        have HQQ:=hide hq;clear hq
        have hor:=or_shift p q hp1 hp2 hq1 hq2
        have hpd:bs.getD (2+j) 0=p:=by rw [List.getD_eq_getElem?_getD,HP.out];rfl
        have hqd:bs.getD (3+j) 0=q:=by rw [List.getD_eq_getElem?_getD,HQQ.out];rfl
        have HPD:=hide hpd;clear hpd
        have HQD:=hide hqd;clear hqd
        go_wp2
        go_region
        by_cases hpt:p+q*256<1∨4096<p+q*256
        · rcases hpt with hpt | hpt
          all_goals
           go_wp2
           go_step3
           go_wp2
           have E:Blk _ w.heap.size 24 #[.int .i64 0,.int .i64 0,.slice none 0 0,.int .i64 0]:=(((((e0.far (p:=⟨w.heap.size+1,3,none⟩) (by simp) (.int .i64 (p+q*256))).drew).set 0 (.int .i64 0)).set 1 (.int .i64 0)).set 2 (.slice none 0 0)).set 3 (.int .i64 0)
           have hr:hparse bs=(phZero,0,6):=by
            unfold hparse
            rw [if_neg (by omega),HOD.out,if_neg (by omega),if_neg (by omega),if_neg (by omega),if_neg (by omega),HHK.out,if_neg (by omega),if_neg (by omega),Int.toNat_natCast,HQ.out,if_neg (by simp),if_neg (by omega),if_neg (by omega),HPD.out,HQD.out,if_pos (by omega)]
           refine bodyPost_ret (results_hdr rfl rfl E) rfl ⟨none,0,?_,?_,?_⟩
           · rw [hr];rfl
           · rw [hr];exact Sl.nil _ _ _
           · exact (((((hbw.setCell (by simp) _).drew).setCell (by simp) _).setCell (by simp) _).setCell (by simp) _).setCell (by simp) _
        · have hpt1:1≤p+q*256:=by omega
          have hpt2:p+q*256≤4096:=by omega
          go_wp2
          have E:Blk _ w.heap.size 24 #[.int .i64 5,.int .i64 0,.slice A1 j cap1,.int .i64 (p+q*256)]:=(((((e0.far (p:=⟨w.heap.size+1,3,none⟩) (by simp) (.int .i64 (p+q*256))).drew).set 0 (.int .i64 5)).set 1 (.int .i64 0)).set 2 (.slice A1 j cap1)).set 3 (.int .i64 (p+q*256))
          have O:=ownsRow_setCell_below (ownsRow_setCell_below (ownsRow_setCell_below (ownsRow_setCell_below (ownsRow_setCell_below (own_step hown hb2) (a:=⟨w.heap.size+1,3,none⟩) (by simp) (.int .i64 (p+q*256))).drew (a:=⟨w.heap.size,0,none⟩) (by simp) (.int .i64 5)) (a:=⟨w.heap.size,1,none⟩) (by simp) (.int .i64 0)) (a:=⟨w.heap.size,2,none⟩) (by simp) (.slice A1 j cap1)) (a:=⟨w.heap.size,3,none⟩) (by simp) (.int .i64 (p+q*256))
          have hr:hparse bs=(PH.mk 5 0 (((bs.drop 2).take j).map rgOf) (p+256*q),4+(j:Int),0):=by
           unfold hparse
           rw [if_neg (by omega),HOD.out,if_neg (by omega),if_neg (by omega),if_neg (by omega),if_neg (by omega),HHK.out,if_neg (by omega),if_neg (by omega),Int.toNat_natCast,HQ.out,if_neg (by simp),if_neg (by omega),if_neg (by omega),HPD.out,HQD.out,if_neg (by omega)]
          refine bodyPost_ret (results_hdr rfl rfl E) rfl ⟨A1,cap1,?_,?_,?_⟩
          · rw [hr];simp only [List.length_map,hlen];rw [Int.mul_comm 256 q];rfl
          · rw [hr];exact Sl.of_own O
          · exact (((((hbw.setCell (by simp) _).drew).setCell (by simp) _).setCell (by simp) _).setCell (by simp) _).setCell (by simp) _
    · go_wp2
      go_step3
      go_wp2
      refine jump_goto ?_
      unfold AtLabel
      go_wp2
      rw [Exit.noGoto_ret]
      have E:Blk _ w.heap.size 24 #[.int .i64 0,.int .i64 0,.slice none 0 0,.int .i64 0]:=(((e0.set 0 (.int .i64 0)).set 1 (.int .i64 0)).set 2 (.slice none 0 0)).set 3 (.int .i64 0)
      have hr:hparse bs=(phZero,0,7):=by
       unfold hparse
       rw [if_neg (by omega),HOD.out,if_neg (by omega),if_neg (by omega),if_neg (by omega),if_neg (by omega),HHK.out,if_neg (by omega),if_neg (by omega),Int.toNat_natCast,HQ.out,if_pos rfl]
      refine bodyPost_ret (results_hdr rfl rfl E) rfl ⟨none,0,?_,?_,?_⟩
      · rw [hr];rfl
      · rw [hr];exact Sl.nil _ _ _
      · exact (((hbw.setCell (by simp) _).setCell (by simp) _).setCell (by simp) _).setCell (by simp) _
end
end
section
open Go.RowKit
section
variable (bs:List Int) (A:Option Addr) (c:Nat) (w:World)
variable (hs:Sl w w.heap.size A (byCells bs)) (hcap:bs.length≤c) (hby:∀ (j:Nat) (x:Int),bs[j]?=some x→0≤x∧x≤255)
include hs hby
include hcap
theorem parse_any :
 Calls Tryz.prog 42 #[.slice A bs.length c] w (Parsed (hparse bs) w):=by
 by_cases h0:bs.length<1
 · exact parse_short bs A c w h0
 have h0':0<bs.length:=by omega
 by_cases h1:bs.getD 0 0=1∨bs.getD 0 0=2
 · exact parse_12 bs A c w hs h0' h1
 by_cases h2:bs.getD 0 0<1∨5<bs.getD 0 0
 · exact parse_bad bs A c w hs hby h0' h2
 by_cases hl:bs.length=1
 · exact parse_one bs A c w hs hl (by omega)
 have hl2:2≤bs.length:=by omega
 by_cases h3:bs.getD 0 0=3
 · by_cases hk:bs.getD 1 0<3∨64<bs.getD 1 0
   · exact parse_3bad bs A c w hs hby hl2 h3 hk
   · exact parse_3ok bs A c w hs hl2 h3 (by omega)
 by_cases hk:bs.getD 1 0<1∨64<bs.getD 1 0
 · exact parse_kbad bs A c w hs hby hl2 (by omega) hk
 by_cases hsh:(bs.length:Int)<2+bs.getD 1 0
 · exact parse_kshort bs A c w hs hl2 (by omega) (by omega) hsh
 obtain ⟨kn,hkn⟩:=Int.eq_ofNat_of_zero_le (show 0≤bs.getD 1 0 by omega)
 by_cases h4:bs.getD 0 0=4
 · exact parse_regions4 bs A c w hs hcap hby kn h4 hkn (by omega) (by omega) (by omega)
 · exact parse_regions5 bs A c w hs hcap hby kn (by omega) hkn (by omega) (by omega) (by omega)
end
end
section
open Go.RowKit
section
variable (bs:List Int) (A:Option Addr) (c:Nat) (w:World)
variable (hs:Sl w w.heap.size A (byCells bs)) (hcap:bs.length≤c) (hby:∀ (j:Nat) (x:Int),bs[j]?=some x→0≤x∧x≤255) (hmax:bs.length≤9223372036854775807)
variable (hfix:Fixed w) (hg:1<w.heap.size)
include hs hcap hby hmax hfix hg
theorem classify_any :
 Calls Tryz.prog 41 #[.slice A bs.length c] w fun e w'=>e=.returned (.int .i64 (hclass bs))∧Below w.heap.size w w':=by
 have hlen:=hparse_len bs
 have hpb:=hpay_bd (hparse bs).1.op (hparse bs).1.vs (hparse bs).1.rs (hparse bs).1.pts
 have hnb:=hparse_n bs
 obtain ⟨v,hv⟩:∃ v,v=hclass bs:=⟨_,rfl⟩
 unfold hclass at hv
 rw [show hclass bs=v from by rw [hv];rfl]
 have P:=parse_any bs A c w hs hcap hby
 revert P hv hlen hpb hnb
 generalize hparse bs=r
 obtain ⟨⟨op,vs,rs,pts⟩,n,er⟩:=r
 intro hlen hpb hnb hv P
 simp only at hlen hpb hnb hv
 have HV:=hide hv;clear hv
 have HP:=hide P;clear P
 have HPB:=hide hpb;clear hpb
 have HNB:=hide hnb;clear hnb
 go_enter Tryz.func41,Tryz.ntmps41
 go_wp2_with fail
 refine HP.out.mono ?_
 rintro e w1 ⟨A1,c1,rfl,hsl,hb1⟩
 simp only at hsl
 by_cases he:er=0
 · subst he
   go_wp2_with fail
   refine (payload_any vs rs A1 c1 pts _ ((hsl.below (bA)).more (by simp)) (by unfold maxLen;omega) (fun j hj=>(World.cell?_alloc_lt _ _ _ (by have:=hb1.size;simp;omega)).trans ((hfix.below hb1 hg) j hj)) (by have:=hb1.size;rw [World.size_alloc];omega) op).mono ?_
   rintro e w2 ⟨rfl,hb2⟩
   obtain ⟨hpb1,hpb2⟩:=HPB.out
   obtain ⟨hnb1,hnb2⟩:=HNB.out
   by_cases hq:(bs.length:Int)=n+hpay op vs rs pts
   · have hq':((bs.length:Int) != n+hpay op vs rs pts)=false:=by rw [bne_eq_false_iff_eq];exact hq
     have HQ:=hide hq;clear hq
     go_wp2
     go_ret
     exact ⟨ret_int (by rw [HV.out,if_pos trivial,if_pos HQ.out]),bl_step (bl_alloc hb1 _) hb2⟩
   · have hq':((bs.length:Int) != n+hpay op vs rs pts)=true:=by rw [bne_iff_ne];exact hq
     have HQ:=hide hq;clear hq
     go_wp2
     go_ret
     exact ⟨ret_int (by rw [HV.out,if_pos trivial,if_neg HQ.out]),bl_step (bl_alloc hb1 _) hb2⟩
 · have he':(er == 0)=false:=by simpa using he
   have HE:=hide he;clear he
   go_wp2
   go_ret
   exact ⟨ret_int (by rw [HV.out,if_neg HE.out]),bl_alloc hb1 _⟩
end
end
end Go.Proofs.YtfljlmleiggmjaaGreatDoor
