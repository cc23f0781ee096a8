/- Format2 -/
import Derived.Test.YtfljlmleiggmjaaGreatDoorPkB02
set_option maxRecDepth 1000000
set_option maxHeartbeats 8000000
namespace Go.Proofs.YtfljlmleiggmjaaGreatDoor
section
open Go.RowKit
section
variable (vs:Int) (rs:List Rg) (A:Option Addr) (c:Nat) (pts:Int) (w:World)
variable (hs:Sl w w.heap.size A (rgCells rs)) (hn:rs.length≤maxLen)
include hs hn
theorem format_3 (hz:hcheck 3 vs rs pts=0) :
 Calls Tryz.prog 35 #[.agg #[.int .i64 3,.int .i64 vs,.slice A rs.length c,.int .i64 pts]] w (Formatted (hformat 3 vs rs pts) w):=by
 have hf:hformat 3 vs rs pts=(fbytes 3 vs rs pts,0):=by unfold hformat;rw [if_pos hz]
 rw [hf]
 obtain ⟨_,_,hv,_,_,hl,_,hp,_⟩:=hcheck_zero hz
 have e1:=hl (by omega);have e3:=hp (by omega)
 obtain ⟨hv1,hv2⟩:=hv rfl
 subst e1 e3
 clear hv hl hp
 have hs':=hide hs;clear hs
 have HF:=hide hf;clear hf
 have HZ:=hide hz;clear hz
 obtain ⟨i0,hi,hz0,hz1,hz2⟩:=info_parts u8_info
 go_enter Tryz.func35,Tryz.ntmps35
 go_wp2_with fail
 refine (check_any vs [] A c 0 _ ((hs'.out.below (bA)).more (by simp)) hn _).mono ?_
 rintro e w1 ⟨rfl,hb⟩
 rw [HZ.out]
 obtain ⟨hcl,hfr⟩:=bcell hb
 have hl:=hb.size
 simp at hl
 have hl2:w.heap.size<w1.heap.size:=by omega
 go_wp2_with (at_builtin;refine wpList_append_own _ rfl (.tmp 22) (.tmp 26) 36 rfl w1.heap.size 5 i0 (.int .u8 0) 1 1 Tryz.underlying36 hi hz0 ‹_› hz2 rfl (by decide) (.slice (some ⟨w1.heap.size,0,none⟩) 1 1) 1 (byCells [3]) rfl ((own_of_blk (Blk.new _ _ _) (Nat.le_refl _) rfl (by unfold maxLen;omega)).alloc _) ⟨w1.heap.size+1,0,none⟩ 1 1 (byCells [vs]) rfl rfl ?c1 ?c2 ?c3 ?c4 ?c5 ?_)
 case c1=>exact blk_cells (Blk.new2 _ _ _ _)
 case c2=>exact byCells_one _
 case c3=>unfold maxLen;omega
 case c4=>omega
 case c5=>simp;omega
 intro v' w2 hown' hgrow _
 have hb2:Below w.heap.size w w2:=(bl_alloc (bl_alloc (bl_step (bA) hb) _) _).grown hgrow (by simp;omega) (fun k hk=>by simp [Value.ownBlock] at hk;omega)
 have B1:=((((Blk.new w 24 #[.int .i64 3,.int .i64 vs,.slice A 0 c,.int .i64 0]).step hb).alloc (.cells #[.int .u8 3] 5)).alloc (.cells #[.int .u8 vs] 5)).grown hgrow (by simp [Value.ownBlock];omega)
 have f0:=B1.cell (i:=0) rfl
 have f1:=B1.cell (i:=2) rfl
 clear hcl hfr
 go_wp2
 refine wp_loop_rounds 1 ?_
 rw [rounds_succ]
 go_wp2
 go_ret2
 exact ⟨v',rfl,own_mono hown' (by omega),hb2⟩
theorem format_4 (hz:hcheck 4 vs rs pts=0) :
 Calls Tryz.prog 35 #[.agg #[.int .i64 4,.int .i64 vs,.slice A rs.length c,.int .i64 pts]] w (Formatted (hformat 4 vs rs pts) w):=by
 have hf:hformat 4 vs rs pts=(fbytes 4 vs rs pts,0):=by unfold hformat;rw [if_pos hz]
 rw [hf]
 obtain ⟨_,_,_,hv,hl,_,hp1,hp,_⟩:=hcheck_zero hz
 have e2:=hv (by omega)
 obtain ⟨hl1,hl2,hw⟩:=hl (by omega)
 have e3:=hp (by omega)
 subst e2 e3
 clear hv hl hp hp1
 have hs':=hide hs;clear hs
 have HF:=hide hf;clear hf
 have HZ:=hide hz;clear hz
 have hvb:∀ r∈rs,0≤r.v∧r.v≤64:=by
  intro r hr
  have h1:=List.any_eq_false.1 hw r hr
  unfold wrongRg sizeOfReg at h1
  by_cases h0:r.v=0
  · omega
  · by_cases h3:3≤r.v∧r.v≤64
    · omega
    · rw [if_neg h0,if_neg h3] at h1;simp at h1
 have HVB:=hide hvb;clear hvb hw
 obtain ⟨i0,hi,hz0,hz1,hz2⟩:=info_parts u8_info
 go_enter Tryz.func35,Tryz.ntmps35
 go_wp2_with fail
 refine (check_any 0 rs A c 0 _ ((hs'.out.below (bA)).more (by simp)) hn _).mono ?_
 rintro e w1 ⟨rfl,hb⟩
 rw [HZ.out]
 obtain ⟨hcl,hfr⟩:=bcell hb
 have hlt:=hb.size
 simp at hlt
 have hlt2:w.heap.size<w1.heap.size:=by omega
 go_wp2_with (at_builtin;refine wpList_append_own _ rfl (.tmp 31) (.tmp 36) 36 rfl w1.heap.size 5 i0 (.int .u8 0) 1 1 Tryz.underlying36 hi hz0 ‹_› hz2 rfl (by decide) (.slice (some ⟨w1.heap.size,0,none⟩) 1 1) 1 (byCells [4]) rfl ((own_of_blk (Blk.new _ _ _) (Nat.le_refl _) rfl (by unfold maxLen;omega)).alloc _) ⟨w1.heap.size+1,0,none⟩ 1 1 (byCells [(rs.length:Int)]) rfl rfl ?c1 ?c2 ?c3 ?c4 ?c5 ?_)
 case c1=>exact blk_cells (Blk.new2 _ _ _ _)
 case c2=>exact byCells_one _
 case c3=>unfold maxLen;omega
 case c4=>omega
 case c5=>simp;omega
 intro v2 w2 hown2 hgrow2 _
 have hb2:Below w.heap.size w w2:=(bl_alloc (bl_alloc (bl_step (bA) hb) _) _).grown hgrow2 (by simp;omega) (fun k hk=>by simp [Value.ownBlock] at hk;omega)
 have hb2':Below w1.heap.size w1 w2:=(bl_alloc (bA) _).grown hgrow2 (by simp;omega) (fun k hk=>by simp [Value.ownBlock] at hk;omega)
 have B2:=((((Blk.new w 24 #[.int .i64 4,.int .i64 0,.slice A rs.length c,.int .i64 0]).step hb).alloc (.cells #[.int .u8 4] 5)).alloc (.cells #[.int .u8 (rs.length:Int)] 5)).grown hgrow2 (by simp [Value.ownBlock];omega)
 have f22:=B2.cell (i:=2) rfl
 have hsl:=hs'.out.below hb2
 clear hcl hfr hgrow2
 go_wp2
 go_loopw [5,7,8,41] (fun v _ _ i wr=>∃ k:Nat,k≤rs.length∧i=.int .i64 k∧wr.ownsRow w1.heap.size 5 1 v (2+k) (byCells ([4,(rs.length:Int)]++(rs.take k).map fbyte))∧Below w1.heap.size w2 wr)
  (fun _ _ _ i _=>rs.length - (intOf i).toNat)
 case atStart=>exact ⟨0,by omega,rfl,by simpa [byCells] using hown2,Below.refl _ _⟩
 case round =>
  obtain ⟨k,hk,rfl,hown,hbr⟩:=hrel
  have hrs:=hbr.size
  have hrs2:=hb2'.size
  by_cases hlt3:k<rs.length
  · obtain ⟨r,hr⟩:∃ r,rs[k]?=some r:=⟨_,List.getElem?_eq_getElem hlt3⟩
    obtain ⟨hr1,hr2⟩:=HVB.out r (List.mem_of_getElem? hr)
    obtain ⟨b,off,rfl,hB,c0,c1,c2⟩:=(hsl.below (hbr.mono (by omega))).rg hr
    have hts:(rs.take (k+1)).map fbyte=(rs.take k).map fbyte++[fbyte r]:=by rw [List.take_add_one,hr];simp
    have HR:=hide hr;clear hr
    have HTS:=hide hts;clear hts
    have hor:=or128 r.v hr1 (by omega)
    obtain ⟨y,hy⟩:∃ y,y=fbyte r:=⟨_,rfl⟩
    cases hd:r.d
    · have hyv:y=r.v:=by rw [hy];unfold fbyte;rw [hd];simp
      rw [hd] at c0
      have HY:=hide hy;clear hy hd
      subst hyv
      go_wp2_with (at_builtin;refine wpList_append_own _ rfl (.tmp 52) (.tmp 54) 36 rfl w1.heap.size 5 i0 (.int .u8 0) 1 1 Tryz.underlying36 hi hz0 ‹_› hz2 rfl (by decide) _ (2+k) (byCells ([4,(rs.length:Int)]++(rs.take k).map fbyte)) rfl ((hown.alloc _).alloc _) ⟨wr.heap.size+1,0,none⟩ 1 1 (byCells [r.v]) rfl rfl ?d1 ?d2 ?d3 ?d4 ?d5 ?_)
      case d1=>exact blk_cells (Blk.new2 _ _ _ _)
      case d2=>exact byCells_one _
      case d3=>unfold maxLen;omega
      case d4=>omega
      case d5=>simp;omega
      intro v3 w3 hown3 hgrow3 _
      have hb3:Below w1.heap.size w2 w3:=((hbr.alloc (by omega) _).alloc (by simp;omega) _).grown hgrow3 (by simp;omega) (fun k hk=>own_base hown hk)
      have hown4:w3.ownsRow w1.heap.size 5 1 v3 (2+(k+1)) (byCells ([4,(rs.length:Int)]++(rs.take (k+1)).map fbyte)):=by
       rw [HTS.out,← HY.out];simp [byCells] at hown3 ⊢;exact hown3
      have HO:=hide hown4
      clear hown3 hown4 hgrow3
      go_wp2
      go_roundw
      case rel=>exact ⟨k+1,by omega,by go_num,HO.out,hb3⟩
      case measure=>simp [intOf];omega
    · have hyv:y=r.v+128:=by rw [hy];unfold fbyte;rw [hd];simp
      rw [hd] at c0
      have HY:=hide hy;clear hy hd
      have HYV:=hide hyv;clear hyv
      go_wp2_with (at_builtin;refine wpList_append_own _ rfl (.tmp 52) (.tmp 54) 36 rfl w1.heap.size 5 i0 (.int .u8 0) 1 1 Tryz.underlying36 hi hz0 ‹_› hz2 rfl (by decide) _ (2+k) (byCells ([4,(rs.length:Int)]++(rs.take k).map fbyte)) rfl ((hown.alloc _).alloc _) ⟨wr.heap.size+1,0,none⟩ 1 1 (byCells [r.v+128]) rfl rfl ?d1 ?d2 ?d3 ?d4 ?d5 ?_)
      case d1=>exact blk_cells (Blk.new2 _ _ _ _)
      case d2=>exact byCells_one _
      case d3=>unfold maxLen;omega
      case d4=>omega
      case d5=>simp;omega
      intro v3 w3 hown3 hgrow3 _
      have hb3:Below w1.heap.size w2 w3:=((hbr.alloc (by omega) _).alloc (by simp;omega) _).grown hgrow3 (by simp;omega) (fun k hk=>own_base hown hk)
      have hown4:w3.ownsRow w1.heap.size 5 1 v3 (2+(k+1)) (byCells ([4,(rs.length:Int)]++(rs.take (k+1)).map fbyte)):=by
       rw [HTS.out,← HY.out,HYV.out];simp [byCells] at hown3 ⊢;exact hown3
      have HO:=hide hown4
      clear hown3 hown4 hgrow3
      go_wp2
      go_roundw
      case rel=>exact ⟨k+1,by omega,by go_num,HO.out,hb3⟩
      case measure=>simp [intOf];omega
  · have hk':k=rs.length:=by omega
    subst hk'
    rw [List.take_length] at hown
    have Br:=B2.below hbr hlt2
    have f0:=Br.cell (i:=0) rfl
    have f3:=Br.cell (i:=3) rfl
    go_wp2
    go_ret2
    refine ⟨_,rfl,?_,hb2.trans (hbr.mono (by omega))⟩
    have h:=own_mono hown (base':=w.heap.size) (by omega)
    have hlf:(fbytes 4 0 rs 0).length=2+rs.length:=by simp [fbytes];omega
    dsimp only
    rw [hlf]
    simp [fbytes,byCells] at h ⊢
    exact h
theorem format_5 (hz:hcheck 5 vs rs pts=0) :
 Calls Tryz.prog 35 #[.agg #[.int .i64 5,.int .i64 vs,.slice A rs.length c,.int .i64 pts]] w (Formatted (hformat 5 vs rs pts) w):=by
 have hf:hformat 5 vs rs pts=(fbytes 5 vs rs pts,0):=by unfold hformat;rw [if_pos hz]
 rw [hf]
 obtain ⟨_,_,_,hv,hl,_,hp1,hp,_⟩:=hcheck_zero hz
 have e2:=hv (by omega)
 obtain ⟨hl1,hl2,hw⟩:=hl (by omega)
 obtain ⟨hp3,hp4⟩:=hp1 rfl
 subst e2
 clear hv hl hp hp1
 have hs':=hide hs;clear hs
 have HF:=hide hf;clear hf
 have HZ:=hide hz;clear hz
 have hvb:∀ r∈rs,0≤r.v∧r.v≤64:=by
  intro r hr
  have h1:=List.any_eq_false.1 hw r hr
  unfold wrongRg sizeOfReg at h1
  by_cases h0:r.v=0
  · omega
  · by_cases h3:3≤r.v∧r.v≤64
    · omega
    · rw [if_neg h0,if_neg h3] at h1;simp at h1
 have HVB:=hide hvb;clear hvb hw
 obtain ⟨i0,hi,hz0,hz1,hz2⟩:=info_parts u8_info
 go_enter Tryz.func35,Tryz.ntmps35
 go_wp2_with fail
 refine (check_any 0 rs A c pts _ ((hs'.out.below (bA)).more (by simp)) hn _).mono ?_
 rintro e w1 ⟨rfl,hb⟩
 rw [HZ.out]
 obtain ⟨hcl,hfr⟩:=bcell hb
 have hlt:=hb.size
 simp at hlt
 have hlt2:w.heap.size<w1.heap.size:=by omega
 go_wp2_with (at_builtin;refine wpList_append_own _ rfl (.tmp 31) (.tmp 36) 36 rfl w1.heap.size 5 i0 (.int .u8 0) 1 1 Tryz.underlying36 hi hz0 ‹_› hz2 rfl (by decide) (.slice (some ⟨w1.heap.size,0,none⟩) 1 1) 1 (byCells [5]) rfl ((own_of_blk (Blk.new _ _ _) (Nat.le_refl _) rfl (by unfold maxLen;omega)).alloc _) ⟨w1.heap.size+1,0,none⟩ 1 1 (byCells [(rs.length:Int)]) rfl rfl ?c1 ?c2 ?c3 ?c4 ?c5 ?_)
 case c1=>exact blk_cells (Blk.new2 _ _ _ _)
 case c2=>exact byCells_one _
 case c3=>unfold maxLen;omega
 case c4=>omega
 case c5=>simp;omega
 intro v2 w2 hown2 hgrow2 _
 have hb2:Below w.heap.size w w2:=(bl_alloc (bl_alloc (bl_step (bA) hb) _) _).grown hgrow2 (by simp;omega) (fun k hk=>by simp [Value.ownBlock] at hk;omega)
 have hb2':Below w1.heap.size w1 w2:=(bl_alloc (bA) _).grown hgrow2 (by simp;omega) (fun k hk=>by simp [Value.ownBlock] at hk;omega)
 have B2:=((((Blk.new w 24 #[.int .i64 5,.int .i64 0,.slice A rs.length c,.int .i64 pts]).step hb).alloc (.cells #[.int .u8 5] 5)).alloc (.cells #[.int .u8 (rs.length:Int)] 5)).grown hgrow2 (by simp [Value.ownBlock];omega)
 have f22:=B2.cell (i:=2) rfl
 have hsl:=hs'.out.below hb2
 clear hcl hfr hgrow2
 go_wp2
 go_loopw [5,7,8,41] (fun v _ _ i wr=>∃ k:Nat,k≤rs.length∧i=.int .i64 k∧wr.ownsRow w1.heap.size 5 1 v (2+k) (byCells ([5,(rs.length:Int)]++(rs.take k).map fbyte))∧Below w1.heap.size w2 wr)
  (fun _ _ _ i _=>rs.length - (intOf i).toNat)
 case atStart=>exact ⟨0,by omega,rfl,by simpa [byCells] using hown2,Below.refl _ _⟩
 case round =>
  obtain ⟨k,hk,rfl,hown,hbr⟩:=hrel
  have hrs:=hbr.size
  have hrs2:=hb2'.size
  by_cases hlt3:k<rs.length
  · obtain ⟨r,hr⟩:∃ r,rs[k]?=some r:=⟨_,List.getElem?_eq_getElem hlt3⟩
    obtain ⟨hr1,hr2⟩:=HVB.out r (List.mem_of_getElem? hr)
    obtain ⟨b,off,rfl,hB,c0,c1,c2⟩:=(hsl.below (hbr.mono (by omega))).rg hr
    have hts:(rs.take (k+1)).map fbyte=(rs.take k).map fbyte++[fbyte r]:=by rw [List.take_add_one,hr];simp
    have HR:=hide hr;clear hr
    have HTS:=hide hts;clear hts
    have hor:=or128 r.v hr1 (by omega)
    obtain ⟨y,hy⟩:∃ y,y=fbyte r:=⟨_,rfl⟩
    cases hd:r.d
    · have hyv:y=r.v:=by rw [hy];unfold fbyte;rw [hd];simp
      rw [hd] at c0
      have HY:=hide hy;clear hy hd
      subst hyv
      go_wp2_with (at_builtin;refine wpList_append_own _ rfl (.tmp 52) (.tmp 54) 36 rfl w1.heap.size 5 i0 (.int .u8 0) 1 1 Tryz.underlying36 hi hz0 ‹_› hz2 rfl (by decide) _ (2+k) (byCells ([5,(rs.length:Int)]++(rs.take k).map fbyte)) rfl ((hown.alloc _).alloc _) ⟨wr.heap.size+1,0,none⟩ 1 1 (byCells [r.v]) rfl rfl ?d1 ?d2 ?d3 ?d4 ?d5 ?_)
      case d1=>exact blk_cells (Blk.new2 _ _ _ _)
      case d2=>exact byCells_one _
      case d3=>unfold maxLen;omega
      case d4=>omega
      case d5=>simp;omega
      intro v3 w3 hown3 hgrow3 _
      have hb3:Below w1.heap.size w2 w3:=((hbr.alloc (by omega) _).alloc (by simp;omega) _).grown hgrow3 (by simp;omega) (fun k hk=>own_base hown hk)
      have hown4:w3.ownsRow w1.heap.size 5 1 v3 (2+(k+1)) (byCells ([5,(rs.length:Int)]++(rs.take (k+1)).map fbyte)):=by
       rw [HTS.out,← HY.out];simp [byCells] at hown3 ⊢;exact hown3
      have HO:=hide hown4
      clear hown3 hown4 hgrow3
      go_wp2
      go_roundw
      case rel=>exact ⟨k+1,by omega,by go_num,HO.out,hb3⟩
      case measure=>simp [intOf];omega
    · have hyv:y=r.v+128:=by rw [hy];unfold fbyte;rw [hd];simp
      rw [hd] at c0
      have HY:=hide hy;clear hy hd
      have HYV:=hide hyv;clear hyv
      go_wp2_with (at_builtin;refine wpList_append_own _ rfl (.tmp 52) (.tmp 54) 36 rfl w1.heap.size 5 i0 (.int .u8 0) 1 1 Tryz.underlying36 hi hz0 ‹_› hz2 rfl (by decide) _ (2+k) (byCells ([5,(rs.length:Int)]++(rs.take k).map fbyte)) rfl ((hown.alloc _).alloc _) ⟨wr.heap.size+1,0,none⟩ 1 1 (byCells [r.v+128]) rfl rfl ?d1 ?d2 ?d3 ?d4 ?d5 ?_)
      case d1=>exact blk_cells (Blk.new2 _ _ _ _)
      case d2=>exact byCells_one _
      case d3=>unfold maxLen;omega
      case d4=>omega
      case d5=>simp;omega
      intro v3 w3 hown3 hgrow3 _
      have hb3:Below w1.heap.size w2 w3:=((hbr.alloc (by omega) _).alloc (by simp;omega) _).grown hgrow3 (by simp;omega) (fun k hk=>own_base hown hk)
      have hown4:w3.ownsRow w1.heap.size 5 1 v3 (2+(k+1)) (byCells ([5,(rs.length:Int)]++(rs.take (k+1)).map fbyte)):=by
       rw [HTS.out,← HY.out,HYV.out];simp [byCells] at hown3 ⊢;exact hown3
      have HO:=hide hown4
      clear hown3 hown4 hgrow3
      go_wp2
      go_roundw
      case rel=>exact ⟨k+1,by omega,by go_num,HO.out,hb3⟩
      case measure=>simp [intOf];omega
  · have hk':k=rs.length:=by omega
    subst hk'
    rw [List.take_length] at hown
    have Br:=B2.below hbr hlt2
    have f0:=Br.cell (i:=0) rfl
    have f3:=Br.cell (i:=3) rfl
    go_wp2_with (at_builtin;refine wpList_append_own _ rfl (.tmp 60) (.tmp 68) 36 rfl w1.heap.size 5 i0 (.int .u8 0) 1 1 Tryz.underlying36 hi hz0 ‹_› hz2 rfl (by decide) _ (2+rs.length) (byCells ([5,(rs.length:Int)]++rs.map fbyte)) rfl (hown.alloc _) ⟨wr.heap.size,0,none⟩ 2 2 (byCells [pts % 256,pts / 256]) rfl rfl ?g1 ?g2 ?g3 ?g4 ?g5 ?_)
    case g1=>exact blk_cells (Blk.new _ _ _)
    case g2=>exact byCells_one _
    case g3=>unfold maxLen;omega
    case g4=>omega
    case g5=>simp;omega
    intro v3 w3 hown3 hgrow3 _
    have hb3:Below w.heap.size w w3:=((hb2.trans (hbr.mono (by omega))).alloc (by omega) _).grown hgrow3 (by simp;omega) (fun k hk=>by have:=own_base hown hk;omega)
    have HO:=hide hown3
    clear hown3 hgrow3
    go_wp2
    go_ret2
    refine ⟨_,rfl,?_,hb3⟩
    have h:=own_mono HO.out (base':=w.heap.size) (by omega)
    have hlf:(fbytes 5 0 rs pts).length=2+rs.length+2:=by simp [fbytes];omega
    dsimp only
    rw [hlf]
    simp [fbytes,byCells] at h ⊢
    exact h
theorem format_any (op:Int) :
 Calls Tryz.prog 35 #[.agg #[.int .i64 op,.int .i64 vs,.slice A rs.length c,.int .i64 pts]] w (Formatted (hformat op vs rs pts) w):=by
 by_cases he:hcheck op vs rs pts=0
 · obtain ⟨h1,h2,_⟩:=hcheck_zero he
   by_cases h3:op=1∨op=2
   · exact format_12 vs rs A c pts w hs hn op h3 he
   by_cases h4:op=3
   · subst h4;exact format_3 vs rs A c pts w hs hn he
   by_cases h5:op=4
   · subst h5;exact format_4 vs rs A c pts w hs hn he
   · have h6:op=5:=by omega
     subst h6;exact format_5 vs rs A c pts w hs hn he
 · exact format_err vs rs A c pts w hs hn op he
end
end
end Go.Proofs.YtfljlmleiggmjaaGreatDoor
