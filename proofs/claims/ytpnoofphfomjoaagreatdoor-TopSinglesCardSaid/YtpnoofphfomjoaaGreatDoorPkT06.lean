/- TopMember -/
import Derived.Test.YtpnoofphfomjoaaGreatDoorPkM13
import Derived.Test.YtpnoofphfomjoaaGreatDoorPkM16
import Derived.Test.YtpnoofphfomjoaaGreatDoorPkM40
import Derived.Test.YtpnoofphfomjoaaGreatDoorPkT05
set_option maxRecDepth 1000000
set_option maxHeartbeats 8000000
namespace Go.Proofs.YtpnoofphfomjoaaGreatDoor
open List (getElem_toArray getElem_cons_succ getElem_cons_zero setIfInBounds_toArray set_cons_zero set_cons_succ)
section
open Go.RowKit Go.Shelf
theorem member_any (gs:List Gr) (GA:Option Addr) (gc:Nat) (p:Pt) (w:World) (hg:Sl w w.heap.size GA (rgCells (gs.map (·.1)))) (hk:GsOk w w.heap.size gs) (hn:gs.length≤1000) :
 Calls Tryz.prog 46 #[.slice GA gs.length gc,.agg #[.int .i64 p.1,.int .i64 p.2]] w (Enc (hencode 4 0 (gs.map pubR) 0 gs [p] []).1 w):=by
 have hmix:Tryz.prog.follows .mixedOrders=true:=by kernel_rfl
 have HP:=hide (fun (w':World) (hb:Below w.heap.size w w')=>public_any (gs.map (·.1)) GA gc w' ((hg.below hb).more hb.size) (by rw [List.length_map];exact hn))
 have HR:=hide (fun (w':World) (hb:Below w.heap.size w w') (PA:Option Addr) (pc:Nat) (hs:Sl w' w'.heap.size PA (rgCells (gs.map pubR))) (QA:Option Addr) (hq:Sl w' w'.heap.size QA (ptCs [p]))=>request_any 4 0 0 (gs.map pubR) PA pc gs GA gc [p] QA 1 [] none 0 w' hs ((hg.below hb).more hb.size) (fun g hg=>⟨(hk g hg).1,((hk g hg).2.below hb).more hb.size⟩) hq (Sl.nil _ _ _) (fun q hq=>by cases hq))
 obtain ⟨E,hE⟩:∃ E,E=(hencode 4 0 (gs.map pubR) 0 gs [p] []).1:=⟨_,rfl⟩
 rw [← hE] at HR ⊢
 rw [List.length_map,← pubR_map] at HP
 rw [List.length_map] at HR
 obtain ⟨px,py⟩:=p
 have hpc:ptCs [(px,py)]=[.int .i64 px,.int .i64 py]:=rfl
 rw [hpc] at HR
 dsimp only at HR ⊢
 obtain ⟨w0,hw0⟩:∃ w0,w0=w.alloc (.cells #[.int .i64 px,.int .i64 py] 69):=⟨_,rfl⟩
 have hb0:Below w.heap.size w w0:=by rw [hw0];exact bA
 have B0:Blk w0 w.heap.size 69 #[.int .i64 px,.int .i64 py]:=by rw [hw0];exact Blk.new _ _ _
 clear hE hg hk hpc
 refine (callsIn_wide (n:=6)).1 ?_
 refine callsIn_of_wp Tryz.func46 rfl trivial ?_ rfl
 simp only [Tryz.ntmps46,List.size_toArray,List.length_cons,List.length_nil,Nat.reduceAdd,Nat.reduceSub,Array.replicate_succ,Array.replicate_zero,List.push_toArray,List.append_toArray,List.nil_append,List.cons_append]
 gi_wp2_with fail
 rw [← hw0]
 clear hw0
 have hS:Blk w0.drew w.heap.size 69 #[.int .i64 px,.int .i64 py]:=B0.drew
 have HB0:=bl_drew hb0
 refine startH 1000 (S:=fun w'=>Blk w' w.heap.size 69 #[.int .i64 px,.int .i64 py]) hmix ?_
 refine' takeH (i:=0) (v:=_) (noDefer_of (by kernel_rfl)) rfl (by kernel_rfl) (by kernel_rfl) (by kernel_rfl) (fun _ _ _ h=>h) (by kernel_rfl) ⟨Or.inl ⟨by rfl,?hy0k1⟩,fun _=>rfl⟩ hS ?rest0k1
 case hy0k1 =>
  intro w' hSw
  go_simp
  rfl
 simp only [Act.put,getElem_toArray,getElem_cons_zero,setIfInBounds_toArray,set_cons_zero,set_cons_succ]
 refine' takeH (i:=3) (v:=_) (noDefer_of (by kernel_rfl)) rfl (by kernel_rfl) (by kernel_rfl) (by kernel_rfl) (fun _ _ _ h=>h) (by kernel_rfl) ⟨Or.inl ⟨by rfl,?hy3k2⟩,fun _=>rfl⟩ hS ?rest3k2
 case hy3k2 =>
  intro w' hSw
  go_simp
  rfl
 simp only [Act.put,getElem_toArray,getElem_cons_succ,getElem_cons_zero,setIfInBounds_toArray,set_cons_zero,set_cons_succ]
 refine' takeH (i:=4) (v:=_) (noDefer_of (by kernel_rfl)) rfl (by kernel_rfl) (by kernel_rfl) (by kernel_rfl) (fun _ _ _ h=>h) (by kernel_rfl) ⟨Or.inl ⟨by rfl,?hy4k3⟩,fun _=>rfl⟩ hS ?rest4k3
 case hy4k3 =>
  intro w' hSw
  have z0:=hSw.cell (i:=0) rfl
  have z1:=hSw.cell (i:=1) rfl
  go_simp
  rfl
 simp only [Act.put,getElem_toArray,getElem_cons_succ,getElem_cons_zero,setIfInBounds_toArray,set_cons_zero,set_cons_succ]
 refine twoH (i:=1) (j:=5) (by kernel_rfl) rfl rfl ?first ?second
 case first =>
  intro K hK
  rw [if_pos (by rfl)]
  go_simp
  refine ⟨trivial,?_⟩
  refine (callsIn_wide.2 (HP.out w0.drew HB0)).mono ?_
  rintro e w1 ⟨PA,pc,rfl,hs1,hb1⟩
  have hS1:=hS.step hb1
  have HB1:=bl_step HB0 hb1
  have HS1:=hide hs1
  refine hK.out _ _ (fun _=>hS1) ?_
  clear hK K hs1
  (try simp only [Act.put,getElem_toArray,getElem_cons_succ,getElem_cons_zero,setIfInBounds_toArray,set_cons_zero,set_cons_succ])
  refine' takeH (i:=2) (v:=_) (noDefer_of (by kernel_rfl)) rfl (by kernel_rfl) (by kernel_rfl) (by kernel_rfl) (fun _ _ _ h=>h) (by kernel_rfl) ⟨Or.inl ⟨by rfl,?hy2k4⟩,fun _=>rfl⟩ hS1 ?rest2k4
  case hy2k4 =>
   intro w' hSw
   go_simp
   rfl
  simp only [Act.put,getElem_toArray,getElem_cons_succ,getElem_cons_zero,setIfInBounds_toArray,set_cons_zero,set_cons_succ]
  refine oneH (i:=5) (by kernel_rfl) rfl ?_
  intro K hK
  rw [if_pos (by rfl)]
  go_simp
  have hS2:=hS1.alloc (.cells #[.int .i64 px,.int .i64 py] 69)
  have hb2:=bl_alloc (Below.refl w1.heap.size w1) (.cells #[.int .i64 px,.int .i64 py] 69)
  have HB2:=bl_step HB1 hb2
  have R2:=hide (HR.out _ HB2 PA pc ((HS1.out.below hb2).more hb2.size) (some ⟨w1.heap.size,0,none⟩) (slb (Blk.new _ _ _)))
  refine hK.out _ _ (fun _=>hS2) ?_
  clear hK K
  (try simp only [Act.put,getElem_toArray,getElem_cons_succ,getElem_cons_zero,setIfInBounds_toArray,set_cons_zero,set_cons_succ])
  refine' takeH (i:=6) (v:=_) (noDefer_of (by kernel_rfl)) rfl (by kernel_rfl) (by kernel_rfl) (by kernel_rfl) (fun _ _ _ h=>h) (by kernel_rfl) ⟨Or.inl ⟨by rfl,?hy6k5⟩,fun _=>rfl⟩ hS2 ?rest6k5
  case hy6k5 =>
   intro w' hSw
   go_simp
   rfl
  simp only [Act.put,getElem_toArray,getElem_cons_succ,getElem_cons_zero,setIfInBounds_toArray,set_cons_zero,set_cons_succ]
  refine oneH (i:=7) (by kernel_rfl) rfl ?_
  intro K hK
  rw [if_pos (by rfl)]
  go_simp
  refine ⟨trivial,?_⟩
  refine (callsIn_wide.2 R2.out).mono ?_
  rintro e w3 ⟨A3,c3,rfl,hc3,hs3,hb3⟩
  have hS3:=hS2.step hb3
  have HB3:=bl_step HB2 hb3
  refine hK.out _ _ (fun _=>hS3) ?_
  clear hK K R2
  (try simp only [Act.put,getElem_toArray,getElem_cons_succ,getElem_cons_zero,setIfInBounds_toArray,set_cons_zero,set_cons_succ])
  refine' takeH (i:=8) (v:=_) (noDefer_of (by kernel_rfl)) rfl (by kernel_rfl) (by kernel_rfl) (by kernel_rfl) (fun _ _ _ h=>h) (by kernel_rfl) ⟨Or.inl ⟨by rfl,?hy8k6⟩,fun _=>rfl⟩ hS3 ?rest8k6
  case hy8k6 =>
   intro w' hSw
   go_simp
   rfl
  simp only [Act.put,getElem_toArray,getElem_cons_succ,getElem_cons_zero,setIfInBounds_toArray,set_cons_zero,set_cons_succ]
  refine doneH (by kernel_rfl) ?_ _
  gi_wp2
  go_ret
  exact ⟨A3,c3,rfl,hc3,hs3,HB3⟩
 case second =>
  intro K hK
  rw [if_pos (by rfl)]
  go_simp
  have hS1:=hS.alloc (.cells #[.int .i64 px,.int .i64 py] 69)
  have hb1:=bl_alloc (Below.refl w0.drew.heap.size w0.drew) (.cells #[.int .i64 px,.int .i64 py] 69)
  have HB1:=bl_step HB0 hb1
  have N1:=Blk.new w0.drew 69 #[.int .i64 px,.int .i64 py]
  refine hK.out _ _ (fun _=>hS1) ?_
  clear hK K
  (try simp only [Act.put,getElem_toArray,getElem_cons_succ,getElem_cons_zero,setIfInBounds_toArray,set_cons_zero,set_cons_succ])
  refine oneH (i:=1) (by kernel_rfl) rfl ?_
  intro K hK
  rw [if_pos (by rfl)]
  go_simp
  refine ⟨trivial,?_⟩
  refine (callsIn_wide.2 (HP.out _ HB1)).mono ?_
  rintro e w2 ⟨PA,pc,rfl,hs2,hb2⟩
  have hS2:=hS1.step hb2
  have HB2:=bl_step HB1 hb2
  have R2:=hide (HR.out _ HB2 PA pc hs2 (some ⟨w0.drew.heap.size,0,none⟩) (slb (N1.step hb2)))
  refine hK.out _ _ (fun _=>hS2) ?_
  clear hK K hs2
  (try simp only [Act.put,getElem_toArray,getElem_cons_succ,getElem_cons_zero,setIfInBounds_toArray,set_cons_zero,set_cons_succ])
  refine' takeH (i:=2) (v:=_) (noDefer_of (by kernel_rfl)) rfl (by kernel_rfl) (by kernel_rfl) (by kernel_rfl) (fun _ _ _ h=>h) (by kernel_rfl) ⟨Or.inl ⟨by rfl,?hy2k7⟩,fun _=>rfl⟩ hS2 ?rest2k7
  case hy2k7 =>
   intro w' hSw
   go_simp
   rfl
  simp only [Act.put,getElem_toArray,getElem_cons_succ,getElem_cons_zero,setIfInBounds_toArray,set_cons_zero,set_cons_succ]
  refine' takeH (i:=6) (v:=_) (noDefer_of (by kernel_rfl)) rfl (by kernel_rfl) (by kernel_rfl) (by kernel_rfl) (fun _ _ _ h=>h) (by kernel_rfl) ⟨Or.inl ⟨by rfl,?hy6k8⟩,fun _=>rfl⟩ hS2 ?rest6k8
  case hy6k8 =>
   intro w' hSw
   go_simp
   rfl
  simp only [Act.put,getElem_toArray,getElem_cons_succ,getElem_cons_zero,setIfInBounds_toArray,set_cons_zero,set_cons_succ]
  refine oneH (i:=7) (by kernel_rfl) rfl ?_
  intro K hK
  rw [if_pos (by rfl)]
  go_simp
  refine ⟨trivial,?_⟩
  refine (callsIn_wide.2 R2.out).mono ?_
  rintro e w3 ⟨A3,c3,rfl,hc3,hs3,hb3⟩
  have hS3:=hS2.step hb3
  have HB3:=bl_step HB2 hb3
  refine hK.out _ _ (fun _=>hS3) ?_
  clear hK K R2
  (try simp only [Act.put,getElem_toArray,getElem_cons_succ,getElem_cons_zero,setIfInBounds_toArray,set_cons_zero,set_cons_succ])
  refine' takeH (i:=8) (v:=_) (noDefer_of (by kernel_rfl)) rfl (by kernel_rfl) (by kernel_rfl) (by kernel_rfl) (fun _ _ _ h=>h) (by kernel_rfl) ⟨Or.inl ⟨by rfl,?hy8k9⟩,fun _=>rfl⟩ hS3 ?rest8k9
  case hy8k9 =>
   intro w' hSw
   go_simp
   rfl
  simp only [Act.put,getElem_toArray,getElem_cons_succ,getElem_cons_zero,setIfInBounds_toArray,set_cons_zero,set_cons_succ]
  refine doneH (by kernel_rfl) ?_ _
  gi_wp2
  go_ret
  exact ⟨A3,c3,rfl,hc3,hs3,HB3⟩
end
end Go.Proofs.YtpnoofphfomjoaaGreatDoor
