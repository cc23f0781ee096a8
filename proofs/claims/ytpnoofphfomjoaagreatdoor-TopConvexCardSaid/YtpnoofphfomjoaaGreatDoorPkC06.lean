/- TopCvx -/
import Derived.Test.YtpnoofphfomjoaaGreatDoorPkM16
import Derived.Test.YtpnoofphfomjoaaGreatDoorPkM25
import Derived.Test.YtpnoofphfomjoaaGreatDoorPkM40
import Derived.Test.YtpnoofphfomjoaaGreatDoorPkC04
import Derived.Test.YtpnoofphfomjoaaGreatDoorPkC05
set_option maxRecDepth 1000000
set_option maxHeartbeats 8000000
namespace Go.Proofs.YtpnoofphfomjoaaGreatDoor
open List (getElem_toArray getElem_cons_succ getElem_cons_zero setIfInBounds_toArray set_cons_zero set_cons_succ)
section
open Go.RowKit Go.Shelf
theorem own_leP {w:World} {base base':Nat} {e:TypeId} {size n:Nat} {v:Value} {xs:List Value} (h:w.ownsRow base e size v n xs) (hb:base'≤base):w.ownsRow base' e size v n xs :=
 ⟨h.1,h.2.imp id fun ⟨g,cap,cur,a,b,r⟩=>⟨g,cap,cur,a,Nat.le_trans hb b,r⟩⟩
theorem ptCs_len (ps:List Pt):(ptCs ps).length=ps.length*2:=flat_length (fun p:Pt=>[Value.int .i64 p.1,.int .i64 p.2]) 2 (fun _=>rfl) ps
theorem ptCs_one (ps:List Pt):∀ u∈ptCs ps,u.oneCell'=true:=by
 intro u hu
 unfold ptCs at hu
 obtain ⟨e,_,he⟩:=List.mem_flatMap.1 hu
 simp at he
 rcases he with rfl | rfl <;> rfl
theorem ptCs_app (a b:List Pt):ptCs (a++b)=ptCs a++ptCs b:=by simp [ptCs]
theorem cloneP (ps:List Pt) (A:Option Addr) (c:Nat) (w:World) (hs:Sl w w.heap.size A (ptCs ps)) (hp:0<ps.length) (hn:ps.length≤100000) :
 Calls Tryz.prog 85 #[.slice A ps.length c] w fun e w'=>∃ v,e=.returned v∧w'.ownsRow w.heap.size 69 2 v ps.length (ptCs ps)∧Below w.heap.size w w':=by
 have hnil:∀ (w:World) (a:Option Addr) (n c n' c':Nat),(binOp .eql 25 (.slice a n c) (.slice none n' c')).run Tryz.prog w=.ok (.bool a.isNone) w:=fun w a n c n' c'=>Lib.run_eql_slice_nil w 25 69 a n c n' c' Tryz.underlying25
 obtain ⟨b,off,rfl,hlt⟩:=sl_pts hs hp
 have hbz:=bl_alloc (Below.refl w.heap.size w) (.cells #[] 69)
 obtain ⟨v3,w3,hrun,hown,hbl⟩:=appSlP (.slice (some ⟨w.heap.size,0,none⟩) 0 0) 0 ps.length [] (ptCs ps) (some ⟨b,off,none⟩) ps.length w.heap.size (w.alloc (.cells #[] 69)) (own_of_blk (xs:=[]) (Blk.new _ _ _) (Nat.le_refl _) rfl (by unfold maxLen;omega)) ((hs.below hbz).more hbz.size) (ptCs_len ps) (ptCs_one ps) (by omega) hbz.size
 rw [Nat.zero_add,List.nil_append] at hown
 have HO:=hide hown
 have HB:=hbl w hbz (Nat.le_refl _)
 clear hs hbl hbz hown
 go_enter Tryz.func85,Tryz.ntmps85
 go_wp2_with (at_builtin;refine wpList_append_run (.tmp 5) (.tmp 6) 25 rfl rfl _ _ rfl rfl hrun ?_)
 clear hrun
 go_wp2
 go_ret
 exact ⟨_,rfl,HO.out,HB⟩
theorem convex_req (ps:List Pt) (A:Option Addr) (c:Nat) (p:Pt) (w:World) (hs:Sl w w.heap.size A (ptCs ps)) (h3:3≤ps.length) (h64:ps.length≤64) :
 Calls Tryz.prog 40 #[.slice A ps.length c,.agg #[.int .i64 p.1,.int .i64 p.2]] w (Enc (hencode 3 ps.length [] 0 [] (ps++[p]) []).1 w):=by
 have hmix:Tryz.prog.follows .mixedOrders=true:=by kernel_rfl
 have HC:=hide (fun (w':World) (hb:Below w.heap.size w w')=>cloneP ps A c w' ((hs.below hb).more hb.size) (by omega) (by omega))
 have HR:=hide (fun (w':World) (PA:Option Addr) (pc:Nat) (hq:Sl w' w'.heap.size PA (ptCs (ps++[p])))=>request_any 3 ps.length 0 [] none 0 [] none 0 (ps++[p]) PA pc [] none 0 w' (Sl.nil _ _ _) (Sl.nil _ _ _) (fun g hg=>by cases hg) hq (Sl.nil _ _ _) (fun q hq=>by cases hq))
 obtain ⟨E,hE⟩:∃ E,E=(hencode 3 ps.length [] 0 [] (ps++[p]) []).1:=⟨_,rfl⟩
 rw [← hE] at HR ⊢
 have hl1:(ps++[p]).length=ps.length+1:=by simp
 rw [hl1] at HR
 have HAP:Hid (ptCs (ps++[p])=ptCs ps++[.int .i64 p.1,.int .i64 p.2]):=hide (by rw [ptCs_app];rfl)
 rw [HAP.out] at HR
 have HLN:=hide (ptCs_len ps)
 obtain ⟨px,py⟩:=p
 dsimp only at HR ⊢
 obtain ⟨w0,hw0⟩:∃ w0,w0=w.alloc (.cells #[.int .i64 px,.int .i64 py] 69):=⟨_,rfl⟩
 have hb0:Below w.heap.size w w0:=by rw [hw0];exact bA
 have B0:Blk w0 w.heap.size 69 #[.int .i64 px,.int .i64 py]:=by rw [hw0];exact Blk.new _ _ _
 clear hE hs hl1 HAP
 refine (callsIn_wide (n:=6)).1 ?_
 refine callsIn_of_wp Tryz.func40 rfl trivial ?_ rfl
 simp only [Tryz.ntmps40,List.size_toArray,List.length_cons,List.length_nil,Nat.reduceAdd,Nat.reduceSub,Array.replicate_succ,Array.replicate_zero,List.push_toArray,List.append_toArray,List.nil_append,List.cons_append]
 gi_wp2_with fail
 rw [← hw0]
 clear hw0
 have hS:Blk w0.drew w.heap.size 69 #[.int .i64 px,.int .i64 py]:=B0.drew
 have HB0:=bl_drew hb0
 have HD0:=Below.refl w0.drew.heap.size w0.drew
 refine startH 1000 (S:=fun w'=>Blk w' w.heap.size 69 #[.int .i64 px,.int .i64 py]) hmix ?_
 refine' takeH (i:=0) (v:=_) (noDefer_of (by kernel_rfl)) rfl (by kernel_rfl) (by kernel_rfl) (by kernel_rfl) (fun _ _ _ h=>h) (by kernel_rfl) ⟨Or.inl ⟨by rfl,?hy0k1⟩,fun _=>rfl⟩ hS ?rest0k1
 case hy0k1 =>
  intro w' hSw
  go_simp
  rfl
 simp only [Act.put,getElem_toArray,getElem_cons_zero,setIfInBounds_toArray,set_cons_zero,set_cons_succ]
 refine' takeH (i:=1) (v:=_) (noDefer_of (by kernel_rfl)) rfl (by kernel_rfl) (by kernel_rfl) (by kernel_rfl) (fun _ _ _ h=>h) (by kernel_rfl) ⟨Or.inl ⟨by rfl,?hy1k2⟩,fun _=>rfl⟩ hS ?rest1k2
 case hy1k2 =>
  intro w' hSw
  go_simp
  rfl
 simp only [Act.put,getElem_toArray,getElem_cons_succ,getElem_cons_zero,setIfInBounds_toArray,set_cons_zero,set_cons_succ]
 refine' takeH (i:=2) (v:=_) (noDefer_of (by kernel_rfl)) rfl (by kernel_rfl) (by kernel_rfl) (by kernel_rfl) (fun _ _ _ h=>h) (by kernel_rfl) ⟨Or.inl ⟨by rfl,?hy2k3⟩,fun _=>rfl⟩ hS ?rest2k3
 case hy2k3 =>
  intro w' hSw
  go_simp
  rfl
 simp only [Act.put,getElem_toArray,getElem_cons_succ,getElem_cons_zero,setIfInBounds_toArray,set_cons_zero,set_cons_succ]
 refine' takeH (i:=3) (v:=_) (noDefer_of (by kernel_rfl)) rfl (by kernel_rfl) (by kernel_rfl) (by kernel_rfl) (fun _ _ _ h=>h) (by kernel_rfl) ⟨Or.inl ⟨by rfl,?hy3k4⟩,fun _=>rfl⟩ hS ?rest3k4
 case hy3k4 =>
  intro w' hSw
  go_simp
  rfl
 simp only [Act.put,getElem_toArray,getElem_cons_succ,getElem_cons_zero,setIfInBounds_toArray,set_cons_zero,set_cons_succ]
 refine' takeH (i:=5) (v:=_) (noDefer_of (by kernel_rfl)) rfl (by kernel_rfl) (by kernel_rfl) (by kernel_rfl) (fun _ _ _ h=>h) (by kernel_rfl) ⟨Or.inl ⟨by rfl,?hy5k5⟩,fun _=>rfl⟩ hS ?rest5k5
 case hy5k5 =>
  intro w' hSw
  have z0:=hSw.cell (i:=0) rfl
  have z1:=hSw.cell (i:=1) rfl
  go_simp
  rfl
 simp only [Act.put,getElem_toArray,getElem_cons_succ,getElem_cons_zero,setIfInBounds_toArray,set_cons_zero,set_cons_succ]
 refine twoH (i:=4) (j:=6) (by kernel_rfl) rfl rfl ?first ?second
 case first =>
  intro K hK
  rw [if_pos (by rfl)]
  go_simp
  refine ⟨trivial,?_⟩
  refine (callsIn_wide.2 (HC.out w0.drew HB0)).mono ?_
  rintro e w1 ⟨v,rfl,hown1,hb1⟩
  have hS1:=hS.step hb1
  have hb2:=bl_alloc (Below.refl w1.heap.size w1) (.cells #[.int .i64 px,.int .i64 py] 69)
  have hown2:=hide (own_step hown1 hb2)
  have HO1:=hide hown1
  refine hK.out _ _ (fun _=>hS1) ?_
  clear hK K hown1
  (try simp only [Act.put,getElem_toArray,getElem_cons_succ,getElem_cons_zero,setIfInBounds_toArray,set_cons_zero,set_cons_succ])
  refine oneH (i:=6) (by kernel_rfl) rfl ?_
  intro K hK
  rw [if_pos (by rfl)]
  go_simp
  have hS2:=hS1.step hb2
  have HD2:=bl_step hb1 hb2
  have src:=slb (Blk.new w1 69 #[.int .i64 px,.int .i64 py])
  refine hK.out _ _ (fun _=>hS2) ?_
  clear hK K
  (try simp only [Act.put,getElem_toArray,getElem_cons_succ,getElem_cons_zero,setIfInBounds_toArray,set_cons_zero,set_cons_succ])
  obtain ⟨sA,hsA⟩:∃ sA:Option Addr,sA=some ⟨w1.heap.size,0,none⟩:=⟨_,rfl⟩
  obtain ⟨w2,hw2⟩:∃ w2,w2=w1.alloc (.cells #[.int .i64 px,.int .i64 py] 69):=⟨_,rfl⟩
  rw [← hsA] at src
  rw [← hw2] at src hS2 HD2 hown2
  have HO2:=hown2.out
  rw [← hsA,← hw2]
  clear hw2 hown2
  obtain ⟨v5,w5,hrun,hown5,hbl5⟩:=appSlP v ps.length 1 (ptCs ps) [.int .i64 px,.int .i64 py] sA 1 w0.drew.heap.size w2 HO2 src rfl (by simp [Value.oneCell']) (by omega) HD2.size
  have hd5:=hbl5 w0.drew HD2 (Nat.le_refl _)
  have hS5:=hS.step hd5
  have HB5:=bl_step HB0 hd5
  obtain ⟨CA,cc,rfl,hcc⟩:=own_slice hown5
  have R5:=hide (HR.out w5 CA cc (Sl.of_own hown5))
  clear hown5 hbl5
  refine oneH (i:=7) (by kernel_rfl) rfl ?_
  intro K hK
  rw [if_pos (by rfl)]
  refine wpIn_append_of (.tmp 9) (.tmp 11) 25 rfl _ _ rfl rfl hrun ?_
  refine hK.out _ _ (fun _=>hS5) ?_
  clear hK K hrun
  (try simp only [Act.put,getElem_toArray,getElem_cons_succ,getElem_cons_zero,setIfInBounds_toArray,set_cons_zero,set_cons_succ])
  refine' takeH (i:=8) (v:=_) (noDefer_of (by kernel_rfl)) rfl (by kernel_rfl) (by kernel_rfl) (by kernel_rfl) (fun _ _ _ h=>h) (by kernel_rfl) ⟨Or.inl ⟨by rfl,?hy8k6⟩,fun _=>rfl⟩ hS5 ?rest8k6
  case hy8k6 =>
   intro w' hSw
   go_simp
   rfl
  simp only [Act.put,getElem_toArray,getElem_cons_succ,getElem_cons_zero,setIfInBounds_toArray,set_cons_zero,set_cons_succ]
  refine oneH (i:=9) (by kernel_rfl) rfl ?_
  intro K hK
  rw [if_pos (by rfl)]
  go_simp
  refine ⟨trivial,?_⟩
  refine (callsIn_wide.2 R5.out).mono ?_
  rintro e w6 ⟨A6,c6,rfl,hc6,hs6,hb6⟩
  have hS6:=hS5.step hb6
  have HB6:=bl_step HB5 hb6
  refine hK.out _ _ (fun _=>hS6) ?_
  clear hK K R5
  (try simp only [Act.put,getElem_toArray,getElem_cons_succ,getElem_cons_zero,setIfInBounds_toArray,set_cons_zero,set_cons_succ])
  refine' takeH (i:=10) (v:=_) (noDefer_of (by kernel_rfl)) rfl (by kernel_rfl) (by kernel_rfl) (by kernel_rfl) (fun _ _ _ h=>h) (by kernel_rfl) ⟨Or.inl ⟨by rfl,?hy10k7⟩,fun _=>rfl⟩ hS6 ?rest10k7
  case hy10k7 =>
   intro w' hSw
   go_simp
   rfl
  simp only [Act.put,getElem_toArray,getElem_cons_succ,getElem_cons_zero,setIfInBounds_toArray,set_cons_zero,set_cons_succ]
  refine doneH (by kernel_rfl) ?_ _
  gi_wp2
  go_ret
  exact ⟨A6,c6,rfl,hc6,hs6,HB6⟩
 case second =>
  intro K hK
  rw [if_pos (by rfl)]
  go_simp
  have hb1:=bl_alloc (Below.refl w0.drew.heap.size w0.drew) (.cells #[.int .i64 px,.int .i64 py] 69)
  have hS1:=hS.step hb1
  have N1:=Blk.new w0.drew 69 #[.int .i64 px,.int .i64 py]
  refine hK.out _ _ (fun _=>hS1) ?_
  clear hK K
  (try simp only [Act.put,getElem_toArray,getElem_cons_succ,getElem_cons_zero,setIfInBounds_toArray,set_cons_zero,set_cons_succ])
  refine oneH (i:=4) (by kernel_rfl) rfl ?_
  intro K hK
  rw [if_pos (by rfl)]
  go_simp
  refine ⟨trivial,?_⟩
  refine (callsIn_wide.2 (HC.out _ (bl_step HB0 hb1))).mono ?_
  rintro e w2 ⟨v,rfl,hown2,hb2⟩
  have hS2:=hS1.step hb2
  have HD2:=bl_step hb1 hb2
  have HO2:=own_leP hown2 hb1.size
  refine hK.out _ _ (fun _=>hS2) ?_
  clear hK K hown2
  (try simp only [Act.put,getElem_toArray,getElem_cons_succ,getElem_cons_zero,setIfInBounds_toArray,set_cons_zero,set_cons_succ])
  obtain ⟨sA,hsA⟩:∃ sA:Option Addr,sA=some ⟨w0.heap.size,0,none⟩:=⟨_,rfl⟩
  have src:Sl w2 w2.heap.size sA [.int .i64 px,.int .i64 py]:=by rw [hsA];exact slb (N1.step hb2)
  rw [← hsA]
  obtain ⟨v5,w5,hrun,hown5,hbl5⟩:=appSlP v ps.length 1 (ptCs ps) [.int .i64 px,.int .i64 py] sA 1 w0.drew.heap.size w2 HO2 src rfl (by simp [Value.oneCell']) (by omega) HD2.size
  have hd5:=hbl5 w0.drew HD2 (Nat.le_refl _)
  have hS5:=hS.step hd5
  have HB5:=bl_step HB0 hd5
  obtain ⟨CA,cc,rfl,hcc⟩:=own_slice hown5
  have R5:=hide (HR.out w5 CA cc (Sl.of_own hown5))
  clear hown5 hbl5
  refine oneH (i:=7) (by kernel_rfl) rfl ?_
  intro K hK
  rw [if_pos (by rfl)]
  refine wpIn_append_of (.tmp 9) (.tmp 11) 25 rfl _ _ rfl rfl hrun ?_
  refine hK.out _ _ (fun _=>hS5) ?_
  clear hK K hrun
  (try simp only [Act.put,getElem_toArray,getElem_cons_succ,getElem_cons_zero,setIfInBounds_toArray,set_cons_zero,set_cons_succ])
  refine' takeH (i:=8) (v:=_) (noDefer_of (by kernel_rfl)) rfl (by kernel_rfl) (by kernel_rfl) (by kernel_rfl) (fun _ _ _ h=>h) (by kernel_rfl) ⟨Or.inl ⟨by rfl,?hy8k8⟩,fun _=>rfl⟩ hS5 ?rest8k8
  case hy8k8 =>
   intro w' hSw
   go_simp
   rfl
  simp only [Act.put,getElem_toArray,getElem_cons_succ,getElem_cons_zero,setIfInBounds_toArray,set_cons_zero,set_cons_succ]
  refine oneH (i:=9) (by kernel_rfl) rfl ?_
  intro K hK
  rw [if_pos (by rfl)]
  go_simp
  refine ⟨trivial,?_⟩
  refine (callsIn_wide.2 R5.out).mono ?_
  rintro e w6 ⟨A6,c6,rfl,hc6,hs6,hb6⟩
  have hS6:=hS5.step hb6
  have HB6:=bl_step HB5 hb6
  refine hK.out _ _ (fun _=>hS6) ?_
  clear hK K R5
  (try simp only [Act.put,getElem_toArray,getElem_cons_succ,getElem_cons_zero,setIfInBounds_toArray,set_cons_zero,set_cons_succ])
  refine' takeH (i:=10) (v:=_) (noDefer_of (by kernel_rfl)) rfl (by kernel_rfl) (by kernel_rfl) (by kernel_rfl) (fun _ _ _ h=>h) (by kernel_rfl) ⟨Or.inl ⟨by rfl,?hy10k9⟩,fun _=>rfl⟩ hS6 ?rest10k9
  case hy10k9 =>
   intro w' hSw
   go_simp
   rfl
  simp only [Act.put,getElem_toArray,getElem_cons_succ,getElem_cons_zero,setIfInBounds_toArray,set_cons_zero,set_cons_succ]
  refine doneH (by kernel_rfl) ?_ _
  gi_wp2
  go_ret
  exact ⟨A6,c6,rfl,hc6,hs6,HB6⟩
end
end Go.Proofs.YtpnoofphfomjoaaGreatDoor
