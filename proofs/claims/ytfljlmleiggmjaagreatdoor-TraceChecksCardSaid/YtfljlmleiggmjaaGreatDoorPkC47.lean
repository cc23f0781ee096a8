/- Alive22 LawTrace4 -/
import Derived.Laws.BytesArg
import Derived.Test.YtfljlmleiggmjaaGreatDoorPkC42
import Derived.Test.YtfljlmleiggmjaaGreatDoorPkC45
import Derived.Test.YtfljlmleiggmjaaGreatDoorPkC46
set_option maxRecDepth 1000000
set_option maxHeartbeats 8000000
namespace Go.Proofs.YtfljlmleiggmjaaGreatDoor
section
open Go.RowKit Go.Shelf
section
variable (bs:List Int) (A:Option Addr) (c:Nat) (w:World)
variable (hs:Sl w w.heap.size A (byCells bs)) (hcap:bs.length≤c) (hby:∀ (j:Nat) (x:Int),bs[j]?=some x→0≤x∧x≤255) (hmax:bs.length≤9223372036854775807)
variable (hfix:Fixed w) (hg:1<w.heap.size)
include hs hcap hby hmax hfix hg
theorem tCheck_bad (hc:hclass bs≠0):Calls Tryz.prog 17 #[.slice A bs.length c] w fun e w'=>e=.returned (.tuple #[.int .i64 0,.int .i64 (hclass bs)])∧Below w.heap.size w w':=by
 have HC:=hide (classify_any bs A c w hs hcap hby hmax hfix hg)
 obtain ⟨E,hE⟩:∃ E,E=hclass bs:=⟨_,rfl⟩
 rw [← hE] at HC hc ⊢
 have hne:(E != 0)=true:=by simpa using hc
 clear hs hcap hby hmax hfix hg hE
 go_enter Tryz.func17,Tryz.ntmps17
 go_wp2_with fail
 refine HC.out.mono ?_
 rintro e w1 ⟨rfl,hb1⟩
 have HB:=hide hb1
 clear hb1 HC
 go_wp2
 go_ret2
 exact ⟨rfl,HB.out⟩
end
def rs0:List Rg:=[⟨false,0,none,0,0⟩]
theorem txt_dig {n:Nat} (h:n<10):txt (n:Int)=[UInt8.ofNat (48+n)]:=by
 unfold txt dgB
 rw [if_neg (by omega),Int.natAbs_natCast,dr_small h];rfl
theorem al_ev4:trEv 4 0 rs0 0=[(7,0,0),(4,0,2),(7,0,1),(6,0,0)]:=by decide +kernel
theorem al_fmt:strOf (fmtT [(7,0,0),(4,0,2),(7,0,1),(6,0,0)])={ data:=#[97,48,44,48,32,101,48,44,50,32,97,48,44,49,32,99] }:=by
 have h0:txt 0=[48]:=txt_dig (n:=0) (by decide)
 have h1:txt 1=[49]:=txt_dig (n:=1) (by decide)
 have h2:txt 2=[50]:=txt_dig (n:=2) (by decide)
 have e:fmtT [(7,0,0),(4,0,2),(7,0,1),(6,0,0)]=[97,48,44,48,32,101,48,44,50,32,97,48,44,49,32,99]:=by
  simp [fmtT,txtE,h0,h1,h2,lettB]
 rw [e];rfl
theorem al_ck5:hcheck 5 0 rs0 2=0∧hcheck 4 0 rs0 0=0:=by decide +kernel
theorem al_ev5:(trEv 5 0 rs0 2).length=11:=by
 have h:trEv 5 0 rs0 2=evB rs0 2:=by unfold trEv;rw [if_pos al_ck5.1];rfl
 rw [h,evB_len,netw_124.2.1]
 decide +kernel
theorem alive22 (w:World) (hfix:Fixed w) (hg:1<w.heap.size) (hp:PT w):Calls Tryz.prog 11 #[] w fun e w'=>e=.returned (.bool true)∧Below w.heap.size w w':=by
 have HX:Hid (∀ (w':World) (A:Option Addr) (c:Nat),Sl w' w'.heap.size A [.bool false,.int .i64 0,.slice none 0 0]→Calls Tryz.prog 12 #[.agg #[.int .i64 4,.int .i64 0,.slice A 1 c,.int .i64 0]] w' fun e w2 =>
  ∃ v,e=.returned (.tuple #[v,.int .i64 0])∧w2.ownsRow w'.heap.size 66 3 v 4 (evCs [(7,0,0),(4,0,2),(7,0,1),(6,0,0)])∧Below w'.heap.size w' w2):=hide fun w' A c hs=>by
  have h:=tExpected_any 4 0 0 rs0 A c w' hs (by decide) (by rw [al_ev4];decide)
  rw [al_ev4,al_ck5.2] at h
  exact h
 have HCt:Hid (∀ (w':World) (A:Option Addr) (c:Nat),Sl w' w'.heap.size A [.bool false,.int .i64 0,.slice none 0 0]→Calls Tryz.prog 14 #[.agg #[.int .i64 5,.int .i64 0,.slice A 1 c,.int .i64 2]] w' fun e w2 =>
  e=.returned (.tuple #[.int .i64 11,.int .i64 0])∧Below w'.heap.size w' w2):=hide fun w' A c hs=>by
  have h:=tCount_any 5 0 2 rs0 A c w' hs (by decide) (by rw [al_ev5];decide)
  rw [al_ev5,al_ck5.1] at h
  exact h
 have HCk:Hid (∀ (w':World),Below w.heap.size w w'→Calls Tryz.prog 17 #[.slice none 0 0] w' fun e w2=>e=.returned (.tuple #[.int .i64 0,.int .i64 4])∧Below w'.heap.size w' w2):=hide fun w' hb=>by
  have h:=tCheck_bad [] none 0 w' (Sl.nil _ _ _) (by decide) (fun j x h=>by simp at h) (by decide) (hfix.below hb hg) (Nat.lt_of_lt_of_le hg hb.size) (by decide)
  exact h
 have HFm:Hid (∀ (w':World) (A:Option Addr) (c:Nat),Below w.heap.size w w'→Sl w' w'.heap.size A (evCs [(7,0,0),(4,0,2),(7,0,1),(6,0,0)])→Calls Tryz.prog 19 #[.slice A 4 c] w' fun e w2=>e=.returned (.string { data:=#[97,48,44,48,32,101,48,44,50,32,97,48,44,49,32,99] })∧Below w'.heap.size w' w2):=hide fun w' A c hb hs=>by
  have h:=tFormat_any [(7,0,0),(4,0,2),(7,0,1),(6,0,0)] (by
   intro e he
   simp only [List.mem_cons,List.not_mem_nil,or_false] at he
   rcases he with rfl | rfl | rfl | rfl <;> (unfold EvJ I64w;decide)) (by decide) A c w' hs (hp.step hb)
  rw [al_fmt] at h
  exact h
 clear hfix hg hp
 go_enter Tryz.func11,Tryz.ntmps11
 have hb1:=bl_alloc (Below.refl w.heap.size w) (.cells #[.bool false,.int .i64 0,.slice none 0 0] 61)
 have N1:=Blk.new w 61 #[.bool false,.int .i64 0,.slice none 0 0]
 have X1:=hide (HX.out _ (some ⟨w.heap.size,0,none⟩) 1 (.inr ⟨w.heap.size,0,rfl,N1.lt,fun j u hu=>by rw [Nat.zero_add];exact N1.cell (by simpa using hu)⟩))
 have HB1:=hide hb1
 clear N1 hb1 HX
 go_wp2_with fail
 refine X1.out.mono ?_
 rintro e w2 ⟨v,rfl,hown2,hb2⟩
 obtain ⟨A2,c2,rfl,_⟩:=own_slice hown2
 have HB2:=hide (bl_step HB1.out hb2)
 have S2:=hide (Sl.of_own hown2)
 have hb3:=bl_alloc (Below.refl w2.heap.size w2) (.cells #[.bool false,.int .i64 0,.slice none 0 0] 61)
 have N3:=Blk.new w2 61 #[.bool false,.int .i64 0,.slice none 0 0]
 have X3:=hide (HCt.out _ (some ⟨w2.heap.size,0,none⟩) 1 (.inr ⟨w2.heap.size,0,rfl,N3.lt,fun j u hu=>by rw [Nat.zero_add];exact N3.cell (by simpa using hu)⟩))
 have HB3:=hide (bl_step HB2.out hb3)
 have S3:=hide ((S2.out.below hb3).more hb3.size)
 clear hown2 hb2 hb3 N3 X1 HCt
 go_wp2_with fail
 refine X3.out.mono ?_
 rintro e w4 ⟨rfl,hb4⟩
 have HB4:=hide (bl_step HB3.out hb4)
 have S4:=hide ((S3.out.below hb4).more hb4.size)
 clear hb4 X3
 go_wp2_with fail
 refine (HCk.out w4 HB4.out).mono ?_
 rintro e w5 ⟨rfl,hb5⟩
 have HB5:=hide (bl_step HB4.out hb5)
 have F5:=hide (HFm.out w5 A2 c2 HB5.out ((S4.out.below hb5).more hb5.size))
 clear hb5
 go_wp2_with fail
 refine F5.out.mono ?_
 rintro e w6 ⟨rfl,hb6⟩
 have HB6:=hide (bl_step HB5.out hb6)
 clear hb6
 go_wp2
 go_ret
 exact ⟨rfl,HB6.out⟩
end
section
open Go.RowKit Go.Shelf
section
variable (bs:List Int) (A:Option Addr) (c:Nat) (w:World)
variable (hs:Sl w w.heap.size A (byCells bs)) (hcap:bs.length≤c) (hby:By bs) (hfix:Fixed w) (hg:1<w.heap.size) (hw:MW w) (hp:PT w)
include hs hcap hby hfix hg hw hp
theorem lawChecks22:Calls Tryz.prog 4 #[.slice A bs.length c] w fun e w'=>e=.returned (.bool true)∧Below w.heap.size w w':=by
 have hby':∀ (j:Nat) (x:Int),bs[j]?=some x→0≤x∧x≤255:=fun j x hj=>hby x (List.mem_of_getElem? hj)
 have HK:=hide (skipB21 bs A c w hs hby)
 have HAL:=hide (fun (w':World) (hb:Below w.heap.size w w')=>alive22 w' (hfix.below hb hg) (Nat.lt_of_lt_of_le hg hb.size) (hp.step hb))
 have HRC:=hide (fun (w':World) (hb:Below w.heap.size w w') (hmax:bs.length≤6000)=>rclassify_any bs A c w' ((hs.below hb).more hb.size) hby')
 have HOK:=hide (fun (w':World) (hb:Below w.heap.size w w') (hmax:bs.length≤6000) (h100:(hdecode bs).1.qs.length≤100) (hc:hclass bs=0)=>tCheck_ok bs A c w' ((hs.below hb).more hb.size) hcap hby (by omega) (hfix.below hb hg) (Nat.lt_of_lt_of_le hg hb.size) (hw.step hb) (lg_100e h100) (serveEv_len bs hby h100) hc)
 have HBAD:=hide (fun (w':World) (hb:Below w.heap.size w w') (hmax:bs.length≤6000) (hc:hclass bs≠0)=>tCheck_bad bs A c w' ((hs.below hb).more hb.size) hcap hby' (by omega) (hfix.below hb hg) (Nat.lt_of_lt_of_le hg hb.size) hc)
 obtain ⟨E,hE⟩:∃ E,E=hclass bs:=⟨_,rfl⟩
 rw [← hE] at HRC HOK HBAD
 clear hs hcap hby hby' hfix hg hw hp hE
 go_enter Tryz.func4,Tryz.ntmps4
 go_wp2_with fail
 refine HK.out.mono ?_
 rintro e w1 ⟨z,rfl,hz,hT,HB1⟩
 rcases hz with rfl | rfl
 · obtain ⟨h6,hq100⟩:=hT rfl
   by_cases hc:E=0
   · have C1:=hide (HOK.out w1 HB1 h6 hq100 hc)
     have HRC1:=hide (fun (w':World) (hb:Below w.heap.size w w')=>HRC.out w' hb h6)
     subst hc
     clear hT h6 hq100 HOK HBAD HK HRC
     go_wp2_with fail
     refine C1.out.mono ?_
     rintro e w2 ⟨rfl,hb2⟩
     have HB2:=bl_step HB1 hb2
     clear hb2 C1
     go_wp2_with fail
     refine (HRC1.out w2 HB2).mono ?_
     rintro e w3 ⟨rfl,hb3⟩
     have HB3:=bl_step HB2 hb3
     clear hb3 HRC1
     go_wp2_with fail
     refine (HAL.out w3 HB3).mono ?_
     rintro e w4 ⟨rfl,hb4⟩
     go_wp2
     go_ret
     exact ⟨rfl,bl_step HB3 hb4⟩
   · have C1:=hide (HBAD.out w1 HB1 h6 hc)
     have HRC1:=hide (fun (w':World) (hb:Below w.heap.size w w')=>HRC.out w' hb h6)
     have hne:(E != 0)=true:=by simpa using hc
     clear hT h6 hq100 HOK HBAD HK HRC
     go_wp2_with fail
     refine C1.out.mono ?_
     rintro e w2 ⟨rfl,hb2⟩
     have HB2:=bl_step HB1 hb2
     clear hb2 C1
     go_wp2_with fail
     refine (HRC1.out w2 HB2).mono ?_
     rintro e w3 ⟨rfl,hb3⟩
     have HB3:=bl_step HB2 hb3
     clear hb3 HRC1
     go_wp2_with fail
     refine (HAL.out w3 HB3).mono ?_
     rintro e w4 ⟨rfl,hb4⟩
     go_wp2
     go_ret
     exact ⟨by simp,bl_step HB3 hb4⟩
 · clear HOK HBAD HRC
   go_wp2_with fail
   refine (HAL.out w1 HB1).mono ?_
   rintro e w5 ⟨rfl,hb5⟩
   go_wp2
   go_ret
   exact ⟨rfl,bl_step HB1 hb5⟩
end
end
end Go.Proofs.YtfljlmleiggmjaaGreatDoor
