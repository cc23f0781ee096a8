/- TraceExp3 ObMath21 TraceCheck -/
import Derived.Test.YtfljlmleiggmjaaGreatDoorPkC41
set_option maxRecDepth 1000000
set_option maxHeartbeats 8000000
namespace Go.Proofs.YtfljlmleiggmjaaGreatDoor
section
open Go.RowKit Go.Shelf
theorem expected_any (op vs pts:Int) (rs:List Rg) (HA:Option Addr) (hc:Nat) (P:Nat→Prop) (w:World) (hP:∀ k,P k→k<w.heap.size) (hs:SlP w P HA (rgCells rs)) (hz:hcheck op vs rs pts=0) :
 Calls Tryz.prog 37 #[.agg #[.int .i64 op,.int .i64 vs,.slice HA rs.length hc,.int .i64 pts]] w (GaveSeq P (evH21 op vs rs pts) w):=by
 obtain ⟨o1,o2,c3,c4,c5,c6,c7,_⟩:=hcheck_zero hz
 unfold evH21
 by_cases h5:op=5
 · subst h5
   rw [if_pos rfl]
   obtain ⟨l1,l64,hwr⟩:=c5 (by omega)
   obtain ⟨p1,p2⟩:=c7 rfl
   obtain ⟨n,rfl⟩:∃ n:Nat,pts=(n:Int):=⟨pts.toNat,by omega⟩
   have hok:=rg_sizes hwr
   have h:=expected_5 vs rs HA hc P w hP hs (by omega) hok n (by omega) (by omega)
   obtain ⟨r1,r2⟩:=regs_flat hok
   rw [← r1,← r2,← cntEv_flat] at h
   have e:evB rs (n:Int).toNat=hvEv 0 rs++(((List.range n).flatMap fun (i:Nat)=>(8,(i:Int),0)::hmEv 0 rs)++(cntEv n++(pairEv (netw (lg n))++[]))):=by
    unfold evB hitemEv
    rw [Int.toNat_natCast,List.append_nil,List.append_assoc,List.append_assoc]
   rw [e]
   exact h
 · rw [if_neg h5]
   unfold evH
   by_cases h3:op=3
   · subst h3
     rw [if_pos rfl]
     obtain ⟨v1,v2⟩:=c3 rfl
     obtain ⟨n,rfl⟩:∃ n:Nat,vs=(n:Int):=⟨vs.toNat,by omega⟩
     obtain ⟨r1,r2⟩:=poly_flat (n:=n) (by omega)
     rw [Int.toNat_natCast,r1,r2]
     exact expected_3 pts rs HA hc P w n (by omega) (by omega)
   · rw [if_neg h3]
     by_cases h4:op=4
     · subst h4
       rw [if_pos rfl]
       obtain ⟨l1,l64,hwr⟩:=c5 (by omega)
       have hok:=rg_sizes hwr
       obtain ⟨r1,r2⟩:=regs_flat hok
       rw [r1,r2]
       exact expected_4 vs pts rs HA hc P w hP hs (by omega) hok
     · rw [if_neg h4]
       exact expected_other op vs pts rs HA hc P w h3 h4 h5
theorem tcollect_any (K:Nat→Prop) (fv:Value) (es:List Ev) (w:World) (hK:∀ k,K k→k<w.heap.size) (hev:EvSeq K fv es w) (hlen:es.length≤2000000) :
 Calls Tryz.prog 36 #[fv] w fun e w'=>∃ v,e=.returned v∧w'.ownsRow w.heap.size 66 3 v es.length (evCs es)∧Below w.heap.size w w':=by
 have HA:=hide (appendSeq_any K fv es w hK hev hlen)
 clear hK hev
 go_enter Tryz.func36,Tryz.ntmps36
 go_wp2_with fail
 refine HA.out.mono ?_
 rintro e w' ⟨v,rfl,h1,h2⟩
 have H1:=hide h1;have H2:=hide h2
 clear h1 h2 HA
 go_wp2
 go_ret
 exact ⟨v,rfl,H1.out,H2.out⟩
def trEv (op vs:Int) (rs:List Rg) (pts:Int):List Ev:=if hcheck op vs rs pts=0 then evH21 op vs rs pts else []
section
variable (op vs pts:Int) (rs:List Rg) (HA:Option Addr) (hc:Nat) (w:World) (hs:Sl w w.heap.size HA (rgCells rs)) (hn:rs.length≤maxLen) (hlen:(trEv op vs rs pts).length≤2000000)
include hs hn hlen
theorem tExpected_any:Calls Tryz.prog 12 #[.agg #[.int .i64 op,.int .i64 vs,.slice HA rs.length hc,.int .i64 pts]] w fun e w' =>
 ∃ v,e=.returned (.tuple #[v,.int .i64 (hcheck op vs rs pts)])∧w'.ownsRow w.heap.size 66 3 v (trEv op vs rs pts).length (evCs (trEv op vs rs pts))∧Below w.heap.size w w':=by
 obtain ⟨w0,hw0⟩:∃ w0,w0=w.alloc (.cells #[.int .i64 op,.int .i64 vs,.slice HA rs.length hc,.int .i64 pts] 24):=⟨_,rfl⟩
 have hb0:Below w.heap.size w w0:=by rw [hw0];exact bA
 have N0:Blk w0 w.heap.size 24 #[.int .i64 op,.int .i64 vs,.slice HA rs.length hc,.int .i64 pts]:=by rw [hw0];exact Blk.new _ _ _
 have HFM:=hide (format_any vs rs HA hc pts w0 ((hs.below hb0).more hb0.size) hn op)
 have b0:=N0.cell (i:=0) rfl
 have b1:=N0.cell (i:=1) rfl
 have b2:=N0.cell (i:=2) rfl
 have b3:=N0.cell (i:=3) rfl
 by_cases hz:hcheck op vs rs pts=0
 · have ht:trEv op vs rs pts=evH21 op vs rs pts:=if_pos hz
   rw [ht] at hlen ⊢
   have hf:(hformat op vs rs pts).2=0:=by unfold hformat;rw [if_pos hz]
   have HX:=hide (fun (w':World) (hb:Below w.heap.size w w')=>expected_any op vs pts rs HA hc (fun k=>k<w'.heap.size) w' (fun _ h=>h) (((hs.below hb).more hb.size).slP fun _ h=>h) hz)
   obtain ⟨ev,hev⟩:∃ ev,ev=evH21 op vs rs pts:=⟨_,rfl⟩
   rw [← hev] at hlen HX ⊢
   have HLEN:=hide hlen
   rw [hz]
   clear hs hn hlen hz ht hev
   rw [hw0] at b0 b1 b2 b3 HFM
   go_enter Tryz.func12,Tryz.ntmps12
   go_wp2_with fail
   refine HFM.out.mono ?_
   rw [← hw0]
   rintro e w1 ⟨fv,rfl,-,hb1⟩
   rw [hf]
   have HB1:=hide (bl_step hb0 hb1)
   have N1:=N0.step hb1
   clear b0 b1 b2 b3 N0 hb0 hb1 HFM hw0 hf
   have b0:=N1.cell (i:=0) rfl
   have b1:=N1.cell (i:=1) rfl
   have b2:=N1.cell (i:=2) rfl
   have b3:=N1.cell (i:=3) rfl
   clear N1
   go_wp2_with fail
   refine (HX.out w1 HB1.out).mono ?_
   rintro e w2 ⟨sv,K,rfl,hb2,hK,hes⟩
   have C:=hide (tcollect_any K sv ev w2 (fun k hk=>(hK k hk).elim (fun h=>Nat.lt_of_lt_of_le h hb2.size) fun h=>h.2) hes HLEN.out)
   have HB2:=hide (bl_step HB1.out hb2)
   clear hb2 hK hes b0 b1 b2 b3
   go_wp2_with fail
   refine C.out.mono ?_
   rintro e w3 ⟨v,rfl,hown,hb3⟩
   have HO:Hid (w3.ownsRow w.heap.size 66 3 v ev.length (evCs ev)):=hide ⟨hown.1,by
    rcases hown.2 with h0 | ⟨g',cap,cur,h1,h2,r⟩
    · exact .inl h0
    · exact .inr ⟨g',cap,cur,h1,Nat.le_trans HB2.out.size h2,r⟩⟩
   have HB3:=hide (bl_step HB2.out hb3)
   clear hown hb3 C
   go_wp2
   go_ret2
   exact ⟨v,rfl,HO.out,HB3.out⟩
 · have ht:trEv op vs rs pts=[]:=if_neg hz
   rw [ht]
   have hf:(hformat op vs rs pts).2=hcheck op vs rs pts:=by unfold hformat;rw [if_neg hz]
   obtain ⟨er,her⟩:∃ er,er=hcheck op vs rs pts:=⟨_,rfl⟩
   rw [← her] at hz hf ⊢
   have hne:(er != 0)=true:=by simpa using hz
   clear hs hn hlen hz ht her
   rw [hw0] at b0 b1 b2 b3 HFM
   go_enter Tryz.func12,Tryz.ntmps12
   go_wp2_with fail
   refine HFM.out.mono ?_
   rw [← hw0]
   rintro e w1 ⟨fv,rfl,-,hb1⟩
   rw [hf]
   have HB1:=hide (bl_step hb0 hb1)
   clear b0 b1 b2 b3 N0 hb0 hb1 HFM hw0 hf
   go_wp2
   go_ret2
   exact ⟨_,rfl,World.ownsRow_nil _ _ _ _,HB1.out⟩
theorem tCount_any:Calls Tryz.prog 14 #[.agg #[.int .i64 op,.int .i64 vs,.slice HA rs.length hc,.int .i64 pts]] w fun e w' =>
 e=.returned (.tuple #[.int .i64 ((trEv op vs rs pts).length:Int),.int .i64 (hcheck op vs rs pts)])∧Below w.heap.size w w':=by
 obtain ⟨w0,hw0⟩:∃ w0,w0=w.alloc (.cells #[.int .i64 op,.int .i64 vs,.slice HA rs.length hc,.int .i64 pts] 24):=⟨_,rfl⟩
 have hb0:Below w.heap.size w w0:=by rw [hw0];exact bA
 have N0:Blk w0 w.heap.size 24 #[.int .i64 op,.int .i64 vs,.slice HA rs.length hc,.int .i64 pts]:=by rw [hw0];exact Blk.new _ _ _
 have HE:=hide (tExpected_any op vs pts rs HA hc w0 ((hs.below hb0).more hb0.size) hn hlen)
 have b0:=N0.cell (i:=0) rfl
 have b1:=N0.cell (i:=1) rfl
 have b2:=N0.cell (i:=2) rfl
 have b3:=N0.cell (i:=3) rfl
 obtain ⟨ev,hev⟩:∃ ev,ev=trEv op vs rs pts:=⟨_,rfl⟩
 obtain ⟨er,her⟩:∃ er,er=hcheck op vs rs pts:=⟨_,rfl⟩
 rw [← hev,← her] at HE ⊢
 have HB0:=hide hb0
 clear hs hn hlen hev her N0 hb0
 rw [hw0] at b0 b1 b2 b3 HE
 go_enter Tryz.func14,Tryz.ntmps14
 go_wp2_with fail
 refine HE.out.mono ?_
 rw [← hw0]
 rintro e w1 ⟨v,rfl,hown,hb1⟩
 obtain ⟨A,c,rfl,_⟩:=own_slice hown
 have HB1:=hide (bl_step HB0.out hb1)
 clear b0 b1 b2 b3 hb1 HE hw0 hown
 go_wp2
 go_ret2
 exact ⟨rfl,HB1.out⟩
end
end
section
open Go.RowKit
theorem FreshT.keep {w w':World} {u:Nat × Nat} {Q:Nat→Prop} (h:FreshT w (some u)) (hk:KeepP Q w w') (h1:Q u.1) (h2:Q u.2):FreshT w' (some u):=by
 obtain ⟨a,b⟩:=h
 refine ⟨a.kept hk h1,?_⟩
 obtain ⟨es',clock,hb,F,hs,hD⟩:=b
 exact ⟨es',clock,(hk.block u.2 h2).trans hb,F,hs,hD⟩
end
section
open Go.RowKit Go.Shelf
attribute [local go_sem] Oper.semAt_some
theorem keep_below {P:Nat→Prop} {w w1 w2:World} (h:KeepP P w1 w2) (hb:Below w.heap.size w w1) (hP:∀ k,k<w.heap.size→P k):Below w.heap.size w w2 :=
 ⟨h.os.trans hb.os,h.tape.trans hb.tape,h.output.trans hb.output,Nat.le_trans hb.size h.size,fun k hk=>(h.block k (hP k hk)).trans (hb.block k hk)⟩
section
variable (bs:List Int) (A:Option Addr) (c:Nat) (w:World)
variable (hs:Sl w w.heap.size A (byCells bs)) (hcap:bs.length≤c) (hby:By bs) (hmax:bs.length≤300000)
variable (hfix:Fixed w) (hg:1<w.heap.size) (hw:MW w)
variable (hl:4161*(hdecode bs).1.qs.length+(netw (lg (hdecode bs).1.qs.length)).length≤600000) (hel:(serveEv bs).length≤1000000)
include hs hcap hby hmax hfix hg hw hl hel
theorem tCheck_ok (hc:hclass bs=0):Calls Tryz.prog 17 #[.slice A bs.length c] w fun e w'=>e=.returned (.tuple #[.int .i64 (-1),.int .i64 0])∧Below w.heap.size w w':=by
 obtain ⟨heq,hz,-⟩:=serveEv_head hby hc
 have HC:=hide (classify_any bs A c w hs hcap (fun j x hj=>hby x (List.mem_of_getElem? hj)) (by omega) hfix hg)
 rw [hc] at HC
 have HP:=hide (fun (w':World) (hb:Below w.heap.size w w')=>parse_any bs A c w' ((hs.below hb).more hb.size) hcap (fun j x hj=>hby x (List.mem_of_getElem? hj)))
 have HTR:=hide (fun (w':World) (hb:Below w.heap.size w w') (t:Option (Nat × Nat)) (hf:FreshT w' t)=>traced_any t bs A c w' ((hs.below hb).more hb.size) hcap hby hmax (hfix.below hb hg) (Nat.lt_of_lt_of_le hg hb.size) (hw.step hb) hf (.inr hl))
 obtain ⟨⟨op,vs,rs,pts⟩,n,er,hr⟩:∃ h:PH,∃ n er,hparse bs=(h,n,er):=⟨_,_,_,rfl⟩
 rw [hr] at heq hz HP
 dsimp only at heq hz HP
 obtain ⟨ev,hev⟩:∃ ev,ev=serveEv bs:=⟨_,rfl⟩
 have HX:=hide (fun (w':World) (P:Nat→Prop) (HA:Option Addr) (hc:Nat) (hP:∀ k,P k→k<w'.heap.size) (hs:SlP w' P HA (rgCells rs))=>expected_any op vs pts rs HA hc P w' hP hs hz)
 rw [← heq,← hev] at HX
 have HSB:Hid (∀ t w' e w2,Served t bs w' e w2→∃ v,e=.returned v∧KeepP (NT t w'.heap.size) w' w2∧Tp w2 (NT t w'.heap.size) t ev):=hide fun t w' e w2 h=>by
  obtain ⟨A,c,he,_,hk,ht,_⟩:=h
  rw [hev]
  exact ⟨_,he,hk,ht⟩
 have HEL:Hid (ev.length≤1000000):=hide (by rw [hev];exact hel)
 clear hs hcap hby hmax hfix hg hw hl hel heq hz hr hev hc
 refine (callsIn_wide (n:=6)).1 ?_
 refine callsIn_of_wp_marks Tryz.func17 rfl trivial ?_ rfl
 simp only [Tryz.ntmps17,List.size_toArray,List.length_cons,List.length_nil,Nat.reduceAdd,Nat.reduceSub,Array.replicate_succ,Array.replicate_zero,List.push_toArray,List.append_toArray,List.nil_append,List.cons_append]
 gi_wp2_with fail
 refine ⟨trivial,?_⟩
 refine (callsIn_wide.2 HC.out).mono ?_
 rintro e w1 ⟨rfl,hb1⟩
 have HB1:=hide hb1
 clear hb1 HC
 gi_wp2_with fail
 refine ⟨trivial,?_⟩
 refine (callsIn_wide.2 (HP.out w1 HB1.out)).mono ?_
 rintro e w2 ⟨HA,hc,rfl,hs2,hb2⟩
 have HB2:=hide (bl_step HB1.out hb2)
 have HS2:=hide hs2
 clear hb2 hs2 HB1 HP
 obtain ⟨w3,hw3⟩:∃ w3,w3=w2.alloc (.cells #[.int .i64 op,.int .i64 vs,.slice HA rs.length hc,.int .i64 pts] 24):=⟨_,rfl⟩
 have hb3:Below w2.heap.size w2 w3:=by rw [hw3];exact bA
 have N3:Blk w3 w2.heap.size 24 #[.int .i64 op,.int .i64 vs,.slice HA rs.length hc,.int .i64 pts]:=by rw [hw3];exact Blk.new _ _ _
 obtain ⟨m1,hm1⟩:∃ m1,m1=w3.heap.size:=⟨_,rfl⟩
 have ht1:newT w3=some (m1+1,m1):=by rw [hm1];rfl
 replace hm1:m1≤w3.heap.size∧w3.heap.size≤m1:=by omega
 have NF3:=new_fresh w3
 rw [ht1] at NF3
 have e1:tapeA (some (m1+1,m1))=some ⟨m1+1,0,none⟩:=rfl
 rw [e1] at NF3
 gi_wp2_with fail
 refine ⟨trivial,?_⟩
 rw [← hw3]
 refine (callsIn_wide.2 NF3).mono ?_
 rintro e w4 ⟨rfl,hb4,hf4⟩
 have hz3:w3.heap.size≤w2.heap.size+1∧w2.heap.size+1≤w3.heap.size:=by
  rw [hw3]
  simp
 clear hw3 NF3 e1 ht1
 obtain ⟨m2,hm2⟩:∃ m2,m2=w4.heap.size:=⟨_,rfl⟩
 have ht2:newT w4=some (m2+1,m2):=by rw [hm2];rfl
 replace hm2:m2≤w4.heap.size∧w4.heap.size≤m2:=by omega
 have NF4:=new_fresh w4
 rw [ht2] at NF4
 have e2:tapeA (some (m2+1,m2))=some ⟨m2+1,0,none⟩:=rfl
 rw [e2] at NF4
 have hlt4:=hf4.1.lt
 gi_wp2_with fail
 refine ⟨trivial,?_⟩
 refine (callsIn_wide.2 NF4).mono ?_
 rintro e w5 ⟨rfl,hb5,hf5⟩
 clear NF4 e2 ht2
 have hlt5:=hf5.1.lt
 obtain ⟨w6,hw6⟩:∃ w6,w6=w5.alloc (.cells #[.pointer (some ⟨m2+1,0,none⟩)] 51):=⟨_,rfl⟩
 have hb6:Below w5.heap.size w5 w6:=by rw [hw6];exact bA
 have hz6:w6.heap.size=w5.heap.size+1:=by rw [hw6];simp
 have N6:Blk w6 w5.heap.size 51 #[.pointer (some ⟨m2+1,0,none⟩)]:=by rw [hw6];exact Blk.new _ _ _
 have hb25:=bl_step (bl_step hb3 hb4) hb5
 have HB6:=bl_step (bl_step HB2.out hb25) hb6
 have hf46:=(hf4.step hb5).step hb6
 have hf6:=hf5.step hb6
 have N36:=((N3.step hb4).step hb5).step hb6
 have S6:=HS2.out.below (bl_step hb25 hb6)
 have T6:=hide (HTR.out w6 HB6 (some (m1+1,m1)) hf46)
 obtain ⟨b9,hb9⟩:∃ b9,b9=w5.heap.size:=⟨_,rfl⟩
 have hs45:=hb5.size
 have hs34:=hb4.size
 have hm2w:m1+1<m2:=by omega
 have hzb:b9+1≤w6.heap.size∧w6.heap.size≤b9+1:=by omega
 have hm29:m2+1<b9:=by rw [hb9];exact hlt5
 have hw2m:w2.heap.size<m1:=by omega
 have T6:=hide (show Calls Tryz.prog 30 #[.pointer (some ⟨m1+1,0,none⟩),.slice A bs.length c] w6 (Served (some (m1+1,m1)) bs w6) from T6.out)
 have hw2:=HB2.out.size
 have HKN:Hid (∀ k,k<w6.heap.size→k≠m1+1→k≠m1→NT (some (m1+1,m1)) w6.heap.size k):=hide fun k h1 h2 h3=>⟨h1,fun u hu=>by
  injection hu with hu
  subst hu
  exact ⟨h2,h3⟩⟩
 have N6:Blk w6 b9 51 #[.pointer (some ⟨m2+1,0,none⟩)]:=by rw [hb9];exact N6
 have HQ6:=hide (And.intro HB6 (And.intro hf6 (And.intro N36 (And.intro N6 S6))))
 clear hs45 hs34 hb6 hz6 hb25 hf46 hlt4 hlt5 hf4 hf5 hb3 hb4 hb5 N3 N36 N6 S6 hf6 HB6 HTR HS2 HB2 hm1 hm2 hz3
 gi_wp2_with fail
 refine ⟨trivial,?_⟩
 rw [← hw6,← hb9]
 have HW6:=hide hw6
 have HB9:=hide hb9
 clear hw6 hb9
 refine (callsIn_wide.2 T6.out).mono ?_
 intro e w7 hS7
 obtain ⟨tv,rfl,hk7,ht7⟩:=HSB.out _ _ _ _ hS7
 obtain ⟨HB6,hf6,N36,N6,S6⟩:=HQ6.out
 have HB7:=hide (keep_below hk7 HB6 (fun k hk=>HKN.out k (by omega) (by omega) (by omega)))
 have N37:=N36.kept hk7 (HKN.out _ (by omega) (by omega) (by omega))
 have N67:=N6.kept hk7 (HKN.out _ (by omega) (by omega) (by omega))
 have hf7:=hide (hf6.keep hk7 (HKN.out _ (by dsimp only;omega) (by dsimp only;omega) (by dsimp only;omega)) (HKN.out _ (by dsimp only;omega) (by dsimp only;omega) (by dsimp only;omega)))
 have SP7:=(S6.slP (P:=fun k=>k<w2.heap.size) (fun _ h=>h)).kept (hk7.mono fun k hk=>HKN.out k (by omega) (by omega) (by omega))
 have X7:=hide (HX.out w7 (fun k=>k<w2.heap.size) HA hc (fun k hk=>by have:=hk7.size;omega) SP7)
 have HT7:=hide ht7
 have hz7:=hk7.size
 have b0:=N37.cell (i:=0) rfl
 have b1:=N37.cell (i:=1) rfl
 have b2:=N37.cell (i:=2) rfl
 have b3:=N37.cell (i:=3) rfl
 have HN67:=hide N67
 clear hS7 hk7 ht7 HSB HB6 hf6 N36 N6 S6 HQ6 T6 N37 N67 SP7 HX
 gi_wp2_with fail
 refine ⟨trivial,?_⟩
 refine (callsIn_wide.2 X7.out).mono ?_
 rintro e w8 ⟨fv,K,rfl,hb8,hK8,gf,lb,rfl,heg,hseq⟩
 have N68:=hide (HN67.out.step hb8)
 have hz8:=hb8.size
 have HEG:=hide heg
 have HSEQ:=hide hseq
 have HT8:=hide (Tp.step (t:=some (m1+1,m1)) HT7.out hb8)
 have HB8:=hide (bl_step HB7.out hb8)
 have HKK:=hide (show ∀ k,K k→k<w8.heap.size from fun k hk=>by rcases hK8 k hk with h | h;omega;exact h.2)
 have HC0:Hid (NoteAt w8 (m2+1) m2 K [] w8):=hide ⟨by
  refine FreshT.tp (t:=some (m2+1,m2)) (hf7.out.step hb8) fun k hk u hu=>?_
  injection hu with hu
  subst hu
  rcases hk with hk | hk
  · rcases hK8 k hk with h | h
    · exact ⟨by dsimp only;omega,by dsimp only;omega⟩
    · exact ⟨by dsimp only;omega,by dsimp only;omega⟩
  · exact hk.2,KeepP.refl _ _⟩
 clear hb8 hK8 heg hseq X7 HT7 HB7 hf7 HN67 b0 b1 b2 b3
 gi_wp2_with fail
 refine wpIn_range_seq (K:=K) rfl HEG.out HSEQ.out HKK.out (fun _=>rfl) (NoteAt w8 (m2+1) m2) (fun _ _ _=>False) ?h1 ?h2 HC0.out ?round ?done ?stop
 case h1=>exact note_rests w8 _ _ (by omega) (by omega)
 case h2=>exact fun _ _ _ _ _ _ h _ _=>h
 case stop=>exact fun _ _ h=>h.elim
 case done =>
  rintro ys X rfl ⟨htp,hkp⟩ hD -
  have N9:=N68.out.kept hkp ⟨by omega,by omega,by omega⟩
  have htt:TpIn X (NT (some (m1+1,m1)) w6.heap.size) (m1+1) m1 ys:=TpIn.keep (show TpIn w8 _ (m1+1) m1 ys from HT8.out) hkp (fun k hk hn=>⟨hk,fun e=>hn (HKN.out k (by omega) (by omega) (by omega)),fun e=>hn (HKN.out k (by omega) (by omega) (by omega))⟩)
  have HF:=hide (tfirst_any _ _ (m1+1) m1 (m2+1) m2 ys X htt htp (by have:=HEL.out;omega))
  have HBX:=hide (keep_below hkp HB8.out (fun k hk=>⟨by omega,by omega,by omega⟩))
  have c9:=N9.cell (i:=0) rfl
  have HD:=hide hD
  have hzX:w8.heap.size<X.heap.size:=(Array.getElem?_eq_some_iff.1 hD).1
  clear N9 htt htp hkp hD HT8 HC0 HKK HSEQ HEG HB8 N68
  gi_wp2_with fail
  refine ⟨trivial,?_⟩
  refine (callsIn_wide.2 HF.out).mono ?_
  rintro e w9 ⟨rfl,hb9⟩
  have HD9:=hide ((hb9.block _ hzX).trans HD.out)
  have HB9:=hide (bl_step HBX.out hb9)
  clear hb9 c9 HF HD
  gi_wp2
  refine ⟨by simp,.inl ⟨_,_,rfl,run_takeDeferred HD9.out,?_⟩⟩
  refine ⟨_,results_tmp2 rfl _ _ _,?_⟩
  refine ⟨rfl,HB9.out.grown (grownBy_putObj' _ _ _) HB9.out.size (fun k e=>by cases e;omega)⟩
 case round =>
  rintro R pre x X hR hnl hs1 ⟨rec,hrec⟩ ⟨htp,hkp⟩ hpre hok
  obtain ⟨k,a,b⟩:=x
  have hok:I64w k:=hok
  obtain ⟨X1,hX1⟩:∃ X1,X1=X.alloc (.cells #[.int .i64 k,.int .i64 a,.int .i64 b] 66):=⟨_,rfl⟩
  have hbX:Below X.heap.size X X1:=by rw [hX1];exact bA
  have hzX:X1.heap.size≤X.heap.size+1∧X.heap.size+1≤X1.heap.size:=by rw [hX1];simp
  have hE:Blk X1 X.heap.size 66 #[.int .i64 k,.int .i64 a,.int .i64 b]:=by rw [hX1];exact Blk.new _ _ _
  have htp1:=htp.step hbX
  have hlt:=hkp.size
  unfold encEv
  dsimp only
  gi_wp2
  rw [← hX1]
  refine ⟨KeepP.of_below hbX (fun k hk=>?_),fun o=>?_⟩
  · rcases hk with hk | hk | hk
    · exact hR k hk
    · omega
    · omega
  obtain ⟨X2,hX2⟩:∃ X2,X2=X1.putObj (w8.heap.size+1) (.loop o):=⟨_,rfl⟩
  have hl1:X1.heap[w8.heap.size+1]?=some (.loop rec):=(hbX.block _ hs1).trans hrec
  have hE2:Blk X2 X.heap.size 66 #[.int .i64 k,.int .i64 a,.int .i64 b]:=by rw [hX2];exact (World.putObj_heap_other (by omega)).trans hE
  have htp2:TpIn X2 (Aw R w8.heap.size (m2+1) m2) (m2+1) m2 pre:=by
   rw [hX2]
   exact Tp.putObj (t:=some (m2+1,m2)) (show Tp X1 _ (some (m2+1,m2)) pre from htp1) (fun u hu=>by injection hu with hu;subst hu;dsimp only;omega) hl1 rfl _
  have hkp2:KeepP (fun k=>k<w8.heap.size∧k≠m2+1∧k≠m2) w8 X2:=by
   rw [hX2]
   exact (hkp.trans (KeepP.of_below hbX fun k hk=>by omega)).trans (KeepP.putObj _ (fun h=>by omega) _)
  have hz2:X2.heap.size=X1.heap.size:=by rw [hX2];simp
  have hAw:∀ k,Aw R w8.heap.size (m2+1) m2 k→k<X2.heap.size:=fun k hk=>by
   rw [hz2]
   rcases hk with hk | hk
   · have:=hR k hk;omega
   · omega
  rw [← hX2]
  have HNT:=hide (note_in (Aw R w8.heap.size (m2+1) m2) (m2+1) m2 pre k a b X2 hAw htp2 (by have:=HEL.out;omega) hok)
  have c9:=(N68.out.kept hkp2 ⟨by omega,by omega,by omega⟩).cell (i:=0) rfl
  have e0:=hE2.cell (i:=0) rfl
  have e1:=hE2.cell (i:=1) rfl
  have e2:=hE2.cell (i:=2) rfl
  have HK2:=hide hkp2
  have HLT:Hid (m2+1<w8.heap.size):=hide (by omega)
  clear htp hkp hpre hok hX1 hbX hzX hE htp1 hlt hl1 hE2 htp2 hkp2 hX2 hz2 hAw hrec hnl hs1 hR hm2w hzb hm29 hw2m hw2 hz7 hz8
  gi_wp2_with fail
  refine ⟨trivial,?_⟩
  refine (callsIn_wide.2 HNT.out).mono ?_
  rintro e X3 ⟨rfl,hk3,-,htp3⟩
  have HK3:=hide hk3;have HTP3:=hide htp3
  clear hk3 htp3 HNT c9 e0 e1 e2
  gi_wp2
  refine ⟨HK3.out.mono fun k hk=>?_,⟨HTP3.out,HK2.out.trans (HK3.out.mono fun k hk=>.inr ⟨by omega,hk.2⟩)⟩⟩
  rcases hk with hk | hk | hk
  · exact .inl hk
  · exact .inr (by have:=HLT.out;omega)
  · exact .inr (by have:=HLT.out;omega)
end
end
end Go.Proofs.YtfljlmleiggmjaaGreatDoor
