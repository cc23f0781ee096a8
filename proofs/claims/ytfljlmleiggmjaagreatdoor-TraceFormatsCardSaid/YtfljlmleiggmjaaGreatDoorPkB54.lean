/- RefNum5 -/
import Derived.BigQuiet
import Derived.Deep.AppendLies
import Derived.Test.YtfljlmleiggmjaaGreatDoorPkB17
set_option maxRecDepth 1000000
set_option maxHeartbeats 8000000
namespace Go.Proofs.YtfljlmleiggmjaaGreatDoor
section
open Go.RowKit
theorem dCs_take (l:List Nat) (k:Nat):dCs (l.take k)=(dCs l).take k:=by unfold dCs;rw [List.map_take]
theorem Sl.dg {w:World} {B:Nat} {A:Option Addr} {l:List Nat} (h:Sl w B A (dCs l)) {k d:Nat} (hk:l[k]?=some d) :
 ∃ b off,A=some ⟨b,off,none⟩∧b<B∧w.cell? ⟨b,off+k,none⟩=some (.int .i64 (d:Int)):=by
 have hlt:k<l.length:=(List.getElem?_eq_some_iff.1 hk).1
 obtain ⟨b,off,rfl,hB,hc⟩:=h.open_ (by rw [dCs_length];omega)
 exact ⟨b,off,rfl,hB,hc k _ (dCs_get hk)⟩
theorem trim_any (l:List Nat) (A:Option Addr) (c:Nat) (w:World) (hs:Sl w w.heap.size A (dCs l)) (hok:dOk l) (hc:l.length≤c) (hcm:c≤maxLen) :
 Calls Tryz.prog 202 #[.slice A l.length c] w fun e w'=>e=.returned (.slice A (digs (dval l)).length c)∧w'=w∧digs (dval l)=l.take (digs (dval l)).length:=by
 unfold maxLen at hcm
 have HS:=hide hs;have HOK:=hide hok
 clear hs hok
 go_enter Tryz.func202,Tryz.ntmps202
 go_wp2
 go_loopw [0] (fun u wr=>∃ k:Nat,k≤l.length∧u=.slice A k c∧dval (l.take k)=dval l∧wr=w)
  (fun u _=>match u with | .slice _ k _=>k | _=>0)
 case atStart=>exact ⟨l.length,Nat.le_refl _,rfl,by rw [List.take_length],rfl⟩
 case round =>
  obtain ⟨k,hk,rfl,hv,rfl⟩:=hrel
  have HV:=hide hv;clear hv
  by_cases h0:0<k
  · obtain ⟨d,hd⟩:∃ d,l[k - 1]?=some d:=⟨_,List.getElem?_eq_getElem (by omega)⟩
    obtain ⟨b,off,rfl,hb,hcell⟩:=HS.out.dg hd
    have HD:=hide hd;clear hd
    have hki:IntKind.i64.wrap ((k:Int) - 1)=((k - 1:Nat):Int):=by rw [IntKind.wrap_i64];omega
    by_cases hz:d=0
    · subst hz
      have hv2:Hid (dval (l.take (k - 1))=dval l):=hide (by
       rw [← HV.out]
       have h1:(l.take k)[k - 1]?=some 0:=by rw [List.getElem?_take,if_pos (by omega)];exact HD.out
       have h2:=dval_drop_zero (l:=l.take k) (m:=k - 1) (by rw [List.length_take];omega) h1
       rw [List.take_take,Nat.min_eq_left (by omega)] at h2
       exact h2)
      go_wp2
      go_roundw
      case rel=>exact ⟨k - 1,by omega,by simp,hv2.out,trivial⟩
      case measure=>simp;omega
    · have hzi:(d:Int)≠0:=by omega
      have hfin:Hid (digs (dval l)=l.take k):=hide (by
       rw [← HV.out]
       refine (noLead_digs (HOK.out.take k) (noLead_of (m:=k - 1) (by rw [List.length_take];omega) ?_ hz)).symm
       rw [List.getElem?_take,if_pos (by omega)]
       exact HD.out)
      go_wp2
      go_ret
      have h1:(digs (dval l)).length=k:=by rw [hfin.out,List.length_take];omega
      refine ⟨?_,rfl,?_⟩
      · rw [h1];rfl
      · rw [h1];exact hfin.out
  · obtain rfl:k=0:=by omega
    go_wp2
    go_ret
    have h0':=HV.out
    rw [List.take_zero] at h0'
    have h1:digs (dval l)=[]:=by rw [← h0'];exact digs_zero
    rw [h1]
    exact ⟨rfl,rfl,rfl⟩
theorem results_num {fn:Func} {tmps:Array Value} {w:World} {g k:Nat} {v0 v1:Value} (h:fn.results=#[.cell k 185])
 (hp:tmps.getD k undef=.pointer (some ⟨g,0,none⟩)) (hb:Blk w g 185 #[v0,v1]) :
 (results fn tmps).run Tryz.prog w=.ok (.agg #[v0,v1]) w:=by
 have c0:=hb.cell (i:=0) rfl
 have c1:=hb.cell (i:=1) rfl
 have hp':tmps[k]?.getD undef=.pointer (some ⟨g,0,none⟩):=by rw [← hp];simp
 simp [results,h,hp',go_sem,c0,c1]
def numV (n:Int) (A:Option Addr) (c:Nat):Value:=.agg #[.int .i64 n.sign,.slice A (digs n.natAbs).length c]
def GaveR (P:Nat→Prop) (n:Int) (w:World) (e:Ending) (w':World):Prop:=∃ A c,e=.returned (numV n A c)∧NumAt w' P n A c∧Below w.heap.size w w'
section
variable {w w':World} {P R:Nat→Prop} {n:Int} {A:Option Addr} {c:Nat}
end
theorem make16_any (P:Nat→Prop) (s:Int) (l:List Nat) (A:Option Addr) (c:Nat) (w:World) (hs:SlN w P A (dCs l)) (hok:dOk l) (hc:l.length≤c) (hcm:c≤maxLen) (hsg:dval l≠0→s=1∨s=-1) :
 Calls Tryz.prog 167 #[.int .i64 s,.slice A l.length c] w (GaveR P (s*dval l) w):=by
 obtain ⟨w0,hw0⟩:∃ w0,w0=w.alloc (.cells #[.int .i64 0,.slice none 0 0] 185):=⟨_,rfl⟩
 have hb0:Below w.heap.size w w0:=by rw [hw0];exact bA
 have B0:Blk w0 w.heap.size 185 #[.int .i64 0,.slice none 0 0]:=by rw [hw0];exact Blk.new _ _ _
 have hs0:=(hs.below hb0).any
 have H:=hide (trim_any l A c w0 hs0 hok hc hcm)
 have hsw:=hide hs
 obtain ⟨n,hn⟩:∃ n,n=dval l:=⟨_,rfl⟩
 have HN:=hide hn
 rw [← hn] at hsg H
 clear hs hok hs0 hn
 go_enter Tryz.func167,Tryz.ntmps167
 go_wp2_with fail
 rw [← hw0]
 refine H.out.mono ?_
 rintro e w1 ⟨rfl,rfl,hd⟩
 have HD:=hide hd
 have hlt:=B0.lt
 have b0:=B0.cell (i:=0) rfl
 have b1:=B0.cell (i:=1) rfl
 have f0:=B0.frozen 0
 have f1:=B0.frozen 1
 obtain ⟨m,hm⟩:∃ m,m=(digs n).length:=⟨_,rfl⟩
 rw [← hm]
 have HM:=hide hm
 clear hd hm hw0
 by_cases h0:n=0
 · have hm0:m=0:=by rw [HM.out,h0,digs_zero];rfl
   subst hm0
   go_wp2
   refine bodyPost_ret (results_num rfl rfl ((B0.set 0 _).set 1 _)) rfl ?_
   refine ⟨none,0,?_,⟨.inl ?_,?_,by unfold maxLen;omega⟩,?_⟩
   · rw [← HN.out,h0]
     unfold numV
     rw [show s*((0:Nat):Int)=0 by simp,Int.natAbs_zero,digs_zero]
     rfl
   · rw [← HN.out,h0,show s*((0:Nat):Int)=0 by simp,Int.natAbs_zero,digs_zero];rfl
   · rw [← HN.out,h0,show s*((0:Nat):Int)=0 by simp,Int.natAbs_zero,digs_zero];exact Nat.le_refl _
   · exact (hb0.setCell (by dsimp only;omega) _).setCell (by dsimp only;omega) _
 · have hmp:m≠0:=by
    rw [HM.out]
    intro h
    exact h0 (digs_nil.1 (List.eq_nil_of_length_eq_zero h))
   have hmi:(m:Int)≠0:=by omega
   have hml:Hid (m≤l.length):=hide (by
    have h1:=congrArg List.length HD.out
    rw [List.length_take,← HM.out] at h1
    omega)
   have hq:=hsg h0
   have hab:Hid ((s*(n:Int)).natAbs=n):=hide (by rcases hq with rfl | rfl <;> omega)
   have hsn:Hid ((s*(n:Int)).sign=s):=hide (by
    have hp:0<(n:Int):=by omega
    rcases hq with rfl | rfl
    · rw [Int.one_mul];exact Int.sign_eq_one_of_pos hp
    · rw [Int.neg_one_mul];exact Int.sign_eq_neg_one_of_neg (by omega))
   clear hq hsg
   go_wp2
   have E:=(B0.set 0 (.int .i64 s)).set 1 (.slice A m c)
   refine bodyPost_ret (results_num rfl rfl E) rfl ?_
   refine ⟨A,c,?_,⟨?_,?_,hcm⟩,?_⟩
   · rw [← HN.out]
     unfold numV
     rw [hsn.out,hab.out,← HM.out]
   · rw [← HN.out,hab.out,HD.out,dCs_take]
     exact (hsw.out.take (digs n).length).below ((hb0.setCell (by dsimp only;omega) _).setCell (by dsimp only;omega) _)
   · rw [← HN.out,hab.out,← HM.out];have:=hml.out;omega
   · exact (hb0.setCell (by dsimp only;omega) _).setCell (by dsimp only;omega) _
end
section
open Go.RowKit
theorem int_info:(Tryz.prog.info? 3).map (fun i=>(i.zero,i.size,i.bytes))=some (some (.int .i64 0),1,8):=by kernel_rfl
theorem own_slice' {w:World} {base:Nat} {e:TypeId} {size n:Nat} {v:Value} {xs:List Value} (h:w.ownsRow base e size v n xs):∃ A cap,v=.slice A n cap∧n≤cap∧cap≤maxLen:=by
 rcases h.2 with ⟨rfl,rfl⟩ | ⟨g',cap,cur,rfl,hb,hh,hc,hm,_⟩
 · exact ⟨none,0,rfl,Nat.le_refl _,by unfold maxLen;omega⟩
 · exact ⟨_,cap,rfl,hc,hm⟩
end
section
open Go.RowKit
end
section
open Go.RowKit
theorem gave_set {P:Nat→Prop} {n:Int} {w w4:World} {g:Nat} {A:Option Addr} {c:Nat} {u v:Value} (hb:Below w.heap.size w w4) (hg:w.heap.size≤g) (hn:NumAt w4 (fun k=>P k∧k≠g) n A c) :
 GaveR P n w (.returned (numV n A c)) ((w4.setCell ⟨g,0,none⟩ u).setCell ⟨g,1,none⟩ v) :=
 ⟨A,c,rfl,((hn.set u).set v).mono fun _ hk=>hk.1,(hb.setCell (by exact hg) _).setCell (by exact hg) _⟩
theorem IntD.start {m:Nat} (h:m<18446744073709551616):IntD m 0 m []:=⟨rfl,fun d hd=>by simp at hd,by omega,by simpa using h,by simp [dval]⟩
theorem int_any (P:Nat→Prop) (x:Int) (hx:-9223372036854775808≤x∧x≤9223372036854775807) (w:World) (hP:Up w P) :
 Calls Tryz.prog 134 #[.int .i64 x] w (GaveR P x w):=by
 obtain ⟨m,hm⟩:∃ m,m=x.natAbs:=⟨_,rfl⟩
 obtain ⟨w0,hw0⟩:∃ w0,w0=w.alloc (.cells #[.int .i64 0,.slice none 0 0] 185):=⟨_,rfl⟩
 have hb0:Below w.heap.size w w0:=by rw [hw0];exact bA
 have B0:Blk w0 w.heap.size 185 #[.int .i64 0,.slice none 0 0]:=by rw [hw0];exact Blk.new _ _ _
 have hsz:w0.heap.size=w.heap.size+1:=by rw [hw0];simp
 have HS:=hide (IntD.start (m:=m) (by omega))
 have HP:=hide hP
 obtain ⟨i0,hi,hz0,hz1,hz2⟩:=info_parts int_info
 have HB0:=hide hb0;have HBB:=hide B0;have HSZ:=hide hsz
 clear hP hb0 B0 hsz
 by_cases hn:x<0
 · obtain ⟨u0,hu0⟩:∃ u0:Nat,(u0:Int)=18446744073709551616+x:=⟨(18446744073709551616+x).toNat,by omega⟩
   have hu:IntKind.u64.wrap x=(u0:Int):=by simp only [IntKind.wrap_u64];omega
   have hnu:IntKind.u64.wrap (-(u0:Int))=(m:Int):=by simp only [IntKind.wrap_u64];omega
   have HX:Hid ((-1:Int)*(m:Int)=x):=hide (by omega)
   have hs:(-1:Int)=1∨(-1:Int)=-1:=.inr rfl
   clear hu0 hm hx
   go_enter Tryz.func134,Tryz.ntmps134
   go_wp2
   rw [← hw0]
   clear hw0
   go_loopw [3,5] (fun u d wr=>∃ (k y:Nat) (o:List Nat),u=.int .u64 y∧Hid (IntD m k y o)∧Below w0.heap.size w0 wr∧wr.ownsRow w0.heap.size 3 1 d k (dCs o))
    (fun u _ _=>(intOf u).toNat)
   case atStart=>exact ⟨0,m,[],rfl,HS,Below.refl _ _,World.ownsRow_nil _ _ _ _⟩
   case round =>
    obtain ⟨k,y,o,rfl,HD,hbr,hown⟩:=hrel
    by_cases hy:0<y
    · obtain ⟨hk,hN⟩:=HD.out.step hy
      obtain ⟨r,hr⟩:∃ r,r=y % 65536:=⟨_,rfl⟩
      obtain ⟨q,hq⟩:∃ q,q=y / 65536:=⟨_,rfl⟩
      rw [← hr,← hq] at hN
      have hmod:(y:Int).tmod 65536=(r:Int):=by rw [Int.tmod_eq_emod_of_nonneg (by omega)];omega
      have hdiv:(y:Int).tdiv 65536=(q:Int):=by rw [Int.tdiv_eq_ediv_of_nonneg (by omega)];omega
      have hwr:IntKind.i64.wrap (r:Int)=(r:Int):=by rw [IntKind.wrap_i64];omega
      have hqy:Hid (q<y):=hide (by omega)
      have hwq:Hid (IntKind.u64.wrap (q:Int)=(q:Int)):=hide (by
       have h1:=HD.out.2.2.2.1
       have h2:65536 ^ (4 - k)≤65536 ^ 4:=Nat.pow_le_pow_right (by omega) (by omega)
       simp only [IntKind.wrap_u64]
       omega)
      have HN:=hide hN
      clear hN hr hq HD
      go_wp2_with (at_builtin;refine wpList_append_lies _ rfl (.tmp 14) (.tmp 18) 135 rfl w0.heap.size 3 i0 (.int .i64 0) 1 8 Tryz.underlying135 hi hz0 hz1 hz2 rfl (by decide) _ k _ rfl (own_step hown (bA)) ⟨wr.heap.size,0,none⟩ 1 1 [.int .i64 (r:Int)] rfl rfl (blk_cells (Blk.new _ _ _)) (by simp [Value.oneCell']) (by omega) (by unfold maxLen;omega) (by omega) (by have:=hbr.size;simp;omega) (wr.heap.size+1) (by simp) ?_)
      intro g' cap w8 hown8 hgrow hat hlt8
      have hb8:Below w0.heap.size w0 w8:=(bl_alloc hbr _).grown hgrow (by have:=hbr.size;simp;omega) (fun j hj=>own_base hown hj)
      have HO8:=hide hown8;have HB8:=hide hb8
      clear hown8 hb8 hgrow hat hlt8
      go_wp2
      go_roundw
      case rel =>
       refine ⟨k+1,q,o++[r],by rw [hwq.out],HN,HB8.out,?_⟩
       rw [dCs_app]
       exact HO8.out
      case measure=>rw [hwq.out];simp [intOf];exact hqy.out
    · obtain rfl:y=0:=by omega
      obtain ⟨e1,e2⟩:=HD.out.done
      obtain ⟨A',c',rfl,hc',hcm'⟩:=own_slice' hown
      have hol:=HD.out.1
      subst hol
      have hnl:SlN wr (fun k=>P k∧k≠w.heap.size) A' (dCs o):=(own_slN hown).mono fun k hk=>⟨HP.out k (by have:=HSZ.out;omega),by have:=HSZ.out;omega⟩
      have HM:=hide (make16_any _ (-1) o A' c' wr hnl e1 hc' hcm' (fun _=>.inr rfl))
      rw [e2,HX.out] at HM
      have hwr:Below w.heap.size w wr:=bl_step HB0.out hbr
      have hbb:=HBB.out.step hbr
      clear hown hnl e1 e2
      go_wp2_with fail
      refine HM.out.mono ?_
      rintro e w5 ⟨A5,c5,rfl,hN5,hb5⟩
      have hb55:=bl_step hwr hb5
      have B5:=hbb.step hb5
      have hlt:=B5.lt
      have b0:=B5.cell (i:=0) rfl
      have b1:=B5.cell (i:=1) rfl
      have f0:=B5.frozen 0
      have f1:=B5.frozen 1
      unfold numV
      go_wp2
      refine bodyPost_ret (results_num rfl rfl ((B5.set 0 _).set 1 _)) rfl ?_
      exact gave_set hb55 (Nat.le_refl _) hN5
 · have hu:IntKind.u64.wrap x=(m:Int):=by simp only [IntKind.wrap_u64];omega
   have HX:Hid ((1:Int)*(m:Int)=x):=hide (by omega)
   clear hm hx
   go_enter Tryz.func134,Tryz.ntmps134
   go_wp2
   rw [← hw0]
   clear hw0
   go_loopw [3,5] (fun u d wr=>∃ (k y:Nat) (o:List Nat),u=.int .u64 y∧Hid (IntD m k y o)∧Below w0.heap.size w0 wr∧wr.ownsRow w0.heap.size 3 1 d k (dCs o))
    (fun u _ _=>(intOf u).toNat)
   case atStart=>exact ⟨0,m,[],rfl,HS,Below.refl _ _,World.ownsRow_nil _ _ _ _⟩
   case round =>
    obtain ⟨k,y,o,rfl,HD,hbr,hown⟩:=hrel
    by_cases hy:0<y
    · obtain ⟨hk,hN⟩:=HD.out.step hy
      obtain ⟨r,hr⟩:∃ r,r=y % 65536:=⟨_,rfl⟩
      obtain ⟨q,hq⟩:∃ q,q=y / 65536:=⟨_,rfl⟩
      rw [← hr,← hq] at hN
      have hmod:(y:Int).tmod 65536=(r:Int):=by rw [Int.tmod_eq_emod_of_nonneg (by omega)];omega
      have hdiv:(y:Int).tdiv 65536=(q:Int):=by rw [Int.tdiv_eq_ediv_of_nonneg (by omega)];omega
      have hwr:IntKind.i64.wrap (r:Int)=(r:Int):=by rw [IntKind.wrap_i64];omega
      have hqy:Hid (q<y):=hide (by omega)
      have hwq:Hid (IntKind.u64.wrap (q:Int)=(q:Int)):=hide (by
       have h1:=HD.out.2.2.2.1
       have h2:65536 ^ (4 - k)≤65536 ^ 4:=Nat.pow_le_pow_right (by omega) (by omega)
       simp only [IntKind.wrap_u64]
       omega)
      have HN:=hide hN
      clear hN hr hq HD
      go_wp2_with (at_builtin;refine wpList_append_lies _ rfl (.tmp 14) (.tmp 18) 135 rfl w0.heap.size 3 i0 (.int .i64 0) 1 8 Tryz.underlying135 hi hz0 hz1 hz2 rfl (by decide) _ k _ rfl (own_step hown (bA)) ⟨wr.heap.size,0,none⟩ 1 1 [.int .i64 (r:Int)] rfl rfl (blk_cells (Blk.new _ _ _)) (by simp [Value.oneCell']) (by omega) (by unfold maxLen;omega) (by omega) (by have:=hbr.size;simp;omega) (wr.heap.size+1) (by simp) ?_)
      intro g' cap w8 hown8 hgrow hat hlt8
      have hb8:Below w0.heap.size w0 w8:=(bl_alloc hbr _).grown hgrow (by have:=hbr.size;simp;omega) (fun j hj=>own_base hown hj)
      have HO8:=hide hown8;have HB8:=hide hb8
      clear hown8 hb8 hgrow hat hlt8
      go_wp2
      go_roundw
      case rel =>
       refine ⟨k+1,q,o++[r],by rw [hwq.out],HN,HB8.out,?_⟩
       rw [dCs_app]
       exact HO8.out
      case measure=>rw [hwq.out];simp [intOf];exact hqy.out
    · obtain rfl:y=0:=by omega
      obtain ⟨e1,e2⟩:=HD.out.done
      obtain ⟨A',c',rfl,hc',hcm'⟩:=own_slice' hown
      have hol:=HD.out.1
      subst hol
      have hnl:SlN wr (fun k=>P k∧k≠w.heap.size) A' (dCs o):=(own_slN hown).mono fun k hk=>⟨HP.out k (by have:=HSZ.out;omega),by have:=HSZ.out;omega⟩
      have HM:=hide (make16_any _ 1 o A' c' wr hnl e1 hc' hcm' (fun _=>.inl rfl))
      rw [e2,HX.out] at HM
      have hwr:Below w.heap.size w wr:=bl_step HB0.out hbr
      have hbb:=HBB.out.step hbr
      clear hown hnl e1 e2
      go_wp2_with fail
      refine HM.out.mono ?_
      rintro e w5 ⟨A5,c5,rfl,hN5,hb5⟩
      have hb55:=bl_step hwr hb5
      have B5:=hbb.step hb5
      have hlt:=B5.lt
      have b0:=B5.cell (i:=0) rfl
      have b1:=B5.cell (i:=1) rfl
      have f0:=B5.frozen 0
      have f1:=B5.frozen 1
      unfold numV
      go_wp2
      refine bodyPost_ret (results_num rfl rfl ((B5.set 0 _).set 1 _)) rfl ?_
      exact gave_set hb55 (Nat.le_refl _) hN5
end
section
open Go.RowKit
end
end Go.Proofs.YtfljlmleiggmjaaGreatDoor
