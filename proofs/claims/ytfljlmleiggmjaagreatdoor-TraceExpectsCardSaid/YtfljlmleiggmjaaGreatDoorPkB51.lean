/- RefEv20C RefEv21 -/
import Derived.Deep.AppendLies
import Derived.Deep.RegionHeld3
import Derived.Deep.RegionLaw
import Derived.Laws.Externs
import Derived.Shelf.Bits.Mul64
import Derived.Shelf.Spec.BitsCarry
import Derived.Test.YtfljlmleiggmjaaGreatDoorPkB44
import Derived.Test.YtfljlmleiggmjaaGreatDoorPkB49
import Derived.Test.YtfljlmleiggmjaaGreatDoorPkB50
set_option maxRecDepth 1000000
set_option maxHeartbeats 8000000
namespace Go.Proofs.YtfljlmleiggmjaaGreatDoor
section
open Go.RowKit Go.Shelf
theorem rrecEv (rs:List Rg) (A:Option Addr) (c n:Nat) (w:World) (hs:Sl w w.heap.size A (rgCells rs)) (hrl:rs.length≤64) (hv:∀ r∈rs,r.v=0∨3≤r.v∧r.v≤64) (hn:n≤100) :
 Calls Tryz.prog 109 #[.slice A rs.length c,.int .i64 (n:Int)] w (Evo (hvEv 0 rs++hitemEv rs n) w):=by
 obtain ⟨i0,hi,hz0,hz1,hz2⟩:=info_parts ev_info
 have HV:=hide (fun (w':World) (hb:Below w.heap.size w w')=>rhvEv_any rs A c w' ((hs.below hb).more hb.size) hrl hv)
 have HM:=hide (fun (w':World) (hb:Below w.heap.size w w')=>rhmEv_any rs A c w' ((hs.below hb).more hb.size) hrl hv)
 have HIS:=hide (hitemEv_snoc rs)
 have HIL:=hide (fun k=>hitemEv_len hrl k)
 have hvl:=hvEv_length 0 rs
 have hml:=hmEv_65 0 rs
 have hi0:hitemEv rs 0=[]:=rfl
 obtain ⟨E0,hE0⟩:∃ E,E=hvEv 0 rs:=⟨_,rfl⟩
 obtain ⟨E1,hE1⟩:∃ E,E=hmEv 0 rs:=⟨_,rfl⟩
 obtain ⟨it,hit⟩:∃ f,f=hitemEv rs:=⟨_,rfl⟩
 rw [← hE0] at HV hvl ⊢
 rw [← hE1] at HM HIS hml
 rw [← hit] at HIS HIL hi0 ⊢
 have HML:Hid (E1.length≤300000):=hide (by omega)
 obtain ⟨F,hF⟩:∃ F:Nat→List Ev,F=fun k=>E0++it k:=⟨_,rfl⟩
 have HF0:Hid (F 0=E0):=hide (by rw [hF];dsimp only;rw [hi0,List.append_nil])
 have HFS:Hid (∀ k,F (k+1)=F k++[(8,(k:Int),0)]++E1):=hide (fun k=>by rw [hF];dsimp only;rw [HIS.out,List.append_assoc,List.append_assoc,List.append_assoc])
 have HFL:Hid (∀ k,k≤n→(F k).length≤900000):=hide (fun k hk=>by have:=HIL.out k;rw [hF];dsimp only;rw [List.length_append];omega)
 have hFn:E0++it n=F n:=by rw [hF]
 rw [hFn]
 clear hFn hF HIS HIL hi0 hE0 hE1 hit hvl hml hs hv
 go_enter Tryz.func109,Tryz.ntmps109
 go_wp2_with fail
 refine (HV.out w (Below.refl _ _)).mono ?_
 rintro e w1 ⟨v1,rfl,hown1,hb1⟩
 clear HV
 go_wp2
 go_loopw [5,6] (fun o i wr=>∃ k:Nat,k≤n∧i=.int .i64 (k:Int)∧wr.ownsRow w.heap.size 66 3 o (F k).length (evCs (F k))∧Below w.heap.size w wr)
  (fun _ i _=>n - (intOf i).toNat)
 case atStart=>exact ⟨0,Nat.zero_le _,rfl,by rw [HF0.out];exact hown1,hb1⟩
 case round =>
  clear hown1 hb1
  obtain ⟨k,hk,rfl,hown,hbr⟩:=hrel
  obtain ⟨OA,oc,rfl,hoc⟩:=own_slice hown
  by_cases hkn:k<n
  · have hki:(k:Int)<(n:Int):=by omega
    have hlk:=HFL.out k hk
    have HSN:=hide (HFS.out k)
    obtain ⟨X,hX⟩:∃ X,X=F k:=⟨_,rfl⟩
    rw [← hX] at hown hlk HSN
    rw [← hX]
    clear hX
    have hbz:=bl_alloc (Below.refl wr.heap.size wr) (.cells #[.int .i64 8,.int .i64 (k:Int),.int .i64 0] 66)
    have N6:=Blk.new wr 66 #[.int .i64 8,.int .i64 (k:Int),.int .i64 0]
    have hownx:=own_step hown hbz
    have hwx:=bl_step hbr hbz
    obtain ⟨g7,cap7,w7,hrun,hown7,hgrow7,_,_⟩:=run_append_lies (P:=Tryz.prog) (wr.alloc (.cells #[.int .i64 8,.int .i64 (k:Int),.int .i64 0] 66)) 27 27 w.heap.size 66 i0 (.agg #[.int .i64 0,.int .i64 0,.int .i64 0]) 3 24 Tryz.underlying27 hi hz0 hz1 hz2 rfl (by decide) _ X.length (evCs X) hownx ⟨wr.heap.size,0,none⟩ 1 1 [.int .i64 8,.int .i64 (k:Int),.int .i64 0] rfl (fun j u hu=>by rw [add_zero_off];exact N6.cell (by simpa using hu)) (by simp [Value.oneCell']) (by omega) (by unfold maxLen;omega) (by omega) hwx.size _ rfl
    have hw7:Below w.heap.size w w7:=hwx.grown hgrow7 hwx.size (fun j hj=>own_base hownx hj)
    have HO7:Hid (w7.ownsRow w.heap.size 66 3 (.slice (some ⟨g7,0,none⟩) (X.length+1) cap7) (X++[(8,(k:Int),0)]).length (evCs (X++[(8,(k:Int),0)]))):=hide (by rw [evCs_snoc,List.length_append];exact hown7)
    clear hown7 hgrow7 N6 hownx hwx hbz hown hbr
    go_wp2_with (at_builtin;refine wpList_append_run (.tmp 14) (.tmp 17) 27 rfl rfl _ _ rfl rfl hrun ?_)
    clear hrun
    go_wp2_with fail
    refine (HM.out w7 hw7).mono ?_
    rintro e w8 ⟨v8,rfl,hown8,hb8⟩
    have HB8:=bl_step hw7 hb8
    obtain ⟨v9,w9,hrun9,hown9,hbl9⟩:=ev_app_own (X++[(8,(k:Int),0)]) E1 _ v8 w.heap.size w7.heap.size w8 (own_step HO7.out hb8) hown8 (by rw [List.length_append,List.length_singleton];omega) (by have:=HML.out;omega) HB8.size
    have HB9:=hbl9 w HB8 (Nat.le_refl _)
    have HO9:Hid (w9.ownsRow w.heap.size 66 3 v9 (F (k+1)).length (evCs (F (k+1)))):=hide (by rw [HSN.out];exact hown9)
    clear hown9 hbl9 hown8 hb8 HO7
    go_wp2_with (at_builtin;refine wpList_append_run (.tmp 19) (.tmp 21) 27 rfl rfl _ _ rfl rfl hrun9 ?_)
    clear hrun9
    go_wp2
    go_roundw
    case rel=>exact ⟨k+1,by omega,by go_num,HO9.out,HB9⟩
    case measure=>simp [intOf];omega
  · obtain rfl:k=n:=by omega
    have hki:¬ (k:Int)<(k:Int):=by omega
    go_wp2
    go_ret
    exact ⟨_,rfl,hown,hbr⟩
theorem rev20 (rs:List Rg) (A:Option Addr) (c n:Nat) (w:World) (hs:Sl w w.heap.size A (rgCells rs)) (hrl:rs.length≤64) (hv:∀ r∈rs,r.v=0∨3≤r.v∧r.v≤64) (h1:1≤n) (hn:n≤100) :
 Calls Tryz.prog 65 #[.slice A rs.length c,.int .i64 (n:Int)] w (Evo (evB rs n) w):=by
 have HR:=hide (rrecEv rs A c n w hs hrl hv hn)
 have HC:=hide (fun w'=>rcntEv11 n (by omega) w')
 have HS:=hide (fun w'=>rsortEv n h1 hn w')
 have hlv:=hvEv_length 0 rs
 have hli:=hitemEv_len hrl n
 have hl3:=cntEv_len n
 have hl4:=pairEv_len (netw (lg n))
 have hl5:=netw_100 hn
 have he:evB rs n=(hvEv 0 rs++hitemEv rs n)++cntEv n++pairEv (netw (lg n)):=rfl
 rw [he]
 obtain ⟨X,hX⟩:∃ X,X=hvEv 0 rs++hitemEv rs n:=⟨_,rfl⟩
 have hlx:X.length≤1000000:=by rw [hX,List.length_append];omega
 obtain ⟨Y,hY⟩:∃ Y,Y=cntEv n:=⟨_,rfl⟩
 obtain ⟨Z,hZ⟩:∃ Z,Z=pairEv (netw (lg n)):=⟨_,rfl⟩
 rw [← hX] at HR ⊢
 rw [← hY] at HC hl3 ⊢
 rw [← hZ] at HS hl4 ⊢
 have HLX:=hide hlx
 have HLY:Hid (Y.length≤1000):=hide (by omega)
 have HLZ:Hid (Z.length≤20000):=hide (by omega)
 clear he hX hY hZ hlx hlv hli hl3 hl4 hl5 hs hv
 go_enter Tryz.func65,Tryz.ntmps65
 go_wp2_with fail
 refine HR.out.mono ?_
 rintro e w1 ⟨v1,rfl,hown1,hb1⟩
 clear HR
 have HO1:=hide hown1
 clear hown1
 go_wp2_with fail
 refine (HC.out w1).mono ?_
 rintro e w2 ⟨v2,rfl,hown2,hb2⟩
 have HB2:=bl_step hb1 hb2
 obtain ⟨v3,w3,hrun3,hown3,hbl3⟩:=ev_app_own X Y v1 v2 w.heap.size w1.heap.size w2 (own_step HO1.out hb2) hown2 (by have:=HLX.out;omega) (by have:=HLY.out;omega) HB2.size
 have HB3:=hbl3 w HB2 (Nat.le_refl _)
 have HO3:=hide hown3
 clear hown3 hown2 hbl3 hb2 hb1 HO1 HC
 go_wp2_with (at_builtin;refine wpList_append_run (.tmp 8) (.tmp 10) 27 rfl rfl _ _ rfl rfl hrun3 ?_)
 clear hrun3
 go_wp2_with fail
 refine (HS.out w3).mono ?_
 rintro e w4 ⟨v4,rfl,hown4,hb4⟩
 have HB4:=bl_step HB3 hb4
 obtain ⟨v5,w5,hrun5,hown5,hbl5⟩:=ev_app_own (X++Y) Z v3 v4 w.heap.size w3.heap.size w4 (own_step HO3.out hb4) hown4 (by have h1:=HLX.out;have h2:=HLY.out;rw [List.length_append];omega) (by have:=HLZ.out;omega) HB4.size
 have HB5:=hbl5 w HB4 (Nat.le_refl _)
 have HO5:=hide hown5
 clear hown5 hown4 hbl5 hb4 HO3 HS
 go_wp2_with (at_builtin;refine wpList_append_run (.tmp 12) (.tmp 14) 27 rfl rfl _ _ rfl rfl hrun5 ?_)
 clear hrun5
 go_wp2
 go_ret
 exact ⟨_,rfl,HO5.out,HB5⟩
end
section
open Go.RowKit Go.Shelf
theorem rev21 (op vs pts:Int) (rs:List Rg) (HA:Option Addr) (hc:Nat) (w:World) (hh:Sl w w.heap.size HA (rgCells rs)) (hz:hcheck op vs rs pts=0) (h100:op=5→pts≤100) :
 Calls Tryz.prog 34 #[.agg #[.int .i64 op,.int .i64 vs,.slice HA rs.length hc,.int .i64 pts]] w (Evs (evH21 op vs rs pts) w):=by
 obtain ⟨-,-,c3,-,c5,-,c7,-⟩:=hcheck_zero hz
 have N0:=Blk.new w 24 #[.int .i64 op,.int .i64 vs,.slice HA rs.length hc,.int .i64 pts]
 have hb0:=bl_alloc (Below.refl w.heap.size w) (.cells #[.int .i64 op,.int .i64 vs,.slice HA rs.length hc,.int .i64 pts] 24)
 have b0:=N0.cell (i:=0) rfl
 have b1:=N0.cell (i:=1) rfl
 have b2:=N0.cell (i:=2) rfl
 have b3:=N0.cell (i:=3) rfl
 by_cases h5:op=5
 · subst h5
   obtain ⟨l1,l64,hwr⟩:=c5 (by omega)
   obtain ⟨p1,-⟩:=c7 rfl
   have p100:=h100 rfl
   obtain ⟨n,rfl⟩:∃ n:Nat,pts=(n:Int):=⟨pts.toNat,by omega⟩
   have H:=hide (rev20 rs HA hc n _ ((hh.below hb0).more hb0.size) l64 (rg_sizes hwr) (by omega) (by omega))
   have he:evH21 5 vs rs (n:Int)=evB rs n:=rfl
   rw [he]
   clear c3 c5 c7 hwr hz h100 hh he N0 p1 p100 l1 l64
   go_enter Tryz.func34,Tryz.ntmps34
   go_wp2_with fail
   refine H.out.mono ?_
   rintro e w1 ⟨v,rfl,hown,hb1⟩
   obtain ⟨A,c,rfl,_⟩:=own_slice hown
   go_wp2
   go_ret
   exact ⟨A,c,rfl,Sl.of_own hown,bl_step hb0 hb1⟩
 · have H:=hide (revents_any op vs pts rs HA hc _ ((hh.below hb0).more hb0.size) c3 (fun h=>⟨(c5 (by omega)).1,(c5 (by omega)).2.1,rg_sizes (c5 (by omega)).2.2⟩))
   have he:evH21 op vs rs pts=evH op vs rs:=if_neg h5
   rw [he]
   clear c3 c5 c7 hz h100 hh he N0
   go_enter Tryz.func34,Tryz.ntmps34
   go_wp2_with fail
   refine H.out.mono ?_
   rintro e w1 ⟨A,c,rfl,hs,hb1⟩
   go_wp2
   go_ret
   exact ⟨A,c,rfl,hs,bl_step hb0 hb1⟩
section
variable (bs:List Int) (A:Option Addr) (c:Nat) (w:World)
variable (hs:Sl w w.heap.size A (byCells bs)) (hby:By bs) (h100:(hdecode bs).1.qs.length≤100)
include hby h100
include hs
end
end
end Go.Proofs.YtfljlmleiggmjaaGreatDoor
