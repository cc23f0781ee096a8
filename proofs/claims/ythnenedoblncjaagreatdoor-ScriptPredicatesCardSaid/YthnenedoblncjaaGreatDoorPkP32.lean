/- RefValue -/
import Derived.Test.YthnenedoblncjaaGreatDoorPkP05
import Derived.Test.YthnenedoblncjaaGreatDoorPkP07
import Derived.Test.YthnenedoblncjaaGreatDoorPkP08
set_option maxRecDepth 1000000
set_option maxHeartbeats 8000000
namespace Go.Proofs.YthnenedoblncjaaGreatDoor
section
open Go.RowKit
theorem dig_of (x k:Nat) (h:k<4):x % 18446744073709551616 / 65536 ^ k % 65536=x / 65536 ^ k % 65536:=by
 have:k=0∨k=1∨k=2∨k=3:=by omega
 rcases this with rfl | rfl | rfl | rfl
 · simp only [Nat.pow_zero,Nat.div_one];omega
 · simp only [Nat.pow_one];omega
 · rw [show (65536:Nat) ^ 2=4294967296 from rfl];omega
 · rw [show (65536:Nat) ^ 3=281474976710656 from rfl];omega
theorem lim_nat (u j:Nat):lim (u:Int) j=((u / 65536 ^ (4*j) % 18446744073709551616:Nat):Int):=by
 unfold lim
 have e:(18446744073709551616:Int) ^ j=((65536 ^ (4*j):Nat):Int):=by
  rw [Nat.pow_mul,Int.natCast_pow];rfl
 rw [e];rfl
theorem dig_limb (u j k:Nat) (h:k<4):u / 65536 ^ (4*j) % 18446744073709551616 / 65536 ^ k % 65536=u / 65536 ^ (4*j+k) % 65536:=by
 rw [dig_of _ _ h,Nat.div_div_eq_div_mul,← Nat.pow_add]
theorem W64_nat (n:Nat):(18446744073709551616:Int) ^ n=((65536 ^ (4*n):Nat):Int):=by
 rw [Nat.pow_mul,Int.natCast_pow];rfl
structure ValSt (n:Nat) (v:Int) (u:Nat):Prop where
 lims:lims n v=lims n (u:Int)
 lt:u<65536 ^ (4*n)
 pos:0≤v→(u:Int)=v
 neg:v<0→(u:Int)=v+(18446744073709551616:Int) ^ n
theorem ValSt.of {n:Nat} {v:Int} (hf:Fits n v):∃ u,ValSt n v u:=by
 have hp:=W64_pos n
 have hN:=W64_nat n
 obtain ⟨h1,h2⟩:=hf
 by_cases h0:0≤v
 · refine ⟨v.toNat,?_,?_,?_,?_⟩
   · rw [show ((v.toNat:Nat):Int)=v by omega]
   · omega
   · intro _;omega
   · intro _;omega
 · refine ⟨(v+(18446744073709551616:Int) ^ n).toNat,?_,?_,?_,?_⟩
   · have e:(((v+(18446744073709551616:Int) ^ n).toNat:Nat):Int)=v+(18446744073709551616:Int) ^ n:=by omega
     rw [e]
     exact lims_eq (Int.add_emod_right v _).symm
   · omega
   · intro _;omega
   · intro _;omega
abbrev HeldN (w:World) (P:Nat→Prop) (n0 g1 g:Nat) (v0 v1:Value) (n:Int) (A:Option Addr) (c:Nat) (w':World):Prop :=
 (Below w.heap.size w w'∧n0≤w'.heap.size∧R2 w' g∧NumAt w' (fun k=>P k∧k≠g) n A c)∧w'.cell? ⟨g1,0,none⟩=some v0∧w'.cell? ⟨g1,1,none⟩=some v1 ∧
   w'.cell? ⟨g,0,none⟩=some (Cw w' ⟨g,0,none⟩)∧w'.cell? ⟨g,1,none⟩=some (Cw w' ⟨g,1,none⟩)∧w'.frozen? ⟨g,0,none⟩=false∧w'.frozen? ⟨g,1,none⟩=false
section
variable {w wk w':World} {P:Nat→Prop} {n0 g1 g c:Nat} {v0 v1:Value} {n:Int} {A:Option Addr}
theorem HeldN.mk' (hb:Below w.heap.size w w') (hn:n0≤w'.heap.size) (hr:R2 w' g) (hN:NumAt w' (fun k=>P k∧k≠g) n A c) (h1:w'.cell? ⟨g1,0,none⟩=some v0) (h2:w'.cell? ⟨g1,1,none⟩=some v1):HeldN w P n0 g1 g v0 v1 n A c w':=by
 have hr':=hr
 obtain ⟨u,v,hB⟩:=hr'
 exact ⟨⟨hb,hn,hr,hN⟩,h1,h2,Cw.of (hB.cell (i:=0) rfl),Cw.of (hB.cell (i:=1) rfl),hB.frozen 0,hB.frozen 1⟩
theorem HeldN.keep (h:HeldN w P n0 g1 g v0 v1 n A c wk) (hb:Below wk.heap.size wk w'):HeldN w P n0 g1 g v0 v1 n A c w':=by
 have on:∀ {b o:Nat} {v:Value},wk.cell? ⟨b,o,none⟩=some v→w'.cell? ⟨b,o,none⟩=some v:=fun h=>(hb.cell (p:=⟨_,_,none⟩) (cell_lt h)).trans h
 obtain ⟨⟨h0,hn,⟨u,v,hB⟩,hN⟩,h1,h2,_⟩:=h
 exact HeldN.mk' (bl_step h0 hb) (Nat.le_trans hn hb.size) ⟨u,v,hB.step hb⟩ (hN.step hb) (on h1) (on h2)
theorem HeldN.set2 (h:HeldN w P n0 g1 g v0 v1 n A c wk) (h1:g1≠g) (hg:w.heap.size≤g) (x y:Value):HeldN w P n0 g1 g v0 v1 n A c ((wk.setCell ⟨g,0,none⟩ x).setCell ⟨g,1,none⟩ y):=by
 have on:∀ {b o:Nat} {v:Value},b≠g→wk.cell? ⟨b,o,none⟩=some v→((wk.setCell ⟨g,0,none⟩ x).setCell ⟨g,1,none⟩ y).cell? ⟨b,o,none⟩=some v:=fun hb h=>by
  rw [World.cell?_of_block (Below.heap_setCell _ _ _ _ (by exact hb)),World.cell?_of_block (Below.heap_setCell _ _ _ _ (by exact hb))]
  exact h
 obtain ⟨⟨h0,hn,⟨u,v,hB⟩,hN⟩,c1,c2,_⟩:=h
 exact HeldN.mk' ((h0.setCell (by exact hg) _).setCell (by exact hg) _) (by simpa using hn) ⟨_,_,(hB.set 0 x).set 1 y⟩ ((hN.set x).set y) (on h1 c1) (on h1 c2)
theorem HeldN.big (h:HeldN w P n0 g1 g v0 v1 n A c wk):n0≤wk.heap.size:=h.1.2.1
theorem HeldN.row (h:HeldN w P n0 g1 g v0 v1 n A c wk):R2 wk g:=h.1.2.2.1
theorem HeldN.below (h:HeldN w P n0 g1 g v0 v1 n A c wk):Below w.heap.size w wk:=h.1.1
theorem HeldN.num (h:HeldN w P n0 g1 g v0 v1 n A c wk):NumAt wk (fun k=>P k∧k≠g) n A c:=h.1.2.2.2
end
theorem value_any (P:Nat→Prop) (n:Nat) (v:Int) (hf:Fits n v) (hn:1≤n) (hn8:n≤8) (A:Option Addr) (c:Nat) (w:World) (hs:Sl w w.heap.size A (uCs (lims n v))) (hP:Up w P) :
 Calls Tryz.prog 55 #[.slice A n c] w (GaveR P v w):=by
 obtain ⟨u,hu⟩:=ValSt.of hf
 have htop:(9223372036854775808≤lim v (n - 1) ↔ v<0):=by
  obtain ⟨m,rfl⟩:∃ m,n=m+1:=⟨n - 1,by omega⟩
  exact lim_top hf
 obtain ⟨w0,hw0⟩:∃ w0,w0=w.alloc (.cells #[.int .i64 0,.slice none 0 0] 81):=⟨_,rfl⟩
 have hb0:Below w.heap.size w w0:=by rw [hw0];exact bA
 have B0:Blk w0 w.heap.size 81 #[.int .i64 0,.slice none 0 0]:=by rw [hw0];exact Blk.new _ _ _
 have hsz:w0.heap.size=w.heap.size+1:=by rw [hw0];simp
 have HP:=hide hP;have HU:=hide hu;have HS:=hide hs;have HT:=hide htop;have HF:=hide hf
 obtain ⟨i0,hi,hz0,hz1,hz2⟩:=info_parts int_info
 have HB0:=hide hb0;have HBB:=hide B0;have HSZ:=hide hsz
 clear hP hb0 B0 hsz hu hs htop hf
 go_enter Tryz.func55,Tryz.ntmps55
 go_wp2
 rw [← hw0]
 clear hw0
 go_loopw [3,4] (fun d i wr=>∃ j:Nat,j≤n∧i=.int .i64 j∧Below w0.heap.size w0 wr∧wr.ownsRow w0.heap.size 3 1 d (4*j) (dCs (pd (4*j) u)))
  (fun _ i _=>n - (intOf i).toNat)
 case atStart=>exact ⟨0,by omega,rfl,Below.refl _ _,World.ownsRow_nil _ _ _ _⟩
 case round =>
  obtain ⟨j,hj,rfl,hbr,hown⟩:=hrel
  by_cases hlt:j<n
  · have hjk:(j:Int)<(n:Int):=by omega
    have hj0:(0:Int)≤(j:Int):=by omega
    have hx:=lims_get v hlt
    obtain ⟨bA,oA,rfl,_,hcA⟩:=(HS.out.below (bl_step HB0.out hbr)).u (by rw [lims_length];omega)
    have c0:=hcA j _ hx
    have hlu:lim v j=lim (u:Int) j:=by
     have h1:=lims_get (u:Int) hlt
     rw [← HU.out.lims,hx] at h1
     exact Option.some.inj h1
    rw [hlu,lim_nat] at c0
    obtain ⟨L,hL⟩:∃ L,L=u / 65536 ^ (4*j) % 18446744073709551616:=⟨_,rfl⟩
    rw [← hL] at c0
    have HL:=hide hL
    have HBr:=hide hbr;have HOw:=hide hown
    have hLb:L<18446744073709551616:=by omega
    clear hx hcA hlu hL hbr hown
    rename World=>wq
    go_wp2
    go_loopw [3,5,6] (fun d x i wr=>∃ k:Nat,k≤4∧i=.int .i64 k∧x=.int .u64 ((L / 65536 ^ k:Nat):Int)∧Below w0.heap.size w0 wr∧wr.ownsRow w0.heap.size 3 1 d (4*j+k) (dCs (pd (4*j+k) u)))
     (fun _ _ i _=>4 - (intOf i).toNat)
    case atStart=>exact ⟨0,by omega,rfl,by rw [Nat.pow_zero,Nat.div_one],HBr.out,HOw.out⟩
    case round =>
     clear HBr HOw c0
     obtain ⟨k,hk,rfl,rfl,hbr,hown⟩:=hrel
     by_cases hk4:k<4
     · have hkk:(k:Int)<4:=by omega
       have hyl:L / 65536 ^ k<18446744073709551616:=Nat.lt_of_le_of_lt (Nat.div_le_self _ _) hLb
       have hdg:L / 65536 ^ k % 65536=u / 65536 ^ (4*j+k) % 65536:=by rw [HL.out];exact dig_limb u j k hk4
       have hnx:L / 65536 ^ k / 65536=L / 65536 ^ (k+1):=by rw [Nat.div_div_eq_div_mul,Nat.pow_succ]
       obtain ⟨y,hy⟩:∃ y,y=L / 65536 ^ k:=⟨_,rfl⟩
       rw [← hy] at hyl hdg hnx ⊢
       obtain ⟨r,hr⟩:∃ r,r=y % 65536:=⟨_,rfl⟩
       obtain ⟨q,hq⟩:∃ q,q=y / 65536:=⟨_,rfl⟩
       rw [← hr] at hdg
       rw [← hq] at hnx
       have hmod:(y:Int).tmod 65536=(r:Int):=by rw [Int.tmod_eq_emod_of_nonneg (by omega)];omega
       have hmod2:(y:Int) % 65536=(r:Int):=by omega
       have hdiv:(y:Int).tdiv 65536=(q:Int):=by rw [Int.tdiv_eq_ediv_of_nonneg (by omega)];omega
       have hdiv2:(y:Int) / 65536=(q:Int):=by omega
       have hwr:IntKind.i64.wrap (r:Int)=(r:Int):=by rw [IntKind.wrap_i64];omega
       have hwq:IntKind.u64.wrap (q:Int)=(q:Int):=by simp only [IntKind.wrap_u64];omega
       have HDG:=hide hdg;have HNX:=hide hnx
       clear hr hq hy hdg hnx hyl
       go_wp2_with (at_builtin;refine wpList_append_lies _ rfl (.tmp 22) (.tmp 26) 79 rfl w0.heap.size 3 i0 (.int .i64 0) 1 8 Tryz.underlying79 hi hz0 hz1 hz2 rfl (by decide) _ (4*j+k) _ rfl (own_step hown (bl_alloc (Below.refl _ _) _)) ⟨wr.heap.size,0,none⟩ 1 1 [.int .i64 (r:Int)] rfl rfl (blk_cells (Blk.new _ _ _)) (by simp [Value.oneCell']) (by omega) (by unfold maxLen;omega) (by omega) (by have:=hbr.size;simp;omega) (wr.heap.size+1) (by simp) ?_)
       intro g' cap w8 hown8 hgrow hat hlt8
       have hb8:Below w0.heap.size w0 w8:=(bl_alloc hbr _).grown hgrow (by have:=hbr.size;simp;omega) (fun j hj=>own_base hown hj)
       have HO8:=hide hown8;have HB8:=hide hb8
       clear hown8 hb8 hgrow hat hlt8
       go_wp2
       go_roundw
       case rel =>
        refine ⟨k+1,by omega,by go_num,by rw [HNX.out],HB8.out,?_⟩
        rw [← Nat.add_assoc,pd_succ,dCs_app,← HDG.out]
        exact HO8.out
       case measure=>simp [intOf];omega
     · obtain rfl:k=4:=by omega
       have HO:=hide hown
       clear hown
       go_wp2
       go_roundw
       case rel=>exact ⟨j+1,by omega,by go_num,hbr,HO.out⟩
       case measure=>simp [intOf];omega
  · obtain rfl:j=n:=by omega
    have hjk:¬ (j:Int)<(j:Int):=by omega
    obtain ⟨A',c',rfl,hc',hcm'⟩:=own_slice' hown
    have hnl:SlN wr (fun k=>P k∧k≠w.heap.size) A' (dCs (pd (4*j) u)):=(own_slN hown).mono fun k hk=>⟨HP.out k (by have:=HSZ.out;omega),by have:=HSZ.out;omega⟩
    have HM:=hide (make16_any _ 1 (pd (4*j) u) A' c' wr hnl (pd_ok _ _) (by rw [pd_len];exact hc') hcm' (fun _=>.inl rfl))
    rw [dval_pd,Nat.mod_eq_of_lt HU.out.lt,pd_len,Int.one_mul] at HM
    obtain ⟨U,hU⟩:∃ U:Int,U=(u:Int):=⟨_,rfl⟩
    rw [← hU] at HM
    have HUU:=hide hU
    clear hU
    have hwr:Below w.heap.size w wr:=bl_step HB0.out hbr
    have hbb:=HBB.out.below hbr (by have:=HSZ.out;omega)
    have HWr:=hide hwr;have HBBr:=hide hbb
    clear hown hnl hbb hwr
    go_wp2_with fail
    refine HM.out.mono ?_
    rintro e w5 ⟨A5,c5,rfl,hN5,hb5⟩
    unfold numV
    have hB5:=bl_step HWr.out hb5
    have hbb5:=HBBr.out.step hb5
    obtain ⟨w6,hw6⟩:∃ w6,w6=w5.alloc (.cells #[.int .i64 U.sign,.slice A5 (digs U.natAbs).length c5] 81):=⟨_,rfl⟩
    have hb6:Below w5.heap.size w5 w6:=by rw [hw6];exact bA
    have X6:Blk w6 w5.heap.size 81 #[.int .i64 U.sign,.slice A5 (digs U.natAbs).length c5]:=by rw [hw6];exact Blk.new _ _ _
    obtain ⟨gb,hgb⟩:∃ gb,gb=w5.heap.size:=⟨_,rfl⟩
    rw [← hgb] at X6
    have hB6:=bl_step hB5 hb6
    have hbb6:=hbb5.step hb6
    have hN6:=hN5.step hb6
    have hgw:gb≠w.heap.size:=by have:=hbb5.lt;omega
    have h00:HeldN w P w6.heap.size gb w.heap.size (.int .i64 U.sign) (.slice A5 (digs U.natAbs).length c5) U A5 c5 w6 :=
     HeldN.mk' hB6 (Nat.le_refl _) ⟨_,_,hbb6⟩ hN6 (X6.cell (i:=0) rfl) (X6.cell (i:=1) rfl)
    have hbA:=(HS.out.below hB5).more hB5.size
    obtain ⟨bA,oA,rfl,hbl,hcA⟩:=hbA.u (by rw [lims_length];omega)
    have ct:=hcA (j - 1) _ (lims_get v (show j - 1<j by omega))
    have hct0:=hbb6.lt
    have HGB:=hide hgb;have HW6:=hide hw6
    obtain ⟨top,hto⟩:∃ top,top=lim v (j - 1):=⟨_,rfl⟩
    rw [← hto] at ct
    have HTO:=hide hto
    have hjm:((j:Int) - 1).toNat=j - 1:=by omega
    have hjw:IntKind.i64.wrap ((j:Int) - 1)=(j:Int) - 1:=by rw [IntKind.wrap_i64];omega
    have hj1:(0:Int)≤(j:Int) - 1:=by omega
    have hj2:(j:Int) - 1<(j:Int):=by omega
    have hj3:(0:Int)<(j:Int):=by omega
    clear hcA hto hbA hb6 X6 hbb5 hB5 hbb6 hN6 hgb hw6
    by_cases hv:v<0
    · have htt:9223372036854775808≤top:=by rw [HTO.out];exact HT.out.2 hv
      have hj4:IntKind.i64.wrap (4*(j:Int))=4*(j:Int):=by rw [IntKind.wrap_i64];omega
      obtain ⟨PW,hPW⟩:∃ PW:Int,PW=(65536:Int) ^ (4*j):=⟨_,rfl⟩
      have HPW:Hid (∀ wk:World,w6.heap.size≤wk.heap.size→Calls Tryz.prog 105 #[.int .i64 (4*(j:Int))] wk (GaveR (fun k=>P k∧k≠w.heap.size) PW wk)):=hide fun wk hk=>by
       rw [hPW]
       have h:=power_any (fun k=>P k∧k≠w.heap.size) (4*j) (by omega) wk (fun k hk'=>⟨HP.out k (by omega),by omega⟩)
       exact h
      have hlu:(digs U.natAbs).length≤1000:=by
       rw [HUU.out,Int.natAbs_natCast]
       exact Nat.le_trans (digs_len HU.out.lt) (by omega)
      have hlp:(digs PW.natAbs).length≤1000:=by
       rw [hPW]
       rw [Int.natAbs_pow,show (65536:Int).natAbs=65536 from rfl,digs_pow]
       simp;omega
      have HSB:Hid (∀ (wk:World) (A':Option Addr) (c':Nat),w6.heap.size≤wk.heap.size→NumAt wk (fun k=>P k∧k≠w.heap.size) U A5 c5→NumAt wk (fun k=>P k∧k≠w.heap.size) PW A' c' →
       Calls Tryz.prog 81 #[.agg #[.int .i64 U.sign,.slice A5 (digs U.natAbs).length c5],.agg #[.int .i64 PW.sign,.slice A' (digs PW.natAbs).length c']] wk (GaveR (fun k=>P k∧k≠w.heap.size) v wk)):=hide fun wk A' c' hk h1 h2=>by
       have h:=sub_any (fun k=>P k∧k≠w.heap.size) U PW A5 A' c5 c' wk h1 h2 hlu hlp (fun k hk'=>⟨HP.out k (by omega),by omega⟩)
       have e:U - PW=v:=by
        rw [hPW]
        have:=HU.out.neg hv
        rw [← HUU.out] at this
        rw [W64_nat,Int.natCast_pow] at this
        have e2:((65536:Nat):Int)=65536:=rfl
        rw [e2] at this
        omega
       rw [e] at h
       exact h
      have hd0:=h00.keep (bl_drew (Below.refl _ _))
      clear hlu hlp hv hPW
      go_wp2_with fail
      rw [← HGB.out,← HW6.out]
      go_region_held3 (fun w'=>(Below w.heap.size w w'∧w6.heap.size≤w'.heap.size∧R2 w' w.heap.size∧NumAt w' (fun k=>P k∧k≠w.heap.size) U A5 c5)∧w'.cell? ⟨gb,0,none⟩=some (.int .i64 U.sign)∧w'.cell? ⟨gb,1,none⟩=some (.slice A5 (digs U.natAbs).length c5) ∧
       w'.cell? ⟨w.heap.size,0,none⟩=some (Cw w' ⟨w.heap.size,0,none⟩)∧w'.cell? ⟨w.heap.size,1,none⟩=some (Cw w' ⟨w.heap.size,1,none⟩)∧w'.frozen? ⟨w.heap.size,0,none⟩=false∧w'.frozen? ⟨w.heap.size,1,none⟩=false)
       (first | with_reducible exact hK5 | with_reducible exact hd0 | with_reducible exact h00 | with_reducible exact HeldN.keep (by assumption) (by assumption) | with_reducible exact hd0.keep (by assumption) | exact HeldN.set2 (by assumption) (by omega) (by omega) _ _)
       (first
         | (go_at_call 105;((with_reducible refine (HPW.out _ (by first | exact HeldN.big (by assumption))).mono ?_);rintro e w8 ⟨A8,c8,rfl,hN8,hb8⟩;unfold numV))
         | (go_at_call 81;((with_reducible refine (HSB.out _ A8 c8 (by first | exact HeldN.big (by assumption)) (by first | exact HeldN.num (by assumption)) hN8).mono ?_);rintro e w9 ⟨A9,c9,rfl,hN9,hb9⟩;have hK5:=HeldN.keep (by assumption) hb9;unfold numV)))
      all_goals
       go_wp2
       exact bodyPost_ret (R2.run (HeldN.row hK5) rfl rfl) rfl (gave_set (HeldN.below hK5) (by omega) hN9)
    · have htt:¬ 9223372036854775808≤top:=by rw [HTO.out];exact fun h=>hv (HT.out.1 h)
      have huv:=HU.out.pos (by omega)
      rw [← HUU.out] at huv
      have b0:=h00.2.1;have b1:=h00.2.2.1
      have r0:=h00.2.2.2.2.2.1;have r1:=h00.2.2.2.2.2.2
      have q0:=h00.2.2.2.1;have q1:=h00.2.2.2.2.1
      rw [HW6.out] at b0 b1 r0 r1 q0 q1
      have HUV:=hide huv
      have h6:=hide h00
      clear huv hv h00
      go_wp2
      rw [← HW6.out]
      have hN:=HeldN.num h6.out
      have hg:=gave_set (u:=.int .i64 U.sign) (v:=.slice A5 (digs U.natAbs).length c5) (HeldN.below h6.out) (Nat.le_refl _) hN
      rw [HUV.out] at hg
      refine bodyPost_ret (R2.run (HeldN.row h6.out) rfl rfl) rfl ?_
      rw [HUV.out]
      exact hg
end
end Go.Proofs.YthnenedoblncjaaGreatDoor
