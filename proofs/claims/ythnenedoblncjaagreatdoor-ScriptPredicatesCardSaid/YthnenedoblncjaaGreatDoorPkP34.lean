/- DecText RefLimbs RefFits RefParse10 -/
import Derived.Deep.CutBlock
import Derived.Deep.RegionLaw
import Derived.Laws.Bits64b
import Derived.Outline
import Derived.Shelf.Bits.Mul64
import Derived.Shelf.Small.Bits
import Derived.Test.YthnenedoblncjaaGreatDoorPkP09
import Derived.Test.YthnenedoblncjaaGreatDoorPkP32
import Derived.Test.YthnenedoblncjaaGreatDoorPkP33
set_option maxRecDepth 1000000
set_option maxHeartbeats 8000000
namespace Go.Proofs.YthnenedoblncjaaGreatDoor
section
open Go.RowKit
theorem isNg_cons (s:List UInt8):isNg s=true ↔ ∃ t,s=45::t:=by
 unfold isNg Lib.hasPrefix
 cases s with
 | nil=>simp [List.isPrefixOf]
 | cons a t =>
   simp only [List.isPrefixOf,Bool.and_true,beq_iff_eq]
   constructor
   · intro h;exact ⟨t,by rw [h]⟩
   · rintro ⟨u,h⟩;injection h with h1;exact h1.symm
theorem dgs_ng (t:List UInt8):dgs (45::t)=t∧isNg (45::t)=true:=by
 have h:isNg (45::t)=true:=(isNg_cons _).2 ⟨t,rfl⟩
 refine ⟨?_,h⟩
 unfold dgs Lib.trimPrefix
 unfold isNg at h
 rw [if_pos h];rfl
theorem dgs_pos {s:List UInt8} (h:isNg s=false):dgs s=s:=by
 unfold dgs Lib.trimPrefix
 unfold isNg at h
 rw [if_neg (by rw [h];decide)]
theorem signed_of {l:List Int} (hl:L64 l):∃ v,Fits l.length v∧lims l.length v=l:=by
 have hb:=valL_bd l hl
 have hp:=W64_pos l.length
 obtain ⟨v,h1,h2,_⟩:=sgn_lims (n:=l.length) (p:=valL l) (by omega) hb.2
 refine ⟨v,h1,?_⟩
 rw [h2]
 exact (lims_of rfl hl rfl).symm
end
section
open Go.RowKit
theorem lims_dig {n i X d:Nat} (hX:X<65536 ^ i) (hd:d<65536) :
 lims n ((X+65536 ^ i*d:Nat):Int)=(lims n (X:Int)).set (i / 4) (lim (X:Int) (i / 4)+((d*65536 ^ (i % 4):Nat):Int))∧lim (X:Int) (i / 4)+((d*65536 ^ (i % 4):Nat):Int)<18446744073709551616:=by
 have e4:65536 ^ i=65536 ^ (4*(i / 4))*65536 ^ (i % 4):=by rw [← Nat.pow_add,Nat.div_add_mod]
 have hlow:65536 ^ (i % 4)*65536≤18446744073709551616:=by
  have:i % 4=0∨i % 4=1∨i % 4=2∨i % 4=3:=by omega
  rcases this with h | h | h | h <;> rw [h] <;> decide
 have hu:0<65536 ^ (i % 4):=Nat.pow_pos (by decide)
 have hB:0<65536 ^ (4*(i / 4)):=Nat.pow_pos (by decide)
 -- the limb itself
 have hq:X / 65536 ^ (4*(i / 4))<65536 ^ (i % 4):=by
  rw [Nat.div_lt_iff_lt_mul hB,Nat.mul_comm,← e4];exact hX
 have hs:X / 65536 ^ (4*(i / 4))+d*65536 ^ (i % 4)<18446744073709551616:=by
  have:=Nat.mul_le_mul_right (65536 ^ (i % 4)) (show d≤65535 by omega)
  omega
 have hl:lim (X:Int) (i / 4)=((X / 65536 ^ (4*(i / 4)):Nat):Int):=by
  rw [lim_nat,Nat.mod_eq_of_lt (by omega)]
 have hn:lim ((X+65536 ^ i*d:Nat):Int) (i / 4)=((X / 65536 ^ (4*(i / 4))+d*65536 ^ (i % 4):Nat):Int):=by
  rw [lim_nat,e4,Nat.mul_assoc,Nat.add_mul_div_left _ _ hB,Nat.mul_comm (65536 ^ (i % 4)) d,Nat.mod_eq_of_lt hs]
 constructor
 · apply List.ext_getElem?
   intro j
   by_cases hj:j<n
   · rw [lims_get _ hj]
     by_cases hji:j=i / 4
     · subst hji
       rw [List.getElem?_set_self (by rw [lims_length];exact hj),hn,hl,Int.natCast_add]
     · rw [List.getElem?_set_ne (fun h=>hji h.symm),lims_get _ hj,lim_nat,lim_nat]
       congr 2
       rcases Nat.lt_or_ge j (i / 4) with h1 | h1
       · -- below: a multiple of W goes away
         obtain ⟨t,ht⟩:=Nat.exists_eq_add_of_le (show j+1≤i / 4 by omega)
         have e5:65536 ^ i=65536 ^ (4*j)*(18446744073709551616*(65536 ^ (4*t)*65536 ^ (i % 4))):=by
          rw [e4,ht,show 4*(j+1+t)=4*j+(4+4*t) by omega,Nat.pow_add,Nat.pow_add,Nat.mul_assoc,Nat.mul_assoc]
         rw [e5,Nat.mul_assoc,Nat.add_mul_div_left _ _ (Nat.pow_pos (by decide)),Nat.mul_assoc,Nat.add_mul_mod_self_left]
       · -- above: both are zero
         have h2:X+65536 ^ i*d<65536 ^ (4*j):=by
          have h3:65536 ^ (i+1)≤65536 ^ (4*j):=Nat.pow_le_pow_right (by decide) (by omega)
          rw [Nat.pow_succ] at h3
          have h4:=Nat.mul_le_mul_left (65536 ^ i) (show d≤65535 by omega)
          omega
         rw [Nat.div_eq_of_lt h2,Nat.div_eq_of_lt (show X<65536 ^ (4*j) by omega)]
   · rw [List.getElem?_eq_none (by rw [lims_length];omega),List.getElem?_eq_none (by rw [List.length_set,lims_length];omega)]
 · rw [hl];omega
theorem dig_digs (x i:Nat):dig (digs x) i=x / 65536 ^ i % 65536:=by
 unfold dig
 by_cases h:i<(digs x).length
 · rw [digs_at x i h];rfl
 · rw [List.getElem?_eq_none (by omega)]
   have h1:=digs_lt x
   have h2:65536 ^ (digs x).length≤65536 ^ i:=Nat.pow_le_pow_right (by decide) (by omega)
   rw [Nat.div_eq_of_lt (by omega)];rfl
theorem lims_shift {n k:Nat} (a:Int) (hk:4*n≤k):lims n (a+(65536:Int) ^ k)=lims n a:=by
 refine lims_eq ?_
 have e:(65536:Int) ^ k=(18446744073709551616:Int) ^ n*(65536:Int) ^ (k - 4*n):=by
  rw [show (18446744073709551616:Int)=(65536:Int) ^ 4 by decide,← Int.pow_mul,← Int.pow_add]
  congr 1
  omega
 rw [e,Int.add_mul_emod_self_left]
theorem limbs_any (P:Nat→Prop) (a:Int) (n:Nat) (hn:1≤n) (hn8:n≤8) (A:Option Addr) (c:Nat) (w:World) (ha:NumAt w P a A c) (hla:(digs a.natAbs).length≤100) :
 Calls Tryz.prog 78 #[numV a A c,.int .i64 (n:Int)] w fun e w'=>∃ A' c',e=.returned (.slice A' n c')∧Below w.heap.size w w'∧Sl w' w'.heap.size A' (uCs (lims n a)):=by
 unfold numV
 obtain ⟨L,hL⟩:∃ L,L=(digs a.natAbs).length:=⟨_,rfl⟩
 obtain ⟨sg,hsg⟩:∃ sg,sg=a.sign:=⟨_,rfl⟩
 obtain ⟨w0,hw0⟩:∃ w0,w0=w.alloc (.cells #[.int .i64 sg,.slice A L c] 81):=⟨_,rfl⟩
 obtain ⟨w1,hw1⟩:∃ w1,w1=w0.alloc (.cells #[.int .i64 sg,.slice A L c] 81):=⟨_,rfl⟩
 have hb0:Below w.heap.size w w0:=by rw [hw0];exact bA
 have B0:Blk w0 w.heap.size 81 #[.int .i64 sg,.slice A L c]:=by rw [hw0];exact Blk.new _ _ _
 have hb1:Below w0.heap.size w0 w1:=by rw [hw1];exact bA
 have X1:Blk w1 (w.heap.size+1) 81 #[.int .i64 sg,.slice A L c]:=by rw [hw1,hw0];exact Blk.new2 _ _ _ _
 have B1:=B0.step hb1
 have hB1:=bl_step hb0 hb1
 have hsz:w1.heap.size=w.heap.size+1+1:=by rw [hw1,hw0];simp
 rw [← hsg,← hL]
 have HN1:Hid (NumAt w1 (fun k=>True∧k≠w.heap.size+1) a A c):=hide ((ha.ne hB1 (g:=w.heap.size+1) (by omega)).mono fun k hk=>⟨trivial,hk.2⟩)
 have HLA:=hide hla;have HL:=hide hL;have HSG:=hide hsg;have HSZ:=hide hsz
 have HB1:=hide hB1;have HX1:=hide X1;have HBB1:=hide B1
 clear ha hla hL hsg hb0 B0 hb1 X1 B1 hB1 hsz
 go_enter Tryz.func78,Tryz.ntmps78
 go_upto_if 14 with fail
 rw [← hw0,← hw1]
 have HW0:=hide hw0;have HW1:=hide hw1
 clear hw0 hw1
 go_cut [6] from 11 to 24 (fun _ wc=>Below w.heap.size w wc∧∃ (X:Nat) (s5:Value) (A5:Option Addr) (c5:Nat),Blk wc (w.heap.size+1) 81 #[s5,.slice A5 (digs X).length c5]∧Sl wc wc.heap.size A5 (dCs (digs X))∧lims n (X:Int)=lims n a)
 · by_cases hs:sg<0
   · have hneg:a<0:=by
      rw [HSG.out] at hs
      exact Int.sign_neg_iff.1 hs
     obtain ⟨K,hK⟩:∃ K,K=max L (4*n):=⟨_,rfl⟩
     have hKb:K≤100:=by have:=HLA.out;rw [← HL.out] at this;omega
     obtain ⟨PW,hPW⟩:∃ PW:Int,PW=(65536:Int) ^ K:=⟨_,rfl⟩
     have hpos:0≤a+PW:=by
      have h1:=digs_lt a.natAbs
      have h2:65536 ^ (digs a.natAbs).length≤65536 ^ K:=Nat.pow_le_pow_right (by decide) (by rw [← HL.out];omega)
      have h3:PW=((65536 ^ K:Nat):Int):=by rw [hPW,Int.natCast_pow];rfl
      omega
     have hlp:(digs PW.natAbs).length≤1000:=by
      rw [hPW,Int.natAbs_pow,show (65536:Int).natAbs=65536 from rfl,digs_pow]
      simp;omega
     have HPW:Hid (∀ wk:World,w1.heap.size≤wk.heap.size→Calls Tryz.prog 105 #[.int .i64 (K:Int)] wk (GaveR (fun k=>True∧k≠w.heap.size+1) PW wk)):=hide fun wk hk=>by
      rw [hPW]
      exact power_any (fun k=>True∧k≠w.heap.size+1) K hKb wk (fun k hk'=>⟨trivial,by have:=HSZ.out;omega⟩)
     have hN1:=HN1.out
     have HAD:Hid (∀ (wk:World) (A':Option Addr) (c':Nat),w1.heap.size≤wk.heap.size→NumAt wk (fun k=>True∧k≠w.heap.size+1) a A c→NumAt wk (fun k=>True∧k≠w.heap.size+1) PW A' c' →
      Calls Tryz.prog 73 #[.agg #[.int .i64 sg,.slice A L c],.agg #[.int .i64 PW.sign,.slice A' (digs PW.natAbs).length c']] wk (GaveR (fun k=>True∧k≠w.heap.size+1) (a+PW) wk)):=hide fun wk A' c' hk h1 h2=>by
      have h:=add_any (fun k=>True∧k≠w.heap.size+1) a PW A A' c c' wk h1 h2 (by have:=HLA.out;omega) hlp (fun k hk'=>⟨trivial,by have:=HSZ.out;omega⟩)
      unfold numV at h
      rw [← HSG.out,← HL.out] at h
      exact h
     have HLS:Hid (lims n (a+PW)=lims n a):=hide (by rw [hPW];exact lims_shift a (by omega))
     obtain ⟨S,hS⟩:∃ S,S=a+PW:=⟨_,rfl⟩
     rw [← hS] at HAD HLS hpos
     have h00:HeldN w (fun _=>True) w1.heap.size w.heap.size (w.heap.size+1) (.int .i64 sg) (.slice A L c) a A c w1 :=
      HeldN.mk' HB1.out (Nat.le_refl _) ⟨_,_,HX1.out⟩ hN1 (HBB1.out.cell (i:=0) rfl) (HBB1.out.cell (i:=1) rfl)
     have hd0:=h00.keep (bl_drew (Below.refl _ _))
     have b1:=HBB1.out.cell (i:=1) rfl
     have hj4:IntKind.i64.wrap (4*(n:Int))=4*(n:Int):=by rw [IntKind.wrap_i64];omega
     have hmx:max (L:Int) (4*(n:Int))=(K:Int):=by omega
     have hmx2:(L:Int)≤4*(n:Int)∨4*(n:Int)<(L:Int):=by omega
     clear hS hlp hN1 hPW hK
     go_wp2_with fail
     go_region_held3 (fun w'=>(Below w.heap.size w w'∧w1.heap.size≤w'.heap.size∧R2 w' (w.heap.size+1)∧NumAt w' (fun k=>True∧k≠w.heap.size+1) a A c)∧w'.cell? ⟨w.heap.size,0,none⟩=some (.int .i64 sg)∧w'.cell? ⟨w.heap.size,1,none⟩=some (.slice A L c) ∧
      w'.cell? ⟨w.heap.size+1,0,none⟩=some (Cw w' ⟨w.heap.size+1,0,none⟩)∧w'.cell? ⟨w.heap.size+1,1,none⟩=some (Cw w' ⟨w.heap.size+1,1,none⟩)∧w'.frozen? ⟨w.heap.size+1,0,none⟩=false∧w'.frozen? ⟨w.heap.size+1,1,none⟩=false)
      (first | with_reducible exact hK5 | with_reducible exact hd0 | with_reducible exact h00 | with_reducible exact HeldN.keep (by assumption) (by assumption) | with_reducible exact hd0.keep (by assumption) | exact HeldN.set2 (by assumption) (by omega) (by omega) _ _)
      (first
        | (go_at_call 105;((with_reducible refine (HPW.out _ (by first | exact HeldN.big (by assumption))).mono ?_);rintro e w8 ⟨A8,c8,rfl,hN8,hb8⟩;unfold numV))
        | (go_at_call 73;((with_reducible refine (HAD.out _ A8 c8 (by first | exact HeldN.big (by assumption)) (by first | exact HeldN.num (by assumption)) hN8).mono ?_);rintro e w9 ⟨A9,c9,rfl,hN9,hb9⟩;have hK5:=HeldN.keep (by assumption) hb9;unfold numV)))
     all_goals
      go_wp2_with fail
      go_meet
      refine ⟨((HeldN.below hK5).setCell (by show w.heap.size≤w.heap.size+1;omega) _).setCell (by show w.heap.size≤w.heap.size+1;omega) _,S.toNat,.int .i64 S.sign,A9,c9,?_,?_,?_⟩
      · obtain ⟨u,v,hB⟩:=HeldN.row hK5
        rw [show S.toNat=S.natAbs by omega]
        exact (hB.set 0 _).set 1 _
      · rw [show S.toNat=S.natAbs by omega]
        exact ((hN9.set _).set _).1.any
      · rw [show ((S.toNat:Nat):Int)=S by omega]
        exact HLS.out
   · have hpos:0≤a:=by
      rw [HSG.out] at hs
      rcases Int.lt_or_le a 0 with h | h
      · exact absurd (Int.sign_neg_iff.2 h) hs
      · exact h
     have HPOS:=hide hpos
     clear hpos
     go_wp2_with fail
     go_meet
     refine ⟨HB1.out,a.natAbs,.int .i64 sg,A,c,?_,?_,?_⟩
     · rw [← HL.out];exact HX1.out
     · exact HN1.out.1.any
     · rw [show ((a.natAbs:Nat):Int)=a by have:=HPOS.out;omega]
 · obtain ⟨hbc,X,s5,A5,c5,hBx,hsx,hlx⟩:=hcut
   have HBc:=hide hbc;have HBx:=hide hBx;have HSX:=hide hsx;have HLX:=hide hlx
   clear hbc hBx hsx hlx
   have hmk:=make_u64 n (by omega) wc
   obtain ⟨w2,hw2⟩:∃ w2,w2=wc.alloc (.cells (uCs (List.replicate n 0)).toArray 44):=⟨_,rfl⟩
   have hb2:Below wc.heap.size wc w2:=by rw [hw2];exact bA
   have G2:Blk w2 wc.heap.size 44 (uCs (List.replicate n 0)).toArray:=by rw [hw2];exact Blk.new _ _ _
   have HB2:=hide hb2;have HG2:=hide G2
   clear hb2 G2
   go_wp2
   rw [← hw2]
   clear hw2 hmk
   obtain ⟨g,hg⟩:∃ g,g=wc.heap.size:=⟨_,rfl⟩
   rw [← hg] at HG2 ⊢
   have hge:wc.heap.size≤g∧g≤wc.heap.size:=by omega
   clear hg
   have hn4:IntKind.i64.wrap (4*(n:Int))=4*(n:Int):=by rw [IntKind.wrap_i64];omega
   go_loopw [8] (fun i wr=>∃ k:Nat,k≤4*n∧i=.int .i64 k∧Hid (Below wc.heap.size wc wr)∧Hid (Blk wr g 44 (uCs (lims n ((X % 65536 ^ k:Nat):Int))).toArray))
    (fun i _=>4*n - (intOf i).toNat)
   case atStart =>
    refine ⟨0,by omega,rfl,HB2,?_⟩
    rw [Nat.pow_zero,Nat.mod_one,show ((0:Nat):Int)=0 from rfl,lims_zeros]
    exact HG2
   case round =>
    clear HG2 HB2
    obtain ⟨k,hk,rfl,HBr,HBk⟩:=hrel
    by_cases hlt:k<4*n
    · have hki:(k:Int)<4*(n:Int):=by omega
      have hk0:(0:Int)≤(k:Int):=by omega
      obtain ⟨j,hj⟩:∃ j,j=k / 4:=⟨_,rfl⟩
      obtain ⟨r,hr⟩:∃ r,r=k % 4:=⟨_,rfl⟩
      have q1:(k:Int).tdiv 4=(j:Int):=by rw [Int.tdiv_eq_ediv_of_nonneg (by omega)];omega
      have q2:(k:Int).tmod 4=(r:Int):=by rw [Int.tmod_eq_emod_of_nonneg (by omega)];omega
      have q3:(k:Int) / 4=(j:Int):=by omega
      have q4:(k:Int) % 4=(r:Int):=by omega
      have hr4:r<4:=by omega
      have hjn:j<n:=by omega
      have HJ:=hide hj;have HR:=hide hr
      clear hj hr
      rename World=>wq
      go_wp2
      go_loopw [9,10] (fun u i wr=>∃ t:Nat,t≤r∧i=.int .i64 t∧u=.int .u64 ((65536 ^ t:Nat):Int)∧wr=wq)
       (fun _ i _=>4 - (intOf i).toNat)
      case atStart=>exact ⟨0,by omega,rfl,rfl,rfl⟩
      case round =>
       obtain ⟨t,ht,rfl,rfl,rfl⟩:=hrel
       by_cases htr:t<r
       · have htri:(t:Int)<(r:Int):=by omega
         have e1:IntKind.u64.wrap (((65536 ^ t:Nat):Int)*65536)=((65536 ^ (t+1):Nat):Int):=by
          have:t=0∨t=1∨t=2:=by omega
          rcases this with rfl | rfl | rfl <;> decide
         obtain ⟨u1,hu1⟩:∃ u1:Nat,u1=65536 ^ t:=⟨_,rfl⟩
         rw [← hu1] at e1 ⊢
         obtain ⟨u2,hu2⟩:∃ u2:Nat,u2=65536 ^ (t+1):=⟨_,rfl⟩
         rw [← hu2] at e1
         have HU2:=hide hu2
         clear hu1 hu2
         go_wp2
         go_roundw
         case rel=>exact ⟨t+1,by omega,by go_num,by rw [HU2.out],by first | trivial | rfl⟩
         case measure=>simp [intOf];omega
       · obtain rfl:t=r:=by omega
         have htri:¬ (t:Int)<(t:Int):=by omega
         have hX:X % 65536 ^ k<65536 ^ k:=Nat.mod_lt _ (Nat.pow_pos (by decide))
         have hd:X / 65536 ^ k % 65536<65536:=Nat.mod_lt _ (by decide)
         obtain ⟨s1,s2⟩:=lims_dig (n:=n) hX hd
         rw [← HJ.out,← HR.out] at s1 s2
         have hnx:X % 65536 ^ k+65536 ^ k*(X / 65536 ^ k % 65536)=X % 65536 ^ (k+1):=by rw [Nat.pow_succ,Nat.mod_mul]
         rw [hnx] at s1
         have g0:=HBk.out.cell (get_uCs (lims_get ((X % 65536 ^ k:Nat):Int) hjn))
         have f0:=HBk.out.frozen j
         have hgl:=HBk.out.lt
         have hlb:=lim_bd ((X % 65536 ^ k:Nat):Int) j
         have HB4:=HBk.out.drew.set j (.int .u64 (lim ((X % 65536 ^ k:Nat):Int) j+((X / 65536 ^ k % 65536*65536 ^ t:Nat):Int)))
         rw [set_uCs,← s1] at HB4
         have HNB:=hide HB4
         have hdg:=dig_digs X k
         have hbx1:=(HBr.out.cell (p:=⟨w.heap.size+1,1,none⟩) HBx.out.lt).trans (HBx.out.cell (i:=1) rfl)
         have HDG:Hid (∀ wx:World,Sl wx wx.heap.size A5 (dCs (digs X))→Calls Tryz.prog 121 #[.slice A5 (digs X).length c5,.int .i64 (k:Int)] wx fun e w'=>e=.returned (.int .i64 ((X / 65536 ^ k % 65536:Nat):Int))∧wx=w'):=hide fun wx h=>by
          refine (digit_any (digs X) k A5 c5 wx h).mono ?_
          rintro e w' ⟨rfl,rfl⟩
          rw [hdg];exact ⟨rfl,rfl⟩
         have HSq:=hide ((HSX.out.below HBr.out).more HBr.out.size)
         obtain ⟨x,hx⟩:∃ x:Int,x=lim ((X % 65536 ^ k:Nat):Int) j:=⟨_,rfl⟩
         obtain ⟨d,hdd⟩:∃ d:Nat,d=X / 65536 ^ k % 65536:=⟨_,rfl⟩
         obtain ⟨u,hu⟩:∃ u:Nat,u=65536 ^ t:=⟨_,rfl⟩
         rw [← hx] at g0 hlb HNB s2
         rw [← hdd] at HNB HDG s2 hd
         rw [← hu] at HNB s2 ⊢
         have hmul:((d*u:Nat):Int)=(d:Int)*(u:Int):=Int.natCast_mul _ _
         rw [hmul] at HNB s2
         have hm0:0≤(d:Int)*(u:Int):=Int.mul_nonneg (by omega) (by omega)
         have e1:IntKind.u64.wrap ((d:Int)*(u:Int))=(d:Int)*(u:Int):=by rw [IntKind.wrap_u64];omega
         have e2:IntKind.u64.wrap (x+(d:Int)*(u:Int))=x+(d:Int)*(u:Int):=by rw [IntKind.wrap_u64];omega
         have e3:IntKind.u64.wrap (d:Int)=(d:Int):=by rw [IntKind.wrap_u64];omega
         obtain ⟨p,hp⟩:∃ p:Int,p=(d:Int)*(u:Int):=⟨_,rfl⟩
         obtain ⟨DL,hDL⟩:∃ DL,DL=(digs X).length:=⟨_,rfl⟩
         rw [← hDL] at hbx1 HDG
         have HP:=hide hp
         have hjn':(j:Int)<(n:Int):=by omega
         have hjw:IntKind.i64.wrap (j:Int)=(j:Int):=by rw [IntKind.wrap_i64];omega
         have hj0:(0:Int)≤(j:Int):=by omega
         clear s1 hnx HB4 hx hdd hu hmul hX hp hdg hDL hlb hm0 s2 hd
         go_wp2
         go_region_law (first
          | (go_simp;go_at_call 121;refine (HDG.out _ HSq.out.drew).mono ?_;rintro e w' ⟨rfl,rfl⟩))
         all_goals
          go_wp2
          go_roundw
          case rel=>exact ⟨k+1,by omega,by go_num,hide ((bl_drewN HBr.out 1).setCell (by exact hge.1) _),HNB⟩
          case measure=>simp [intOf];omega
    · obtain rfl:k=4*n:=by omega
      have e:lims n ((X % 65536 ^ (4*n):Nat):Int)=lims n a:=by
       rw [← HLX.out]
       refine lims_eq ?_
       rw [W64_nat,Int.natCast_emod]
       exact Int.emod_emod_of_dvd _ (Int.dvd_refl _)
      rw [e] at HBk
      have hsl:Sl wr wr.heap.size (some ⟨g,0,none⟩) (uCs (lims n a)):=Sl.mk HBk.out.lt fun j u hu=>by
       rw [Nat.zero_add];exact HBk.out.cell (by simpa using hu)
      have HSL:=hide hsl
      have hB:=bl_step HBc.out HBr.out
      have hki:¬ ((4*n:Nat):Int)<4*(n:Int):=by omega
      clear e hsl
      go_wp2
      go_ret
      exact ⟨some ⟨g,0,none⟩,⟨n,rfl⟩,hB,HSL.out⟩
end
section
open Go.RowKit
theorem fits_inj {n:Nat} {a b:Int} (ha:Fits n a) (hb:Fits n b) (h:lims n a=lims n b):a=b:=by
 have e:=congrArg valL h
 rw [valL_lims,valL_lims] at e
 obtain ⟨a1,a2⟩:=ha
 obtain ⟨b1,b2⟩:=hb
 have hp:=W64_pos n
 generalize (18446744073709551616:Int) ^ n=B at *
 have hd:(a - b) % B=0:=by rw [Int.sub_emod,e,Int.sub_self];exact Int.zero_emod _
 obtain ⟨k,hk⟩:=Int.dvd_of_emod_eq_zero hd
 have hk0:k=0:=by
  rcases Int.lt_trichotomy k 0 with h1 | h1 | h1
  · have:=Int.mul_le_mul_of_nonneg_left (show k≤-1 by omega) (Int.le_of_lt hp)
    rw [Int.mul_neg,Int.mul_one] at this
    omega
  · exact h1
  · have:=Int.mul_le_mul_of_nonneg_left (show 1≤k by omega) (Int.le_of_lt hp)
    rw [Int.mul_one] at this
    omega
 rw [hk0,Int.mul_zero] at hk
 omega
theorem abs_sign {a b:Int} (h1:a.sign=b.sign) (h2:a.natAbs=b.natAbs):a=b:=by
 rcases sign_cases a with ⟨s,h⟩ | ⟨s,h⟩ | ⟨s,h⟩ <;> rcases sign_cases b with ⟨t,k⟩ | ⟨t,k⟩ | ⟨t,k⟩ <;> omega
theorem rfits_any (P:Nat→Prop) (a:Int) (n:Nat) (hn:1≤n) (hn8:n≤8) (A:Option Addr) (c:Nat) (w:World) (ha:NumAt w P a A c) (hla:(digs a.natAbs).length≤100) :
 Calls Tryz.prog 77 #[numV a A c,.int .i64 (n:Int)] w fun e w'=>e=.returned (.bool (decide (Fits n a)))∧Below w.heap.size w w':=by
 obtain ⟨v,hv,hvl⟩:∃ v,Fits n v∧lims n v=lims n a:=by
  have h:=signed_of (lims_L64 n a)
  rw [lims_length] at h
  exact h
 have hiff:Fits n a ↔ a=v:=⟨fun h=>fits_inj h hv hvl.symm,fun h=>h ▸ hv⟩
 have hlv:(digs v.natAbs).length≤100:=by
  have h1:=W64_nat n
  have hp:=W64_pos n
  have h2:=hv.1
  have h3:=hv.2
  have h4:v.natAbs<65536 ^ (4*n):=by omega
  exact Nat.le_trans (digs_len h4) (by omega)
 obtain ⟨L,hL⟩:∃ L,L=(digs a.natAbs).length:=⟨_,rfl⟩
 obtain ⟨sg,hsg⟩:∃ sg,sg=a.sign:=⟨_,rfl⟩
 obtain ⟨M,hM⟩:∃ M,M=(digs v.natAbs).length:=⟨_,rfl⟩
 obtain ⟨sv,hsv⟩:∃ sv,sv=v.sign:=⟨_,rfl⟩
 obtain ⟨w0,hw0⟩:∃ w0,w0=w.alloc (.cells #[.int .i64 sg,.slice A L c] 81):=⟨_,rfl⟩
 have hb0:Below w.heap.size w w0:=by rw [hw0];exact bA
 have B0:Blk w0 w.heap.size 81 #[.int .i64 sg,.slice A L c]:=by rw [hw0];exact Blk.new _ _ _
 have LM:=limbs_any P a n hn hn8 A c w0 (ha.step hb0) hla
 have HCM:Hid (∀ (wx:World) (A5:Option Addr) (c5:Nat),Below w.heap.size w wx→Sl wx wx.heap.size A5 (dCs (digs v.natAbs))→Calls Tryz.prog 119 #[.slice A L c,.slice A5 M c5] wx fun e w'=>e=.returned (.int .i64 (cmpN a.natAbs v.natAbs))∧Below wx.heap.size wx w'):=hide fun wx A5 c5 hb h5=>by
  have h:=compare_any a.natAbs v.natAbs A A5 c c5 wx (((ha.1.any).below hb).more hb.size) h5 (by omega)
  rw [← hL,← hM] at h
  exact h
 have HVA:Hid (∀ (wx:World) (A5:Option Addr) (c5:Nat),Sl wx wx.heap.size A5 (uCs (lims n a))→Calls Tryz.prog 55 #[.slice A5 n c5] wx fun e w'=>∃ A6 c6,e=.returned (.agg #[.int .i64 sv,.slice A6 M c6])∧Sl w' w'.heap.size A6 (dCs (digs v.natAbs))∧Below wx.heap.size wx w'):=hide fun wx A5 c5 h=>by
  refine (value_any (fun _=>True) n v hv hn hn8 A5 c5 wx (by rw [hvl];exact h) (fun _ _=>trivial)).mono ?_
  rintro e w' ⟨A6,c6,rfl,hN,hb⟩
  unfold numV
  rw [← hM,← hsv]
  exact ⟨A6,c6,rfl,hN.1.any,hb⟩
 unfold numV at LM ⊢
 rw [← hsg,← hL] at LM ⊢
 have HLM:=hide LM;have HIF:=hide hiff;have HSG:=hide hsg;have HSV:=hide hsv;have HB0:=hide hb0;have HBx:=hide B0
 clear LM hiff hsg hsv hb0 B0 ha hla hv hvl hlv hL hM
 go_enter Tryz.func77,Tryz.ntmps77
 go_wp2_with fail
 rw [← hw0]
 have HW0:=hide hw0
 clear hw0
 refine HLM.out.mono ?_
 rintro e w1 ⟨A1,c1,rfl,hb1,hs1⟩
 have HV:=hide (HVA.out w1 A1 c1 hs1)
 clear hs1
 go_wp2_with fail
 refine HV.out.mono ?_
 rintro e w2 ⟨A2,c2,rfl,hs2,hb2⟩
 have hB2:=bl_step (bl_step HB0.out hb1) hb2
 have B2:=(HBx.out.step hb1).step hb2
 have q0:=B2.cell (i:=0) rfl
 have q1:=B2.cell (i:=1) rfl
 have hlt:=B2.lt
 by_cases hs:sg=sv
 · have hsb:(sg == sv)=true:=by rw [beq_iff_eq];exact hs
   obtain ⟨w3,hw3⟩:∃ w3,w3=w2.alloc (.cells #[.int .i64 sv,.slice A2 M c2] 81):=⟨_,rfl⟩
   have hb3:Below w2.heap.size w2 w3:=by rw [hw3];exact bA
   have hB3:=bl_step hB2 hb3
   have CM:=hide (HCM.out w3 A2 c2 hB3 ((hs2.below hb3).more hb3.size))
   have HS:=hide hs
   clear hs hs2 B2 hb3
   go_wp2_with fail
   rw [← hw3]
   clear hw3
   refine CM.out.mono ?_
   rintro e w4 ⟨rfl,hb4⟩
   have hB4:=bl_step hB3 hb4
   have hz:(cmpN a.natAbs v.natAbs == 0)=decide (Fits n a):=by
    rw [Bool.eq_iff_iff,beq_iff_eq,decide_eq_true_eq,HIF.out]
    unfold cmpN
    constructor
    · intro h
      by_cases h1:a.natAbs<v.natAbs
      · rw [if_pos h1] at h;omega
      · rw [if_neg h1] at h
        by_cases h2:a.natAbs=v.natAbs
        · exact abs_sign (by rw [← HSG.out,← HSV.out];exact HS.out) h2
        · rw [if_neg h2] at h;omega
    · rintro rfl
      rw [if_neg (by omega),if_pos rfl]
   have HZ:=hide hz
   clear hz
   obtain ⟨k,hk⟩:∃ k,k=cmpN a.natAbs v.natAbs:=⟨_,rfl⟩
   rw [← hk] at HZ ⊢
   clear hk
   go_wp2
   go_ret
   exact ⟨ret_bool HZ.out,hB4⟩
 · have hsb:(sg == sv)=false:=by rw [beq_eq_false_iff_ne];exact hs
   have hf:¬ Fits n a:=fun h=>hs (by rw [HSG.out,HSV.out,HIF.out.1 h])
   have HFD:=hide (decide_eq_false hf)
   clear hs hs2 B2 hf
   go_wp2
   go_ret
   exact ⟨ret_bool HFD.out.symm,bl_alloc hB2 _⟩
end
section
open Go.RowKit
theorem extract_tail (s:ByteArray) (a:UInt8) (t:List UInt8) (h:s.data.toList=a::t):s.extract 1 s.size=strOf t:=by
 apply ByteArray.ext
 rw [ByteArray.data_extract]
 have hs:s.size=t.length+1:=by
  show s.data.size=_
  rw [← Array.length_toList,h];simp
 apply Array.ext'
 rw [Array.toList_extract,h,hs]
 simp [strOf,List.extract]
theorem index_at {D:List UInt8} {T:ByteArray} (hT:T=strOf D) {k:Nat} {b:UInt8} (hb:D[k]?=some b) (w:World) :
 (Instr.index 9 (.string T) (.int .i64 (k:Int))).run Tryz.prog w=.ok (.int .u8 (b.toNat:Int)) w:=by
 have hk:k<T.size:=by rw [hT,strOf_size];exact (List.getElem?_eq_some_iff.1 hb).1
 have h:=strOf_get hT hb hk
 have hk2:(k:Int)<(T.size:Int):=by omega
 rw [run_index_string w _ _ _ _ Tryz.underlying9]
 simp [hk,h]
abbrev HeldR (w:World) (n0 g:Nat) (n:Int) (A:Option Addr) (c:Nat) (w':World):Prop :=
 (Below w.heap.size w w'∧n0≤w'.heap.size∧R2 w' g∧NumAt w' (fun k=>True∧k≠g) n A c)∧w'.cell? ⟨g,0,none⟩=some (Cw w' ⟨g,0,none⟩)∧w'.cell? ⟨g,1,none⟩=some (Cw w' ⟨g,1,none⟩)∧w'.frozen? ⟨g,0,none⟩=false∧w'.frozen? ⟨g,1,none⟩=false
section
variable {w wk w':World} {n0 g:Nat} {n:Int} {A:Option Addr} {c:Nat}
theorem HeldR.mk' (hb:Below w.heap.size w w') (hn:n0≤w'.heap.size) (hr:R2 w' g) (hN:NumAt w' (fun k=>True∧k≠g) n A c):HeldR w n0 g n A c w':=by
 have hr':=hr
 obtain ⟨u,v,hB⟩:=hr'
 exact ⟨⟨hb,hn,hr,hN⟩,Cw.of (hB.cell (i:=0) rfl),Cw.of (hB.cell (i:=1) rfl),hB.frozen 0,hB.frozen 1⟩
theorem HeldR.keep (h:HeldR w n0 g n A c wk) (hb:Below wk.heap.size wk w'):HeldR w n0 g n A c w':=by
 obtain ⟨⟨h0,hn,⟨u,v,hB⟩,hN⟩,_⟩:=h
 exact HeldR.mk' (bl_step h0 hb) (Nat.le_trans hn hb.size) ⟨u,v,hB.step hb⟩ (hN.step hb)
theorem HeldR.set2 (h:HeldR w n0 g n A c wk) (hg:w.heap.size≤g) (x y:Value):HeldR w n0 g n A c ((wk.setCell ⟨g,0,none⟩ x).setCell ⟨g,1,none⟩ y):=by
 obtain ⟨⟨h0,hn,⟨u,v,hB⟩,hN⟩,_⟩:=h
 exact HeldR.mk' ((h0.setCell (by exact hg) _).setCell (by exact hg) _) (by simpa using hn) ⟨_,_,(hB.set 0 x).set 1 y⟩ ((hN.set _).set _)
theorem HeldR.big (h:HeldR w n0 g n A c wk):n0≤wk.heap.size:=h.1.2.1
theorem HeldR.row (h:HeldR w n0 g n A c wk):R2 wk g:=h.1.2.2.1
theorem HeldR.num (h:HeldR w n0 g n A c wk):NumAt wk (fun k=>True∧k≠g) n A c:=h.1.2.2.2
theorem HeldR.below (h:HeldR w n0 g n A c wk):Below w.heap.size w wk:=h.1.1
theorem nb_set {X:Int} {A':Option Addr} {c':Nat} (h:HeldR w n0 g n A c wk) (hN:NumAt wk (fun q=>True∧q≠g) X A' c') (hg:w.heap.size≤g) :
 g<((wk.setCell ⟨g,0,none⟩ (.int .i64 X.sign)).setCell ⟨g,1,none⟩ (.slice A' (digs X.natAbs).length c')).heap.size∧Below w.heap.size w ((wk.setCell ⟨g,0,none⟩ (.int .i64 X.sign)).setCell ⟨g,1,none⟩ (.slice A' (digs X.natAbs).length c')) ∧
 NB ((wk.setCell ⟨g,0,none⟩ (.int .i64 X.sign)).setCell ⟨g,1,none⟩ (.slice A' (digs X.natAbs).length c')) (fun q=>True∧q≠g) g X:=by
 obtain ⟨⟨h0,hn,⟨u,v,hB⟩,-⟩,_⟩:=h
 have hB2:=(hB.set 0 (.int .i64 X.sign)).set 1 (.slice A' (digs X.natAbs).length c')
 exact ⟨hB2.lt,(h0.setCell (by exact hg) _).setCell (by exact hg) _,A',c',hB2,(hN.set _).set _⟩
theorem Cw.eq {a:Addr} {v:Value} (h:w.cell? a=some v):Cw w a=v:=by unfold Cw;rw [h];rfl
end
theorem numU_digs {D:List UInt8} (hg:D.all isD=true) (hl:D.length≤160) (k:Nat):(digs (numU (D.take k))).length≤40:=by
 have hg2:(D.take k).all isD=true:=by
  rw [List.all_eq_true] at hg ⊢
  exact fun b hb=>hg b (List.mem_of_mem_take hb)
 have h1:=dvR_lt (((D.take k).map fun b=>b.toNat - 48).reverse) (fun d hd=>by
  obtain ⟨b,hb,rfl⟩:=List.mem_map.1 (List.mem_reverse.1 hd)
  have h2:=List.all_eq_true.1 hg2 b hb
  unfold isD at h2
  simp only [Bool.and_eq_true,decide_eq_true_eq] at h2
  omega)
 rw [← dv_dvR,List.length_reverse,List.length_map] at h1
 have hl2:(D.take k).length≤160:=by rw [List.length_take];omega
 have h4:10 ^ (D.take k).length≤10 ^ 160:=Nat.pow_le_pow_right (by decide) hl2
 have h5:(10:Nat) ^ 160<65536 ^ 40:=by decide +kernel
 exact digs_len (Nat.lt_of_lt_of_le h1 (Nat.le_trans h4 (Nat.le_of_lt h5)))
theorem rparse10_any (s:ByteArray) (n:Int) (hs:s.size≤1000) (w:World) :
 Calls Tryz.prog 37 #[.string s,.int .i64 n] w (Parsed10 s.data.toList n w):=by
 by_cases hn:n<1∨8<n
 · have he:pErr s.data.toList n=2:=by unfold pErr;rw [if_pos hn]
   have HP:Hid (∀ e w',e=.returned (.tuple #[.slice none 0 0,.int .i64 2])→Below w.heap.size w w'→Parsed10 s.data.toList n w e w'):=hide fun e w' h hb=>by
    unfold Parsed10
    rw [he]
    exact ⟨hb,.inr ⟨by decide,h⟩⟩
   by_cases h1:n<1
   · clear hn he
     go_enter Tryz.func37,Tryz.ntmps37
     go_wp2
     go_ret2
     exact HP.out _ _ rfl (Below.refl _ _)
   · have h8:8<n:=by omega
     clear hn he
     go_enter Tryz.func37,Tryz.ntmps37
     go_wp2
     go_ret2
     exact HP.out _ _ rfl (Below.refl _ _)
 · obtain ⟨m,rfl⟩:=Int.eq_ofNat_of_zero_le (show 0≤n by omega)
   have hm1:1≤m:=by omega
   have hm8:m≤8:=by omega
   obtain ⟨D,hD⟩:∃ D,D=dgs s.data.toList:=⟨_,rfl⟩
   obtain ⟨T,hT⟩:∃ T,T=strOf D:=⟨_,rfl⟩
   have hdl:D.length≤s.data.toList.length:=by rw [hD];exact dgs_len _
   have hsl:s.data.toList.length=s.size:=Array.length_toList
   have hts:T.size=D.length:=by rw [hT,strOf_size]
   have h1:¬ (m:Int)<1:=by omega
   have h8:¬ 8<(m:Int):=by omega
   have hcase:(isNg s.data.toList=true∧0<s.size∧(∀ h:0<s.size,(s[0].toNat:Int)=45)∧s.extract 1 s.size=T∧T.size<s.size) ∨
    (isNg s.data.toList=false∧s=T∧(∀ h:0<s.size,¬ (s[0].toNat:Int)=45)):=by
    cases hng:isNg s.data.toList with
    | true =>
      left
      obtain ⟨t,ht⟩:=(isNg_cons _).1 hng
      have hDt:D=t:=by rw [hD,ht];exact (dgs_ng t).1
      have hsz:s.size=t.length+1:=by rw [← hsl,ht];simp
      refine ⟨rfl,by omega,fun h=>?_,by rw [extract_tail s 45 t ht,hT,hDt],by rw [hts,hDt];omega⟩
      have h3:=strOf_get (l:=s.data.toList) (T:=s) (i:=0) (b:=45) rfl (by rw [ht];rfl) h
      rw [h3];rfl
    | false =>
      right
      refine ⟨rfl,?_,fun h h45=>?_⟩
      · rw [hT,hD,dgs_pos hng];rfl
      · cases hl:s.data.toList with
        | nil=>rw [hl] at hsl;simp at hsl;omega
        | cons a t =>
          have h3:=strOf_get (l:=s.data.toList) (T:=s) (i:=0) (b:=a) rfl (by rw [hl];rfl) h
          rw [h3] at h45
          have ha:a=45:=by
           rw [← UInt8.toNat_inj]
           show a.toNat=45
           omega
          have:isNg s.data.toList=true:=by rw [hl,ha];exact (dgs_ng t).2
          rw [this] at hng;cases hng
   have HD:=hide hD;have HT:=hide hT;have HTS:=hide hts;have HDL:=hide hdl;have HSL:=hide hsl;have HCS:=hide hcase
   have HT1:Hid (T.toList=D):=hide (by rw [hT,strOf_toList])
   obtain ⟨NG,hNG⟩:∃ NG,NG=isNg s.data.toList:=⟨_,rfl⟩
   have HNG:=hide hNG
   have HP:Hid (∀ k e w',pErr s.data.toList (m:Int)=k→k≠0→e=.returned (.tuple #[.slice none 0 0,.int .i64 k])→Below w.heap.size w w'→Parsed10 s.data.toList (m:Int) w e w'):=hide fun k e w' hk hk0 h hb=>by
    unfold Parsed10
    rw [hk]
    exact ⟨hb,.inr ⟨hk0,h⟩⟩
   have hpe:pErr s.data.toList (m:Int)=if ¬ goodT s.data.toList then 9 else if 160<D.length then 3 else if Fits m (pVal s.data.toList) then 0 else 3:=by
    unfold pErr
    rw [if_neg hn,Int.toNat_natCast,hD]
   have HPE:=hide hpe
   clear hn hD hT hdl hsl hcase hts hNG hpe
   go_enter Tryz.func37,Tryz.ntmps37
   go_upto_region 4 with fail
   go_cut [24] from 17 to 23 (fun b wc=>b=.bool NG∧wc=w)
   · rcases HCS.out with ⟨hng,hsz,h45,-,-⟩ | ⟨hng,-,h45⟩
     · have h45:=h45 hsz
       have hg:=hide hng
       clear hng
       go_wp2_with fail
       go_meet
       exact ⟨by rw [HNG.out,hg.out],rfl⟩
     · have hg:=hide hng
       clear hng
       by_cases hsz:0<s.size
       · have h45:=h45 hsz
         have hb45:((s[0].toNat:Int) == 45)=false:=by rw [beq_eq_false_iff_ne];exact h45
         go_wp2_with fail
         go_meet
         exact ⟨by rw [HNG.out,hg.out],rfl⟩
       · have hsz0:¬ (0:Int)<(s.size:Int):=by omega
         clear h45
         go_wp2_with fail
         go_meet
         exact ⟨by rw [HNG.out,hg.out],rfl⟩
   · obtain ⟨rfl,hwc⟩:=hcut
     subst hwc
     go_upto_if 24 with fail
     go_cut [6] from 10 to 26 (fun t wd=>t=.string T∧wd=wc)
     · rcases HCS.out with ⟨hng,hsz,-,hex,-⟩ | ⟨hng,hst,-⟩
       · have hg:NG=true:=by rw [HNG.out,hng]
         clear hng
         subst hg
         have hs1:(1:Nat)≤s.size:=hsz
         go_wp2_with fail
         go_meet
         exact ⟨rfl,rfl⟩
       · have hg:NG=false:=by rw [HNG.out,hng]
         have hst':=hide hst
         clear hng hst
         subst hg
         go_wp2_with fail
         go_meet
         exact ⟨by rw [← hst'.out],rfl⟩
     · obtain ⟨rfl,hwc⟩:=hcut
       subst hwc
       by_cases hbad:D=[]∨(D.head?=some 48∧s.data.toList≠[48])
       · have h9:pErr s.data.toList (m:Int)=9:=by
          rw [HPE.out,if_pos]
          rintro ⟨g1,g2,g3⟩
          rw [← HD.out] at g1 g3
          rcases hbad with h | ⟨h,h'⟩
          · exact g1 h
          · exact h' (g3 h)
         have H9:=hide h9
         clear h9
         rcases hbad with h0 | ⟨h48,hne⟩
         · have he:T.toList.isEmpty=true:=by rw [HT1.out,h0];rfl
           clear h0
           go_wp2
           go_ret2
           exact HP.out 9 _ _ H9.out (by decide) rfl (Below.refl _ _)
         · have he:T.toList.isEmpty=false:=by
            rw [HT1.out]
            cases D with
            | nil=>simp at h48
            | cons a l=>rfl
           have hsz:0<T.size:=by
            rw [HTS.out]
            cases D with
            | nil=>simp at h48
            | cons a l=>simp
           have hc:(T[0].toNat:Int)=48:=by
            rw [strOf_get (l:=D) (b:=48) HT.out (by rw [← List.head?_eq_getElem?];exact h48)];rfl
           have hz:(!s.toList == [48])=true:=by
            rw [toList_data]
            simpa using hne
           clear h48 hne
           go_wp2
           go_ret2
           exact HP.out 9 _ _ H9.out (by decide) rfl (Below.refl _ _)
       · have hD0:D≠[]:=fun h=>hbad (.inl h)
         have hz48:D.head?=some 48→s.data.toList=[48]:=fun h=>Classical.byContradiction fun h'=>hbad (.inr ⟨h,h'⟩)
         have he:T.toList.isEmpty=false:=by
          rw [HT1.out]
          cases D with
          | nil=>exact absurd rfl hD0
          | cons a l=>rfl
         have hsz:0<T.size:=by rw [HTS.out];exact List.length_pos_iff.2 hD0
         have hcz:((T[0].toNat:Int)=48∧(!s.toList == [48])=false)∨((T[0].toNat:Int) == 48)=false:=by
          by_cases hc:(T[0].toNat:Int)=48
          · refine .inl ⟨hc,?_⟩
            have h48:D.head?=some 48:=by
             have h1:0<D.length:=List.length_pos_iff.2 hD0
             have h2:=List.getElem?_eq_getElem h1
             have h3:=strOf_get HT.out h2 hsz
             rw [List.head?_eq_getElem?,h2,← h3]
             congr 1
             rw [← UInt8.toNat_inj]
             have:T[0].toNat=48:=by omega
             exact this
            rw [toList_data,hz48 h48];rfl
          · exact .inr (by rw [beq_eq_false_iff_ne];exact hc)
         have HZ48:=hide hz48;have HD0:=hide hD0
         clear hbad hz48 hD0
         go_upto_region 6 with fail
         go_cut [37] from 27 to 36 (fun b wd=>b=.bool false∧wd=wc)
         · rcases hcz with ⟨hc,hz⟩ | hc
           · go_wp2_with fail
             go_meet
             exact ⟨rfl,rfl⟩
           · go_wp2_with fail
             go_meet
             exact ⟨rfl,rfl⟩
         · obtain ⟨rfl,hwc⟩:=hcut
           subst hwc
           clear hcz
           rename World=>wz
           have hT1000:T.size≤1000:=by rw [HTS.out];exact Nat.le_trans HDL.out (by rw [HSL.out];exact hs)
           go_upto_block 0 with fail
           by_cases hall:D.all isD=true
           · go_cut [7] from 38 to 53 (fun _ wd=>wd=wz)
             · go_wp2_with fail
               go_loopw [7] (fun i wr=>∃ k:Nat,k≤T.size∧i=.int .i64 k∧wr=wz)
                (fun i _=>T.size - (intOf i).toNat)
               case atStart=>exact ⟨0,by omega,rfl,rfl⟩
               case round =>
                obtain ⟨k,hk,rfl,rfl⟩:=hrel
                by_cases hlt:k<T.size
                · obtain ⟨b,hb⟩:∃ b,D[k]?=some b:=⟨_,List.getElem?_eq_getElem (by have:=HTS.out;omega)⟩
                  have hix:=fun wx=>index_at HT.out hb wx
                  have hisd:=List.all_eq_true.1 hall b (List.mem_of_getElem? hb)
                  unfold isD at hisd
                  simp only [Bool.and_eq_true,decide_eq_true_eq] at hisd
                  have i1:¬ (b.toNat:Int)<48:=by omega
                  have i2:¬ (57:Int)<(b.toNat:Int):=by omega
                  have hkl:(k:Int)<(T.size:Int):=by omega
                  clear hb hisd hall
                  go_wp2
                  go_roundw
                  case rel=>exact ⟨k+1,by omega,by go_num,by first | trivial | rfl⟩
                  case measure=>simp [intOf];omega
                · have hkl:¬ (k:Int)<(T.size:Int):=by omega
                  go_wp2
                  go_meet
                  first | trivial | rfl
             · have hwc:=hcut
               subst hwc
               have hg:goodT s.data.toList:=⟨by rw [← HD.out];exact HD0.out,by rw [← HD.out];exact hall,by rw [← HD.out];exact HZ48.out⟩
               have HG:=hide hg;have HALL:=hide hall
               clear hg hall
               by_cases h160:160<(T.size:Int)
               · have h3:pErr s.data.toList (m:Int)=3:=by
                  rw [HPE.out,if_neg (fun h=>h HG.out),if_pos (by have:=HTS.out;omega)]
                 have H3:=hide h3
                 clear h3
                 go_wp2
                 go_ret2
                 exact HP.out 3 _ _ H3.out (by decide) rfl (Below.refl _ _)
               · have hD160:D.length≤160:=by have:=HTS.out;omega
                 have HD160:=hide hD160
                 rename World=>wz
                 obtain ⟨w1,hw1⟩:∃ w1,w1=wz.alloc (.cells #[.int .i64 0,.slice none 0 0] 81):=⟨_,rfl⟩
                 have hb1:Below wz.heap.size wz w1:=by rw [hw1];exact bA
                 obtain ⟨gb,hgb⟩:∃ gb,gb=wz.heap.size:=⟨_,rfl⟩
                 have X1:Blk w1 gb 81 #[.int .i64 0,.slice none 0 0]:=by rw [hw1,hgb];exact Blk.new _ _ _
                 have hgz:wz.heap.size≤gb∧gb<w1.heap.size:=⟨by omega,X1.lt⟩
                 have N1:NB w1 (fun q=>True∧q≠gb) gb ((numU (D.take 0):Nat):Int):=by
                  refine ⟨none,0,?_,?_⟩
                  · rw [List.take_zero]
                    show Blk w1 gb _ #[.int .i64 0,.slice none (digs 0).length 0]
                    rw [digs_zero];exact X1
                  · rw [List.take_zero]
                    unfold NumAt
                    show SlN w1 _ none (dCs (digs 0))∧(digs 0).length≤0∧_
                    rw [digs_zero]
                    exact ⟨.inl rfl,by simp,by unfold maxLen;omega⟩
                 have HN1:=hide N1;have HB1:=hide hb1;have HGB:=hide hgb
                 clear N1 X1 hb1 hD160
                 go_wp2
                 rw [← hw1,← HGB.out]
                 clear hw1 hgb
                 go_loopw [9] (fun i wr=>∃ k:Nat,k≤T.size∧i=.int .i64 k∧gb<wr.heap.size∧Hid (Below wz.heap.size wz wr)∧Hid (NB wr (fun q=>True∧q≠gb) gb ((numU (D.take k):Nat):Int)))
                  (fun i _=>T.size - (intOf i).toNat)
                 case atStart=>exact ⟨0,by omega,rfl,hgz.2,HB1,HN1⟩
                 case round =>
                  obtain ⟨k,hk,rfl,hgr,HBr,HNr⟩:=hrel
                  by_cases hlt:k<T.size
                  · obtain ⟨b,hb⟩:∃ b,D[k]?=some b:=⟨_,List.getElem?_eq_getElem (by have:=HTS.out;omega)⟩
                    have hix:=fun wx=>index_at HT.out hb wx
                    have hisd:=List.all_eq_true.1 HALL.out b (List.mem_of_getElem? hb)
                    unfold isD at hisd
                    simp only [Bool.and_eq_true,decide_eq_true_eq] at hisd
                    obtain ⟨dn,hdn⟩:∃ dn,dn=b.toNat - 48:=⟨_,rfl⟩
                    have hd9:dn≤9:=by omega
                    have e8:IntKind.u8.wrap ((b.toNat:Int) - 48)=(dn:Int):=by
                     have:(b.toNat:Int) - 48=(dn:Int):=by omega
                     rw [this];simp [IntKind.wrap,IntKind.signed,IntKind.bits];omega
                    have e64:IntKind.i64.wrap (dn:Int)=(dn:Int):=by rw [IntKind.wrap_i64];omega
                    obtain ⟨X,hX⟩:∃ X:Int,X=((numU (D.take k):Nat):Int):=⟨_,rfl⟩
                    have HSUM:Hid (X*10+(dn:Int)=((numU (D.take (k+1)):Nat):Int)):=hide (by
                     rw [numU_take hb,← hdn,hX];omega)
                    have hlX:(digs X.natAbs).length≤40:=by
                     rw [hX];exact numU_digs HALL.out HD160.out k
                    have hlM:(digs (X*10).natAbs).length≤41:=by
                     have h1:=digs_lt X.natAbs
                     have h2:(65536:Nat) ^ (digs X.natAbs).length≤65536 ^ 40:=Nat.pow_le_pow_right (by decide) hlX
                     apply digs_len
                     rw [Int.natAbs_mul,Nat.pow_succ]
                     show X.natAbs*10<_
                     omega
                    have hN0:=HNr.out
                    rw [← hX] at hN0
                    obtain ⟨A,c,hBx,hNx⟩:=hN0
                    obtain ⟨sg,hsg⟩:∃ sg,sg=X.sign:=⟨_,rfl⟩
                    obtain ⟨L,hL⟩:∃ L,L=(digs X.natAbs).length:=⟨_,rfl⟩
                    obtain ⟨TEN,hTEN⟩:∃ TEN:Int,TEN=10:=⟨_,rfl⟩
                    obtain ⟨DG,hDG⟩:∃ DG:Int,DG=(dn:Int):=⟨_,rfl⟩
                    obtain ⟨M,hM⟩:∃ M:Int,M=X*TEN:=⟨_,rfl⟩
                    obtain ⟨S,hS⟩:∃ S:Int,S=M+DG:=⟨_,rfl⟩
                    have HSS:Hid (S=((numU (D.take (k+1)):Nat):Int)):=hide (by rw [hS,hM,hTEN,hDG];exact HSUM.out)
                    have hup:∀ wk:World,gb+1≤wk.heap.size→Up wk (fun q=>True∧q≠gb):=fun wk h q hq=>⟨trivial,by omega⟩
                    have HI10:Hid (∀ wk:World,gb+1≤wk.heap.size→Calls Tryz.prog 75 #[.int .i64 10] wk (GaveR (fun q=>True∧q≠gb) TEN wk)):=hide fun wk h=>by
                     rw [hTEN]
                     exact int_any _ 10 (by omega) wk (hup wk h)
                    have HID:Hid (∀ wk:World,gb+1≤wk.heap.size→Calls Tryz.prog 75 #[.int .i64 (dn:Int)] wk (GaveR (fun q=>True∧q≠gb) DG wk)):=hide fun wk h=>by
                     rw [hDG]
                     exact int_any _ (dn:Int) (by omega) wk (hup wk h)
                    have HMU:Hid (∀ (wk:World) (B:Option Addr) (d:Nat) (v0 v1:Value),v0=.int .i64 sg→v1=.slice A L c→gb+1≤wk.heap.size→NumAt wk (fun q=>True∧q≠gb) X A c→NumAt wk (fun q=>True∧q≠gb) TEN B d →
                     Calls Tryz.prog 74 #[.agg #[v0,v1],.agg #[.int .i64 TEN.sign,.slice B (digs TEN.natAbs).length d]] wk (GaveR (fun q=>True∧q≠gb) M wk)):=hide fun wk B d v0 v1 h0 h1 hk hx hn=>by
                     subst h0 h1
                     have h:=mul_any (fun q=>True∧q≠gb) X TEN A B c d wk hx hn (by omega) (by rw [hTEN];exact Nat.le_trans (digs_len (k:=1) (by decide)) (by decide)) (hup wk hk)
                     rw [hsg,hL,hM]
                     exact h
                    have HAD:Hid (∀ (wk:World) (A':Option Addr) (c':Nat) (B:Option Addr) (d:Nat),gb+1≤wk.heap.size→NumAt wk (fun q=>True∧q≠gb) M A' c'→NumAt wk (fun q=>True∧q≠gb) DG B d →
                     Calls Tryz.prog 73 #[.agg #[.int .i64 M.sign,.slice A' (digs M.natAbs).length c'],.agg #[.int .i64 DG.sign,.slice B (digs DG.natAbs).length d]] wk (GaveR (fun q=>True∧q≠gb) S wk)):=hide fun wk A' c' B d hk hx hn=>by
                     have h:=add_any (fun q=>True∧q≠gb) M DG A' B c' d wk hx hn (by rw [hM,hTEN];omega) (by rw [hDG];exact Nat.le_trans (digs_len (k:=1) (by show dn<_;omega)) (by decide)) (hup wk hk)
                     rw [hS]
                     exact h
                    have h00:HeldR wz (gb+1) gb X A c wr:=HeldR.mk' HBr.out hgr ⟨_,_,hBx⟩ hNx
                    have hd0:=h00.keep (bl_drew (Below.refl _ _))
                    have hBd:Blk wr.drew gb 81 #[.int .i64 sg,.slice A L c]:=by
                     rw [hsg,hL];exact hBx.step (bl_drew (Below.refl _ _))
                    have e0:=hBd.cell (i:=0) rfl
                    have e1:=hBd.cell (i:=1) rfl
                    have e2:=h00.2.2.2.1
                    have e3:=h00.2.2.2.2
                    have HBD:=hide hBd
                    have HH0:=hide hd0
                    clear hd0 h00
                    have hkl:(k:Int)<(T.size:Int):=by omega
                    have hgz1:=hgz.1
                    clear hb hisd hlX hlM hBx hNx hBd hX hM hS hTEN hDG hsg hL hup hdn HNr HSUM
                    go_wp2_with fail
                    go_region_with (first
                     | (go_at_call 75;((with_reducible refine (HI10.out _ (by exact HH0.out.big)).mono ?_);rintro e w8 ⟨A8,c8,rfl,hN8,hb8⟩;have HK8:=hide (HH0.out.keep hb8);have hB8:=HBD.out.step hb8;have f0:=hB8.cell (i:=0) rfl;have f1:=hB8.cell (i:=1) rfl;clear hB8;unfold numV))
                     | (go_at_call 74;((with_reducible refine (HMU.out _ A8 c8 _ _ rfl rfl HK8.out.big HK8.out.num hN8).mono ?_);rintro e w9 ⟨A9,c9,rfl,hN9,hb9⟩;have HK9:=hide (HK8.out.keep hb9);unfold numV))
                     | (go_at_call 75;((with_reducible refine (HID.out _ (by exact HK9.out.big)).mono ?_);rintro e w10 ⟨A10,c10,rfl,hN10,hb10⟩;have HK10:=hide (HK9.out.keep hb10);have hN9':=hN9.step hb10;unfold numV))
                     | (go_at_call 73;((with_reducible refine (HAD.out _ A9 c9 A10 c10 HK10.out.big hN9' hN10).mono ?_);rintro e w11 ⟨A11,c11,rfl,hN11,hb11⟩;have HK11:=hide (HK10.out.keep hb11);obtain ⟨-,s0,s1,s2,s3⟩:=HK11.out;unfold numV)))
                    all_goals
                     have HNS:=hide (nb_set HK11.out hN11 hgz1)
                     go_wp2_with fail
                     go_roundw
                     case rel=>exact ⟨k+1,by omega,by go_num,HNS.out.1,hide HNS.out.2.1,hide (by rw [← HSS.out];exact HNS.out.2.2)⟩
                     case measure=>simp [intOf];omega
                  · have hkT:k=T.size:=by omega
                    have hkl:¬ (k:Int)<(T.size:Int):=by omega
                    have hN0:=HNr.out
                    rw [List.take_of_length_le (by have:=HTS.out;omega)] at hN0
                    clear HNr
                    obtain ⟨U,hU⟩:∃ U:Int,U=((numU D:Nat):Int):=⟨_,rfl⟩
                    rw [← hU] at hN0
                    obtain ⟨V,hV⟩:∃ V:Int,V=pVal s.data.toList:=⟨_,rfl⟩
                    have hvu:V=if NG then -U else U:=by
                     rw [hV,hU,HD.out,HNG.out];rfl
                    have hlV:(digs V.natAbs).length≤100:=by
                     have h1:=numU_digs HALL.out HD160.out D.length
                     rw [List.take_length] at h1
                     have h2:V.natAbs=numU D:=by
                      rw [hvu,hU]
                      cases NG
                      · simp
                      · simp
                     rw [h2];omega
                    have HVU:=hide hvu
                    have HN0:=hide hN0
                    have HLV:=hide hlV
                    have HV:=hide hV
                    clear hkT hN0 hU hvu hlV hlt hV
                    go_upto_if 78 with fail
                    go_cut [80] from 74 to 80 (fun _ wd=>gb<wd.heap.size∧Below wz.heap.size wz wd∧NB wd (fun q=>True∧q≠gb) gb V)
                    · rcases HCS.out with ⟨hng,-,-,-,hlt⟩ | ⟨hng,hst,-⟩
                      · have hg:NG=true:=by rw [HNG.out,hng]
                        have hV2:V=-U:=by rw [HVU.out,hg];rfl
                        have hc:(T.size:Int)<(s.size:Int):=by omega
                        obtain ⟨A,c,hBx,hNx⟩:=HN0.out
                        have h00:HeldR wz (gb+1) gb U A c wr:=HeldR.mk' HBr.out hgr ⟨_,_,hBx⟩ hNx
                        have H00:=hide h00
                        have hNE:=neg_any (fun q=>True∧q≠gb) U A c wr hNx
                        rw [← hV2] at hNE
                        clear hV2
                        unfold numV at hNE
                        obtain ⟨sg,hsg⟩:∃ sg,sg=U.sign:=⟨_,rfl⟩
                        obtain ⟨L,hL⟩:∃ L,L=(digs U.natAbs).length:=⟨_,rfl⟩
                        rw [← hsg,← hL] at hNE hBx
                        have HNE:=hide hNE
                        have c0:=hBx.cell (i:=0) rfl
                        have c1:=hBx.cell (i:=1) rfl
                        have hgz1:=hgz.1
                        clear hng hg hlt hNx h00 hNE hsg hL hBx
                        go_wp2_with (go_at_call 76;((with_reducible refine HNE.out.mono ?_);rintro e w8 ⟨A8,c8,rfl,hN8,hb8⟩;have HK8:=hide (H00.out.keep hb8);obtain ⟨-,s0,s1,s2,s3⟩:=HK8.out;unfold numV))
                        go_meet
                        have HNS:=nb_set HK8.out hN8 hgz1
                        exact ⟨HNS.1,HNS.2.1,HNS.2.2⟩
                      · have hg:NG=false:=by rw [HNG.out,hng]
                        have hV2:V=U:=by rw [HVU.out,hg];rfl
                        have hc:¬ (T.size:Int)<(s.size:Int):=by rw [hst];omega
                        have HV2:=hide hV2
                        clear hng hg hst hV2
                        go_wp2_with fail
                        go_meet
                        exact ⟨hgr,HBr,by rw [HV2.out];exact HN0.out⟩
                    · obtain ⟨hgw,HBw,HNw⟩:=hcut
                      clear HN0 HBr hgr
                      rename World=>wv
                      have HBW:=hide HBw
                      obtain ⟨A,c,hBx,hNx⟩:=HNw
                      have hFI:=fun wk (hb:Below wv.heap.size wv wk)=>rfits_any (fun q=>True∧q≠gb) V m hm1 hm8 A c wk (hNx.step hb) HLV.out
                      have hLI:=fun wk (hb:Below wv.heap.size wv wk)=>limbs_any (fun q=>True∧q≠gb) V m hm1 hm8 A c wk (hNx.step hb) HLV.out
                      obtain ⟨FB,hFB⟩:∃ FB,FB=decide (Fits m V):=⟨_,rfl⟩
                      obtain ⟨sg,hsg⟩:∃ sg,sg=V.sign:=⟨_,rfl⟩
                      obtain ⟨L,hL⟩:∃ L,L=(digs V.natAbs).length:=⟨_,rfl⟩
                      unfold numV at hFI hLI
                      rw [← hsg,← hL] at hFI hLI hBx
                      rw [← hFB] at hFI
                      have HFI:=hide hFI;have HLI:=hide hLI
                      have c0:=hBx.cell (i:=0) rfl
                      have c1:=hBx.cell (i:=1) rfl
                      have HBX:=hide hBx
                      have HE:Hid (pErr s.data.toList (m:Int)=if FB then 0 else 3):=hide (by
                       rw [HPE.out,if_neg (fun h=>h HG.out),if_neg (by have:=HD160.out;omega),← HV.out,hFB]
                       by_cases h:Fits m V <;> simp [h])
                      have HPR:Hid (∀ e w' A' c',Below wz.heap.size wz w'→FB=true→e=.returned (.tuple #[.slice A' m c',.int .i64 0])→Sl w' w'.heap.size A' (uCs (lims m V))→Parsed10 s.data.toList (m:Int) wz e w'):=hide fun e w' A' c' hb hf he hs=>by
                       unfold Parsed10
                       refine ⟨hb,.inl ⟨by rw [HE.out,hf];rfl,A',c',he,?_⟩⟩
                       rw [← HV.out]
                       exact hs
                      clear hBx hNx hFI hLI hFB hsg hL HBw
                      cases FB with
                      | false =>
                        have h3:Hid (pErr s.data.toList (m:Int)=3):=hide HE.out
                        go_wp2_with (go_at_call 77;((refine (HFI.out _ (by first | exact Below.refl _ _ | exact bl_drew (Below.refl _ _))).mono ?_);rintro e w8 ⟨rfl,hb8⟩))
                        go_ret2
                        exact HP.out 3 _ _ h3.out (by decide) rfl (bl_step HBW.out (by assumption))
                      | true =>
                        go_wp2_with (first
                         | (go_at_call 77;((refine (HFI.out _ (by first | exact Below.refl _ _ | exact bl_drew (Below.refl _ _))).mono ?_);rintro e w8 ⟨rfl,hb8⟩;have HB8:=hide hb8;have d0:=(HBX.out.step hb8).cell (i:=0) rfl;have d1:=(HBX.out.step hb8).cell (i:=1) rfl))
                         | (go_at_call 78;((refine (HLI.out _ (by first | exact HB8.out)).mono ?_);rintro e w9 ⟨A9,c9,rfl,hb9,hs9⟩;have HS9:=hide hs9)))
                        go_ret2
                        exact HPR.out _ _ A9 c9 (bl_step HBW.out (bl_step HB8.out hb9)) trivial rfl HS9.out
           · have h9:pErr s.data.toList (m:Int)=9:=by
              rw [HPE.out,if_pos]
              rintro ⟨g1,g2,g3⟩
              rw [← HD.out] at g2
              exact hall g2
             have H9:=hide h9
             have HNA:=hide hall
             clear h9 hall
             go_wp2_with fail
             go_loopw [7] (fun i wr=>∃ k:Nat,k≤T.size∧i=.int .i64 k∧Hid ((D.take k).all isD=true)∧wr=wz)
              (fun i _=>T.size - (intOf i).toNat)
             case atStart=>exact ⟨0,by omega,rfl,hide (by simp),rfl⟩
             case round =>
              obtain ⟨k,hk,rfl,HA,rfl⟩:=hrel
              by_cases hlt:k<T.size
              · obtain ⟨b,hb⟩:∃ b,D[k]?=some b:=⟨_,List.getElem?_eq_getElem (by have:=HTS.out;omega)⟩
                have hix:=fun wx=>index_at HT.out hb wx
                have hkl:(k:Int)<(T.size:Int):=by omega
                by_cases i1:(b.toNat:Int)<48
                · clear hb
                  go_wp2
                  go_ret2
                  exact HP.out 9 _ _ H9.out (by decide) rfl (Below.refl _ _)
                · by_cases i2:(57:Int)<(b.toNat:Int)
                  · clear hb
                    go_wp2
                    go_ret2
                    exact HP.out 9 _ _ H9.out (by decide) rfl (Below.refl _ _)
                  · have HA2:Hid ((D.take (k+1)).all isD=true):=hide (by
                     rw [List.take_add_one,hb]
                     simp only [Option.toList_some,List.all_append,HA.out,List.all_cons,List.all_nil,Bool.and_true,Bool.true_and]
                     unfold isD
                     simp only [Bool.and_eq_true,decide_eq_true_eq]
                     omega)
                    clear hb
                    go_wp2
                    go_roundw
                    case rel=>exact ⟨k+1,by omega,by go_num,HA2,by first | trivial | rfl⟩
                    case measure=>simp [intOf];omega
              · exfalso
                apply HNA.out
                have h:=HA.out
                rwa [List.take_of_length_le (by have:=HTS.out;omega)] at h
end
end Go.Proofs.YthnenedoblncjaaGreatDoor
