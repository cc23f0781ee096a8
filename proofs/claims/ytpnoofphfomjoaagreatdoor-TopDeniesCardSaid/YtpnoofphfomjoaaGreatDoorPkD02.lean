/- RefWord -/
import Derived.Deep.RegionHeld3
import Derived.Test.YtpnoofphfomjoaaGreatDoorPkM07
import Derived.Test.YtpnoofphfomjoaaGreatDoorPkD00
set_option maxRecDepth 1000000
set_option maxHeartbeats 8000000
namespace Go.Proofs.YtpnoofphfomjoaaGreatDoor
section
open Go.RowKit
def RW (w:World) (P:Nat→Prop) (v:Value) (bs:List Int):Prop :=
 w.ownsRow 0 5 1 v bs.length (byCells bs)∧∀ k,v.ownBlock=some k→¬ P k
theorem RW.step {w w':World} {P:Nat→Prop} {v:Value} {bs:List Int} (h:RW w P v bs) (hb:Below w.heap.size w w'):RW w' P v bs:=⟨own_step h.1 hb,h.2⟩
theorem RW.mono {w:World} {P R:Nat→Prop} {v:Value} {bs:List Int} (h:RW w P v bs) (hR:∀ k,R k→P k):RW w R v bs:=⟨h.1,fun k hk hr=>h.2 k hk (hR k hr)⟩
theorem RW.more {w w':World} {P:Nat→Prop} {v:Value} {bs:List Int} (h:RW w P v bs) (hb:Below w.heap.size w w'):RW w' (More P w w') v bs:=by
 refine ⟨own_step h.1 hb,fun k hk hp=>?_⟩
 have:=own_lt h.1 hk
 rcases hp with hp | hp
 · exact h.2 k hk hp
 · omega
theorem rw_push {wr wa w1:World} {P:Nat→Prop} {g' cap n:Nat} {v:Value} {bs news:List Int} {xs:List Value} (hP:∀ k,P k→k<wr.heap.size) (h:RW wr P v bs) (hb:Below wr.heap.size wr wa)
 (hown1:w1.ownsRow 0 5 1 (.slice (some ⟨g',0,none⟩) n cap) n xs) (hn:n=(bs++news).length) (hx:xs=byCells (bs++news)) (hgrow:wa.grownBy w1 v.ownBlock) (hat:v.ownBlock=some g'∨g'=wa.heap.size) :
 RW w1 P (.slice (some ⟨g',0,none⟩) n cap) (bs++news)∧KeepP P wr w1:=by
 subst hn hx
 have hvP':¬ P g':=by
  rcases hat with h1 | h1
  · exact h.2 g' h1
  · intro hp;have:=hP g' hp;have:=hb.size;omega
 refine ⟨⟨hown1,fun k hk=>by
  have:g'=k:=by simpa [Value.ownBlock] using hk
  subst this;exact hvP'⟩,hgrow.os.trans hb.os,hgrow.tape.trans hb.tape,hgrow.output.trans hb.output,Nat.le_trans hb.size hgrow.size,fun k hk=>?_⟩
 have hkl:=hP k hk
 exact (hgrow.block k (Nat.lt_of_lt_of_le hkl hb.size) (fun e=>h.2 k e.symm hk)).trans (hb.block k hkl)
def Worded (P:Nat→Prop) (w:World) (bs:List Int) (e:Ending) (w':World):Prop:=∃ v',e=.returned v'∧KeepP P w w'∧RW w' P v' bs
section
variable (P:Nat→Prop) (bs:List Int) (w:World)
variable (hP:∀ k,P k→k<w.heap.size) (hlen:bs.length≤1000000)
include hP hlen
theorem rword_any (v:Value) (hv:RW w P v bs) (x:Int) (hx:U64 x):Calls Tryz.prog 95 #[v,.int .u64 x] w (Worded P w (bs++word8 x)):=by
 have HP:=hide hP;clear hP
 go_enter Tryz.func95,Tryz.ntmps95
 go_wp2
 go_loopw [0,1,5] (fun u y i wr=>∃ (k:Nat) (z:Int),k≤8∧i=.int .i64 k∧y=.int .u64 z∧z=x / 256 ^ k∧KeepP P w wr∧RW wr P u (bs++(word8 x).take k))
  (fun _ _ i _=>8 - (intOf i).toNat)
 case atStart=>exact ⟨0,x,by omega,rfl,rfl,by simp,KeepP.refl _ _,by simpa using hv⟩
 case round =>
  obtain ⟨k,z,hk,rfl,rfl,hz,hbr,hrw⟩:=hrel
  have hzU:U64 z:=by rw [hz];exact hx.div k
  have hz0:=hzU.nonneg
  have HZ:=hide hz;clear hz
  by_cases hlt:k<8
  · obtain ⟨i0,hi,hi0,hi1,hi2⟩:=info_parts u8_info
    have hln:(bs++List.take k (word8 x)).length≤1000008:=by rw [List.length_append,List.length_take,word8_length];omega
    have hsn:∀ cs,cs=bs++List.take k (word8 x)→bs++List.take (k+1) (word8 x)=cs++[z % 256]:=fun cs h=>by rw [h,word8_snoc x k hlt,List.append_assoc,HZ.out]
    generalize hcs:bs++List.take k (word8 x)=cs at hrw hln hsn
    have HS:=hide (hsn cs rfl);clear hsn hcs
    have hbr':=hbr.size
    have hrwl:=hrw.1
    have HBR:=hide hbr;have HRW:=hide hrw
    clear hbr hrw
    go_wp2_with (at_builtin;refine wpList_append_lies _ rfl (.tmp 10) (.tmp 14) 44 rfl 0 5 i0 (.int .u8 0) 1 1 Tryz.underlying44 hi hi0 hi1 hi2 rfl (by decide) _ _ _ rfl (own_step hrwl (bA)) ⟨wr.heap.size,0,none⟩ 1 1 [.int .u8 (z % 256)] rfl rfl (blk_cells (Blk.new _ _ _)) (by simp [Value.oneCell']) (by omega) (by unfold maxLen;omega) (by omega) (by omega) (wr.heap.size+1) (by simp) ?_;intro g' cap w1 hown1 hgrow hat hlt')
    obtain ⟨p1,p2⟩:=rw_push (P:=P) (fun k hk=>Nat.lt_of_lt_of_le (HP.out k hk) hbr') HRW.out (bA) hown1 (news:=[z % 256]) (by simp) (by rw [byCells_append];rfl) hgrow (by have hat':u0.ownBlock=some g'∨g'=wr.heap.size+1:=hat;simpa using hat')
    go_roundw
    case rel=>exact ⟨k+1,z / 256,by omega,by go_num,by rw [hzU.quo],by rw [HZ.out,div256_succ],HBR.out.trans p2,by rw [HS.out];exact p1⟩
    case measure=>simp [intOf];omega
  · have hk':k=8:=by omega
    subst hk'
    go_wp2
    go_ret
    exact ⟨_,rfl,hbr,hrw⟩
theorem rpoint_any (v:Value) (hv:RW w P v bs) (hlen2:bs.length≤900000) (x y:Int):Calls Tryz.prog 94 #[v,.agg #[.int .i64 x,.int .i64 y]] w (Worded P w (bs++pt16 (x,y))):=by
 obtain ⟨w0,hw0⟩:∃ w0,w0=w.alloc (.cells #[.int .i64 x,.int .i64 y] 69):=⟨_,rfl⟩
 have hb:Below w.heap.size w w0:=by rw [hw0];exact bA
 have hz:w0.heap.size=w.heap.size+1:=by rw [hw0];simp
 have B0:Blk w0 w.heap.size 69 #[.int .i64 x,.int .i64 y]:=by rw [hw0];exact Blk.new _ _ _
 have hP1:=more_lt hP hb
 have h0:=hv.more hb
 have hm:∀ w1,KeepP (More P w w0) w0 w1→KeepP P w w1:=fun w1=>KeepP.more hb hP
 have hRk:More P w w0 w.heap.size:=.inr ⟨Nat.le_refl _,by omega⟩
 have HM:=hide hm
 have HZ:=hide hz
 clear hm hz hP
 have HP1:=hide hP1
 clear hP1
 have d0:=B0.cell (i:=0) rfl
 have d1:=B0.cell (i:=1) rfl
 have C1:=rword_any (More P w w0) bs w0.drew HP1.out (by omega) v h0 (IntKind.u64.wrap x) (u64w_u64 x)
 have C2:∀ wk v1,(KeepP (More P w w0) w0 wk∧wk.cell? ⟨w.heap.size,0,none⟩=some (.int .i64 x)∧wk.cell? ⟨w.heap.size,1,none⟩=some (.int .i64 y))→RW wk (More P w w0) v1 (bs++word8 (IntKind.u64.wrap x)) →
  Calls Tryz.prog 95 #[v1,.int .u64 (IntKind.u64.wrap y)] wk (Worded (More P w w0) wk (bs++word8 (IntKind.u64.wrap x)++word8 (IntKind.u64.wrap y))) :=
  fun wk v1 h1 h2=>rword_any (More P w w0) _ wk (fun k hk=>Nat.lt_of_lt_of_le (HP1.out k hk) h1.1.size) (by rw [List.length_append,word8_length];omega) v1 h2 _ (u64w_u64 y)
 have HC1:=hide C1
 have HC2:=hide C2
 clear C1 C2
 go_enter Tryz.func94,Tryz.ntmps94
 go_wp2
 rw [← hw0]
 have HW0:=hide hw0
 clear hw0
 go_region_held3 (fun w'=>KeepP (More P w w0) w0 w'∧w'.cell? ⟨w.heap.size,0,none⟩=some (.int .i64 x)∧w'.cell? ⟨w.heap.size,1,none⟩=some (.int .i64 y))
  (first | exact keepPt hRk (KeepP.drew _ _) ⟨KeepP.refl _ _,d0,d1⟩ | exact keepPt hRk (by assumption) (by assumption) | exact ⟨KeepP.refl _ _,d0,d1⟩)
  (first | (go_at_call 95;((with_reducible refine HC1.out.mono ?_);rintro e w' ⟨v',rfl,k',r'⟩)) | (go_at_call 95;((with_reducible refine (HC2.out _ _ (by assumption) (by assumption)).mono ?_);rintro e w' ⟨v',rfl,k',r'⟩)))
 all_goals go_wp2
 all_goals go_ret
 have hS:=(by assumption:KeepP (More P w w0) w0 w'∧w'.cell? ⟨w.heap.size,0,none⟩=some (.int .i64 x)∧w'.cell? ⟨w.heap.size,1,none⟩=some (.int .i64 y))
 refine ⟨v',rfl,HM.out _ hS.1,?_⟩
 have r3:=r'.mono (R:=P) (fun k hk=>.inl hk)
 rw [List.append_assoc] at r3
 exact r3
end
end
end Go.Proofs.YtpnoofphfomjoaaGreatDoor
