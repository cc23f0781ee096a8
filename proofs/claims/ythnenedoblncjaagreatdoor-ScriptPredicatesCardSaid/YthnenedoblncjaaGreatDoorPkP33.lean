/- RefDig RefNumber -/
import Derived.Test.YthnenedoblncjaaGreatDoorPkP05
import Derived.Test.YthnenedoblncjaaGreatDoorPkP06
import Derived.Test.YthnenedoblncjaaGreatDoorPkP07
set_option maxRecDepth 1000000
set_option maxHeartbeats 8000000
namespace Go.Proofs.YthnenedoblncjaaGreatDoor
section
open Go.RowKit
theorem digs_at:∀ (m j:Nat),j<(digs m).length→(digs m)[j]?=some (m / 65536 ^ j % 65536):=by
 intro m
 induction m using Nat.strongRecOn with
 | _ m ih =>
   intro j hj
   by_cases h0:m=0
   · subst h0;rw [digs_zero] at hj;simp at hj
   · rw [digs_pos h0] at hj ⊢
     cases j with
     | zero=>simp
     | succ j =>
       rw [List.getElem?_cons_succ,ih (m / 65536) (by omega) j (by simpa using hj),Nat.div_div_eq_div_mul,Nat.pow_succ',Nat.mul_comm]
theorem div10_dig (m j:Nat):m / 10 / 65536 ^ j % 65536=(m / 65536 ^ (j+1) % 10*65536+m / 65536 ^ j % 65536) / 10∧m / 65536 ^ j % 10=(m / 65536 ^ (j+1) % 10*65536+m / 65536 ^ j % 65536) % 10:=by
 have e1:m / 10 / 65536 ^ j=m / 65536 ^ j / 10:=by rw [Nat.div_div_eq_div_mul,Nat.div_div_eq_div_mul,Nat.mul_comm]
 have e2:m / 65536 ^ (j+1)=m / 65536 ^ j / 65536:=by rw [Nat.pow_succ,Nat.div_div_eq_div_mul]
 rw [e1,e2]
 generalize m / 65536 ^ j=x
 omega
def dg0 (m:Nat):List UInt8:=if m=0 then [] else dgB m
theorem dg0_step {m:Nat} (h:m≠0):dg0 m=dg0 (m / 10)++[UInt8.ofNat (48+m % 10)]:=by
 unfold dg0
 rw [if_neg h]
 by_cases h1:m<10
 · rw [if_pos (by omega)]
   unfold dgB
   rw [dr_small h1,show m % 10=m by omega];rfl
 · rw [if_neg (by omega)]
   unfold dgB
   rw [dr_big (by omega)]
   simp
theorem dgB_pos {m:Nat} (h:m≠0):dg0 m=dgB m:=by unfold dg0;rw [if_neg h]
theorem pd_drop_set {L k m:Nat} (h:k<L):((List.replicate (k+1) 0++(pd L m).drop (k+1)).set k (m / 65536 ^ k % 65536))=List.replicate k 0++(pd L m).drop k:=by
 have e:(pd L m).drop k=m / 65536 ^ k % 65536::(pd L m).drop (k+1):=by
  rw [List.drop_eq_getElem_cons (by rw [pd_len];exact h)]
  congr 1
  simp [pd]
 rw [e,List.replicate_succ',List.append_assoc,List.set_append_right _ _ (by simp)]
 simp
theorem pd_drop_get {L k m:Nat}:(List.replicate (k+1) 0++(pd L m).drop (k+1))[k]?=some 0:=by
 rw [List.getElem?_append_left (by simp)];simp
theorem pd_take (L k m:Nat) (h:k≤L):(pd L m).take k=pd k m:=by
 unfold pd
 rw [← List.map_take,List.take_range,Nat.min_eq_left h]
theorem dgB_len {N:Nat} (h:(digs N).length≤100):(dgB N).length≤1000:=by
 unfold dgB
 rw [List.length_map,List.length_reverse]
 refine dr_len (k:=999) ?_
 have h1:=digs_lt N
 have h2:65536 ^ (digs N).length≤65536 ^ 100:=Nat.pow_le_pow_right (by decide) h
 have h3:(65536:Nat) ^ 100≤10 ^ (999+1):=by decide +kernel
 exact Nat.lt_of_lt_of_le h1 (Nat.le_trans h2 h3)
theorem strOfNums_one (r:Nat):strOfNums [48+(r:Int)]=strOf [UInt8.ofNat (48+r)]:=by
 unfold strOfNums strOf
 have:((48:Int)+(r:Int)).toNat=48+r:=by omega
 rw [List.map_singleton,this]
def strSize:Value→Nat
 | .string s=>s.size
 | _=>0
theorem make_int (n:Nat) (hn:n≤1000) (w:World):(Instr.makeSlice 79 (.int .i64 (n:Int)) (.int .i64 (n:Int))).run Tryz.prog w=.ok (.slice (some ⟨w.heap.size,0,none⟩) n n) (w.alloc (.cells (dCs (List.replicate n 0)).toArray 3)):=by
 obtain ⟨i,hi,hz0,hz1,hz2⟩:=info_parts int_info
 have h:=run_make (P:=Tryz.prog) w 79 3 i _ Tryz.underlying79 hi hz0 .i64 .i64 n n (by omega) (Int.le_refl _) (by rw [hz2];omega) (by omega)
 rw [hz1] at h
 have e:madeCells (Value.cells (.int .i64 0)) (n*1)=(dCs (List.replicate n 0)).toArray:=by
  apply Array.ext
  · simp [size_madeCells,dCs]
  · intro j h1 h2
    simp [madeCells,dCs,Value.cells,Nat.mod_one]
 rw [← e]
 simpa using h
theorem set_dCs (l:List Nat) (k:Nat) (z:Nat):(dCs l).toArray.setIfInBounds k (.int .i64 (z:Int))=(dCs (l.set k z)).toArray:=by
 simp [dCs,List.setIfInBounds_toArray,List.map_set]
theorem get_dCs {l:List Nat} {k x:Nat} (h:l[k]?=some x):(dCs l).toArray[k]?=some (.int .i64 (x:Int)):=by simp [dCs,h]
theorem digits_any (N:Nat) (hN:(digs N).length≤100) (A:Option Addr) (c:Nat) (w:World) (hs:Sl w w.heap.size A (dCs (digs N))) :
 Calls Tryz.prog 103 #[.slice A (digs N).length c] w fun e w'=>e=.returned (.string (strOf (dgB N)))∧Below w.heap.size w w':=by
 by_cases h0:N=0
 · subst h0
   rw [digs_zero]
   have e:strOf (dgB 0)={ data:=#[48] }:=by
    unfold dgB
    rw [show dr 0=[0] from dr_small (by decide)];rfl
   rw [e]
   go_enter Tryz.func103,Tryz.ntmps103
   go_wp2
   go_ret
   exact ⟨rfl,Below.refl _ _⟩
 · have hl0:(digs N).length≠0:=fun h=>h0 (digs_nil.1 (List.eq_nil_of_length_eq_zero h))
   have hlz:(((digs N).length:Int) == 0)=false:=by rw [beq_eq_false_iff_ne];omega
   have HS:=hide hs
   have HD:Hid (dg0 N++[]=dgB N):=hide (by rw [List.append_nil,dgB_pos h0])
   have HNN:=hide hN
   clear hs
   go_enter Tryz.func103,Tryz.ntmps103
   go_wp2
   go_loopw [0,3] (fun d s wr=>∃ (m:Nat) (t:List UInt8) (A:Option Addr) (c:Nat),m≤N∧d=.slice A (digs m).length c∧s=.string (strOf t)∧Hid (dg0 m++t=dgB N)∧Below w.heap.size w wr∧Hid (Sl wr wr.heap.size A (dCs (digs m))))
    (fun _ s _=>(dgB N).length - strSize s)
   case atStart=>exact ⟨N,[],A,c,by omega,rfl,rfl,HD,Below.refl _ _,HS⟩
   case round =>
    clear HS HD
    obtain ⟨m,t,A,c,hm,rfl,rfl,HD,hbr,HS⟩:=hrel
    by_cases hm0:m=0
    · subst hm0
      rw [digs_zero]
      have hd:=HD.out
      have ht:t=dgB N:=by simpa [dg0] using hd
      subst ht
      go_wp2
      go_ret
      exact ⟨rfl,hbr⟩
    · rename World=>wq
      obtain ⟨D,hD⟩:∃ D,D=digs m:=⟨_,rfl⟩
      have hL:(digs m).length≤100:=digs_len (Nat.lt_of_le_of_lt hm (Nat.lt_of_lt_of_le (digs_lt N) (Nat.pow_le_pow_right (by decide) HNN.out)))
      have hL0:0<(digs m).length:=by
       rcases Nat.eq_zero_or_pos (digs m).length with h | h
       · exact absurd (digs_nil.1 (List.eq_nil_of_length_eq_zero h)) hm0
       · exact h
      have hml:m<65536 ^ (digs m).length:=digs_lt m
      have hat:=digs_at m
      rw [← hD] at hL hL0 hml hat HS ⊢
      obtain ⟨L,hLL⟩:∃ L,L=D.length:=⟨_,rfl⟩
      rw [← hLL] at hL hL0 hml hat ⊢
      obtain ⟨bd,od,rfl,hbd,hcd⟩:=HS.out.open_ (by rw [dCs_length];omega)
      have HCD:Hid (∀ j,j<L→wq.cell? ⟨bd,od+j,none⟩=some (.int .i64 ((m / 65536 ^ j % 65536:Nat):Int))):=hide fun j hj=>hcd j _ (dCs_get (hat j hj))
      obtain ⟨w1,hw1⟩:∃ w1,w1=wq.alloc (.cells (dCs (List.replicate L 0)).toArray 3):=⟨_,rfl⟩
      have hb1:Below wq.heap.size wq w1:=by rw [hw1];exact bA
      have G1:Blk w1 wq.heap.size 3 (dCs (List.replicate L 0)).toArray:=by rw [hw1];exact Blk.new _ _ _
      have hmk:=fun wx=>make_int L (by omega) wx
      have hmz:(m / 65536 ^ L % 10:Nat)=0:=by rw [Nat.div_eq_of_lt hml]
      have HMZ:=hide hmz;have HML:=hide hml
      have hd1:((L:Int) == 0)=false:=by rw [beq_eq_false_iff_ne];omega
      have hlg:(0:Int)<(L:Int):=by omega
      have HTL:Hid (t.length≤1000):=hide (by
       have h1:=congrArg List.length HD.out
       rw [List.length_append] at h1
       have h2:=dgB_len HNN.out
       omega)
      clear hat hcd HS hmz hml hD hLL
      have hb1':=hide hb1
      go_wp2
      rw [← hw1]
      have HW1:=hide hw1
      clear hw1 hmk hb1
      obtain ⟨g,hg⟩:∃ g,g=wq.heap.size:=⟨_,rfl⟩
      rw [← hg] at G1 ⊢
      have hge:wq.heap.size≤g∧g≤wq.heap.size:=by omega
      clear hg
      go_loopw [4,6] (fun u i wr=>∃ (k:Nat),k≤L∧i=.int .i64 ((k:Int) - 1)∧u=.int .i64 ((m / 65536 ^ k % 10:Nat):Int)∧Hid (Below wq.heap.size wq wr)∧Hid (Blk wr g 3 (dCs (List.replicate k 0++(pd L (m / 10)).drop k)).toArray))
       (fun _ i _=>(intOf i+1).toNat)
      case atStart =>
       refine ⟨L,by omega,?_,by rw [HMZ.out];rfl,hb1',?_⟩
       · go_num
       · rw [List.drop_of_length_le (by rw [pd_len];omega),List.append_nil];exact hide G1
      case round =>
       clear G1 hb1'
       obtain ⟨k,hk,rfl,rfl,HBr,HBlk⟩:=hrel
       rcases Nat.eq_zero_or_pos k with rfl | hpos
       · rename World=>wt
         rw [Nat.pow_zero,Nat.div_one,List.replicate_zero,List.nil_append,List.drop_zero] at *
         obtain ⟨q,hq⟩:∃ q,q=m / 10:=⟨_,rfl⟩
         obtain ⟨r,hr⟩:∃ r,r=m % 10:=⟨_,rfl⟩
         rw [← hq] at HBlk
         rw [← hr]
         have hqL:q<65536 ^ L:=by have:=HML.out;omega
         have HQL:=hide hqL;have HQ:=hide hq;have HR:=hide hr
         have hr10:r<10:=by omega
         clear hqL hq hr
         go_wp2
         go_loopw [5] (fun o wr=>∃ k:Nat,k≤L∧o=.slice (some ⟨g,0,none⟩) k L∧Hid (q<65536 ^ k)∧wr=wt)
          (fun o _=>lenOf o)
         case atStart=>exact ⟨L,by omega,rfl,HQL,rfl⟩
         case round =>
          obtain ⟨k,hk,rfl,HQK,rfl⟩:=hrel
          have hex:(k=0∨q / 65536 ^ (k - 1) % 65536≠0)→pd k q=digs q:=fun h=>by
           have hv:dval (pd k q)=q:=by rw [dval_pd,Nat.mod_eq_of_lt HQK.out]
           have hn:noLead (pd k q):=by
            rcases h with rfl | h
            · unfold noLead pd;simp
            · rcases Nat.eq_zero_or_pos k with rfl | hp
              · unfold noLead pd;simp
              · refine noLead_of (m:=k - 1) (by rw [pd_len];omega) ?_ h
                unfold pd
                rw [List.getElem?_map,List.getElem?_range (by omega)];rfl
           have:=noLead_digs (pd_ok k q) hn
           rw [hv] at this
           exact this
          rcases Nat.eq_zero_or_pos k with rfl | hp
          · have hdg:=hex (.inl rfl)
            have hsl:Sl wr wr.heap.size (some ⟨g,0,none⟩) (dCs (digs q)):=Sl.mk HBlk.out.lt fun i u hu=>by
             rw [Nat.zero_add]
             refine HBlk.out.cell ?_
             rw [← hdg] at hu
             have h2:(dCs (pd L q))[i]?=some u:=by
              have e:dCs (pd 0 q)=(dCs (pd L q)).take 0:=by rw [← pd_take L 0 q (by omega)];unfold dCs;rw [List.map_take]
              rw [e,List.getElem?_take] at hu
              split at hu
              · exact hu
              · cases hu
             simpa using h2
            have hkl:0=(digs q).length:=by rw [← hdg,pd_len]
            have HSL:=hide hsl;have HKL:=hide hkl
            have f1:IntKind.i64.wrap (48+(r:Int))=48+(r:Int):=by rw [IntKind.wrap_i64];omega
            have f2:IntKind.u8.wrap (48+(r:Int))=48+(r:Int):=by simp [IntKind.wrap,IntKind.signed,IntKind.bits];omega
            obtain ⟨wb,hwb⟩:∃ wb,wb=wr.alloc (.cells #[.int .u8 (48+(r:Int))] 5):=⟨_,rfl⟩
            have hbb:Below wr.heap.size wr wb:=by rw [hwb];exact bA
            have XB:Blk wb wr.heap.size 5 #[.int .u8 (48+(r:Int))]:=by rw [hwb];exact Blk.new _ _ _
            have CV:=conv_bytes wb wb.heap.size (some ⟨wr.heap.size,0,none⟩) [48+(r:Int)] 1 (Sl.mk XB.lt fun j u hu=>by rw [Nat.zero_add];exact XB.cell (by simpa [byCells] using hu))
            rw [strOfNums_one,hwb] at CV
            obtain ⟨b8,hb8⟩:∃ b8:UInt8,b8=UInt8.ofNat (48+r):=⟨_,rfl⟩
            rw [← hb8] at CV
            have HB8:=hide hb8
            have CV':(convert 49 9 (.slice (some ⟨wr.heap.size,0,none⟩) 1 1)).run Tryz.prog (wr.alloc (.cells #[.int .u8 (48+(r:Int))] 5))=.ok (.string (strOf [b8])) (wr.alloc (.cells #[.int .u8 (48+(r:Int))] 5)):=CV
            have HBB:=hide hbb;have HWB:=hide hwb
            clear CV hsl hkl hdg hbb hwb XB hex hb8
            have z1:(strOf [b8]).size=1:=strOf_size _
            have z2:(strOf t).size≤1000:=by rw [strOf_size];exact HTL.out
            go_wp2
            have HT:Hid (dg0 q++([b8]++t)=dgB N):=hide (by
             have h1:=HD.out
             rw [dg0_step hm0,← HR.out,← HQ.out,← HB8.out,List.append_assoc] at h1
             exact h1)
            have htl:t.length<(dgB N).length:=by
             rw [← HD.out,dgB_pos hm0,List.length_append]
             have:=List.length_pos_iff.2 (dgB_ne m)
             omega
            go_roundw
            case rel =>
             refine ⟨q,[b8]++t,some ⟨g,0,none⟩,L,?_,by rw [← HKL.out],by rw [strOf_app],HT,?_,hide ?_⟩
             · have:=HQ.out;omega
             · rw [← HWB.out];exact bl_step (bl_step hbr HBr.out) HBB.out
             · rw [← HWB.out];exact (HSL.out.below HBB.out).more HBB.out.size
            case measure =>
             show (dgB N).length - (strOf [b8]++strOf t).size<(dgB N).length - (strOf t).size
             rw [strOf_app,strOf_size,strOf_size,List.length_append,List.length_singleton]
             omega
          · have hat:(pd L q)[k - 1]?=some (q / 65536 ^ (k - 1) % 65536):=by
             unfold pd
             rw [List.getElem?_map,List.getElem?_range (by omega)];rfl
            have c0:=HBlk.out.cell (get_dCs hat)
            have hkm:((k:Int) - 1).toNat=k - 1:=by omega
            have hkw:IntKind.i64.wrap ((k:Int) - 1)=(k:Int) - 1:=by rw [IntKind.wrap_i64];omega
            have hk1:(0:Int)≤(k:Int) - 1:=by omega
            have hk2:(k:Int) - 1<(k:Int):=by omega
            have hk3:(0:Int)<(k:Int):=by omega
            have hk4:(k:Int) - 1≤(L:Int):=by omega
            by_cases hz:q / 65536 ^ (k - 1) % 65536=0
            · rw [hz] at c0
              have hlt:q<65536 ^ (k - 1):=by
               have h1:=HQK.out
               rw [show k=(k - 1)+1 by omega,Nat.pow_succ] at h1
               have h2:q / 65536 ^ (k - 1)<65536:=by rw [Nat.div_lt_iff_lt_mul (Nat.pow_pos (by decide)),Nat.mul_comm];exact h1
               have h3:q / 65536 ^ (k - 1)=0:=by
                generalize q / 65536 ^ (k - 1)=x at *
                omega
               rcases Nat.lt_or_ge q (65536 ^ (k - 1)) with h4 | h4
               · exact h4
               · have:=Nat.div_pos h4 (Nat.pow_pos (by decide))
                 omega
              have HLT:=hide hlt
              clear hat hz hlt hex
              go_wp2
              go_roundw
              case rel=>exact ⟨k - 1,by omega,rfl,HLT,by first | trivial | rfl⟩
              case measure=>simp [lenOf];omega
            · have hdg:=hex (.inr hz)
              have hsl:Sl wr wr.heap.size (some ⟨g,0,none⟩) (dCs (digs q)):=Sl.mk HBlk.out.lt fun i u hu=>by
               rw [Nat.zero_add]
               refine HBlk.out.cell ?_
               rw [← hdg] at hu
               have h2:(dCs (pd L q))[i]?=some u:=by
                have e:dCs (pd k q)=(dCs (pd L q)).take k:=by rw [← pd_take L k q (by omega)];unfold dCs;rw [List.map_take]
                rw [e,List.getElem?_take] at hu
                split at hu
                · exact hu
                · cases hu
               simpa using h2
              have hkl:k=(digs q).length:=by rw [← hdg,pd_len]
              have HSL:=hide hsl;have HKL:=hide hkl
              have f1:IntKind.i64.wrap (48+(r:Int))=48+(r:Int):=by rw [IntKind.wrap_i64];omega
              have f2:IntKind.u8.wrap (48+(r:Int))=48+(r:Int):=by simp [IntKind.wrap,IntKind.signed,IntKind.bits];omega
              obtain ⟨wb,hwb⟩:∃ wb,wb=wr.alloc (.cells #[.int .u8 (48+(r:Int))] 5):=⟨_,rfl⟩
              have hbb:Below wr.heap.size wr wb:=by rw [hwb];exact bA
              have XB:Blk wb wr.heap.size 5 #[.int .u8 (48+(r:Int))]:=by rw [hwb];exact Blk.new _ _ _
              have CV:=conv_bytes wb wb.heap.size (some ⟨wr.heap.size,0,none⟩) [48+(r:Int)] 1 (Sl.mk XB.lt fun j u hu=>by rw [Nat.zero_add];exact XB.cell (by simpa [byCells] using hu))
              rw [strOfNums_one,hwb] at CV
              obtain ⟨b8,hb8⟩:∃ b8:UInt8,b8=UInt8.ofNat (48+r):=⟨_,rfl⟩
              rw [← hb8] at CV
              have HB8:=hide hb8
              have CV':(convert 49 9 (.slice (some ⟨wr.heap.size,0,none⟩) 1 1)).run Tryz.prog (wr.alloc (.cells #[.int .u8 (48+(r:Int))] 5))=.ok (.string (strOf [b8])) (wr.alloc (.cells #[.int .u8 (48+(r:Int))] 5)):=CV
              have HBB:=hide hbb;have HWB:=hide hwb
              clear CV hsl hkl hdg hbb hwb XB hex hb8
              clear hat
              obtain ⟨yy,hyy⟩:∃ yy,yy=q / 65536 ^ (k - 1) % 65536:=⟨_,rfl⟩
              rw [← hyy] at c0 hz
              have hyb:((yy:Int) == 0)=false:=by rw [beq_eq_false_iff_ne];omega
              clear hyy hz
              have z1:(strOf [b8]).size=1:=strOf_size _
              have z2:(strOf t).size≤1000:=by rw [strOf_size];exact HTL.out
              go_wp2
              have HT:Hid (dg0 q++([b8]++t)=dgB N):=hide (by
               have h1:=HD.out
               rw [dg0_step hm0,← HR.out,← HQ.out,← HB8.out,List.append_assoc] at h1
               exact h1)
              have htl:t.length<(dgB N).length:=by
               rw [← HD.out,dgB_pos hm0,List.length_append]
               have:=List.length_pos_iff.2 (dgB_ne m)
               omega
              go_roundw
              case rel =>
               refine ⟨q,[b8]++t,some ⟨g,0,none⟩,L,?_,by rw [← HKL.out],by rw [strOf_app],HT,?_,hide ?_⟩
               · have:=HQ.out;omega
               · rw [← HWB.out];exact bl_step (bl_step hbr HBr.out) HBB.out
               · rw [← HWB.out];exact (HSL.out.below HBB.out).more HBB.out.size
              case measure =>
               show (dgB N).length - (strOf [b8]++strOf t).size<(dgB N).length - (strOf t).size
               rw [strOf_app,strOf_size,strOf_size,List.length_append,List.length_singleton]
               omega
       · obtain ⟨j,rfl⟩:∃ j,k=j+1:=⟨k - 1,by omega⟩
         obtain ⟨e1,e2⟩:=div10_dig m j
         have c0:=(HBr.out.cell (p:=⟨bd,od+j,none⟩) hbd).trans (HCD.out j (by omega))
         have g0:=HBlk.out.cell (get_dCs (pd_drop_get (L:=L) (k:=j) (m:=m / 10)))
         have f0:=HBlk.out.frozen j
         have hgl:=HBlk.out.lt
         have HB4:=HBlk.out.set j (.int .i64 ((m / 10 / 65536 ^ j % 65536:Nat):Int))
         rw [set_dCs,pd_drop_set (show j<L by omega),e1] at HB4
         have HNB:=hide HB4
         obtain ⟨x,hx⟩:∃ x,x=m / 65536 ^ j % 65536:=⟨_,rfl⟩
         obtain ⟨r,hr⟩:∃ r,r=m / 65536 ^ (j+1) % 10:=⟨_,rfl⟩
         have hx6:x<65536:=by omega
         have hr10:r<10:=by omega
         rw [← hx] at c0 e2 HNB
         rw [← hr] at e2 HNB ⊢
         obtain ⟨y,hy⟩:∃ y,y=r*65536+x:=⟨_,rfl⟩
         rw [← hy] at e2 HNB
         have HE2:=hide e2
         have k1:IntKind.i64.wrap ((r:Int)*65536)=(r:Int)*65536:=by rw [IntKind.wrap_i64];omega
         have k2:IntKind.i64.wrap ((r:Int)*65536+(x:Int))=(y:Int):=by rw [IntKind.wrap_i64];omega
         have k3:(y:Int).tdiv 10=((y / 10:Nat):Int):=rfl
         have k4:(y:Int).tmod 10=((y % 10:Nat):Int):=rfl
         have k5:(y:Int) / 10=((y / 10:Nat):Int):=rfl
         have k6:(y:Int) % 10=((y % 10:Nat):Int):=rfl
         have k7:IntKind.i64.wrap ((y / 10:Nat):Int)=((y / 10:Nat):Int):=by rw [IntKind.wrap_i64];omega
         obtain ⟨y1,hy1⟩:∃ y1,y1=y / 10:=⟨_,rfl⟩
         obtain ⟨y2,hy2⟩:∃ y2,y2=y % 10:=⟨_,rfl⟩
         rw [← hy1] at k3 k5 k7 HNB
         rw [← hy2] at k4 k6 HE2
         have ej:((j+1:Nat):Int) - 1=(j:Int):=by omega
         have ejw:IntKind.i64.wrap ((j:Int) - 1)=(j:Int) - 1:=by rw [IntKind.wrap_i64];omega
         have hj0:(0:Int)≤(j:Int):=by omega
         have hjL:(j:Int)<(L:Int):=by omega
         rw [ej]
         clear e1 e2 HB4 hx hr hy hy1 hy2 ej HBlk
         go_wp2
         go_roundw
         case rel=>exact ⟨j,by omega,rfl,by rw [HE2.out],hide (HBr.out.setCell (by exact hge.1) _),HNB⟩
         case measure=>simp [intOf]
end
section
open Go.RowKit
theorem number_any (P:Nat→Prop) (v:Int) (A:Option Addr) (c:Nat) (w:World) (hn:NumAt w P v A c) (hl:(digs v.natAbs).length≤100) :
 Calls Tryz.prog 54 #[numV v A c] w fun e w'=>e=.returned (.string (strOf (txt v)))∧Below w.heap.size w w':=by
 unfold numV
 obtain ⟨w0,hw0⟩:∃ w0,w0=w.alloc (.cells #[.int .i64 v.sign,.slice A (digs v.natAbs).length c] 81):=⟨_,rfl⟩
 have hb0:Below w.heap.size w w0:=by rw [hw0];exact bA
 have DG:=digits_any v.natAbs hl A c w0 (hn.step hb0).1.any
 have hdl:=dgB_len hl
 obtain ⟨N,hN⟩:∃ N,N=v.natAbs:=⟨_,rfl⟩
 rw [← hN] at hw0 DG hdl ⊢
 have HDG:=hide DG
 by_cases hv:v<0
 · have hs:v.sign=-1:=Int.sign_eq_neg_one_of_neg hv
   have ht:Hid (strOf [45]++strOf (dgB N)=strOf (txt v)):=hide (by
    rw [strOf_app]
    unfold txt
    rw [if_pos hv,hN])
   rw [hs] at hw0 ⊢
   have z1:(strOf (dgB N)).size≤1000:=by rw [strOf_size];exact hdl
   clear DG hn hl hdl hN hs hv
   go_enter Tryz.func54,Tryz.ntmps54
   go_wp2_with fail
   rw [← hw0]
   refine HDG.out.mono ?_
   rintro e w1 ⟨rfl,hb1⟩
   have hB:=bl_step hb0 hb1
   clear hw0
   go_wp2
   go_ret
   exact ⟨by rw [← ht.out];rfl,hB⟩
 · have hs:¬ v.sign<0:=by
    have:=Int.sign_nonneg_iff.2 (show 0≤v by omega)
    omega
   have ht:Hid (strOf (dgB N)=strOf (txt v)):=hide (by
    unfold txt
    rw [if_neg hv,hN,List.nil_append])
   clear DG hn hl hdl hN hv
   obtain ⟨sg,hsg⟩:∃ sg,sg=v.sign:=⟨_,rfl⟩
   rw [← hsg] at hw0 hs ⊢
   clear hsg
   go_enter Tryz.func54,Tryz.ntmps54
   go_wp2_with fail
   rw [← hw0]
   refine HDG.out.mono ?_
   rintro e w1 ⟨rfl,hb1⟩
   have hB:=bl_step hb0 hb1
   clear hw0
   go_wp2
   go_ret
   exact ⟨by rw [ht.out];rfl,hB⟩
end
end Go.Proofs.YthnenedoblncjaaGreatDoor
