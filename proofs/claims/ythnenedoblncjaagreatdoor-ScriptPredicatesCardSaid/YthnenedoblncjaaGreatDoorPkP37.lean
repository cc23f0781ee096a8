/- RefLines Lines1 RefWords -/
import Derived.BigQuiet
import Derived.ChangeAlike
import Derived.Deep.AppendLies
import Derived.Deep.QuietTactic
import Derived.Deep.RegionLaw
import Derived.Deep.RegionWith
import Derived.Lib.OthersKept
import Derived.Lib.SlTrimSet
import Derived.Lib.SliceRun
import Derived.Shelf.Strings.Builder1
import Derived.Shelf.Strings.SlTrimAscii
import Derived.Test.YthnenedoblncjaaGreatDoorProg
import Derived.Test.YthnenedoblncjaaGreatDoorPkP15
import Derived.Test.YthnenedoblncjaaGreatDoorPkP16
import Derived.Test.YthnenedoblncjaaGreatDoorPkP21
set_option maxRecDepth 1000000
set_option maxHeartbeats 8000000
namespace Go.Proofs.YthnenedoblncjaaGreatDoor
open List (getElem_toArray getElem_cons_succ getElem_cons_zero setIfInBounds_toArray set_cons_zero set_cons_succ)
section
open Go.RowKit Go.Shelf
def linesA:List UInt8→List UInt8→List (List UInt8)
 | cur,[]=>if cur=[] then [] else [cur]
 | cur,c::r=>if c=10 then cur::linesA [] r else linesA (cur++[c]) r
def lns (l:List UInt8):List (List UInt8):=linesA [] l
theorem linesA_count:∀ (l cur:List UInt8),(linesA cur l).length≤l.length+1
 | [],cur=>by unfold linesA;split <;> simp
 | c::r,cur=>by
   unfold linesA
   split
   · have:=linesA_count r [];simp only [List.length_cons];omega
   · have:=linesA_count r (cur++[c]);simp only [List.length_cons];omega
theorem ext_of {l:List UInt8} {s:ByteArray} (hs:s=strOf l) (a b:Nat):s.extract a b=strOf ((l.drop a).take (b - a)):=by
 apply ByteArray.ext
 rw [ByteArray.data_extract]
 apply Array.ext'
 rw [Array.toList_extract,hs]
 simp [strOf,List.extract]
theorem str_slice {l:List UInt8} {s:ByteArray} (hs:s=strOf l) (a b:Nat) (ha:a≤b) (hb:b≤l.length) (W:World) :
 (Instr.sliceAt 9 (.string s) (some (.int .i64 (a:Int))) (some (.int .i64 (b:Int))) none).run Tryz.prog W=.ok (.string (strOf ((l.drop a).take (b - a)))) W:=by
 have hz:s.size=l.length:=by rw [hs,strOf_size]
 have h1:(a:Int)≤(b:Int):=by omega
 have h2:(b:Int)≤(s.size:Int):=by omega
 have h0:0≤(a:Int):=by omega
 have he:=ext_of hs a b
 clear hs hz
 rw [run_sliceAt_string _ _ _ _ _ _ Tryz.underlying9]
 go_simp
theorem str_slice_l {l:List UInt8} {s:ByteArray} (hs:s=strOf l) (a:Nat) (ha:a≤l.length) (W:World) :
 (Instr.sliceAt 9 (.string s) (some (.int .i64 (a:Int))) none none).run Tryz.prog W=.ok (.string (strOf (l.drop a))) W:=by
 have hz:s.size=l.length:=by rw [hs,strOf_size]
 have h2:(a:Int)≤(s.size:Int):=by omega
 have h0:0≤(a:Int):=by omega
 have he:=ext_of hs a s.size
 rw [List.take_of_length_le (by rw [List.length_drop];omega)] at he
 clear hs hz
 rw [run_sliceAt_string _ _ _ _ _ _ Tryz.underlying9]
 go_simp
theorem str_index {l:List UInt8} {s:ByteArray} (hs:s=strOf l) {k:Nat} {c:UInt8} (hc:l[k]?=some c) (W:World) :
 (Instr.index 9 (.string s) (.int .i64 (k:Int))).run Tryz.prog W=.ok (.int .u8 (c.toNat:Int)) W:=by
 have hk:k<s.size:=by rw [hs,strOf_size];exact (List.getElem?_eq_some_iff.1 hc).1
 have h:s[k]=c:=by
  subst hs
  have h2:(strOf l).data.toList[k]?=some c:=hc
  rw [Array.getElem?_toList] at h2
  exact (Array.getElem?_eq_some_iff.1 h2).2
 have hk2:(k:Int)<(s.size:Int):=by omega
 rw [run_index_string W _ _ _ _ Tryz.underlying9]
 simp [hk,h]
theorem take_more {l:List UInt8} {st k:Nat} {c:UInt8} (h:st≤k) (hc:l[k]?=some c):(l.drop st).take (k+1 - st)=(l.drop st).take (k - st)++[c]:=by
 rw [show k+1 - st=(k - st)+1 by omega,List.take_add_one,List.getElem?_drop,show st+(k - st)=k by omega,hc]
 rfl
theorem drop_more {l:List UInt8} {k:Nat} {c:UInt8} (hc:l[k]?=some c):l.drop k=c::l.drop (k+1):=by
 obtain ⟨hk,rfl⟩:=List.getElem?_eq_some_iff.1 hc
 exact List.drop_eq_getElem_cons hk
theorem strCs_snoc (l:List (List UInt8)) (x:List UInt8):strCs (l++[x])=strCs l++[.string (strOf x)]:=by simp [strCs]
def LnAt (l:List UInt8) (st k:Nat) (L:List (List UInt8)):Prop:=st≤k∧k≤l.length∧L.length≤k∧lns l=L++linesA ((l.drop st).take (k - st)) (l.drop k)
theorem LnAt.on {l:List UInt8} {st k:Nat} {L:List (List UInt8)} {c:UInt8} (h:LnAt l st k L) (hc:l[k]?=some c) (h10:c≠10):LnAt l st (k+1) L:=by
 obtain ⟨h1,h2,h3,h4⟩:=h
 have hk:=(List.getElem?_eq_some_iff.1 hc).1
 refine ⟨by omega,hk,by omega,?_⟩
 rw [h4,drop_more hc,linesA,if_neg h10,take_more h1 hc]
theorem LnAt.fin {l:List UInt8} {st:Nat} {L:List (List UInt8)} (h:LnAt l st l.length L):lns l=if st<l.length then L++[l.drop st] else L:=by
 obtain ⟨h1,h2,h3,h4⟩:=h
 rw [h4,List.drop_length,linesA,List.take_of_length_le (by rw [List.length_drop];omega)]
 by_cases hs:st<l.length
 · rw [if_pos hs,if_neg (by intro h;have:=congrArg List.length h;simp at this;omega)]
 · rw [if_neg hs,if_pos (List.drop_eq_nil_of_le (by omega)),List.append_nil]
end
section
open Go.RowKit Go.Shelf
attribute [local go_sem] Oper.semAt_some
def klnA:List UInt8→List UInt8→List (List UInt8)
 | cur,[]=>if cur=[] then [] else [cur]
 | cur,c::r=>if c=10 then (cur++[10])::klnA [] r else klnA (cur++[c]) r
def kls (l:List UInt8):List (List UInt8):=klnA [] l
theorem kln_nl:∀ (a cur r:List UInt8),10 ∉ a→klnA cur (a++10::r)=(cur++a++[10])::kls r
 | [],cur,r,_=>by rw [List.nil_append,klnA,if_pos rfl,List.append_nil];rfl
 | c::a,cur,r,h=>by
   have h1:c≠10:=fun e=>h (by rw [e];exact List.mem_cons_self ..)
   rw [List.cons_append,klnA,if_neg h1,kln_nl a (cur++[c]) r fun e=>h (List.mem_cons_of_mem _ e)]
   simp
theorem kln_none:∀ (l cur:List UInt8),10 ∉ l→klnA cur l=if cur++l=[] then [] else [cur++l]
 | [],cur,_=>by rw [klnA,List.append_nil]
 | c::l,cur,h=>by
   have h1:c≠10:=fun e=>h (by rw [e];exact List.mem_cons_self ..)
   rw [klnA,if_neg h1,kln_none l (cur++[c]) fun e=>h (List.mem_cons_of_mem _ e)]
   simp
theorem kls_nl {a r:List UInt8} (h:10 ∉ a):kls (a++10::r)=(a++[10])::kls r:=by
 have:=kln_nl a [] r h
 simpa [kls] using this
theorem kls_none {l:List UInt8} (h:10 ∉ l) (hn:l≠[]):kls l=[l]:=by
 have:=kln_none l [] h
 simpa [kls,hn] using this
theorem idx_cases:∀ l:List UInt8,(Lib.indexByte l 10=-1∧10 ∉ l)∨∃ a r,l=a++10::r∧10 ∉ a∧Lib.indexByte l 10=(a.length:Int)
 | []=>.inl ⟨rfl,by simp⟩
 | c::l=>by
   by_cases hc:c=10
   · subst hc
     exact .inr ⟨[],l,rfl,by simp,by simp [Lib.indexByte]⟩
   · rcases idx_cases l with ⟨h1,h2⟩ | ⟨a,r,rfl,h2,h3⟩
     · left
       refine ⟨by simp [Lib.indexByte,hc,h1],?_⟩
       intro h
       rcases List.mem_cons.1 h with h | h
       · exact hc h.symm
       · exact h2 h
     · right
       refine ⟨c::a,r,rfl,?_,?_⟩
       · intro h
         rcases List.mem_cons.1 h with h | h
         · exact hc h.symm
         · exact h2 h
       · have h4:¬ ((a.length:Int)=-1):=by omega
         simp [Lib.indexByte,hc,h3,h4]
theorem idx_any (l:List UInt8) (w:World):Calls Tryz.prog 87 #[.string (strOf l),.int .u8 10] w fun e w'=>e=.returned (.int .i64 (Lib.indexByte l 10))∧w'=w:=by
 refine (Any.strings_IndexByte Tryz.lays137 (strOf l) 10 w).mono ?_
 rintro e w' ⟨rfl,rfl⟩
 exact ⟨rfl,rfl⟩
theorem str_slice_h {l:List UInt8} {s:ByteArray} (hs:s=strOf l) (b:Nat) (hb:b≤l.length) (W:World) :
 (Instr.sliceAt 9 (.string s) none (some (.int .i64 (b:Int))) none).run Tryz.prog W=.ok (.string (strOf (l.take b))) W:=by
 have hz:s.size=l.length:=by rw [hs,strOf_size]
 have h2:(b:Int)≤(s.size:Int):=by omega
 have h0:0≤(b:Int):=by omega
 have he:=ext_of hs 0 b
 rw [List.drop_zero,Nat.sub_zero] at he
 clear hs hz
 rw [run_sliceAt_string _ _ _ _ _ _ Tryz.underlying9]
 go_simp
def lenB (w:World) (b:Nat):Nat:=match w.cell? ⟨b,0,none⟩ with
 | some (.string s)=>s.size
 | _=>0
theorem lenB_of {w:World} {b:Nat} {l:List UInt8} (h:Blk w b 9 #[.string (strOf l)]):lenB w b=l.length:=by
 have c:w.cell? ⟨b,0,none⟩=some (.string (strOf l)):=h.cell (i:=0) rfl
 unfold lenB
 rw [c]
 exact strOf_size l
def encS (x:List UInt8):Array Value:=#[.string (strOf x)]
theorem lines1_at (l0:List UInt8) (hl0:l0.length≤1000000) (K:Nat→Prop) (bx:Nat) (hKb:K bx) (w:World) (B1:Blk w bx 9 #[.string (strOf l0)]) :
 SeqX Tryz.prog (fun x=>x∈kls l0) encS K (fun k=>k=bx) 86 #[.pointer (some ⟨bx,0,none⟩)] (fun ys=>ys=kls l0) (kls l0).length w:=by
 intro l J Jx R W hk hKR hRW hJ hJx hY h0
 have B2:=B1.kept hk hKb
 have HJ:=hide hJ;have HY:=hide hY;have HRW:=hide hRW
 have HRb:Hid (R bx):=hide (hKR _ hKb)
 have hmix:Tryz.prog.follows .mixedOrders=true:=by kernel_rfl
 clear hk hKR hRW hJ hJx hY B1 hKb
 have cb:=B2.cell (i:=0) rfl
 refine (callsIn_wide (n:=6)).1 ?_
 refine callsIn_of_wp Tryz.func86 rfl trivial ?_ rfl
 simp only [Tryz.ntmps86,List.size_toArray,List.length_cons,List.length_nil,Nat.reduceAdd,Nat.reduceSub,Array.replicate_succ,Array.replicate_zero,List.push_toArray,List.append_toArray,List.nil_append,List.cons_append]
 gi_wp2
 gi_loopw [] (fun wr=>∃ (pre:List (List UInt8)) (rest:List UInt8),kls l0=pre++kls rest∧rest.length≤l0.length∧Blk wr bx 9 #[.string (strOf rest)]∧J R pre wr∧W.heap.size≤wr.heap.size)
  (fun wr=>lenB wr bx)
 case atStart=>exact ⟨[],l0,rfl,Nat.le_refl _,B2,h0,Nat.le_refl _⟩
 case round =>
  clear cb
  obtain ⟨pre,rest,hks,hrl,Bx,hJs,hsz⟩:=hrel
  have HSZ:=hide hsz;have HBX:=hide Bx
  have cr:wr.cell? ⟨bx,0,none⟩=some (.string (strOf rest)):=Bx.cell (i:=0) rfl
  have fr:=Bx.frozen 0
  clear hsz
  obtain ⟨N,hN⟩:∃ N,N=rest.length:=⟨_,rfl⟩
  obtain ⟨s,hs⟩:∃ s,s=strOf rest:=⟨_,rfl⟩
  have hz:(s.size:Int)=(N:Int):=by rw [hs,strOf_size,hN]
  have HI:Hid (∀ X,Calls Tryz.prog 87 #[.string s,.int .u8 10] X fun e w'=>e=.returned (.int .i64 (Lib.indexByte rest 10))∧w'=X):=hide fun X=>by rw [hs];exact idx_any rest X
  have HS:=hide hs
  rw [← hs] at cr
  clear hs
  by_cases hne:rest=[]
  · have hN0:¬ (N:Int) > 0:=by rw [hN,hne];simp
    have HJS:=hide hJs
    gi_wp2
    go_end0
    exact ⟨⟨_,rfl⟩,.inl (by subst hne;simpa [kls,klnA] using HJS.out)⟩
  · have hN1:(N:Int) > 0:=by
     have:=List.length_pos_iff.2 hne
     omega
    rcases idx_cases rest with ⟨hi,h10⟩ | ⟨a,r,hrest,h10,hi⟩
    · have HKS:Hid (kls l0=pre++[rest]):=hide (by rw [hks,kls_none h10 hne])
      rw [hi] at HI
      have hJd:J R pre (wr.setCell ⟨bx,0,none⟩ (.string ⟨#[]⟩)):=HJ.out R R pre wr _ hJs (StirsX.setX (X:=fun k=>k=bx) rfl _ _ _ _ _) fun j hj=>⟨.inl hj,by have:=HRW.out j hj;have:=HSZ.out;simp;omega⟩
      have HBN:Hid (Blk (wr.setCell ⟨bx,0,none⟩ (.string ⟨#[]⟩)) bx 9 #[.string (strOf [])]):=hide (Bx.set 0 _)
      have hlt:([]:List UInt8).length<rest.length:=List.length_pos_iff.2 hne
      clear hks Bx hJs hi
      gi_wp2_with fail
      refine ⟨trivial,?_⟩
      refine (callsIn_wide.2 (HI.out _)).mono ?_
      rintro e w5 ⟨rfl,rfl⟩
      have hRl:∀ j,R j→j<(w5.setCell ⟨bx,0,none⟩ (.string ⟨#[]⟩)).heap.size:=fun j hj=>by have:=HRW.out j hj;have:=HSZ.out;simp;omega
      obtain ⟨fn,tmps,assign,body,hy,hR⟩:=HY.out 5 R pre rest (w5.setCell ⟨bx,0,none⟩ (.string ⟨#[]⟩)) hRl hJd (by rw [HKS.out];simp) (by rw [HKS.out];simp)
      have hR2:=hide (hR.mono (R':=fun e W'=>∃ b,e=.returned (.bool b)∧(b=true→J R (pre++[rest]) W'∧KeepP R (w5.setCell ⟨bx,0,none⟩ (.string ⟨#[]⟩)) W')∧(b=false→Jx R W')) (by
       rintro e W' (⟨rfl,h1,h2⟩ | ⟨rfl,h1,h2⟩)
       · exact ⟨true,rfl,fun _=>⟨h1,h2⟩,fun h=>by cases h⟩
       · exact ⟨false,rfl,(fun h=>by cases h),fun _=>h1⟩))
      unfold encS at hy
      rw [← HS.out] at hy
      clear hR hJd hRl
      gi_wp2_with fail
      refine hR2.out.mono ?_
      rintro e W3 ⟨b,rfl,hb1,hb2⟩
      have HR1:=hide hb1
      have HR2:=hide hb2
      clear hb1 hb2 hy hR2
      cases b with
      | false =>
        have HX3:=hide (HR2.out rfl)
        clear HR1 HR2
        gi_wp2
        refine bodyPost_ret (results_none rfl _ _ _) rfl ?_
        exact ⟨⟨_,rfl⟩,.inr HX3.out⟩
      | true =>
        have HJ3:=hide (HR1.out rfl).1
        have HK3:=hide (HR1.out rfl).2
        clear HR1 HR2
        have HB3:=hide (HBN.out.kept HK3.out HRb.out)
        have HZ3:Hid (W.heap.size≤W3.heap.size):=hide (Nat.le_trans HSZ.out (by have h:=HK3.out.size;rw [World.size_setCell] at h;exact h))
        gi_wp2
        go_roundw
        case rel=>exact ⟨pre++[rest],[],by rw [HKS.out];simp [kls,klnA],Nat.zero_le _,HB3.out,HJ3.out,HZ3.out⟩
        case measure=>rw [lenB_of HB3.out,lenB_of HBX.out];exact hlt
    · have HKS:Hid (kls l0=pre++((a++[10])::kls r)):=hide (by rw [hks,hrest,kls_nl h10])
      obtain ⟨m,hm⟩:∃ m,m=a.length:=⟨_,rfl⟩
      have hrl2:rest.length=m+1+r.length:=by rw [hrest,hm];simp;omega
      have hta:rest.take (m+1)=a++[10]:=by rw [hrest,hm,show a++10::r=(a++[10])++r by simp,List.take_left' (by simp)]
      have hdr:rest.drop (m+1)=r:=by rw [hrest,hm,show a++10::r=(a++[10])++r by simp,List.drop_left' (by simp)]
      obtain ⟨Y,hY⟩:∃ Y,Y=strOf (a++[10]):=⟨_,rfl⟩
      obtain ⟨Z,hZ⟩:∃ Z,Z=strOf r:=⟨_,rfl⟩
      have hslA:∀ X,(Instr.sliceAt 9 (.string s) none (some (.int .i64 ((m:Int)+1))) none).run Tryz.prog X=.ok (.string Y) X:=fun X=>by
       rw [hY,← hta]
       exact str_slice_h HS.out (m+1) (by omega) X
      have hslB:∀ X,(Instr.sliceAt 9 (.string s) (some (.int .i64 ((m:Int)+1))) none none).run Tryz.prog X=.ok (.string Z) X:=fun X=>by
       rw [hZ,← hdr]
       exact str_slice_l HS.out (m+1) (by omega) X
      have h64:IntKind.i64.wrap ((m:Int)+1)=(m:Int)+1:=by rw [IntKind.wrap_i64];omega
      have hlt:r.length<rest.length:=by omega
      have HYV:=hide hY;have HZV:=hide hZ;have HR0:=hide hrl;have HRL2:=hide hrl2
      rw [hi,← hm] at HI
      clear hks hi hta hdr hY hZ hrest hm hrl2 h10
      gi_wp2_with fail
      refine ⟨trivial,?_⟩
      refine (callsIn_wide.2 (HI.out _)).mono ?_
      rintro e w5 ⟨rfl,rfl⟩
      have hm0:(m:Int) ≥ 0:=by omega
      gi_wp2
      have hS:w5.drew.cell? ⟨bx,0,none⟩=some (.string s):=cr
      have fD:w5.drew.frozen? ⟨bx,0,none⟩=false:=fr
      have BD:=Bx.drew
      have HSZD:Hid (W.heap.size≤w5.drew.heap.size):=hide HSZ.out
      have JD:J R pre w5.drew:=HJ.out R R pre w5 _ hJs (StirsX.of_below (bl_drew (Below.refl _ _)) _ _ _) fun j hj=>⟨.inl hj,by have:=HRW.out j hj;have:=HSZ.out;show j<w5.heap.size;omega⟩
      refine startH 9 (S:=fun w'=>w'.cell? ⟨bx,0,none⟩=some (.string s)) hmix ?_
      generalize w5.drew=u0 at *
      refine' takeH (i:=0) (v:=_) (noDefer_of (by kernel_rfl)) rfl (by kernel_rfl) (by kernel_rfl) (by kernel_rfl) (fun _ _ _ h=>h) (by kernel_rfl) ⟨Or.inl ⟨by rfl,?hy0k1⟩,fun _=>rfl⟩ hS ?rest0k1
      case hy0k1 =>
       intro w' hSw
       have k0:=hSw
       go_simp
       rfl
      simp only [Act.put,getElem_toArray,getElem_cons_zero,setIfInBounds_toArray,set_cons_zero,set_cons_succ]
      refine' takeH (i:=1) (v:=_) (noDefer_of (by kernel_rfl)) rfl (by kernel_rfl) (by kernel_rfl) (by kernel_rfl) (fun _ _ _ h=>h) (by kernel_rfl) ⟨Or.inl ⟨by rfl,?hy1k2⟩,fun _=>rfl⟩ hS ?rest1k2
      case hy1k2 =>
       intro w' hSw
       have k0:=hSw
       go_simp
       rfl
      simp only [Act.put,getElem_toArray,getElem_cons_succ,getElem_cons_zero,setIfInBounds_toArray,set_cons_zero,set_cons_succ]
      refine' takeH (i:=2) (v:=_) (noDefer_of (by kernel_rfl)) rfl (by kernel_rfl) (by kernel_rfl) (by kernel_rfl) (fun _ _ _ h=>h) (by kernel_rfl) ⟨Or.inl ⟨by rfl,?hy2k3⟩,fun _=>rfl⟩ hS ?rest2k3
      case hy2k3 =>
       intro w' hSw
       have k0:=hSw
       go_simp
       rfl
      simp only [Act.put,getElem_toArray,getElem_cons_succ,getElem_cons_zero,setIfInBounds_toArray,set_cons_zero,set_cons_succ]
      refine' takeH (i:=3) (v:=_) (noDefer_of (by kernel_rfl)) rfl (by kernel_rfl) (by kernel_rfl) (by kernel_rfl) (fun _ _ _ h=>h) (by kernel_rfl) ⟨Or.inl ⟨by rfl,?hy3k4⟩,fun _=>rfl⟩ hS ?rest3k4
      case hy3k4 =>
       intro w' hSw
       have k0:=hSw
       go_simp
       rfl
      simp only [Act.put,getElem_toArray,getElem_cons_succ,getElem_cons_zero,setIfInBounds_toArray,set_cons_zero,set_cons_succ]
      refine' takeH (i:=4) (v:=_) (noDefer_of (by kernel_rfl)) rfl (by kernel_rfl) (by kernel_rfl) (by kernel_rfl) (fun _ _ _ h=>h) (by kernel_rfl) ⟨Or.inl ⟨by rfl,?hy4k5⟩,fun _=>rfl⟩ hS ?rest4k5
      case hy4k5 =>
       intro w' hSw
       have k0:=hSw
       go_simp
       rfl
      simp only [Act.put,getElem_toArray,getElem_cons_succ,getElem_cons_zero,setIfInBounds_toArray,set_cons_zero,set_cons_succ]
      refine' takeH (i:=5) (v:=_) (noDefer_of (by kernel_rfl)) rfl (by kernel_rfl) (by kernel_rfl) (by kernel_rfl) (fun _ _ _ h=>h) (by kernel_rfl) ⟨Or.inl ⟨by rfl,?hy5k6⟩,fun _=>rfl⟩ hS ?rest5k6
      case hy5k6 =>
       intro w' hSw
       have k0:=hSw
       go_simp
       rfl
      simp only [Act.put,getElem_toArray,getElem_cons_succ,getElem_cons_zero,setIfInBounds_toArray,set_cons_zero,set_cons_succ]
      refine' takeH (i:=6) (v:=_) (noDefer_of (by kernel_rfl)) rfl (by kernel_rfl) (by kernel_rfl) (by kernel_rfl) (fun _ _ _ h=>h) (by kernel_rfl) ⟨Or.inl ⟨by rfl,?hy6k7⟩,fun _=>rfl⟩ hS ?rest6k7
      case hy6k7 =>
       intro w' hSw
       have k0:=hSw
       go_simp
       rfl
      simp only [Act.put,getElem_toArray,getElem_cons_succ,getElem_cons_zero,setIfInBounds_toArray,set_cons_zero,set_cons_succ]
      refine' takeH (i:=7) (v:=_) (noDefer_of (by kernel_rfl)) rfl (by kernel_rfl) (by kernel_rfl) (by kernel_rfl) (fun _ _ _ h=>h) (by kernel_rfl) ⟨Or.inl ⟨by rfl,?hy7k8⟩,fun _=>rfl⟩ hS ?rest7k8
      case hy7k8 =>
       intro w' hSw
       have k0:=hSw
       go_simp
       rfl
      simp only [Act.put,getElem_toArray,getElem_cons_succ,getElem_cons_zero,setIfInBounds_toArray,set_cons_zero,set_cons_succ]
      refine oneH (i:=8) (by kernel_rfl) rfl ?_
      intro K hK
      rw [if_pos (by rfl)]
      go_simp
      refine hK.out _ _ (fun _=>hS) ?_
      clear hK K
      (try simp only [Act.put,getElem_toArray,getElem_cons_succ,getElem_cons_zero,setIfInBounds_toArray,set_cons_zero,set_cons_succ])
      have hS9:(u0.setCell ⟨bx,0,none⟩ (.string Z)).cell? ⟨bx,0,none⟩=some (.string Z):=World.cell?_setCell_same _ _ _ hS
      refine oneH (i:=9) (by kernel_rfl) rfl ?_
      intro K hK
      rw [if_pos (by rfl)]
      go_simp
      refine hK.out _ _ (fun h=>absurd h (by decide)) ?_
      clear hK K
      (try simp only [Act.put,getElem_toArray,getElem_cons_succ,getElem_cons_zero,setIfInBounds_toArray,set_cons_zero,set_cons_succ])
      refine doneH (by kernel_rfl) ?_ _
      have HBN:Hid (Blk (u0.setCell ⟨bx,0,none⟩ (.string Z)) bx 9 #[.string (strOf r)]):=hide (by rw [← HZV.out];exact BD.set 0 _)
      have hJd:J R pre (u0.setCell ⟨bx,0,none⟩ (.string Z)):=HJ.out R R pre u0 _ JD (StirsX.setX (X:=fun k=>k=bx) rfl _ _ _ _ _) fun j hj=>⟨.inl hj,by have:=HRW.out j hj;have:=HSZD.out;simp;omega⟩
      have HSZ:=HSZD
      clear BD JD hS fD hS9 hslA hslB
      have hRl:∀ j,R j→j<(u0.setCell ⟨bx,0,none⟩ (.string Z)).heap.size:=fun j hj=>by have:=HRW.out j hj;have:=HSZ.out;simp;omega
      obtain ⟨fn,tmps,assign,body,hy,hR⟩:=HY.out 5 R pre (a++[10]) (u0.setCell ⟨bx,0,none⟩ (.string Z)) hRl hJd (by rw [HKS.out];simp) (by rw [HKS.out];simp)
      have hR2:=hide (hR.mono (R':=fun e W'=>∃ b,e=.returned (.bool b)∧(b=true→J R (pre++[(a++[10])]) W'∧KeepP R (u0.setCell ⟨bx,0,none⟩ (.string Z)) W')∧(b=false→Jx R W')) (by
       rintro e W' (⟨rfl,h1,h2⟩ | ⟨rfl,h1,h2⟩)
       · exact ⟨true,rfl,fun _=>⟨h1,h2⟩,fun h=>by cases h⟩
       · exact ⟨false,rfl,(fun h=>by cases h),fun _=>h1⟩))
      unfold encS at hy
      rw [← HYV.out] at hy
      clear hR hJd hRl
      gi_wp2_with fail
      refine hR2.out.mono ?_
      rintro e W3 ⟨b,rfl,hb1,hb2⟩
      have HR1:=hide hb1
      have HR2:=hide hb2
      clear hb1 hb2 hy hR2
      cases b with
      | false =>
        have HX3:=hide (HR2.out rfl)
        clear HR1 HR2
        gi_wp2
        refine bodyPost_ret (results_none rfl _ _ _) rfl ?_
        exact ⟨⟨_,rfl⟩,.inr HX3.out⟩
      | true =>
        have HJ3:=hide (HR1.out rfl).1
        have HK3:=hide (HR1.out rfl).2
        clear HR1 HR2
        have HB3:=hide (HBN.out.kept HK3.out HRb.out)
        have HZ3:Hid (W.heap.size≤W3.heap.size):=hide (Nat.le_trans HSZ.out (by have h:=HK3.out.size;rw [World.size_setCell] at h;exact h))
        gi_wp2
        go_roundw
        case rel=>exact ⟨pre++[(a++[10])],r,by rw [HKS.out];simp [kls],(by have:=HR0.out;omega),HB3.out,HJ3.out,HZ3.out⟩
        case measure=>rw [lenB_of HB3.out,lenB_of HBX.out];exact hlt
theorem lines_raw (s:ByteArray) (w:World):Calls Tryz.prog 44 #[.string s] w fun e w'=>e=.returned (.func (.func 86) #[] #[.pointer (some ⟨w.heap.size,0,none⟩)])∧w'=w.alloc (.cells #[.string s] 9):=by
 go_enter Tryz.func44,Tryz.ntmps44
 go_wp2
 go_ret
 exact ⟨rfl,rfl⟩
def cutNl (x:List UInt8):List UInt8:=if x.getLast?=some 10 then x.dropLast else x
theorem kln_lns:∀ (l cur:List UInt8),10 ∉ cur→(klnA cur l).map cutNl=linesA cur l
 | [],cur,h=>by
   unfold klnA linesA
   split
   · rfl
   · have h1:¬ cur.getLast?=some 10:=fun e=>h (List.mem_of_getLast? e)
     simp [cutNl,h1]
 | c::r,cur,h=>by
   unfold klnA linesA
   split
   · rw [List.map_cons,kln_lns r [] (by simp)]
     simp [cutNl]
   · rename_i hc
     refine kln_lns r (cur++[c]) fun e=>?_
     rcases List.mem_append.1 e with e | e
     · exact h e
     · exact hc (List.mem_singleton.1 e).symm
theorem kls_lns (l:List UInt8):(kls l).map cutNl=lns l:=kln_lns l [] (by simp)
end
section
open Go.RowKit Go.Shelf
def WdAt (l:List UInt8) (st i:Nat) (L:List (List UInt8)):Prop:=st≤i∧i≤l.length∧L.length≤i∧sp 32 l=L++sp 32 (l.drop st)∧32 ∉ (l.drop st).take (i - st)
theorem take_split {l:List UInt8} {st i:Nat} (h:st≤i):l.drop st=(l.drop st).take (i - st)++l.drop i:=by
 conv=>lhs;rw [← List.take_append_drop (i - st) (l.drop st)]
 rw [List.drop_drop,show st+(i - st)=i from by omega]
theorem WdAt.sep {l:List UInt8} {st i:Nat} {L:List (List UInt8)} (h:WdAt l st i L) (hc:l[i]?=some 32):WdAt l (i+1) (i+1) (L++[(l.drop st).take (i - st)]):=by
 obtain ⟨h1,h2,h3,h4,h5⟩:=h
 have hi:i<l.length:=(List.getElem?_eq_some_iff.1 hc).1
 refine ⟨Nat.le_refl _,hi,by rw [List.length_append,List.length_cons,List.length_nil];omega,?_,by simp⟩
 rw [h4,List.append_assoc]
 congr 1
 conv=>lhs;rw [take_split h1,drop_more hc]
 rw [sp_app h5]
 rfl
theorem WdAt.on {l:List UInt8} {st i:Nat} {L:List (List UInt8)} {c:UInt8} (h:WdAt l st i L) (hc:l[i]?=some c) (h32:c≠32):WdAt l st (i+1) L:=by
 obtain ⟨h1,h2,h3,h4,h5⟩:=h
 have hi:i<l.length:=(List.getElem?_eq_some_iff.1 hc).1
 refine ⟨by omega,hi,by omega,h4,?_⟩
 rw [take_more h1 hc]
 intro h
 rcases List.mem_append.1 h with h | h
 · exact h5 h
 · exact h32 (List.mem_singleton.1 h).symm
theorem WdAt.fin {l:List UInt8} {st:Nat} {L:List (List UInt8)} (h:WdAt l st l.length L):sp 32 l=L++[(l.drop st).take (l.length - st)]:=by
 obtain ⟨h1,_,_,h4,h5⟩:=h
 have e:(l.drop st).take (l.length - st)=l.drop st:=List.take_of_length_le (by rw [List.length_drop];exact Nat.le_refl _)
 rw [e] at h5 ⊢
 rw [h4,sp_none h5]
theorem rwords_any (l:List UInt8) (hl:l.length≤1000000) (w:World):Calls Tryz.prog 34 #[.string (strOf l)] w fun e w'=>∃ v,e=.returned v∧w'.ownsRow w.heap.size 9 1 v (sp 32 l).length (strCs (sp 32 l))∧Below w.heap.size w w':=by
 obtain ⟨s,hs⟩:∃ s,s=strOf l:=⟨_,rfl⟩
 obtain ⟨N,hN⟩:∃ N,N=l.length:=⟨_,rfl⟩
 have hz:(s.size:Int)=(N:Int):=by rw [hs,strOf_size,hN]
 obtain ⟨i0,hi,hi0,hi1,hi2⟩:=info_parts str_info
 have hNl:N≤1000000:=by omega
 have HS:=hide hs;have HN:=hide hN
 rw [← hs]
 clear hs hN hl
 go_enter Tryz.func34,Tryz.ntmps34
 go_wp2
 go_loopw [3,4,5] (fun v f i wr=>∃ (L:List (List UInt8)) (st k:Nat),f=.int .i64 (st:Int)∧i=.int .i64 (k:Int)∧(WdAt l st k L∨(k=N+1∧L=sp 32 l))∧k≤N+1∧wr.ownsRow w.heap.size 9 1 v L.length (strCs L)∧Below w.heap.size w wr)
  (fun _ _ i _=>N+1 - (intOf i).toNat)
 case atStart=>exact ⟨[],0,0,rfl,rfl,.inl ⟨Nat.le_refl _,Nat.zero_le _,Nat.zero_le _,by simp,by simp⟩,Nat.zero_le _,World.ownsRow_nil _ _ _ _,Below.refl _ _⟩
 case round =>
  obtain ⟨L,st,k,rfl,rfl,hat,hk1,hown,hbr⟩:=hrel
  by_cases hend:k=N+1
  · subst hend
    have hL:L=sp 32 l:=by
     rcases hat with h | h
     · have:=h.2.1;have:=HN.out;omega
     · exact h.2
    subst hL
    have hki:¬ ((N+1:Nat):Int)≤(N:Int):=by omega
    obtain ⟨VA,vc,rfl,-⟩:=own_slice hown
    have HO:=hide hown;have HB:=hide hbr
    clear hown hbr hat
    go_wp2
    go_ret
    exact ⟨_,rfl,HO.out,HB.out⟩
  · have hat:WdAt l st k L:=by
     rcases hat with h | h
     · exact h
     · exact absurd h.1 hend
    have hst:=hat.1
    have hkN:k≤N:=by omega
    have hLk:=hat.2.2.1
    have hki:(k:Int)≤(N:Int):=by omega
    have HAT:=hide hat
    obtain ⟨wd,hwd⟩:∃ wd,wd=(l.drop st).take (k - st):=⟨_,rfl⟩
    have hsl:∀ W,(Instr.sliceAt 9 (.string s) (some (.int .i64 (st:Int))) (some (.int .i64 (k:Int))) none).run Tryz.prog W=.ok (.string (strOf wd)) W:=fun W=>by
     rw [hwd]
     exact str_slice HS.out st k hst (by rw [← HN.out];exact hkN) W
    by_cases hkn:k=N
    · subst hkn
      have HF:Hid (sp 32 l=L++[wd]):=hide (by
       have h:=HAT.out
       rw [HN.out] at h
       rw [hwd,h.fin,HN.out])
      have HCS:Hid (strCs (sp 32 l)=strCs L++[.string (strOf wd)]):=hide (by rw [HF.out,strCs_snoc])
      have HLEN:Hid ((sp 32 l).length=L.length+1):=hide (by rw [HF.out,List.length_append];rfl)
      have N4:=Blk.new wr 9 #[.string (strOf wd)]
      have hb4:=bl_alloc (Below.refl wr.heap.size wr) (.cells #[.string (strOf wd)] 9)
      have hown4:=own_step hown hb4
      have hbl4:=bl_step hbr hb4
      obtain ⟨g7,c7,w7,hr7,hown7,hg7,-,-⟩:=run_append_lies (P:=Tryz.prog) (wr.alloc (.cells #[.string (strOf wd)] 9)) 28 28 w.heap.size 9 i0 (.string ⟨#[]⟩) 1 16 Tryz.underlying28 hi hi0 hi1 hi2 rfl (by decide) _ L.length _ hown4 ⟨wr.heap.size,0,none⟩ 1 1 [.string (strOf wd)] rfl (blk_cells N4) (by simp [Value.oneCell']) (by omega) (by unfold maxLen;omega) (by omega) hbl4.size _ rfl
      rw [← HCS.out] at hown7
      have HO7:=hide hown7
      have HB7:=hide (hbl4.grown hg7 hbl4.size (fun j hj=>own_base hown4 hj))
      clear hown7 hg7 hown4 hbl4 N4 hb4 hown hbr hat hwd HCS hki
      have hki:(k:Int)≤(k:Int):=Int.le_refl _
      go_wp2_with (at_builtin;refine app_runS (.tmp 22) (.tmp 27) 28 rfl rfl _ _ rfl rfl hr7 ?_)
      go_wp2
      go_roundw
      case rel=>exact ⟨sp 32 l,k+1,k+1,by go_num,by go_num,.inr ⟨by omega,rfl⟩,by omega,by rw [HLEN.out];exact HO7.out,HB7.out⟩
      case measure=>simp [intOf]
    · have hkb:((k:Int) == (N:Int))=false:=by rw [beq_eq_false_iff_ne];omega
      have hke:¬ (k:Int)=(N:Int):=by omega
      have hkl:k<N:=by omega
      obtain ⟨c,hc⟩:∃ c,l[k]?=some c:=⟨_,List.getElem?_eq_getElem (by rw [← HN.out];exact hkl)⟩
      have hix:=fun W=>str_index HS.out hc W
      by_cases h32:c=32
      · subst h32
        have HNX:=hide (HAT.out.sep hc)
        rw [← hwd] at HNX
        have HCS:Hid (strCs (L++[wd])=strCs L++[.string (strOf wd)]):=hide (by rw [strCs_snoc])
        have HLEN:Hid ((L++[wd]).length=L.length+1):=hide (by rw [List.length_append];rfl)
        have N4:=Blk.new wr 9 #[.string (strOf wd)]
        have hb4:=bl_alloc (Below.refl wr.heap.size wr) (.cells #[.string (strOf wd)] 9)
        have hown4:=own_step hown hb4
        have hbl4:=bl_step hbr hb4
        obtain ⟨g7,c7,w7,hr7,hown7,hg7,-,-⟩:=run_append_lies (P:=Tryz.prog) (wr.alloc (.cells #[.string (strOf wd)] 9)) 28 28 w.heap.size 9 i0 (.string ⟨#[]⟩) 1 16 Tryz.underlying28 hi hi0 hi1 hi2 rfl (by decide) _ L.length _ hown4 ⟨wr.heap.size,0,none⟩ 1 1 [.string (strOf wd)] rfl (blk_cells N4) (by simp [Value.oneCell']) (by omega) (by unfold maxLen;omega) (by omega) hbl4.size _ rfl
        rw [← HCS.out] at hown7
        have HO7:=hide hown7
        have HB7:=hide (hbl4.grown hg7 hbl4.size (fun j hj=>own_base hown4 hj))
        clear hown7 hg7 hown4 hbl4 N4 hb4 hown hbr hat hwd HCS hc
        go_wp2_with (at_builtin;refine app_runS (.tmp 22) (.tmp 27) 28 rfl rfl _ _ rfl rfl hr7 ?_)
        go_wp2
        go_roundw
        case rel=>exact ⟨L++[wd],k+1,k+1,by go_num,by go_num,.inl HNX.out,by omega,by rw [HLEN.out];exact HO7.out,HB7.out⟩
        case measure=>simp [intOf];omega
      · have hcn:¬ ((c.toNat:Nat):Int)=32:=fun h=>h32 (by
         have h2:c.toNat=32:=by omega
         rw [← UInt8.ofNat_toNat (x:=c),h2];rfl)
        have hcb:(((c.toNat:Nat):Int) == 32)=false:=beq_eq_false_iff_ne.2 hcn
        have HNX:=hide (HAT.out.on hc h32)
        have HO:=hide hown;have HB:=hide hbr
        obtain ⟨cn,hcc⟩:∃ n,n=c.toNat:=⟨_,rfl⟩
        rw [← hcc] at hix hcn hcb
        clear hown hbr hat hwd hc hcc h32
        go_wp2
        go_roundw
        case rel=>exact ⟨L,st,k+1,rfl,by go_num,.inl HNX.out,by omega,HO.out,HB.out⟩
        case measure=>simp [intOf];omega
end
end Go.Proofs.YthnenedoblncjaaGreatDoor
