/- DecLib DecLib2 DecParse DecParse2 DecParse3 -/
import Derived.Deep.CutBlock
import Derived.Laws.IdiomStrings
import Derived.Lib.OwnBridge
import Derived.Outline
import Derived.Test.YthnenedoblncjaaGreatDoorPkP03
import Derived.Test.YthnenedoblncjaaGreatDoorPkP05
import Derived.Test.YthnenedoblncjaaGreatDoorPkP07
import Derived.Test.YthnenedoblncjaaGreatDoorPkP08
set_option maxRecDepth 1000000
set_option maxHeartbeats 8000000
namespace Go.Proofs.YthnenedoblncjaaGreatDoor
section
open Go.RowKit
def UPred (K:FuncId) (p:Int→Bool):Prop:=∀ (x:Int) (w:World),Calls Tryz.prog K #[.int .u64 x] w fun e w'=>e=.returned (.bool (p x))∧w=w'
def EntersU (K:FuncId):Prop:=∀ (a:Array Value) (w:World),(callFunc K a).run Tryz.prog w=.ok (.enter K a) w
theorem indexU_any (K:FuncId) (hK:EntersU K) (p:Int→Bool) (hp:UPred K p) (A:Option Addr) (c:Nat) (l:List Int) (w:World) (hs:Sl w w.heap.size A (uCs l)) (hn:l.length≤maxLen) :
 Calls Tryz.prog 274 #[.slice A l.length c,.func (.func K) #[] #[]] w fun e w'=>w=w'∧∃ k:Int,e=.returned (.int .i64 k)∧decide (0≤k)=l.any p:=by
 unfold maxLen at hn
 unfold EntersU at hK
 have HP:=hide hp;clear hp
 go_enter Tryz.func274,Tryz.ntmps274
 go_wp2
 go_loop [5,8] (fun _ i=>∃ k:Nat,k≤l.length∧i=.int .i64 k∧(l.take k).any p=false)
  (fun _ i=>l.length - (intOf i).toNat)
 case atStart=>exact ⟨0,by omega,rfl,by simp⟩
 case round =>
  obtain ⟨k,hk,rfl,hany⟩:=hrel
  by_cases hlt:k<l.length
  · obtain ⟨x,hx⟩:∃ x,l[k]?=some x:=⟨_,List.getElem?_eq_getElem hlt⟩
    obtain ⟨b,off,rfl,hB,hc⟩:=hs.u (by omega)
    have c0:=hc k x hx
    have HR:=hide hx;have HA:=hide hany;have HC:=hide hc
    clear hx hany hc
    go_wp2_with fail
    refine (HP.out x _).mono ?_
    rintro e w1 ⟨rfl,rfl⟩
    obtain ⟨q,hq⟩:∃ q,q=p x:=⟨_,rfl⟩
    rw [← hq]
    have HQ:=hide hq;clear hq
    cases q
    · go_wp2
      go_round
      case rel=>exact ⟨k+1,by omega,by go_num,by rw [any_take_succ _ _ _ _ HR.out,HA.out,← HQ.out];rfl⟩
      case measure=>simp [intOf];omega
    · go_wp2
      go_ret
      exact ⟨rfl,k,rfl,by rw [any_of_get _ _ _ _ HR.out HQ.out.symm];simp⟩
  · have hk':k=l.length:=by omega
    go_wp2
    go_ret
    exact ⟨rfl,-1,rfl,by rw [hk',List.take_length] at hany;rw [hany];rfl⟩
theorem containsU_any (K:FuncId) (hK:EntersU K) (p:Int→Bool) (hp:UPred K p) (A:Option Addr) (c:Nat) (l:List Int) (w:World) (hs:Sl w w.heap.size A (uCs l)) (hn:l.length≤maxLen) :
 Calls Tryz.prog 203 #[.slice A l.length c,.func (.func K) #[] #[]] w fun e w'=>e=.returned (.bool (l.any p))∧w=w':=by
 have HI:=hide (indexU_any K hK p hp A c l w hs hn)
 clear hp hs
 go_enter Tryz.func203,Tryz.ntmps203
 go_wp2_with fail
 refine HI.out.mono ?_
 rintro e w1 ⟨rfl,k,rfl,hk⟩
 have HK:=hide hk;clear hk
 go_wp2
 go_ret
 exact ⟨ret_bool HK.out,rfl⟩
theorem nz2_any:UPred 204 (fun x=>!(x == 0)):=by
 intro x w
 go_enter Tryz.func204,Tryz.ntmps204
 go_wp2
 go_ret
 exact ⟨rfl,rfl⟩
end
section
open Go.RowKit
theorem lims_zeros (n:Nat):lims n 0=List.replicate n 0:=by
 induction n with
 | zero=>rfl
 | succ n ih=>rw [lims_succ,ih,List.replicate_succ'];simp [lim]
theorem lneg_any (n:Nat) (v:Int) (hn:1≤n) (hn8:n≤8) (A:Option Addr) (c:Nat) (w:World) (hs:Sl w w.heap.size A (uCs (lims n v))) :
 Calls Tryz.prog 202 #[.slice A n c] w (GaveL (lims n (-v)) w):=by
 obtain ⟨b,off,rfl,hb,hcell⟩:=hs.u (by rw [lims_length];omega)
 obtain ⟨w0,hw0⟩:∃ w0,w0=w.alloc (.cells #[.slice (some ⟨b,off,none⟩) n c] 48):=⟨_,rfl⟩
 have hb0:Below w.heap.size w w0:=by rw [hw0];exact bA
 have X0:Blk w0 w.heap.size 48 #[.slice (some ⟨b,off,none⟩) n c]:=by rw [hw0];exact Blk.new _ _ _
 have IS:=is_true [(some ⟨b,off,none⟩,n,c)] (by simp;omega) (by simp) (by simp) w0.heap.size (some ⟨w.heap.size,0,none⟩) 1 w0 (Sl.mk X0.lt fun j u hu=>by
  rw [Nat.zero_add];exact X0.cell (by simpa [slCs] using hu))
 obtain ⟨w1,hw1⟩:∃ w1,w1=w0.alloc (.cells (uCs (List.replicate n 0)).toArray 44):=⟨_,rfl⟩
 have hb1:Below w0.heap.size w0 w1:=by rw [hw1];exact bA
 have G1:Blk w1 w0.heap.size 44 (uCs (List.replicate n 0)).toArray:=by rw [hw1];exact Blk.new _ _ _
 have hB1:=bl_step hb0 hb1
 have SB:=lsub_any n 0 v hn hn8 (some ⟨w0.heap.size,0,none⟩) (some ⟨b,off,none⟩) n c w1 (Sl.mk G1.lt fun j u hu=>by
  rw [Nat.zero_add];rw [lims_zeros] at hu;exact G1.cell (by simpa using hu)) ((hs.below hB1).more hB1.size)
 rw [Int.zero_sub] at SB
 have hmk:=make_u64 n (by omega)
 have HIS:=hide IS;have HSB:=hide SB
 clear IS SB hcell hs X0 G1
 go_enter Tryz.func202,Tryz.ntmps202
 go_wp2_with fail
 rw [← hw0]
 have HW0:=hide hw0;clear hw0
 refine HIS.out.mono ?_
 rintro e w' ⟨rfl,rfl⟩
 go_wp2_with fail
 rw [← hw1]
 have HW1:=hide hw1;clear hw1 hmk
 refine HSB.out.mono ?_
 rintro e w2 ⟨A2,c2,rfl,hb2,h2⟩
 have HB:=bl_step hB1 hb2
 go_wp2
 go_ret
 exact ⟨A2,c2,rfl,HB,h2⟩
theorem cutPrefix_any (s p:ByteArray) (w:World) :
 Calls Tryz.prog 32 #[.string s,.string p] w fun e w'=>e=.returned (.tuple #[.string ⟨(Lib.trimPrefix s.data.toList p.data.toList).toArray⟩,.bool (Lib.hasPrefix s.data.toList p.data.toList)])∧w'=w:=Any.strings_CutPrefix Tryz.lays103 s p w
theorem strTrim_any (s cutset:ByteArray) (w:World) (hs:s.size≤9223372036854775807) (hcs:cutset.size<4294967281) (hascii:∀ (j:Nat) b,cutset.data.toList[j]?=some b→b.toNat<128) :
 Calls Tryz.prog 198 #[.string s,.string cutset] w fun e w'=>e=.returned (.string ⟨(Lib.trimS s.data.toList cutset.data.toList).toArray⟩)∧Below w.heap.size w w' :=
 Any.strings_Trim_laid Tryz.lays160 (by kernel_rfl) s cutset w hs hcs hascii
end
section
open Go.RowKit
def dgs (s:List UInt8):List UInt8:=Lib.trimPrefix s [45]
def isNg (s:List UInt8):Bool:=Lib.hasPrefix s [45]
def isD (b:UInt8):Bool:=decide (48≤b.toNat) && decide (b.toNat≤57)
def numU (l:List UInt8):Nat:=dv 0 (l.map fun b=>b.toNat - 48)
def pVal (s:List UInt8):Int:=if isNg s then -(numU (dgs s):Int) else (numU (dgs s):Int)
def goodT (s:List UInt8):Prop:=dgs s≠[]∧(dgs s).all isD=true∧((dgs s).head?=some 48→s=[48])
theorem cut_any (s:ByteArray) (w:World) :
 Calls Tryz.prog 32 #[.string s,.string { data:=#[45] }] w fun e w'=>e=.returned (.tuple #[.string (strOf (dgs s.data.toList)),.bool (isNg s.data.toList)])∧w=w':=by
 refine (cutPrefix_any s { data:=#[45] } w).mono ?_
 rintro e w' ⟨rfl,rfl⟩
 exact ⟨rfl,rfl⟩
theorem parse_arg (s:ByteArray) (n:Int) (hn:n<1∨8<n) (w:World) :
 Calls Tryz.prog 144 #[.string s,.int .i64 n] w fun e w'=>e=.returned (.tuple #[.slice none 0 0,.int .i64 2])∧w=w':=by
 have HC:=hide (cut_any s w)
 go_enter Tryz.func144,Tryz.ntmps144
 go_wp2_with fail
 refine HC.out.mono ?_
 rintro e w' ⟨rfl,rfl⟩
 by_cases h1:n<1
 · go_wp2
   go_ret2
   exact ⟨rfl,rfl⟩
 · have h8:8<n:=by omega
   clear hn
   go_wp2
   go_ret2
   exact ⟨rfl,rfl⟩
theorem isD_contains (b:UInt8):([48,49,50,51,52,53,54,55,56,57]:List UInt8).contains b=isD b:=by
 rw [Bool.eq_iff_iff,List.contains_iff_mem]
 unfold isD
 simp only [List.mem_cons,List.not_mem_nil,or_false,← UInt8.toNat_inj,Bool.and_eq_true,decide_eq_true_eq]
 simp
 omega
theorem dropWhile_nil {α:Type} (p:α→Bool):∀ l:List α,l.dropWhile p=[] ↔ l.all p=true
 | []=>by simp
 | a::l=>by
   rw [List.dropWhile_cons]
   by_cases h:p a
   · rw [if_pos h,dropWhile_nil p l];simp [h]
   · rw [if_neg h];simp [h]
theorem trim_nil (D:List UInt8):Lib.trimS D [48,49,50,51,52,53,54,55,56,57]=[] ↔ D.all isD=true:=by
 unfold Lib.trimS Lib.trimLeftS Lib.trimRightS
 have e:(([48,49,50,51,52,53,54,55,56,57]:List UInt8).contains ·)=isD:=funext isD_contains
 rw [e,dropWhile_nil]
 constructor
 · intro h
   rw [List.all_reverse] at h
   have h2:(D.reverse.dropWhile isD)=[]:=by
    cases hd:D.reverse.dropWhile isD with
    | nil=>rfl
    | cons a l =>
      exfalso
      have h3:=List.head_dropWhile_not isD (l:=D.reverse) (by rw [hd];simp)
      simp only [hd,List.head_cons] at h3
      rw [hd] at h
      simp [h3] at h
   rw [dropWhile_nil,List.all_reverse] at h2
   exact h2
 · intro h
   have h2:D.reverse.dropWhile isD=[]:=by rw [dropWhile_nil,List.all_reverse];exact h
   rw [h2];simp
theorem strOf_toList (l:List UInt8):(strOf l).toList=l:=by
 unfold strOf
 simp
theorem toList_data (s:ByteArray):s.toList=s.data.toList:=strOf_toList s.data.toList
theorem strOf_get {l:List UInt8} {T:ByteArray} (hT:T=strOf l) {i:Nat} {b:UInt8} (hb:l[i]?=some b) (h:i<T.size):T[i]=b:=by
 subst hT
 have h2:i<l.length:=by rwa [strOf_size] at h
 have h3:=(List.getElem?_eq_some_iff.1 hb).2
 simpa [strOf,ByteArray.getElem_eq_getElem_data] using h3
theorem dgs_len (s:List UInt8):(dgs s).length≤s.length:=by
 unfold dgs Lib.trimPrefix
 split
 · simp
 · exact Nat.le_refl _
theorem str_bytes (l:List UInt8) (T:ByteArray) (hT:T=strOf l) (w:World):∃ c w3,(convert 9 49 (.string T)).run Tryz.prog w=.ok (.slice (some ⟨w.heap.size,0,none⟩) T.size c) w3∧Below w.heap.size w w3∧w3.heap.size=w.heap.size+1 ∧
 Hid (∀ (j:Nat) (b:UInt8),l[j]?=some b→w3.cell? ⟨w.heap.size,j,none⟩=some (.int .u8 (b.toNat:Int))):=by
 refine ⟨_,_,run_bytes_of_string w _ _ 5 T Tryz.underlying9 Tryz.underlying49 Tryz.underlying5,?_,by show (w.heap.push _).size=_;simp,?_⟩
 · exact (bl_drew (Below.refl _ _)).alloc (Nat.le_refl _) _
 · apply hide
   intro j b hb
   have hj:j<l.length:=(List.getElem?_eq_some_iff.1 hb).1
   have h1:=World.cell?_alloc_mark w.drew (bytesRow T (grownCap w T.size 0 5)) 5 ((bytesRow T (grownCap w T.size 0 5)).size,(bytesRow T (grownCap w T.size 0 5)).size+1) j
   refine Eq.trans h1 ?_
   subst hT
   rw [bytesRow_at _ _ _ (by simpa [strOf] using hj)]
   have:=(List.getElem?_eq_some_iff.1 hb).2
   simp [strOf,this]
theorem trimD_any (D:List UInt8) (hs:D.length≤9223372036854775807) (w:World) :
 Calls Tryz.prog 198 #[.string (strOf D),.string { data:=#[48,49,50,51,52,53,54,55,56,57] }] w fun e w'=>∃ X:ByteArray,e=.returned (.string X)∧(X.toList=[] ↔ D.all isD=true)∧Below w.heap.size w w':=by
 refine (strTrim_any (strOf D) { data:=#[48,49,50,51,52,53,54,55,56,57] } w (by simpa [strOf,ByteArray.size] using hs) (by decide) (ascii_of_all (by decide))).mono ?_
 rintro e w' ⟨rfl,hb⟩
 refine ⟨_,rfl,?_,hb⟩
 have:=trim_nil D
 rw [show ((⟨(Lib.trimS (strOf D).data.toList (ByteArray.mk #[48,49,50,51,52,53,54,55,56,57]).data.toList).toArray⟩:ByteArray)).toList=Lib.trimS D [48,49,50,51,52,53,54,55,56,57] from strOf_toList _]
 exact this
theorem parse_syn (s:ByteArray) (n:Int) (hn1:1≤n) (hn8:n≤8) (hg:¬ goodT s.data.toList) (hs:s.size≤maxLen) (w:World) :
 Calls Tryz.prog 144 #[.string s,.int .i64 n] w fun e w'=>e=.returned (.tuple #[.slice none 0 0,.int .i64 9])∧Below w.heap.size w w':=by
 have HC:=hide (cut_any s w)
 go_enter Tryz.func144,Tryz.ntmps144
 go_wp2_with fail
 refine HC.out.mono ?_
 rintro e w' ⟨rfl,rfl⟩
 obtain ⟨D,hD⟩:∃ D,D=dgs s.data.toList:=⟨_,rfl⟩
 rw [← hD]
 obtain ⟨T,hT⟩:∃ T,T=strOf D:=⟨_,rfl⟩
 have HT1:Hid (T.toList=D):=hide (by rw [hT,strOf_toList])
 have TR:=hide (trimD_any D (by rw [hD];have:=dgs_len s.data.toList;unfold maxLen at hs;simp only [ByteArray.size,Array.length_toList] at *;omega) w)
 rw [← hT] at TR ⊢
 have HD:=hide hD;have HT:=hide hT
 clear hD hT
 have h1:¬ n<1:=by omega
 have h8:¬ 8<n:=by omega
 cases h0:T.toList.isEmpty with
 | true =>
   go_wp2
   go_ret2
   exact ⟨rfl,Below.refl _ _⟩
 | false =>
   go_wp2_with fail
   refine TR.out.mono ?_
   rintro e w1 ⟨X,rfl,hX,hb1⟩
   have HX:=hide hX
   clear hX
   cases hx0:X.toList.isEmpty with
   | true =>
     have hne:D≠[]:=by
      rw [← HT1.out]
      intro e
      rw [e] at h0
      cases h0
     have hall:D.all isD=true:=HX.out.1 (by simpa using hx0)
     have hbad:D.head?=some 48∧s.data.toList≠[48]:=by
      refine Classical.byContradiction fun hh=>hg ⟨by rw [← HD.out];exact hne,by rw [← HD.out];exact hall,fun h=>?_⟩
      rw [← HD.out] at h
      exact Classical.byContradiction fun h2=>hh ⟨h,h2⟩
     have hsz:0<T.size:=by rw [HT.out,strOf_size];exact List.length_pos_iff.2 hne
     have hc:(T[0].toNat:Int)=48:=by
      rw [strOf_get (l:=D) (b:=48) HT.out (by rw [← List.head?_eq_getElem?];exact hbad.1)];rfl
     have hz:(!s.toList == [48])=true:=by
      rw [toList_data]
      simpa using hbad.2
     clear hne hall hbad
     go_wp2
     go_ret2
     exact ⟨rfl,hb1⟩
   | false =>
     go_wp2
     go_ret2
     exact ⟨rfl,hb1⟩
end
section
open Go.RowKit
def ParseG (s:List UInt8) (n:Nat) (w:World) (e:Ending) (w':World):Prop :=
 Below w.heap.size w w'∧((Fits n (pVal s)∧∃ A c,e=.returned (.tuple #[.slice A n c,.int .i64 0])∧Sl w' w'.heap.size A (uCs (lims n (pVal s))))∨(¬ Fits n (pVal s)∧e=.returned (.tuple #[.slice none 0 0,.int .i64 3])))
theorem mul64_int (x:Int) (x0:0≤x) (x1:x<18446744073709551616) (w:World):Calls Tryz.prog 199 #[.int .u64 x,.int .u64 10] w fun e w'=>e=.returned (.tuple #[.int .u64 (x*10 / 18446744073709551616),.int .u64 (x*10 % 18446744073709551616)])∧w=w':=by
 obtain ⟨x,rfl⟩:=Int.eq_ofNat_of_zero_le x0
 exact mul64_any x 10 (by omega) (by decide) w
theorem numU_take {D:List UInt8} {k:Nat} {b:UInt8} (h:D[k]?=some b):numU (D.take (k+1))=10*numU (D.take k)+(b.toNat - 48):=by
 unfold numU
 rw [List.take_add_one,h,Option.toList_some,List.map_append,List.map_singleton,dv_snoc]
theorem numU_lt {D:List UInt8} (hg:D.all isD=true) (hl:D.length≤160):(numU D:Int)<(18446744073709551616:Int) ^ 9:=by
 have h1:=dvR_lt ((D.map fun b=>b.toNat - 48).reverse) (fun d hd=>by
  obtain ⟨b,hb,rfl⟩:=List.mem_map.1 (List.mem_reverse.1 hd)
  have h2:=List.all_eq_true.1 hg b hb
  unfold isD at h2
  simp only [Bool.and_eq_true,decide_eq_true_eq] at h2
  omega)
 rw [← dv_dvR,List.length_reverse,List.length_map] at h1
 have h4:10 ^ D.length≤10 ^ 160:=Nat.pow_le_pow_right (by decide) hl
 have h5:(10:Nat) ^ 160<18446744073709551616 ^ 9:=by decide +kernel
 have h6:numU D<18446744073709551616 ^ 9:=Nat.lt_of_lt_of_le h1 (Nat.le_trans h4 (Nat.le_of_lt h5))
 have h7:((18446744073709551616 ^ 9:Nat):Int)=(18446744073709551616:Int) ^ 9:=Int.natCast_pow _ _
 rw [← h7]
 exact Int.ofNat_lt.2 h6
theorem parse_main (s:ByteArray) (n:Nat) (hn1:1≤n) (hn8:n≤8) (hg:goodT s.data.toList) (hl:(dgs s.data.toList).length≤160) (w:World) (hw:MWords w) (hwg:8<w.heap.size) :
 Calls Tryz.prog 144 #[.string s,.int .i64 n] w (ParseG s.data.toList n w):=by
 have HC:=hide (cut_any s w)
 obtain ⟨D,hD⟩:∃ D,D=dgs s.data.toList:=⟨_,rfl⟩
 obtain ⟨T,hT⟩:∃ T,T=strOf D:=⟨_,rfl⟩
 have HT1:Hid (T.toList=D):=hide (by rw [hT,strOf_toList])
 obtain ⟨hg1,hg2,hg3⟩:=hg
 rw [← hD] at hl hg1 hg2 hg3 HC
 rw [← hT] at HC
 have TR:=hide (trimD_any D (by omega) w)
 rw [← hT] at TR
 have h0:T.toList.isEmpty=false:=by
  rw [HT1.out]
  cases D with
  | nil=>exact absurd rfl hg1
  | cons a l=>rfl
 have hsz:0<T.size:=by rw [hT,strOf_size];exact List.length_pos_iff.2 hg1
 have hcz:((T[0].toNat:Int)=48∧(!s.toList == [48])=false)∨¬ (T[0].toNat:Int)=48:=by
  by_cases hc:(T[0].toNat:Int)=48
  · refine .inl ⟨hc,?_⟩
    have h48:D.head?=some 48:=by
     have h1:0<D.length:=List.length_pos_iff.2 hg1
     have h2:=List.getElem?_eq_getElem h1
     have h3:=strOf_get hT h2 hsz
     rw [List.head?_eq_getElem?,h2,← h3]
     congr 1
     rw [← UInt8.toNat_inj]
     have:T[0].toNat=48:=by omega
     exact this
    rw [toList_data,hg3 h48];rfl
  · exact .inr hc
 have hts:T.size=D.length:=by rw [hT,strOf_size]
 have htl:¬ 160<(T.size:Int):=by omega
 have HD:=hide hD;have HT:=hide hT;have HG2:=hide hg2;have HTS:=hide hts;have HL:=hide hl
 obtain ⟨NG,hNG⟩:∃ NG,NG=isNg s.data.toList:=⟨_,rfl⟩
 rw [← hNG] at HC
 have HNG:=hide hNG
 clear hD hT hg1 hg2 hg3 hNG hts hl
 have h1:¬ (n:Int)<1:=by omega
 have h8:¬ 8<(n:Int):=by omega
 go_enter Tryz.func144,Tryz.ntmps144
 go_wp2_with fail
 refine HC.out.mono ?_
 rintro e w' ⟨rfl,rfl⟩
 go_upto_block 0 with fail
 go_cut [7] from 24 to 49 (fun b wc=>b=.bool NG∧Below w.heap.size w wc)
 · go_wp2_with fail
   refine TR.out.mono ?_
   rintro e w1 ⟨X,rfl,hX,hb1⟩
   have hx0:X.toList.isEmpty=true:=by
    rw [List.isEmpty_iff];exact hX.2 HG2.out
   clear hX
   rcases hcz with ⟨hc,hz⟩ | hc
   · go_wp2
     go_meet
     exact ⟨rfl,hb1⟩
   · go_wp2
     go_meet
     exact ⟨rfl,hb1⟩
 · obtain ⟨rfl,hb1⟩:=hcut
   have hmk:∀ wx:World,(Instr.makeSlice 48 (.int .i64 9) (.int .i64 9)).run Tryz.prog wx=.ok (.slice (some ⟨wx.heap.size,0,none⟩) 9 9) (wx.alloc (.cells (uCs (lims 9 0)).toArray 44)):=fun wx=>by
    rw [lims_zeros];exact make_u64 9 (by omega) wx
   obtain ⟨w2,hw2⟩:∃ w2,w2=wc.alloc (.cells (uCs (lims 9 0)).toArray 44):=⟨_,rfl⟩
   have hb2:Below wc.heap.size wc w2:=by rw [hw2];exact bA
   have G2:Blk w2 wc.heap.size 44 (uCs (lims 9 0)).toArray:=by rw [hw2];exact Blk.new _ _ _
   have hz2:w2.heap.size=wc.heap.size+1:=by rw [hw2];simp
   obtain ⟨c3,w3,hcv,hb3,hz3,HB⟩:=str_bytes D T HT.out w2
   rw [hw2] at hcv
   have hcv':(convert 9 49 (.string T)).run Tryz.prog (wc.alloc (.cells (uCs (lims 9 0)).toArray 44))=.ok (.slice (some ⟨w2.heap.size,0,none⟩) T.size c3) w3:=by rw [hcv,hw2]
   clear hcv
   have G3:=G2.step hb3
   have hB3:Below wc.heap.size wc w3:=bl_step hb2 hb3
   obtain ⟨g,hge⟩:∃ g,g=wc.heap.size:=⟨_,rfl⟩
   obtain ⟨gb,hgb⟩:∃ gb,gb=w2.heap.size:=⟨_,rfl⟩
   have hgg:g<gb∧gb<w3.heap.size∧wc.heap.size≤g:=by omega
   have HGE:=hide hge;have HGB:=hide hgb
   rw [← hge] at G3
   rw [← hgb] at hcv' HB
   have HG3:=hide G3;have HB3:=hide hB3
   clear hw2 hb2 G2 hz2 hb3 hz3 G3 hB3 hgb
   have htd:=HTS.out
   have hmk':(Instr.makeSlice 48 (.int .i64 9) (.int .i64 9)).run Tryz.prog wc=.ok (.slice (some ⟨g,0,none⟩) 9 9) (wc.alloc (.cells (uCs (lims 9 0)).toArray 44)):=by rw [hge];exact hmk wc
   clear hmk hge htd
   go_wp2
   go_loopw [54] (fun i wr=>∃ (k:Nat),k≤T.size∧i=.int .i64 k∧w3.heap.size≤wr.heap.size∧Hid (Below wc.heap.size wc wr)∧Hid (wr.heap[gb]?=w3.heap[gb]?)∧Hid (Blk wr g 44 (uCs (lims 9 (numU (D.take k):Int))).toArray))
    (fun i _=>T.size - (intOf i).toNat)
   case atStart=>exact ⟨0,by omega,rfl,Nat.le_refl _,HB3,hide rfl,HG3⟩
   case round =>
    obtain ⟨k,hk,rfl,hwz,HBr,HGb,HBlk⟩:=hrel
    by_cases hlt:k<T.size
    · obtain ⟨b,hbk⟩:∃ b,D[k]?=some b:=⟨_,List.getElem?_eq_getElem (by have:=HTS.out;omega)⟩
      have cb:wr.cell? ⟨gb,k,none⟩=some (.int .u8 (b.toNat:Int)):=by
       rw [World.cell?_of_block HGb.out];exact HB.out k b hbk
      have hisd:isD b=true:=List.all_eq_true.1 HG2.out b (List.mem_of_getElem? hbk)
      unfold isD at hisd
      simp only [Bool.and_eq_true,decide_eq_true_eq] at hisd
      obtain ⟨dn,hdn⟩:∃ dn,dn=b.toNat - 48:=⟨_,rfl⟩
      have hd9:dn≤9:=by omega
      have e1:IntKind.u8.wrap ((b.toNat:Int) - 48)=(dn:Int):=by
       have:(b.toNat:Int) - 48=(dn:Int):=by omega
       rw [this];simp [IntKind.wrap,IntKind.signed,IntKind.bits];omega
      have HNX:Hid (numU (D.take (k+1))=10*numU (D.take k)+dn):=hide (by rw [numU_take hbk,hdn])
      obtain ⟨V,hV⟩:∃ V,V=numU (D.take k):=⟨_,rfl⟩
      rw [← hV] at HBlk HNX
      have hkl:(k:Int)<(T.size:Int):=by omega
      have hk0:(0:Int)≤(k:Int):=by omega
      clear hbk hdn hisd hV
      rename World=>wq
      go_wp2
      go_loopw [63,11] (fun j cy wr=>∃ (q:Nat),q≤9∧j=.int .i64 q∧cy=.int .u64 (cy10 V dn q)∧w3.heap.size≤wr.heap.size∧Hid (Below wc.heap.size wc wr)∧Hid (wr.heap[gb]?=w3.heap[gb]?)∧Hid (Blk wr g 44 (uCs (mix 9 q (10*(V:Int)+dn) V)).toArray))
       (fun j _ _=>9 - (intOf j).toNat)
      case atStart=>exact ⟨0,by omega,rfl,by rw [cy10_zero],hwz,HBr,HGb,by rw [mix_zero];exact HBlk⟩
      case round =>
       clear HBlk HBr HGb hwz cb
       obtain ⟨q,hq,rfl,rfl,hwz,HBr,HGb,HBlk⟩:=hrel
       by_cases hq9:q<9
       · have hc:=cy10_bd (V:Int) (show (0:Int)≤(dn:Int) by omega) (by omega) q
         obtain ⟨s1,s2⟩:=mul10_step (V:Int) (dn:Int) q
         have hx:=mix_get (10*(V:Int)+dn) (V:Int) hq9
         have hset:=mix_set (10*(V:Int)+dn) (V:Int) hq9
         have hxb:=lim_bd (V:Int) q
         have g0:=HBlk.out.cell (get_uCs hx)
         have f0:=HBlk.out.frozen q
         have hgl:=HBlk.out.lt
         have HB4:=HBlk.out.set q (.int .u64 (lim (10*(V:Int)+dn) q))
         rw [set_uCs,hset] at HB4
         have HNB:=hide HB4
         clear HB4 hset hx
         generalize lim (10*(V:Int)+dn) q=z at *
         generalize lim (V:Int) q=x at *
         generalize hC2:cy10 (V:Int) (dn:Int) (q+1)=C2 at *
         generalize cy10 (V:Int) (dn:Int) q=C at *
         have HM:=hide (fun wx=>mul64_int x hxb.1 hxb.2 wx)
         have hA:∀ wx,_:=fun wx=>add64_0 (x*10 % 18446744073709551616) C (by omega) hc.1 wx
         have e3:IntKind.u64.wrap (x*10 / 18446744073709551616+(x*10 % 18446744073709551616+C) / 18446744073709551616)=C2:=by
          rw [s2,IntKind.wrap_u64];omega
         have e4:(x*10 % 18446744073709551616+C) % 18446744073709551616=z:=by rw [s1];omega
         have HC2:=hide hC2
         clear s1 s2 hC2 hxb hc
         have hq0:(0:Int)≤(q:Int):=by omega
         have hq9':(q:Int)<9:=by omega
         generalize x*10 / 18446744073709551616=hi at *
         generalize x*10 % 18446744073709551616=lo at *
         rw [e4] at hA
         generalize (lo+C) / 18446744073709551616=kk at *
         clear e4
         go_wp2_with fail
         refine (HM.out _).mono ?_
         rintro e w' ⟨rfl,rfl⟩
         go_wp2
         go_roundw
         case rel =>
          refine ⟨q+1,by omega,by go_num,by rw [HC2.out],by simpa using hwz,hide (HBr.out.setCell (by exact hgg.2.2) _),hide ?_,HNB⟩
          rw [Below.heap_setCell _ _ _ _ (by show gb≠g;omega)]
          exact HGb.out
         case measure=>simp [intOf];omega
       · obtain rfl:q=9:=by omega
         have hM:=HBlk.out
         rw [mix_full] at hM
         have HM9:=hide hM
         clear hM HBlk
         have hq9':¬ ((9:Nat):Int)<9:=by omega
         go_wp2
         go_roundw
         case rel=>exact ⟨k+1,by omega,by go_num,hwz,HBr,HGb,by rw [HNX.out];exact HM9⟩
         case measure=>simp [intOf];omega
    · obtain rfl:k=T.size:=by omega
      rw [HTS.out,List.take_length] at HBlk
      obtain ⟨V,hV⟩:∃ V,V=numU D:=⟨_,rfl⟩
      rw [← hV] at HBlk
      have hsn:Sl wr wr.heap.size (some ⟨g,0,none⟩) (uCs (lims n (V:Int))):=Sl.mk HBlk.out.lt fun j u hu=>by
       rw [Nat.zero_add]
       refine HBlk.out.cell ?_
       have h2:(uCs (lims 9 (V:Int)))[j]?=some u:=by
        have h3:uCs (lims n (V:Int))=(uCs (lims 9 (V:Int))).take n:=by unfold uCs;rw [← List.map_take,lims_take _ (by omega)]
        rw [h3,List.getElem?_take] at hu
        split at hu
        · exact hu
        · cases hu
       simpa using h2
      have hsd:Sl wr wr.heap.size (some ⟨g,n,none⟩) (uCs ((lims 9 (V:Int)).drop n)):=Sl.mk HBlk.out.lt fun j u hu=>by
       refine HBlk.out.cell ?_
       have h2:(uCs (lims 9 (V:Int)))[n+j]?=some u:=by
        unfold uCs at hu ⊢
        rw [← List.getElem?_drop,← List.map_drop];exact hu
       simpa using h2
      have CL:=hide (clone_u64 (lims n (V:Int)) (by rw [lims_length];omega) (by rw [lims_length];omega) _ _ 9 wr (Nat.le_refl _) hsn)
      rw [lims_length] at CL
      have HSD:=hide hsd;have HV:=hide hV
      have hTT:¬ (T.size:Int)<(T.size:Int):=by omega
      clear hsn hsd hV hlt
      have hn9:(n:Int)≤9:=by omega
      rename World=>wq
      go_wp2_with fail
      refine CL.out.mono ?_
      rintro e w5 ⟨A5,c5,rfl,hb5,hown5⟩
      have hs5:=Sl.of_own hown5
      have HS5:=hide hs5
      have HB5:=hide (bl_step HBr.out hb5)
      have HSD5:=hide ((HSD.out.below hb5).more hb5.size)
      clear hown5 hs5
      rw [lims_length]
      have hvb:(V:Int)<(18446744073709551616:Int) ^ 9:=by rw [HV.out];exact numU_lt HG2.out HL.out
      have HVB:=hide hvb
      have HB1:=hide hb1
      clear hvb
      cases NG
      · have hP:pVal s.data.toList=(V:Int):=by
         unfold pVal
         rw [← HNG.out,← HD.out,← HV.out];rfl
        have HP:=hide hP
        clear hP
        obtain ⟨w6,hw6⟩:∃ w6,w6=w5:=⟨_,rfl⟩
        subst hw6
        have hb6:=Below.refl w6.heap.size w6
        have hs6:=HS5.out
        obtain ⟨A6,hA6⟩:∃ A6,A6=A5:=⟨_,rfl⟩
        subst hA6
        obtain ⟨c6,hc6⟩:∃ c6,c6=c5:=⟨_,rfl⟩
        subst hc6
        have HB6:=hide (HB5.out.trans (hb6.mono HB5.out.size))
        have HSD6:=hide ((HSD5.out.below hb6).more hb6.size)
        have CT:=containsU_any 204 (fun a wx=>by kernel_rfl) _ nz2_any (some ⟨g,n,none⟩) (9 - n) ((lims 9 (V:Int)).drop n) w6 HSD6.out (by simp [lims_length,maxLen];omega)
        rw [List.length_drop,lims_length,over_lims (by omega) HVB.out (by omega)] at CT
        have HCT:=hide CT
        have HS6:=hide hs6
        have HBW:=hide (HB1.out.trans (HB6.out.mono HB1.out.size))
        clear CT hs6 hb6
        go_wp2_with fail
        refine HCT.out.mono ?_
        rintro e w' ⟨rfl,rfl⟩
        by_cases hO:(18446744073709551616:Int) ^ n≤(V:Int)
        · have hnf:¬ Fits n (pVal s.data.toList):=by
           rw [HP.out]
           unfold Fits
           have:=W64_pos n
           generalize (18446744073709551616:Int) ^ n=B at *
           omega
          have HNF:=hide hnf
          clear hnf
          rw [decide_eq_true hO]
          clear hO
          go_wp2
          go_ret2
          exact ⟨HBW.out,.inr ⟨HNF.out,rfl⟩⟩
        · rw [decide_eq_false hO]
          obtain ⟨v,hvf,hvl,hv1,hv2,hv3⟩:=sgn_lims (n:=n) (p:=(V:Int)) (by have:=W64_pos n;omega) (by have:=W64_pos n;omega)
          have hs7:=HS6.out
          rw [← hvl] at hs7
          have hmw:∀ wx:World,Below w.heap.size w wx→MWords wx:=fun wx hb=>⟨(hb.cell (p:=⟨8,0,none⟩) hwg).trans hw.1,(hb.cell (p:=⟨8,1,none⟩) hwg).trans hw.2⟩
          have SG:=hide (lsign_any n v hvf hn1 hn8 A6 c6 w6 hs7 (hmw _ HBW.out) (Nat.lt_of_lt_of_le hwg HBW.out.size))
          have SG2:Hid (∀ wx,Below w6.heap.size w6 wx→Calls Tryz.prog 186 #[.slice A6 n c6] wx fun e w'=>e=.returned (.int .i64 v.sign)∧Below wx.heap.size wx w'):=hide fun wx hb =>
           lsign_any n v hvf hn1 hn8 A6 c6 wx ((hs7.below hb).more hb.size) (hmw _ (HBW.out.trans (hb.mono HBW.out.size))) (Nat.lt_of_lt_of_le hwg (Nat.le_trans HBW.out.size hb.size))
          have HV1:=hide hv1;have HV2:=hide hv2;have HV3:=hide hv3
          have HO:=hide hO
          clear hvf hvl hv1 hv2 hv3 hs7 hmw hO
          go_wp2_with fail
          refine SG.out.mono ?_
          rintro e w7 ⟨rfl,hb7⟩
          have HBW7:=hide (HBW.out.trans (hb7.mono HBW.out.size))
          have SG3:=hide (SG2.out w7 hb7)
          rcases sign_cases v with ⟨hvs,hvv⟩ | ⟨hvs,hvv⟩ | ⟨hvs,hvv⟩
          · rw [hvs] at SG3 ⊢
            have hnf:¬ Fits n (pVal s.data.toList):=fun hf=>by
             rw [HP.out] at hf
             have:=HV1.out hf
             omega
            have HNF:=hide hnf
            clear hnf hvv
            go_wp2_with fail
            refine SG3.out.mono ?_
            rintro e w8 ⟨rfl,hb8⟩
            have HBW8:=hide (HBW7.out.trans (hb8.mono HBW7.out.size))
            go_wp2
            go_ret2
            exact ⟨HBW8.out,.inr ⟨HNF.out,rfl⟩⟩
          · rw [hvs] at SG3 ⊢
            have hf:Fits n (pVal s.data.toList):=Classical.byContradiction fun hf=>by
             rw [HP.out] at hf
             have:=HV2.out hf (by omega)
             omega
            have HF:=hide hf
            clear hf hvv
            go_wp2_with fail
            refine SG3.out.mono ?_
            rintro e w8 ⟨rfl,hb8⟩
            have HBW8:=hide (HBW7.out.trans (hb8.mono HBW7.out.size))
            have HS8:=hide ((HS6.out.below (hb7.trans (hb8.mono hb7.size))).more (Nat.le_trans hb7.size hb8.size))
            go_wp2
            go_ret2
            exact ⟨HBW8.out,.inl ⟨HF.out,A6,c6,rfl,by rw [HP.out];exact HS8.out⟩⟩
          · rw [hvs] at SG3 ⊢
            have hf:Fits n (pVal s.data.toList):=Classical.byContradiction fun hf=>by
             rw [HP.out] at hf
             have:=HV2.out hf (by omega)
             omega
            have HF:=hide hf
            clear hf hvv
            go_wp2_with fail
            refine SG3.out.mono ?_
            rintro e w8 ⟨rfl,hb8⟩
            have HBW8:=hide (HBW7.out.trans (hb8.mono HBW7.out.size))
            have HS8:=hide ((HS6.out.below (hb7.trans (hb8.mono hb7.size))).more (Nat.le_trans hb7.size hb8.size))
            go_wp2
            go_ret2
            exact ⟨HBW8.out,.inl ⟨HF.out,A6,c6,rfl,by rw [HP.out];exact HS8.out⟩⟩
      · have hP:pVal s.data.toList=(-(V:Int)):=by
         unfold pVal
         rw [← HNG.out,← HD.out,← HV.out];rfl
        have HP:=hide hP
        clear hP
        have NE:=hide (lneg_any n (V:Int) hn1 hn8 A5 c5 w5 HS5.out)
        go_wp2_with fail
        refine NE.out.mono ?_
        rintro e w6 ⟨A6,c6,rfl,hb6,hs6⟩
        rw [lims_length]
        have HB6:=hide (HB5.out.trans (hb6.mono HB5.out.size))
        have HSD6:=hide ((HSD5.out.below hb6).more hb6.size)
        have CT:=containsU_any 204 (fun a wx=>by kernel_rfl) _ nz2_any (some ⟨g,n,none⟩) (9 - n) ((lims 9 (V:Int)).drop n) w6 HSD6.out (by simp [lims_length,maxLen];omega)
        rw [List.length_drop,lims_length,over_lims (by omega) HVB.out (by omega)] at CT
        have HCT:=hide CT
        have HS6:=hide hs6
        have HBW:=hide (HB1.out.trans (HB6.out.mono HB1.out.size))
        clear CT hs6 hb6
        go_wp2_with fail
        refine HCT.out.mono ?_
        rintro e w' ⟨rfl,rfl⟩
        by_cases hO:(18446744073709551616:Int) ^ n≤(V:Int)
        · have hnf:¬ Fits n (pVal s.data.toList):=by
           rw [HP.out]
           unfold Fits
           have:=W64_pos n
           generalize (18446744073709551616:Int) ^ n=B at *
           omega
          have HNF:=hide hnf
          clear hnf
          rw [decide_eq_true hO]
          clear hO
          go_wp2
          go_ret2
          exact ⟨HBW.out,.inr ⟨HNF.out,rfl⟩⟩
        · rw [decide_eq_false hO]
          obtain ⟨v,hvf,hvl,hv1,hv2,hv3⟩:=sgn_lims (n:=n) (p:=(-(V:Int))) (by have:=W64_pos n;omega) (by have:=W64_pos n;omega)
          have hs7:=HS6.out
          rw [← hvl] at hs7
          have hmw:∀ wx:World,Below w.heap.size w wx→MWords wx:=fun wx hb=>⟨(hb.cell (p:=⟨8,0,none⟩) hwg).trans hw.1,(hb.cell (p:=⟨8,1,none⟩) hwg).trans hw.2⟩
          have SG:=hide (lsign_any n v hvf hn1 hn8 A6 c6 w6 hs7 (hmw _ HBW.out) (Nat.lt_of_lt_of_le hwg HBW.out.size))
          have SG2:Hid (∀ wx,Below w6.heap.size w6 wx→Calls Tryz.prog 186 #[.slice A6 n c6] wx fun e w'=>e=.returned (.int .i64 v.sign)∧Below wx.heap.size wx w'):=hide fun wx hb =>
           lsign_any n v hvf hn1 hn8 A6 c6 wx ((hs7.below hb).more hb.size) (hmw _ (HBW.out.trans (hb.mono HBW.out.size))) (Nat.lt_of_lt_of_le hwg (Nat.le_trans HBW.out.size hb.size))
          have HV1:=hide hv1;have HV2:=hide hv2;have HV3:=hide hv3
          have HO:=hide hO
          clear hvf hvl hv1 hv2 hv3 hs7 hmw hO
          go_wp2_with fail
          refine SG.out.mono ?_
          rintro e w7 ⟨rfl,hb7⟩
          have HBW7:=hide (HBW.out.trans (hb7.mono HBW.out.size))
          have SG3:=hide (SG2.out w7 hb7)
          rcases sign_cases v with ⟨hvs,hvv⟩ | ⟨hvs,hvv⟩ | ⟨hvs,hvv⟩
          · rw [hvs] at SG3 ⊢
            have hf:Fits n (pVal s.data.toList):=Classical.byContradiction fun hf=>by
             rw [HP.out] at hf
             rcases Nat.eq_zero_or_pos V with h0 | h0
             · rw [h0] at hf
               exact hf (by unfold Fits;have:=W64_pos n;generalize (18446744073709551616:Int) ^ n=B at *;omega)
             · have:=HV3.out hf (by omega)
               omega
            have HF:=hide hf
            clear hf hvv
            go_wp2_with fail
            refine SG3.out.mono ?_
            rintro e w8 ⟨rfl,hb8⟩
            have HBW8:=hide (HBW7.out.trans (hb8.mono HBW7.out.size))
            have HS8:=hide ((HS6.out.below (hb7.trans (hb8.mono hb7.size))).more (Nat.le_trans hb7.size hb8.size))
            go_wp2
            go_ret2
            exact ⟨HBW8.out,.inl ⟨HF.out,A6,c6,rfl,by rw [HP.out];exact HS8.out⟩⟩
          · rw [hvs] at SG3 ⊢
            have hf:Fits n (pVal s.data.toList):=Classical.byContradiction fun hf=>by
             rw [HP.out] at hf
             rcases Nat.eq_zero_or_pos V with h0 | h0
             · rw [h0] at hf
               exact hf (by unfold Fits;have:=W64_pos n;generalize (18446744073709551616:Int) ^ n=B at *;omega)
             · have:=HV3.out hf (by omega)
               omega
            have HF:=hide hf
            clear hf hvv
            go_wp2_with fail
            refine SG3.out.mono ?_
            rintro e w8 ⟨rfl,hb8⟩
            have HBW8:=hide (HBW7.out.trans (hb8.mono HBW7.out.size))
            have HS8:=hide ((HS6.out.below (hb7.trans (hb8.mono hb7.size))).more (Nat.le_trans hb7.size hb8.size))
            go_wp2
            go_ret2
            exact ⟨HBW8.out,.inl ⟨HF.out,A6,c6,rfl,by rw [HP.out];exact HS8.out⟩⟩
          · rw [hvs] at SG3 ⊢
            have hnf:¬ Fits n (pVal s.data.toList):=fun hf=>by
             rw [HP.out] at hf
             have:=HV1.out hf
             omega
            have HNF:=hide hnf
            clear hnf hvv
            go_wp2
            go_ret2
            exact ⟨HBW7.out,.inr ⟨HNF.out,rfl⟩⟩
end
section
open Go.RowKit
theorem parse_long (s:ByteArray) (n:Nat) (hn1:1≤n) (hn8:n≤8) (hg:goodT s.data.toList) (hl:160<(dgs s.data.toList).length) (hs:s.size≤maxLen) (w:World) :
 Calls Tryz.prog 144 #[.string s,.int .i64 n] w fun e w'=>e=.returned (.tuple #[.slice none 0 0,.int .i64 3])∧Below w.heap.size w w':=by
 have HC:=hide (cut_any s w)
 obtain ⟨D,hD⟩:∃ D,D=dgs s.data.toList:=⟨_,rfl⟩
 obtain ⟨T,hT⟩:∃ T,T=strOf D:=⟨_,rfl⟩
 have HT1:Hid (T.toList=D):=hide (by rw [hT,strOf_toList])
 obtain ⟨hg1,hg2,hg3⟩:=hg
 rw [← hD] at hl hg1 hg2 hg3 HC
 rw [← hT] at HC
 have TR:=hide (trimD_any D (by rw [hD];have:=dgs_len s.data.toList;unfold maxLen at hs;simp only [ByteArray.size,Array.length_toList] at *;omega) w)
 rw [← hT] at TR
 have h0:T.toList.isEmpty=false:=by
  rw [HT1.out]
  cases D with
  | nil=>exact absurd rfl hg1
  | cons a l=>rfl
 have hsz:0<T.size:=by rw [hT,strOf_size];exact List.length_pos_iff.2 hg1
 have hcz:((T[0].toNat:Int)=48∧(!s.toList == [48])=false)∨¬ (T[0].toNat:Int)=48:=by
  by_cases hc:(T[0].toNat:Int)=48
  · refine .inl ⟨hc,?_⟩
    have h48:D.head?=some 48:=by
     have h1:0<D.length:=List.length_pos_iff.2 hg1
     have h2:=List.getElem?_eq_getElem h1
     have h3:=strOf_get hT h2 hsz
     rw [List.head?_eq_getElem?,h2,← h3]
     congr 1
     rw [← UInt8.toNat_inj]
     have:T[0].toNat=48:=by omega
     exact this
    rw [toList_data,hg3 h48];rfl
  · exact .inr hc
 have hts:T.size=D.length:=by rw [hT,strOf_size]
 have htl:160<(T.size:Int):=by omega
 have HD:=hide hD;have HT:=hide hT;have HG2:=hide hg2;have HTS:=hide hts;have HL:=hide hl
 obtain ⟨NG,hNG⟩:∃ NG,NG=isNg s.data.toList:=⟨_,rfl⟩
 rw [← hNG] at HC
 have HNG:=hide hNG
 clear hD hT hg1 hg2 hg3 hNG hts hl
 have h1:¬ (n:Int)<1:=by omega
 have h8:¬ 8<(n:Int):=by omega
 go_enter Tryz.func144,Tryz.ntmps144
 go_wp2_with fail
 refine HC.out.mono ?_
 rintro e w' ⟨rfl,rfl⟩
 go_wp2_with fail
 refine TR.out.mono ?_
 rintro e w1 ⟨X,rfl,hX,hb1⟩
 have hx0:X.toList.isEmpty=true:=by
  rw [List.isEmpty_iff];exact hX.2 HG2.out
 clear hX
 rcases hcz with ⟨hc,hz⟩ | hc
 · go_wp2
   go_ret2
   exact ⟨rfl,hb1⟩
 · go_wp2
   go_ret2
   exact ⟨rfl,hb1⟩
instance (s:List UInt8):Decidable (goodT s):=by unfold goodT;infer_instance
instance (n:Nat) (v:Int):Decidable (Fits n v):=by unfold Fits;infer_instance
def pErr (s:List UInt8) (n:Int):Int :=
 if n<1∨8<n then 2 else if ¬ goodT s then 9 else if 160<(dgs s).length then 3 else if Fits n.toNat (pVal s) then 0 else 3
def Parsed10 (s:List UInt8) (n:Int) (w:World) (e:Ending) (w':World):Prop :=
 Below w.heap.size w w'∧((pErr s n=0∧∃ A c,e=.returned (.tuple #[.slice A n.toNat c,.int .i64 0])∧Sl w' w'.heap.size A (uCs (lims n.toNat (pVal s))))∨(pErr s n≠0∧e=.returned (.tuple #[.slice none 0 0,.int .i64 (pErr s n)])))
theorem parse_dec (s:ByteArray) (n:Int) (hs:s.size≤maxLen) (w:World) (hw:MWords w) (hwg:8<w.heap.size) :
 Calls Tryz.prog 144 #[.string s,.int .i64 n] w (Parsed10 s.data.toList n w):=by
 unfold Parsed10
 by_cases h1:n<1∨8<n
 · have e:pErr s.data.toList n=2:=by unfold pErr;rw [if_pos h1]
   rw [e]
   refine (parse_arg s n h1 w).mono ?_
   rintro e w' ⟨rfl,rfl⟩
   exact ⟨Below.refl _ _,.inr ⟨by decide,rfl⟩⟩
 · by_cases h2:goodT s.data.toList
   · obtain ⟨m,rfl⟩:=Int.eq_ofNat_of_zero_le (show 0≤n by omega)
     by_cases h3:160<(dgs s.data.toList).length
     · have e:pErr s.data.toList (m:Int)=3:=by unfold pErr;rw [if_neg h1,if_neg (fun h=>h h2),if_pos h3]
       rw [e]
       refine (parse_long s m (by omega) (by omega) h2 h3 hs w).mono ?_
       rintro e w' ⟨rfl,hb⟩
       exact ⟨hb,.inr ⟨by decide,rfl⟩⟩
     · refine (parse_main s m (by omega) (by omega) h2 (by omega) w hw hwg).mono ?_
       rintro e w' ⟨hb,⟨hf,A,c,rfl,hsl⟩ | ⟨hf,rfl⟩⟩
       · have e:pErr s.data.toList (m:Int)=0:=by unfold pErr;rw [if_neg h1,if_neg (fun h=>h h2),if_neg h3,Int.toNat_natCast,if_pos hf]
         exact ⟨hb,.inl ⟨e,A,c,rfl,hsl⟩⟩
       · have e:pErr s.data.toList (m:Int)=3:=by unfold pErr;rw [if_neg h1,if_neg (fun h=>h h2),if_neg h3,Int.toNat_natCast,if_neg hf]
         rw [e]
         exact ⟨hb,.inr ⟨by decide,rfl⟩⟩
   · have e:pErr s.data.toList n=9:=by unfold pErr;rw [if_neg h1,if_pos h2]
     rw [e]
     refine (parse_syn s n (by omega) (by omega) h2 hs w).mono ?_
     rintro e w' ⟨rfl,hb⟩
     exact ⟨hb,.inr ⟨by decide,rfl⟩⟩
end
end Go.Proofs.YthnenedoblncjaaGreatDoor
