/- DecLib DecLib2 DecParse DecParse2 DecParse3 -/
import Derived.Deep.CutBlock
import Derived.Laws.BytesArg
import Derived.Laws.IdiomStrings
import Derived.Lib.OwnBridge
import Derived.Outline
import Derived.Test.YthnenedoblncjaaGreatDoorPkR11
import Derived.Test.YthnenedoblncjaaGreatDoorPkR13
import Derived.Test.YthnenedoblncjaaGreatDoorPkR14
set_option maxRecDepth 1000000
set_option maxHeartbeats 8000000
namespace Go.Proofs.YthnenedoblncjaaGreatDoor
open Go.Proofs.Tryz
section
open Go.RowKit
def eY(K:FuncId)(p:Int->Bool):Prop:=∀ (x:Int) (w:World),Calls prog K #[.int .u64 x] w fun e w'=>e=.returned (.bool (p x))/\w=w'
def Ec(K:FuncId):Prop:=∀ (a:Array Value) (w:World),(callFunc K a).run prog w=.ok (.enter K a) w
theorem xX(K:FuncId)(hK:Ec K)(p:Int->Bool)(hp:eY K p)(A:Option Addr)(c:Nat)(l:List Int)(w:World)(hs:Sl w w.heap.size A (Zm l))(hn:l.length<=maxLen):
 Calls prog 274 #[.slice A l.length c,.func (.func K) #[] #[]] w fun e w'=>w=w'/\∃ k:Int,e=.returned (.int .i64 k)/\decide (0<=k)=l.any p:=by
 unfold maxLen at hn;unfold Ec at hK;have HP:=hide hp;clear hp;go_enter func274,ntmps274;go_wp2
 go_loop [5,8] (fun _ i=>∃ k:Nat,k<=l.length/\i=.int .i64 k/\(l.take k).any p=false)
  (fun _ i=>l.length - (intOf i).toNat)
 case atStart=>exact ⟨0,by omega,rfl,by simp⟩
 case round =>
  obtain ⟨k,hk,rfl,hany⟩:=hrel
  by_cases hlt:k<l.length
  · obtain ⟨x,hx⟩:∃ x,l[k]?=some x:=⟨_,List.getElem?_eq_getElem hlt⟩;obtain ⟨b,off,rfl,hB,hc⟩:=hs.u (by omega);have c0:=hc k x hx;have HR:=hide hx;have HA:=hide hany;have HC:=hide hc;clear hx hany hc;go_wp2_with fail;refine (HP.out x _).mono ?_;rintro e w1 ⟨rfl,rfl⟩;obtain ⟨q,hq⟩:=eE (p x);rw [<- hq];have HQ:=hide hq;clear hq;cases q
    · go_wp2
      go_round
      case rel=>exact ⟨k+1,by omega,by go_num,by rw [any_take_succ _ _ _ _ HR.out,HA.out,<- HQ.out];rfl⟩
      case measure=>simp [intOf];omega
    · go_wp2;go_ret;exact ⟨rfl,k,rfl,by rw [UK _ _ _ _ HR.out HQ.out.symm];simp⟩
  · have hk':k=l.length:=(by omega);go_wp2;go_ret;exact ⟨rfl,-1,rfl,by rw [hk',List.take_length] at hany;rw [hany];rfl⟩
theorem Qe(K:FuncId)(hK:Ec K)(p:Int->Bool)(hp:eY K p)(A:Option Addr)(c:Nat)(l:List Int)(w:World)(hs:Sl w w.heap.size A (Zm l))(hn:l.length<=maxLen):
 Calls prog 203 #[.slice A l.length c,.func (.func K) #[] #[]] w fun e w'=>e=.returned (.bool (l.any p))/\w=w':=by
 have HI:=hide (xX K hK p hp A c l w hs hn);clear hp hs;go_enter func203,ntmps203;go_wp2_with fail;refine HI.out.mono ?_;rintro e w1 ⟨rfl,k,rfl,hk⟩;have HK:=hide hk;clear hk;go_wp2;go_ret;exact ⟨XA HK.out,rfl⟩
theorem uM:eY 204 (fun x=>!(x == 0)):=by
 intro x w;go_enter func204,ntmps204;go_wp2;go_ret;exact ⟨rfl,rfl⟩
theorem Kw(n:Nat):ZO n 0=List.replicate n 0:=by
 induction n with
 | zero=>rfl
 | succ n ih=>rw [ND,ih,List.replicate_succ'];simp [lim]
theorem jV(n:Nat)(v:Int)(hn:1<=n)(EN:n<=8)(A:Option Addr)(c:Nat)(w:World)(hs:Sl w w.heap.size A (Zm (ZO n v))):
 Calls prog 202 #[.slice A n c] w (Uo (ZO n (-v)) w):=by
 obtain ⟨b,off,rfl,hb,hcell⟩:=hs.u (by rw [ZQ];omega);obtain ⟨w0,hw0⟩:=eE (w.alloc (.cells #[.slice (some ⟨b,off,none⟩) n c] 48));have hb0:=bE hw0;have X0:Z7 w0 w.heap.size 48 #[.slice (some ⟨b,off,none⟩) n c]:=by rw [hw0];exact Z7.new _ _ _
 have IS:=QJ [(some ⟨b,off,none⟩,n,c)] (by simp;omega) (by simp) (by simp) w0.heap.size (some ⟨w.heap.size,0,none⟩) 1 w0 (Sl.mk X0.lt fun j u hu=>by
  rw [Nat.zero_add];exact X0.cell (by simpa [Je] using hu))
 obtain ⟨w1,hw1⟩:=eE (w0.alloc (.cells (Zm (List.replicate n 0)).toArray 44));have hb1:=bE hw1;have G1:Z7 w1 w0.heap.size 44 (Zm (List.replicate n 0)).toArray:=by rw [hw1];exact Z7.new _ _ _
 have hB1:=Z8 hb0 hb1
 have SB:=Kz n 0 v hn EN (some ⟨w0.heap.size,0,none⟩) (some ⟨b,off,none⟩) n c w1 (Sl.mk G1.lt fun j u hu=>by
  rw [Nat.zero_add];rw [Kw] at hu;exact G1.cell (by simpa using hu)) ((hs.below hB1).more hB1.size)
 rw [Int.zero_sub] at SB;have hmk:=Rm n (by omega);have HIS:=hide IS;have HSB:=hide SB;clear IS SB hcell hs X0 G1;go_enter func202,ntmps202;go_wp2_with fail;rw [<- hw0];have HW0:=hide hw0;clear hw0;refine HIS.out.mono ?_;rintro e w' ⟨rfl,rfl⟩;go_wp2_with fail;rw [<- hw1];have HW1:=hide hw1;clear hw1 hmk;refine HSB.out.mono ?_;rintro e w2 ⟨A2,c2,rfl,hb2,h2⟩;have HB:=Z8 hB1 hb2;go_wp2;go_ret;exact ⟨A2,c2,rfl,HB,h2⟩
theorem Qf(s p:ByteArray)(w:World):
 Calls prog 32 #[.string s,.string p] w fun e w'=>e=.returned (.tuple #[.string ⟨(Lib.trimPrefix s.data.toList p.data.toList).toArray⟩,.bool (Lib.hasPrefix s.data.toList p.data.toList)])/\w'=w:=Any.strings_CutPrefix Tryz.lays103 s p w
theorem DL(s cutset:ByteArray)(w:World)(hs:s.size<=9223372036854775807)(hcs:cutset.size<4294967281)(hascii:∀ (j:Nat) b,cutset.data.toList[j]?=some b->b.toNat<128):
 Calls prog 198 #[.string s,.string cutset] w fun e w'=>e=.returned (.string ⟨(Lib.trimS s.data.toList cutset.data.toList).toArray⟩)/\Below w.heap.size w w' :=
 Any.strings_Trim_laid Tryz.lays160 (by kernel_rfl) s cutset w hs hcs hascii
def wI(s:List UInt8):List UInt8:=Lib.trimPrefix s [45]
def zzm(s:List UInt8):Bool:=Lib.hasPrefix s [45]
def xY(b:UInt8):Bool:=decide (48<=b.toNat) && decide (b.toNat<=57)
def Me(l:List UInt8):Nat:=dv 0 (l.map fun b=>b.toNat - 48)
def pVal(s:List UInt8):Int:=if zzm s then -(Me (wI s):Int) else (Me (wI s):Int)
def Kc(s:List UInt8):Prop:=wI s≠[]/\(wI s).all xY=true/\((wI s).head?=some 48->s=[48])
theorem Li(s:ByteArray)(w:World):
 Calls prog 32 #[.string s,.string { data:=#[45] }] w fun e w'=>e=.returned (.tuple #[.string (strOf (wI s.data.toList)),.bool (zzm s.data.toList)])/\w=w':=by
 refine (Qf s { data:=#[45] } w).mono ?_;rintro e w' ⟨rfl,rfl⟩;exact ⟨rfl,rfl⟩
theorem qL(s:ByteArray)(n:Int)(hn:n<1\/8<n)(w:World):
 Calls prog 144 #[.string s,.int .i64 n] w fun e w'=>e=.returned (.tuple #[.slice none 0 0,.int .i64 2])/\w=w':=by
 have HC:=hide (Li s w);go_enter func144,ntmps144;go_wp2_with fail;refine HC.out.mono ?_;rintro e w' ⟨rfl,rfl⟩
 by_cases h1:n<1
 · go_wp2;go_ret2;exact ⟨rfl,rfl⟩
 · have h8:8<n:=(by omega);clear hn;go_wp2;go_ret2;exact ⟨rfl,rfl⟩
theorem Fe(b:UInt8):([48,49,50,51,52,53,54,55,56,57]:List UInt8).contains b=xY b:=by
 rw [Bool.eq_iff_iff,List.contains_iff_mem];unfold xY;simp only [List.mem_cons,List.not_mem_nil,or_false,<- UInt8.toNat_inj,Bool.and_eq_true,decide_eq_true_eq];simp;omega
theorem dropWhile_nil{α:Type}(p:α->Bool):∀ l:List α,l.dropWhile p=[] ↔ l.all p=true
 | []=>by simp
 | a::l=>by
   rw [List.dropWhile_cons]
   by_cases h:p a
   · rw [if_pos h,dropWhile_nil p l];simp [h]
   · rw [if_neg h];simp [h]
theorem mD(D:List UInt8):Lib.trimS D [48,49,50,51,52,53,54,55,56,57]=[] ↔ D.all xY=true:=by
 unfold Lib.trimS Lib.trimLeftS Lib.trimRightS;have e:(([48,49,50,51,52,53,54,55,56,57]:List UInt8).contains ·)=xY:=funext Fe;rw [e,dropWhile_nil];constructor
 · intro h;rw [List.all_reverse] at h;have h2:(D.reverse.dropWhile xY)=[]:=by
    cases hd:D.reverse.dropWhile xY with
    | nil=>rfl
    | cons a l =>
      exfalso
      have h3:=List.head_dropWhile_not xY (l:=D.reverse) (by rw [hd];simp);simp only [hd,List.head_cons] at h3;rw [hd] at h;simp [h3] at h
   rw [dropWhile_nil,List.all_reverse] at h2;exact h2
 · intro h;have h2:D.reverse.dropWhile xY=[]:=(by rw [dropWhile_nil,List.all_reverse];exact h);rw [h2];simp
theorem YL(l:List UInt8):(strOf l).toList=l:=by
 unfold strOf;simp
theorem toList_data(s:ByteArray):s.toList=s.data.toList:=YL s.data.toList
theorem NP{l:List UInt8}{T:ByteArray}(hT:T=strOf l){i:Nat}{b:UInt8}(hb:l[i]?=some b)(h:i<T.size):T[i]=b:=by
 subst hT;have h2:i<l.length:=by rwa [ZK] at h
 have h3:=(List.getElem?_eq_some_iff.1 hb).2;simpa [strOf,ByteArray.getElem_eq_getElem_data] using h3
theorem tX(s:List UInt8):(wI s).length<=s.length:=by
 unfold wI Lib.trimPrefix;split
 · simp
 · exact Nat.le_refl _
theorem rX(l:List UInt8)(T:ByteArray)(hT:T=strOf l)(w:World):∃ c w3,(convert 9 49 (.string T)).run prog w=.ok (.slice (some ⟨w.heap.size,0,none⟩) T.size c) w3/\Below w.heap.size w w3/\w3.heap.size=w.heap.size+1 /\
 Hid (∀ (j:Nat) (b:UInt8),l[j]?=some b->w3.cell? ⟨w.heap.size,j,none⟩=some (.int .u8 (b.toNat:Int))):=by
 refine ⟨_,_,run_bytes_of_string w _ _ 5 T underlying9 underlying49 underlying5,?_,by show (w.heap.push _).size=_;simp,?_⟩
 · exact (ZV (Below.refl _ _)).alloc (Nat.le_refl _) _
 · apply hide;intro j b hb;have hj:j<l.length:=(List.getElem?_eq_some_iff.1 hb).1;have h1:=World.cell?_alloc_mark w.drew (bytesRow T (grownCap w T.size 0 5)) 5 ((bytesRow T (grownCap w T.size 0 5)).size,(bytesRow T (grownCap w T.size 0 5)).size+1) j;refine Eq.trans h1 ?_;subst hT;rw [bytesRow_at _ _ _ (by simpa [strOf] using hj)];have:=(List.getElem?_eq_some_iff.1 hb).2;simp [strOf,this]
theorem NR(D:List UInt8)(hs:D.length<=9223372036854775807)(w:World):
 Calls prog 198 #[.string (strOf D),.string { data:=#[48,49,50,51,52,53,54,55,56,57] }] w fun e w'=>∃ X:ByteArray,e=.returned (.string X)/\(X.toList=[] ↔ D.all xY=true)/\Below w.heap.size w w':=by
 refine (DL (strOf D) { data:=#[48,49,50,51,52,53,54,55,56,57] } w (by simpa [strOf,ByteArray.size] using hs) (by decide) (ascii_of_all (by decide))).mono ?_;rintro e w' ⟨rfl,hb⟩;refine ⟨_,rfl,?_,hb⟩;have:=mD D;rw [show ((⟨(Lib.trimS (strOf D).data.toList (ByteArray.mk #[48,49,50,51,52,53,54,55,56,57]).data.toList).toArray⟩:ByteArray)).toList=Lib.trimS D [48,49,50,51,52,53,54,55,56,57] from YL _];exact this
theorem qO(s:ByteArray)(n:Int)(hn1:1<=n)(EN:n<=8)(hg:¬ Kc s.data.toList)(hs:s.size<=maxLen)(w:World):
 Calls prog 144 #[.string s,.int .i64 n] w fun e w'=>e=.returned (.tuple #[.slice none 0 0,.int .i64 9])/\Below w.heap.size w w':=by
 have HC:=hide (Li s w);go_enter func144,ntmps144;go_wp2_with fail;refine HC.out.mono ?_;rintro e w' ⟨rfl,rfl⟩;obtain ⟨D,hD⟩:=eE (wI s.data.toList);rw [<- hD];obtain ⟨T,hT⟩:=eE (strOf D);have HT1:Hid (T.toList=D):=hide (by rw [hT,YL]);have TR:=hide (NR D (by rw [hD];have:=tX s.data.toList;unfold maxLen at hs;simp only [ByteArray.size,Array.length_toList] at *;omega) w);rw [<- hT] at TR ⊢;have HD:=hide hD;have HT:=hide hT;clear hD hT;have h1:¬ n<1:=by omega
 have h8:¬ 8<n:=by omega
 cases h0:T.toList.isEmpty with
 | true =>
   go_wp2;go_ret2;exact ⟨rfl,Below.refl _ _⟩
 | false =>
   go_wp2_with fail;refine TR.out.mono ?_;rintro e w1 ⟨X,rfl,hX,hb1⟩;have HX:=hide hX;clear hX;cases hx0:X.toList.isEmpty with
   | true =>
     have hne:D≠[]:=by
      rw [<- HT1.out];intro e;rw [e] at h0;cases h0
     have hall:D.all xY=true:=HX.out.1 (by simpa using hx0);have hbad:D.head?=some 48/\s.data.toList≠[48]:=by
      refine Classical.byContradiction fun hh=>hg ⟨by rw [<- HD.out];exact hne,by rw [<- HD.out];exact hall,fun h=>?_⟩;rw [<- HD.out] at h;exact Classical.byContradiction fun h2=>hh ⟨h,h2⟩
     have hsz:0<T.size:=(by rw [HT.out,ZK];exact List.length_pos_iff.2 hne);have hc:(T[0].toNat:Int)=48:=by
      rw [NP (l:=D) (b:=48) HT.out (by rw [<- List.head?_eq_getElem?];exact hbad.1)];rfl
     have hz:(!s.toList == [48])=true:=by
      rw [toList_data];simpa using hbad.2
     clear hne hall hbad;go_wp2;go_ret2;exact ⟨rfl,hb1⟩
   | false =>
     go_wp2;go_ret2;exact ⟨rfl,hb1⟩
def zpa(s:List UInt8)(n:Nat)(w:World)(e:Ending)(w':World):Prop :=
 Below w.heap.size w w'/\((Fits n (pVal s)/\∃ A c,e=.returned (.tuple #[.slice A n c,.int .i64 0])/\Sl w' w'.heap.size A (Zm (ZO n (pVal s))))\/(¬ Fits n (pVal s)/\e=.returned (.tuple #[.slice none 0 0,.int .i64 3])))
theorem qA(x:Int)(x0:0<=x)(x1:x<18446744073709551616)(w:World):Calls prog 199 #[.int .u64 x,.int .u64 10] w fun e w'=>e=.returned (.tuple #[.int .u64 (x*10 / 18446744073709551616),.int .u64 (x*10 % 18446744073709551616)])/\w=w':=by
 obtain ⟨x,rfl⟩:=Int.eq_ofNat_of_zero_le x0;exact Hf x 10 (by omega) (by decide) w
theorem qC{D:List UInt8}{k:Nat}{b:UInt8}(h:D[k]?=some b):Me (D.take (k+1))=10*Me (D.take k)+(b.toNat - 48):=by
 unfold Me;rw [List.take_add_one,h,Option.toList_some,List.map_append,List.map_singleton,tZ]
theorem aA{D:List UInt8}(hg:D.all xY=true)(hl:D.length<=160):(Me D:Int)<(18446744073709551616:Int) ^ 9:=by
 have h1:=gK ((D.map fun b=>b.toNat - 48).reverse) (fun d hd=>by
  obtain ⟨b,hb,rfl⟩:=List.mem_map.1 (List.mem_reverse.1 hd);have h2:=List.all_eq_true.1 hg b hb;unfold xY at h2;simp only [Bool.and_eq_true,decide_eq_true_eq] at h2
  omega)
 rw [<- zps,List.length_reverse,List.length_map] at h1;have h4:10 ^ D.length<=10 ^ 160:=Nat.pow_le_pow_right (by decide) hl;have h5:(10:Nat) ^ 160<18446744073709551616 ^ 9:=by decide +kernel
 have h6:Me D<18446744073709551616 ^ 9:=Nat.lt_of_lt_of_le h1 (Nat.le_trans h4 (Nat.le_of_lt h5));have h7:((18446744073709551616 ^ 9:Nat):Int)=(18446744073709551616:Int) ^ 9:=Int.natCast_pow _ _;rw [<- h7];exact Int.ofNat_lt.2 h6
theorem yO(s:ByteArray)(n:Nat)(hn1:1<=n)(EN:n<=8)(hg:Kc s.data.toList)(hl:(wI s.data.toList).length<=160)(w:World)(hw:UH w)(hwg:8<w.heap.size):
 Calls prog 144 #[.string s,.int .i64 n] w (zpa s.data.toList n w):=by
 have HC:=hide (Li s w);obtain ⟨D,hD⟩:=eE (wI s.data.toList);obtain ⟨T,hT⟩:=eE (strOf D);have HT1:Hid (T.toList=D):=hide (by rw [hT,YL]);obtain ⟨hg1,hg2,hg3⟩:=hg;rw [<- hD] at hl hg1 hg2 hg3 HC;rw [<- hT] at HC;have TR:=hide (NR D (by omega) w);rw [<- hT] at TR;have h0:T.toList.isEmpty=false:=by
  rw [HT1.out];cases D with
  | nil=>exact absurd rfl hg1
  | cons a l=>rfl
 have hsz:0<T.size:=by rw [hT,ZK];exact List.length_pos_iff.2 hg1
 have hcz:((T[0].toNat:Int)=48/\(!s.toList == [48])=false)\/¬ (T[0].toNat:Int)=48:=by
  by_cases hc:(T[0].toNat:Int)=48
  · refine .inl ⟨hc,?_⟩;have h48:D.head?=some 48:=by
     have h1:0<D.length:=List.length_pos_iff.2 hg1;have h2:=List.getElem?_eq_getElem h1;have h3:=NP hT h2 hsz;rw [List.head?_eq_getElem?,h2,<- h3]
     congr 1
     rw [<- UInt8.toNat_inj];have:T[0].toNat=48:=(by omega);exact this
    rw [toList_data,hg3 h48];rfl
  · exact .inr hc
 have hts:T.size=D.length:=by rw [hT,ZK]
 have htl:¬ 160<(T.size:Int):=by omega
 have HD:=hide hD;have HT:=hide hT;have HG2:=hide hg2;have Mj:=hide hts;have HL:=hide hl;obtain ⟨NG,hNG⟩:=eE (zzm s.data.toList);rw [<- hNG] at HC;have HNG:=hide hNG;clear hD hT hg1 hg2 hg3 hNG hts hl;have h1:¬ (n:Int)<1:=by omega
 have h8:¬ 8<(n:Int):=by omega
 go_enter func144,ntmps144;go_wp2_with fail;refine HC.out.mono ?_;rintro e w' ⟨rfl,rfl⟩
 go_upto_block 0 with fail
 go_cut [7] from 24 to 49 (fun b wc=>b=.bool NG/\Below w.heap.size w wc)
 · go_wp2_with fail;refine TR.out.mono ?_;rintro e w1 ⟨X,rfl,hX,hb1⟩;have hx0:X.toList.isEmpty=true:=by
    rw [List.isEmpty_iff];exact hX.2 HG2.out
   clear hX;rcases hcz with ⟨hc,hz⟩|hc
   · go_wp2
     go_meet
     exact ⟨rfl,hb1⟩
   · go_wp2
     go_meet
     exact ⟨rfl,hb1⟩
 · obtain ⟨rfl,hb1⟩:=hcut
   have hmk:∀ wx:World,(Instr.makeSlice 48 (.int .i64 9) (.int .i64 9)).run prog wx=.ok (.slice (some ⟨wx.heap.size,0,none⟩) 9 9) (wx.alloc (.cells (Zm (ZO 9 0)).toArray 44)):=fun wx=>by
    rw [Kw];exact Rm 9 (by omega) wx
   obtain ⟨w2,hw2⟩:=eE (wc.alloc (.cells (Zm (ZO 9 0)).toArray 44));have hb2:=bE hw2;have G2:Z7 w2 wc.heap.size 44 (Zm (ZO 9 0)).toArray:=(by rw [hw2];exact Z7.new _ _ _);have hz2:w2.heap.size=wc.heap.size+1:=(by rw [hw2];simp);obtain ⟨c3,w3,hcv,hb3,hz3,HB⟩:=rX D T HT.out w2;rw [hw2] at hcv;have zcm:(convert 9 49 (.string T)).run prog (wc.alloc (.cells (Zm (ZO 9 0)).toArray 44))=.ok (.slice (some ⟨w2.heap.size,0,none⟩) T.size c3) w3:=(by rw [hcv,hw2]);clear hcv;have G3:=G2.step hb3;have hB3:Below wc.heap.size wc w3:=Z8 hb2 hb3;obtain ⟨g,hge⟩:=eE wc.heap.size;obtain ⟨gb,hgb⟩:=eE w2.heap.size;have hgg:g<gb/\gb<w3.heap.size/\wc.heap.size<=g:=(by omega);have HGE:=hide hge;have HGB:=hide hgb;rw [<- hge] at G3;rw [<- hgb] at zcm HB;have HG3:=hide G3;have HB3:=hide hB3;clear hw2 hb2 G2 hz2 hb3 hz3 G3 hB3 hgb;have htd:=Mj.out;have hmk':(Instr.makeSlice 48 (.int .i64 9) (.int .i64 9)).run prog wc=.ok (.slice (some ⟨g,0,none⟩) 9 9) (wc.alloc (.cells (Zm (ZO 9 0)).toArray 44)):=(by rw [hge];exact hmk wc);clear hmk hge htd;go_wp2
   go_loopw [54] (fun i wr=>∃ (k:Nat),k<=T.size/\i=.int .i64 k/\w3.heap.size<=wr.heap.size/\Hid (Below wc.heap.size wc wr)/\Hid (wr.heap[gb]?=w3.heap[gb]?)/\Hid (Z7 wr g 44 (Zm (ZO 9 (Me (D.take k):Int))).toArray))
    (fun i _=>T.size - (intOf i).toNat)
   case atStart=>exact ⟨0,by omega,rfl,Nat.le_refl _,HB3,hide rfl,HG3⟩
   case round =>
    obtain ⟨k,hk,rfl,hwz,LQ,HGb,Qr⟩:=hrel
    by_cases hlt:k<T.size
    · obtain ⟨b,hbk⟩:∃ b,D[k]?=some b:=⟨_,List.getElem?_eq_getElem (by have:=Mj.out;omega)⟩;have cb:wr.cell? ⟨gb,k,none⟩=some (.int .u8 (b.toNat:Int)):=by
       rw [World.cell?_of_block HGb.out];exact HB.out k b hbk
      have zqi:xY b=true:=List.all_eq_true.1 HG2.out b (List.mem_of_getElem? hbk);unfold xY at zqi;simp only [Bool.and_eq_true,decide_eq_true_eq] at zqi;obtain ⟨dn,hdn⟩:=eE (b.toNat - 48);have hd9:dn<=9:=(by omega);have e1:IntKind.u8.wrap ((b.toNat:Int) - 48)=(dn:Int):=by
       have:(b.toNat:Int) - 48=(dn:Int):=(by omega);rw [this];simp [IntKind.wrap,IntKind.signed,IntKind.bits];omega
      have zP:Hid (Me (D.take (k+1))=10*Me (D.take k)+dn):=hide (by rw [qC hbk,hdn]);obtain ⟨V,hV⟩:=eE (Me (D.take k));rw [<- hV] at Qr zP;have hkl:(k:Int)<(T.size:Int):=(by omega);have hk0:(0:Int)<=(k:Int):=(by omega);clear hbk hdn zqi hV
      rename World=>wq
      go_wp2
      go_loopw [63,11] (fun j cy wr=>∃ (q:Nat),q<=9/\j=.int .i64 q/\cy=.int .u64 (LZ V dn q)/\w3.heap.size<=wr.heap.size/\Hid (Below wc.heap.size wc wr)/\Hid (wr.heap[gb]?=w3.heap[gb]?)/\Hid (Z7 wr g 44 (Zm (mix 9 q (10*(V:Int)+dn) V)).toArray))
       (fun j _ _=>9 - (intOf j).toNat)
      case atStart=>exact ⟨0,by omega,rfl,by rw [oI],hwz,LQ,HGb,by rw [j3];exact Qr⟩
      case round =>
       clear Qr LQ HGb hwz cb;obtain ⟨q,hq,rfl,rfl,hwz,LQ,HGb,Qr⟩:=hrel
       by_cases hq9:q<9
       · have hc:=zxe (V:Int) (show (0:Int)<=(dn:Int) by omega) (by omega) q;obtain ⟨s1,s2⟩:=yE (V:Int) (dn:Int) q;have hx:=zzr (10*(V:Int)+dn) (V:Int) hq9;have hset:=zzs (10*(V:Int)+dn) (V:Int) hq9;have hxb:=U4 (V:Int) q;have g0:=Qr.out.cell (uh hx);have f0:=Qr.out.frozen q;have hgl:=Qr.out.lt;have LM:=Qr.out.set q (.int .u64 (lim (10*(V:Int)+dn) q));rw [uX,hset] at LM;have HNB:=hide LM;clear LM hset hx;generalize lim (10*(V:Int)+dn) q=z at *;generalize lim (V:Int) q=x at *;generalize hC2:LZ (V:Int) (dn:Int) (q+1)=C2 at *;generalize LZ (V:Int) (dn:Int) q=C at *;have HM:=hide (fun wx=>qA x hxb.1 hxb.2 wx);have hA:∀ wx,_:=fun wx=>En (x*10 % 18446744073709551616) C (by omega) hc.1 wx;have e3:IntKind.u64.wrap (x*10 / 18446744073709551616+(x*10 % 18446744073709551616+C) / 18446744073709551616)=C2:=by
          rw [s2,IntKind.wrap_u64];omega
         have e4:(x*10 % 18446744073709551616+C) % 18446744073709551616=z:=(by rw [s1];omega);have nK:=hide hC2;clear s1 s2 hC2 hxb hc;have hq0:(0:Int)<=(q:Int):=(by omega);have zdb:(q:Int)<9:=(by omega);generalize x*10 / 18446744073709551616=hi at *;generalize x*10 % 18446744073709551616=lo at *;rw [e4] at hA;generalize (lo+C) / 18446744073709551616=kk at *;clear e4;go_wp2_with fail;refine (HM.out _).mono ?_;rintro e w' ⟨rfl,rfl⟩;go_wp2;go_roundw
         case rel =>
          refine ⟨q+1,by omega,by go_num,by rw [nK.out],by simpa using hwz,hide (LQ.out.setCell (by exact hgg.2.2) _),hide ?_,HNB⟩;rw [Below.heap_setCell _ _ _ _ (by show gb≠g;omega)];exact HGb.out
         case measure=>simp [intOf];omega
       · obtain rfl:q=9:=(by omega);have hM:=Qr.out;rw [jZ] at hM;have HM9:=hide hM;clear hM Qr;have zdb:¬ ((9:Nat):Int)<9:=(by omega);go_wp2;go_roundw
         case rel=>exact ⟨k+1,by omega,by go_num,hwz,LQ,HGb,by rw [zP.out];exact HM9⟩
         case measure=>simp [intOf];omega
    · obtain rfl:k=T.size:=(by omega);rw [Mj.out,List.take_length] at Qr;obtain ⟨V,hV⟩:=eE (Me D);rw [<- hV] at Qr
      have hsn:Sl wr wr.heap.size (some ⟨g,0,none⟩) (Zm (ZO n (V:Int))):=Sl.mk Qr.out.lt fun j u hu=>by
       rw [Nat.zero_add];refine Qr.out.cell ?_;have h2:(Zm (ZO 9 (V:Int)))[j]?=some u:=by
        have h3:Zm (ZO n (V:Int))=(Zm (ZO 9 (V:Int))).take n:=(by unfold Zm;rw [<- List.map_take,WR _ (by omega)]);rw [h3,List.getElem?_take] at hu;split at hu
        · exact hu
        · cases hu
       simpa using h2
      have hsd:Sl wr wr.heap.size (some ⟨g,n,none⟩) (Zm ((ZO 9 (V:Int)).drop n)):=Sl.mk Qr.out.lt fun j u hu=>by
       refine Qr.out.cell ?_;have h2:(Zm (ZO 9 (V:Int)))[n+j]?=some u:=by
        unfold Zm at hu ⊢;rw [<- List.getElem?_drop,<- List.map_drop];exact hu
       simpa using h2
      have CL:=hide (Gn (ZO n (V:Int)) (by rw [ZQ];omega) (by rw [ZQ];omega) _ _ 9 wr (Nat.le_refl _) hsn);rw [ZQ] at CL;have HSD:=hide hsd;have HV:=hide hV;have hTT:¬ (T.size:Int)<(T.size:Int):=(by omega);clear hsn hsd hV hlt;have hn9:(n:Int)<=9:=by omega
      rename World=>wq
      go_wp2_with fail;refine CL.out.mono ?_;rintro e w5 ⟨A5,c5,rfl,hb5,WQ⟩;have hs5:=Sl.Zv WQ;have HS5:=hide hs5;have nG:=hide (Z8 LQ.out hb5);have zfj:=hide ((HSD.out.below hb5).more hb5.size);clear WQ hs5;rw [ZQ];have hvb:(V:Int)<(18446744073709551616:Int) ^ 9:=(by rw [HV.out];exact aA HG2.out HL.out);have HVB:=hide hvb;have HB1:=hide hb1;clear hvb;cases NG
      · have hP:pVal s.data.toList=(V:Int):=by
         unfold pVal;rw [<- HNG.out,<- HD.out,<- HV.out];rfl
        have HP:=hide hP;clear hP;obtain ⟨w6,hw6⟩:=eE w5;subst hw6;have hb6:=Below.refl w6.heap.size w6;have hs6:=HS5.out;obtain ⟨A6,hA6⟩:=eE A5;subst hA6;obtain ⟨c6,hc6⟩:=eE c5;subst hc6;have nH:=hide (nG.out.trans (hb6.mono nG.out.size));have zow:=hide ((zfj.out.below hb6).more hb6.size);have CT:=Qe 204 (fun a wx=>by kernel_rfl) _ uM (some ⟨g,n,none⟩) (9 - n) ((ZO 9 (V:Int)).drop n) w6 zow.out (by simp [ZQ,maxLen];omega);rw [List.length_drop,ZQ,Hw (by omega) HVB.out (by omega)] at CT;have HCT:=hide CT;have mU:=hide hs6;have Ji:=hide (HB1.out.trans (nH.out.mono HB1.out.size));clear CT hs6 hb6;go_wp2_with fail;refine HCT.out.mono ?_;rintro e w' ⟨rfl,rfl⟩
        by_cases hO:(18446744073709551616:Int) ^ n<=(V:Int)
        · have hnf:¬ Fits n (pVal s.data.toList):=by
           rw [HP.out];unfold Fits;have:=Za n;generalize (18446744073709551616:Int) ^ n=B at *;omega
          have cu:=hide hnf;clear hnf;rw [decide_eq_true hO];clear hO;go_wp2;go_ret2;exact ⟨Ji.out,.inr ⟨cu.out,rfl⟩⟩
        · rw [decide_eq_false hO];obtain ⟨v,hvf,hvl,hv1,hv2,hv3⟩:=Dz (n:=n) (p:=(V:Int)) (by have:=Za n;omega) (by have:=Za n;omega);have hs7:=mU.out;rw [<- hvl] at hs7;have hmw:∀ wx:World,Below w.heap.size w wx->UH wx:=fun wx hb=>⟨(hb.cell (p:=⟨8,0,none⟩) hwg).trans hw.1,(hb.cell (p:=⟨8,1,none⟩) hwg).trans hw.2⟩;have SG:=hide (Vg n v hvf hn1 EN A6 c6 w6 hs7 (hmw _ Ji.out) (Nat.lt_of_lt_of_le hwg Ji.out.size));have SG2:Hid (∀ wx,Below w6.heap.size w6 wx->Calls prog 186 #[.slice A6 n c6] wx fun e w'=>e=.returned (.int .i64 v.sign)/\Below wx.heap.size wx w'):=hide fun wx hb =>
           Vg n v hvf hn1 EN A6 c6 wx ((hs7.below hb).more hb.size) (hmw _ (Ji.out.trans (hb.mono Ji.out.size))) (Nat.lt_of_lt_of_le hwg (Nat.le_trans Ji.out.size hb.size))
          have HV1:=hide hv1;have HV2:=hide hv2;have HV3:=hide hv3;have HO:=hide hO;clear hvf hvl hv1 hv2 hv3 hs7 hmw hO;go_wp2_with fail;refine SG.out.mono ?_;rintro e w7 ⟨rfl,Qh⟩;have LP:=hide (Ji.out.trans (Qh.mono Ji.out.size));have mY:=hide (SG2.out w7 Qh);rcases KZ v with ⟨hvs,hvv⟩|⟨hvs,hvv⟩|⟨hvs,hvv⟩
          · rw [hvs] at mY ⊢
            have hnf:¬ Fits n (pVal s.data.toList):=fun hf=>by
             rw [HP.out] at hf;have:=HV1.out hf;omega
            have cu:=hide hnf;clear hnf hvv;go_wp2_with fail;refine mY.out.mono ?_;rintro e w8 ⟨rfl,Ou⟩;have Ed:=hide (LP.out.trans (Ou.mono LP.out.size));go_wp2;go_ret2;exact ⟨Ed.out,.inr ⟨cu.out,rfl⟩⟩
          · rw [hvs] at mY ⊢
            have hf:Fits n (pVal s.data.toList):=Classical.byContradiction fun hf=>by
             rw [HP.out] at hf;have:=HV2.out hf (by omega);omega
            have HF:=hide hf;clear hf hvv;go_wp2_with fail;refine mY.out.mono ?_;rintro e w8 ⟨rfl,Ou⟩;have Ed:=hide (LP.out.trans (Ou.mono LP.out.size));have HS8:=hide ((mU.out.below (Qh.trans (Ou.mono Qh.size))).more (Nat.le_trans Qh.size Ou.size));go_wp2;go_ret2;exact ⟨Ed.out,.inl ⟨HF.out,A6,c6,rfl,by rw [HP.out];exact HS8.out⟩⟩
          · rw [hvs] at mY ⊢
            have hf:Fits n (pVal s.data.toList):=Classical.byContradiction fun hf=>by
             rw [HP.out] at hf;have:=HV2.out hf (by omega);omega
            have HF:=hide hf;clear hf hvv;go_wp2_with fail;refine mY.out.mono ?_;rintro e w8 ⟨rfl,Ou⟩;have Ed:=hide (LP.out.trans (Ou.mono LP.out.size));have HS8:=hide ((mU.out.below (Qh.trans (Ou.mono Qh.size))).more (Nat.le_trans Qh.size Ou.size));go_wp2;go_ret2;exact ⟨Ed.out,.inl ⟨HF.out,A6,c6,rfl,by rw [HP.out];exact HS8.out⟩⟩
      · have hP:pVal s.data.toList=(-(V:Int)):=by
         unfold pVal;rw [<- HNG.out,<- HD.out,<- HV.out];rfl
        have HP:=hide hP;clear hP;have NE:=hide (jV n (V:Int) hn1 EN A5 c5 w5 HS5.out);go_wp2_with fail;refine NE.out.mono ?_;rintro e w6 ⟨A6,c6,rfl,hb6,hs6⟩;rw [ZQ];have nH:=hide (nG.out.trans (hb6.mono nG.out.size));have zow:=hide ((zfj.out.below hb6).more hb6.size);have CT:=Qe 204 (fun a wx=>by kernel_rfl) _ uM (some ⟨g,n,none⟩) (9 - n) ((ZO 9 (V:Int)).drop n) w6 zow.out (by simp [ZQ,maxLen];omega);rw [List.length_drop,ZQ,Hw (by omega) HVB.out (by omega)] at CT;have HCT:=hide CT;have mU:=hide hs6;have Ji:=hide (HB1.out.trans (nH.out.mono HB1.out.size));clear CT hs6 hb6;go_wp2_with fail;refine HCT.out.mono ?_;rintro e w' ⟨rfl,rfl⟩
        by_cases hO:(18446744073709551616:Int) ^ n<=(V:Int)
        · have hnf:¬ Fits n (pVal s.data.toList):=by
           rw [HP.out];unfold Fits;have:=Za n;generalize (18446744073709551616:Int) ^ n=B at *;omega
          have cu:=hide hnf;clear hnf;rw [decide_eq_true hO];clear hO;go_wp2;go_ret2;exact ⟨Ji.out,.inr ⟨cu.out,rfl⟩⟩
        · rw [decide_eq_false hO];obtain ⟨v,hvf,hvl,hv1,hv2,hv3⟩:=Dz (n:=n) (p:=(-(V:Int))) (by have:=Za n;omega) (by have:=Za n;omega);have hs7:=mU.out;rw [<- hvl] at hs7;have hmw:∀ wx:World,Below w.heap.size w wx->UH wx:=fun wx hb=>⟨(hb.cell (p:=⟨8,0,none⟩) hwg).trans hw.1,(hb.cell (p:=⟨8,1,none⟩) hwg).trans hw.2⟩;have SG:=hide (Vg n v hvf hn1 EN A6 c6 w6 hs7 (hmw _ Ji.out) (Nat.lt_of_lt_of_le hwg Ji.out.size));have SG2:Hid (∀ wx,Below w6.heap.size w6 wx->Calls prog 186 #[.slice A6 n c6] wx fun e w'=>e=.returned (.int .i64 v.sign)/\Below wx.heap.size wx w'):=hide fun wx hb =>
           Vg n v hvf hn1 EN A6 c6 wx ((hs7.below hb).more hb.size) (hmw _ (Ji.out.trans (hb.mono Ji.out.size))) (Nat.lt_of_lt_of_le hwg (Nat.le_trans Ji.out.size hb.size))
          have HV1:=hide hv1;have HV2:=hide hv2;have HV3:=hide hv3;have HO:=hide hO;clear hvf hvl hv1 hv2 hv3 hs7 hmw hO;go_wp2_with fail;refine SG.out.mono ?_;rintro e w7 ⟨rfl,Qh⟩;have LP:=hide (Ji.out.trans (Qh.mono Ji.out.size));have mY:=hide (SG2.out w7 Qh);rcases KZ v with ⟨hvs,hvv⟩|⟨hvs,hvv⟩|⟨hvs,hvv⟩
          · rw [hvs] at mY ⊢
            have hf:Fits n (pVal s.data.toList):=Classical.byContradiction fun hf=>by
             rw [HP.out] at hf;rcases Nat.eq_zero_or_pos V with h0|h0
             · rw [h0] at hf;exact hf (by unfold Fits;have:=Za n;generalize (18446744073709551616:Int) ^ n=B at *;omega)
             · have:=HV3.out hf (by omega);omega
            have HF:=hide hf;clear hf hvv;go_wp2_with fail;refine mY.out.mono ?_;rintro e w8 ⟨rfl,Ou⟩;have Ed:=hide (LP.out.trans (Ou.mono LP.out.size));have HS8:=hide ((mU.out.below (Qh.trans (Ou.mono Qh.size))).more (Nat.le_trans Qh.size Ou.size));go_wp2;go_ret2;exact ⟨Ed.out,.inl ⟨HF.out,A6,c6,rfl,by rw [HP.out];exact HS8.out⟩⟩
          · rw [hvs] at mY ⊢
            have hf:Fits n (pVal s.data.toList):=Classical.byContradiction fun hf=>by
             rw [HP.out] at hf;rcases Nat.eq_zero_or_pos V with h0|h0
             · rw [h0] at hf;exact hf (by unfold Fits;have:=Za n;generalize (18446744073709551616:Int) ^ n=B at *;omega)
             · have:=HV3.out hf (by omega);omega
            have HF:=hide hf;clear hf hvv;go_wp2_with fail;refine mY.out.mono ?_;rintro e w8 ⟨rfl,Ou⟩;have Ed:=hide (LP.out.trans (Ou.mono LP.out.size));have HS8:=hide ((mU.out.below (Qh.trans (Ou.mono Qh.size))).more (Nat.le_trans Qh.size Ou.size));go_wp2;go_ret2;exact ⟨Ed.out,.inl ⟨HF.out,A6,c6,rfl,by rw [HP.out];exact HS8.out⟩⟩
          · rw [hvs] at mY ⊢
            have hnf:¬ Fits n (pVal s.data.toList):=fun hf=>by
             rw [HP.out] at hf;have:=HV1.out hf;omega
            have cu:=hide hnf;clear hnf hvv;go_wp2;go_ret2;exact ⟨LP.out,.inr ⟨cu.out,rfl⟩⟩
theorem yN(s:ByteArray)(n:Nat)(hn1:1<=n)(EN:n<=8)(hg:Kc s.data.toList)(hl:160<(wI s.data.toList).length)(hs:s.size<=maxLen)(w:World):
 Calls prog 144 #[.string s,.int .i64 n] w fun e w'=>e=.returned (.tuple #[.slice none 0 0,.int .i64 3])/\Below w.heap.size w w':=by
 have HC:=hide (Li s w);obtain ⟨D,hD⟩:=eE (wI s.data.toList);obtain ⟨T,hT⟩:=eE (strOf D);have HT1:Hid (T.toList=D):=hide (by rw [hT,YL]);obtain ⟨hg1,hg2,hg3⟩:=hg;rw [<- hD] at hl hg1 hg2 hg3 HC;rw [<- hT] at HC;have TR:=hide (NR D (by rw [hD];have:=tX s.data.toList;unfold maxLen at hs;simp only [ByteArray.size,Array.length_toList] at *;omega) w);rw [<- hT] at TR;have h0:T.toList.isEmpty=false:=by
  rw [HT1.out];cases D with
  | nil=>exact absurd rfl hg1
  | cons a l=>rfl
 have hsz:0<T.size:=by rw [hT,ZK];exact List.length_pos_iff.2 hg1
 have hcz:((T[0].toNat:Int)=48/\(!s.toList == [48])=false)\/¬ (T[0].toNat:Int)=48:=by
  by_cases hc:(T[0].toNat:Int)=48
  · refine .inl ⟨hc,?_⟩;have h48:D.head?=some 48:=by
     have h1:0<D.length:=List.length_pos_iff.2 hg1;have h2:=List.getElem?_eq_getElem h1;have h3:=NP hT h2 hsz;rw [List.head?_eq_getElem?,h2,<- h3]
     congr 1
     rw [<- UInt8.toNat_inj];have:T[0].toNat=48:=(by omega);exact this
    rw [toList_data,hg3 h48];rfl
  · exact .inr hc
 have hts:T.size=D.length:=by rw [hT,ZK]
 have htl:160<(T.size:Int):=by omega
 have HD:=hide hD;have HT:=hide hT;have HG2:=hide hg2;have Mj:=hide hts;have HL:=hide hl;obtain ⟨NG,hNG⟩:=eE (zzm s.data.toList);rw [<- hNG] at HC;have HNG:=hide hNG;clear hD hT hg1 hg2 hg3 hNG hts hl;have h1:¬ (n:Int)<1:=by omega
 have h8:¬ 8<(n:Int):=by omega
 go_enter func144,ntmps144;go_wp2_with fail;refine HC.out.mono ?_;rintro e w' ⟨rfl,rfl⟩;go_wp2_with fail;refine TR.out.mono ?_;rintro e w1 ⟨X,rfl,hX,hb1⟩;have hx0:X.toList.isEmpty=true:=by
  rw [List.isEmpty_iff];exact hX.2 HG2.out
 clear hX;rcases hcz with ⟨hc,hz⟩|hc
 · go_wp2;go_ret2;exact ⟨rfl,hb1⟩
 · go_wp2;go_ret2;exact ⟨rfl,hb1⟩
instance (s:List UInt8):Decidable (Kc s):=by unfold Kc;infer_instance
instance (n:Nat) (v:Int):Decidable (Fits n v):=by unfold Fits;infer_instance
def WX(s:List UInt8)(n:Int):Int :=
 if n<1\/8<n then 2 else if ¬ Kc s then 9 else if 160<(wI s).length then 3 else if Fits n.toNat (pVal s) then 0 else 3
def zZ(s:List UInt8)(n:Int)(w:World)(e:Ending)(w':World):Prop :=
 Below w.heap.size w w'/\((WX s n=0/\∃ A c,e=.returned (.tuple #[.slice A n.toNat c,.int .i64 0])/\Sl w' w'.heap.size A (Zm (ZO n.toNat (pVal s))))\/(WX s n≠0/\e=.returned (.tuple #[.slice none 0 0,.int .i64 (WX s n)])))
theorem H7(s:ByteArray)(n:Int)(hs:s.size<=maxLen)(w:World)(hw:UH w)(hwg:8<w.heap.size):
 Calls prog 144 #[.string s,.int .i64 n] w (zZ s.data.toList n w):=by
 unfold zZ
 by_cases h1:n<1\/8<n
 · have e:WX s.data.toList n=2:=(by unfold WX;rw [if_pos h1]);rw [e];refine (qL s n h1 w).mono ?_;rintro e w' ⟨rfl,rfl⟩;exact ⟨Below.refl _ _,.inr ⟨by decide,rfl⟩⟩
 · by_cases h2:Kc s.data.toList
   · obtain ⟨m,rfl⟩:=Int.eq_ofNat_of_zero_le (show 0<=n by omega)
     by_cases h3:160<(wI s.data.toList).length
     · have e:WX s.data.toList (m:Int)=3:=(by unfold WX;rw [if_neg h1,if_neg (fun h=>h h2),if_pos h3]);rw [e];refine (yN s m (by omega) (by omega) h2 h3 hs w).mono ?_;rintro e w' ⟨rfl,hb⟩;exact ⟨hb,.inr ⟨by decide,rfl⟩⟩
     · refine (yO s m (by omega) (by omega) h2 (by omega) w hw hwg).mono ?_;rintro e w' ⟨hb,⟨hf,A,c,rfl,hsl⟩|⟨hf,rfl⟩⟩
       · have e:WX s.data.toList (m:Int)=0:=(by unfold WX;rw [if_neg h1,if_neg (fun h=>h h2),if_neg h3,Int.toNat_natCast,if_pos hf]);exact ⟨hb,.inl ⟨e,A,c,rfl,hsl⟩⟩
       · have e:WX s.data.toList (m:Int)=3:=(by unfold WX;rw [if_neg h1,if_neg (fun h=>h h2),if_neg h3,Int.toNat_natCast,if_neg hf]);rw [e];exact ⟨hb,.inr ⟨by decide,rfl⟩⟩
   · have e:WX s.data.toList n=9:=(by unfold WX;rw [if_neg h1,if_pos h2]);rw [e];refine (qO s n (by omega) (by omega) h2 hs w).mono ?_;rintro e w' ⟨rfl,hb⟩;exact ⟨hb,.inr ⟨by decide,rfl⟩⟩
end
end Go.Proofs.YthnenedoblncjaaGreatDoor