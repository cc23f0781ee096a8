/- RefLines Lines1 -/
import Derived.BigQuiet
import Derived.ChangeAlike
import Derived.Deep.AppendLies
import Derived.Deep.QuietTactic
import Derived.Deep.RegionLaw
import Derived.Deep.RegionWith
import Derived.Laws.BytesArg
import Derived.Lib.OthersKept
import Derived.Lib.SlTrimSet
import Derived.Lib.SliceRun
import Derived.Shelf.Strings.Builder1
import Derived.Shelf.Strings.SlTrimAscii
import Derived.Test.YthnenedoblncjaaGreatDoorProg
import Derived.Test.YthnenedoblncjaaGreatDoorPkN17
import Derived.Test.YthnenedoblncjaaGreatDoorPkN20
import Derived.Test.YthnenedoblncjaaGreatDoorPkN21
set_option maxRecDepth 1000000
set_option maxHeartbeats 8000000
namespace Go.Proofs.YthnenedoblncjaaGreatDoor
open Go.Proofs.Tryz
open List (getElem_toArray getElem_cons_succ getElem_cons_zero setIfInBounds_toArray set_cons_zero set_cons_succ)
section
open Go.RowKit Go.Shelf
def Yr:List UInt8->List UInt8->List (List UInt8)
 | cur,[]=>if cur=[] then [] else [cur]
 | cur,c::r=>if c=10 then cur::Yr [] r else Yr (cur++[c]) r
def Ug(l:List UInt8):List (List UInt8):=Yr [] l
theorem XW:∀ (l cur:List UInt8),(Yr cur l).length<=l.length+1
 | [],cur=>by unfold Yr;split <;> simp
 | c::r,cur=>by
   unfold Yr;split
   · have:=XW r [];simp only [List.length_cons];omega
   · have:=XW r (cur++[c]);simp only [List.length_cons];omega
theorem MN{l:List UInt8}{s:ByteArray}(hs:s=strOf l)(a b:Nat):s.extract a b=strOf ((l.drop a).take (b - a)):=by
 apply ByteArray.ext;rw [ByteArray.data_extract];apply Array.ext';rw [Array.toList_extract,hs];simp [strOf,List.extract]
theorem str_slice{l:List UInt8}{s:ByteArray}(hs:s=strOf l)(a b:Nat)(ha:a<=b)(hb:b<=l.length)(W:World):
 (Instr.sliceAt 9 (.string s) (some (.int .i64 (a:Int))) (some (.int .i64 (b:Int))) none).run prog W=.ok (.string (strOf ((l.drop a).take (b - a)))) W:=by
 have hz:s.size=l.length:=by rw [hs,ZQ]
 have h1:(a:Int)<=(b:Int):=by omega
 have h2:(b:Int)<=(s.size:Int):=by omega
 have h0:0<=(a:Int):=by omega
 have he:=MN hs a b;clear hs hz;rw [run_sliceAt_string _ _ _ _ _ _ underlying9];go_simp
theorem Ux{l:List UInt8}{s:ByteArray}(hs:s=strOf l)(a:Nat)(ha:a<=l.length)(W:World):
 (Instr.sliceAt 9 (.string s) (some (.int .i64 (a:Int))) none none).run prog W=.ok (.string (strOf (l.drop a))) W:=by
 have hz:s.size=l.length:=by rw [hs,ZQ]
 have h2:(a:Int)<=(s.size:Int):=by omega
 have h0:0<=(a:Int):=by omega
 have he:=MN hs a s.size;rw [List.take_of_length_le (by rw [List.length_drop];omega)] at he;clear hs hz;rw [run_sliceAt_string _ _ _ _ _ _ underlying9];go_simp
theorem Lb{l:List UInt8}{s:ByteArray}(hs:s=strOf l){k:Nat}{c:UInt8}(hc:l[k]?=some c)(W:World):
 (Instr.index 9 (.string s) (.int .i64 (k:Int))).run prog W=.ok (.int .u8 (c.toNat:Int)) W:=by
 have hk:k<s.size:=by rw [hs,ZQ];exact (List.getElem?_eq_some_iff.1 hc).1
 have h:s[k]=c:=by
  subst hs;have h2:(strOf l).data.toList[k]?=some c:=hc;rw [Array.getElem?_toList] at h2;exact (Array.getElem?_eq_some_iff.1 h2).2
 have hk2:(k:Int)<(s.size:Int):=by omega
 rw [run_index_string W _ _ _ _ underlying9];simp [hk,h]
theorem Ld{l:List UInt8}{st k:Nat}{c:UInt8}(h:st<=k)(hc:l[k]?=some c):(l.drop st).take (k+1 - st)=(l.drop st).take (k - st)++[c]:=by
 rw [show k+1 - st=(k - st)+1 by omega,List.take_add_one,List.getElem?_drop,show st+(k - st)=k by omega,hc];rfl
theorem Q8{l:List UInt8}{k:Nat}{c:UInt8}(hc:l[k]?=some c):l.drop k=c::l.drop (k+1):=by
 obtain ⟨hk,rfl⟩:=List.getElem?_eq_some_iff.1 hc;exact List.drop_eq_getElem_cons hk
theorem Vu(l:List (List UInt8))(x:List UInt8):ZN (l++[x])=ZN l++[.string (strOf x)]:=by simp [ZN]
def RP(l:List UInt8)(st k:Nat)(L:List (List UInt8)):Prop:=st<=k/\k<=l.length/\L.length<=k/\Ug l=L++Yr ((l.drop st).take (k - st)) (l.drop k)
theorem RP.nl{l:List UInt8}{st k:Nat}{L:List (List UInt8)}(h:RP l st k L)(hc:l[k]?=some 10):RP l (k+1) (k+1) (L++[(l.drop st).take (k - st)]):=by
 obtain ⟨h1,h2,h3,h4⟩:=h;have hk:=(List.getElem?_eq_some_iff.1 hc).1;refine ⟨Nat.le_refl _,hk,by rw [List.length_append];simp;omega,?_⟩;rw [h4,Q8 hc,Yr,if_pos rfl,Nat.sub_self,List.take_zero,List.append_assoc];rfl
theorem RP.on{l:List UInt8}{st k:Nat}{L:List (List UInt8)}{c:UInt8}(h:RP l st k L)(hc:l[k]?=some c)(h10:c≠10):RP l st (k+1) L:=by
 obtain ⟨h1,h2,h3,h4⟩:=h;have hk:=(List.getElem?_eq_some_iff.1 hc).1;refine ⟨by omega,hk,by omega,?_⟩;rw [h4,Q8 hc,Yr,if_neg h10,Ld h1 hc]
theorem RP.fin{l:List UInt8}{st:Nat}{L:List (List UInt8)}(h:RP l st l.length L):Ug l=if st<l.length then L++[l.drop st] else L:=by
 obtain ⟨h1,h2,h3,h4⟩:=h;rw [h4,List.drop_length,Yr,List.take_of_length_le (by rw [List.length_drop];omega)]
 by_cases hs:st<l.length
 · rw [if_pos hs,if_neg (by intro h;have:=congrArg List.length h;simp at this;omega)]
 · rw [if_neg hs,if_pos (List.drop_eq_nil_of_le (by omega)),List.append_nil]
theorem NA(l:List UInt8)(hl:l.length<=1000000)(w:World):Calls prog 14 #[.string (strOf l)] w fun e w'=>∃ v,e=.returned v/\w'.ownsRow w.heap.size 9 1 v (Ug l).length (ZN (Ug l))/\Below w.heap.size w w':=by
 obtain ⟨s,hs⟩:=eE (strOf l);obtain ⟨N,hN⟩:=eE l.length;have hz:(s.size:Int)=(N:Int):=by rw [hs,ZQ,hN]
 obtain ⟨i0,hi,hi0,hi1,hi2⟩:=info_parts TA;have cO:N<=1000000:=by omega
 have HS:=hide hs;have HN:=hide hN;rw [<- hs];clear hs hN hl;go_enter func14,ntmps14;go_wp2
 go_loopw [3,4,5] (fun o a i wr=>∃ (st k:Nat) (L:List (List UInt8)),RP l st k L/\a=.int .i64 (st:Int)/\i=.int .i64 (k:Int)/\wr.ownsRow w.heap.size 9 1 o L.length (ZN L)/\Below w.heap.size w wr)
  (fun _ _ i _=>N - (intOf i).toNat)
 case atStart=>exact ⟨0,0,[],⟨Nat.le_refl _,Nat.zero_le _,Nat.le_refl _,by simp [Ug]⟩,rfl,rfl,World.ownsRow_nil _ _ _ _,Below.refl _ _⟩
 case round =>
  obtain ⟨st,k,L,hat,rfl,rfl,ZO,hbr⟩:=hrel;obtain ⟨OA,oc,rfl,hoc⟩:=ZM ZO;have h1:=hat.1;have h2:k<=N:=by rw [HN.out];exact hat.2.1
  have h3:=hat.2.2.1;obtain ⟨m,hm⟩:=eE L.length;have HM:=hide hm;have HAT:=hide hat;have HOWN:=hide ZO;have Ju:=hide hbr;rw [<- hm] at h3 ⊢;clear hat hm hoc ZO hbr
  by_cases hkn:k<N
  · have hki:(k:Int)<(N:Int):=(by omega);obtain ⟨c,hc⟩:∃ c,l[k]?=some c:=⟨_,List.getElem?_eq_getElem (by rw [<- HN.out];exact hkn)⟩;have hix:=fun W=>Lb HS.out hc W;have HC:=hide hc;clear hc
    by_cases h10:(c.toNat:Int)=10
    · have tO:c=10:=by
       rw [<- UInt8.toNat_inj];show c.toNat=10;omega
      have hsl:=fun W=>str_slice HS.out st k h1 (by rw [<- HN.out];exact h2) W;have Gg:=hide (HAT.out.nl (by rw [HC.out,tO]));obtain ⟨X,hX⟩:=eE (strOf ((l.drop st).take (k - st)));have HX:=hide hX;rw [<- hX] at hsl;have hbs:=Ju.out.size;clear hX tO;go_wp2_with (at_builtin;refine wpList_append_lies _ rfl (.tmp 16) (.tmp 21) 28 rfl w.heap.size 9 i0 (.string ⟨#[]⟩) 1 16 underlying28 hi hi0 hi1 hi2 rfl (by decide) (.slice OA m oc) m _ rfl (Zn (by rw [HM.out];exact HOWN.out) (bA)) ⟨wr.heap.size,0,none⟩ 1 1 [.string X] rfl rfl (YW (Z6.new _ _ _)) (by simp [Value.oneCell']) (by omega) (by unfold maxLen;omega) (by omega) (by simp;omega) (wr.heap.size+1) (by simp) ?_);intro g' cap w7 YS Za _ _
      have Cx:Hid (w7.ownsRow w.heap.size 9 1 (.slice (some ⟨g',0,none⟩) (m+1) cap) (L++[(l.drop st).take (k - st)]).length (ZN (L++[(l.drop st).take (k - st)]))):=hide (by
       rw [List.length_append,Vu,<- HM.out,<- HX.out];exact YS)
      have qY:=hide ((Z8 Ju.out (bA)).grown Za (by simp;omega) (fun j hj=>ZH HOWN.out (by rw [<- HM.out];exact hj)));have h64:IntKind.i64.wrap ((k:Int)+1)=(k:Int)+1:=(by rw [IntKind.wrap_i64];omega);clear YS Za hsl hix hi hi0 hi1 hi2;go_wp2;go_roundw
      case rel=>exact ⟨k+1,k+1,_,Gg.out,by go_num,by go_num,Cx.out,qY.out⟩
      case measure=>simp [intOf];omega
    · have Gg:=hide (HAT.out.on HC.out (fun h=>h10 (by rw [h];rfl)));go_wp2;go_roundw
      case rel=>exact ⟨st,k+1,L,Gg.out,rfl,by go_num,by rw [HM.out];exact HOWN.out,Ju.out⟩
      case measure=>simp [intOf];omega
  · obtain rfl:N=k:=(by omega);have hki:¬ (N:Int)<(N:Int):=(by omega);have HE:=hide ((show RP l st l.length L by rw [<- HN.out];exact HAT.out).fin)
    by_cases hst:st<N
    · have hsi:(st:Int)<(N:Int):=(by omega);have Jv:Hid (Ug l=L++[l.drop st]):=hide (by rw [HE.out,if_pos (by rw [<- HN.out];exact hst)]);have hsl:=fun W=>Ux HS.out st (by rw [<- HN.out];omega) W;obtain ⟨X,hX⟩:=eE (strOf (l.drop st));have HX:=hide hX;rw [<- hX] at hsl;have hbs:=Ju.out.size;clear hX;go_wp2_with (at_builtin;refine wpList_append_lies _ rfl (.tmp 29) (.tmp 33) 28 rfl w.heap.size 9 i0 (.string ⟨#[]⟩) 1 16 underlying28 hi hi0 hi1 hi2 rfl (by decide) (.slice OA m oc) m _ rfl (Zn (by rw [HM.out];exact HOWN.out) (bA)) ⟨wr.heap.size,0,none⟩ 1 1 [.string X] rfl rfl (YW (Z6.new _ _ _)) (by simp [Value.oneCell']) (by omega) (by unfold maxLen;omega) (by omega) (by simp;omega) (wr.heap.size+1) (by simp) ?_);intro g' cap w7 YS Za _ _
      have Cx:Hid (w7.ownsRow w.heap.size 9 1 (.slice (some ⟨g',0,none⟩) (m+1) cap) (Ug l).length (ZN (Ug l))):=hide (by
       rw [Jv.out,List.length_append,Vu,<- HM.out,<- HX.out];exact YS)
      have qY:=hide ((Z8 Ju.out (bA)).grown Za (by simp;omega) (fun j hj=>ZH HOWN.out (by rw [<- HM.out];exact hj)));clear YS Za hsl hi hi0 hi1 hi2;go_wp2;go_ret;exact ⟨_,rfl,Cx.out,qY.out⟩
    · have hsi:¬ (st:Int)<(N:Int):=(by omega);have Jv:Hid (Ug l=L):=hide (by rw [HE.out,if_neg (by rw [<- HN.out];exact hst)]);go_wp2;go_ret;exact ⟨_,rfl,by rw [Jv.out,HM.out];exact HOWN.out,Ju.out⟩
end
section
open Go.RowKit Go.Shelf
attribute [local go_sem] Oper.semAt_some
def Wn:List UInt8->List UInt8->List (List UInt8)
 | cur,[]=>if cur=[] then [] else [cur]
 | cur,c::r=>if c=10 then (cur++[10])::Wn [] r else Wn (cur++[c]) r
def TL(l:List UInt8):List (List UInt8):=Wn [] l
theorem Io:∀ (a cur r:List UInt8),10 ∉ a->Wn cur (a++10::r)=(cur++a++[10])::TL r
 | [],cur,r,_=>by rw [List.nil_append,Wn,if_pos rfl,List.append_nil];rfl
 | c::a,cur,r,h=>by
   have h1:c≠10:=fun e=>h (by rw [e];exact List.mem_cons_self ..);rw [List.cons_append,Wn,if_neg h1,Io a (cur++[c]) r fun e=>h (List.mem_cons_of_mem _ e)];simp
theorem Pg:∀ (l cur:List UInt8),10 ∉ l->Wn cur l=if cur++l=[] then [] else [cur++l]
 | [],cur,_=>by rw [Wn,List.append_nil]
 | c::l,cur,h=>by
   have h1:c≠10:=fun e=>h (by rw [e];exact List.mem_cons_self ..);rw [Wn,if_neg h1,Pg l (cur++[c]) fun e=>h (List.mem_cons_of_mem _ e)];simp
theorem BO{a r:List UInt8}(h:10 ∉ a):TL (a++10::r)=(a++[10])::TL r:=by
 have:=Io a [] r h;simpa [TL] using this
theorem Ip{l:List UInt8}(h:10 ∉ l)(hn:l≠[]):TL l=[l]:=by
 have:=Pg l [] h;simpa [TL,hn] using this
theorem Ro:∀ l:List UInt8,(Lib.indexByte l 10=-1/\10 ∉ l)\/∃ a r,l=a++10::r/\10 ∉ a/\Lib.indexByte l 10=(a.length:Int)
 | []=>.inl ⟨rfl,by simp⟩
 | c::l=>by
   by_cases hc:c=10
   · subst hc;exact .inr ⟨[],l,rfl,by simp,by simp [Lib.indexByte]⟩
   · rcases Ro l with ⟨h1,h2⟩|⟨a,r,rfl,h2,h3⟩
     · left
       refine ⟨by simp [Lib.indexByte,hc,h1],?_⟩;intro h;rcases List.mem_cons.1 h with h|h
       · exact hc h.symm
       · exact h2 h
     · right
       refine ⟨c::a,r,rfl,?_,?_⟩
       · intro h;rcases List.mem_cons.1 h with h|h
         · exact hc h.symm
         · exact h2 h
       · have h4:¬ ((a.length:Int)=-1):=(by omega);simp [Lib.indexByte,hc,h3,h4]
theorem EF(l:List UInt8)(w:World):Calls prog 87 #[.string (strOf l),.int .u8 10] w fun e w'=>e=.returned (.int .i64 (Lib.indexByte l 10))/\w'=w:=by
 refine (Any.strings_IndexByte Tryz.lays137 (strOf l) 10 w).mono ?_;rintro e w' ⟨rfl,rfl⟩;exact ⟨rfl,rfl⟩
theorem PW{l:List UInt8}{s:ByteArray}(hs:s=strOf l)(b:Nat)(hb:b<=l.length)(W:World):
 (Instr.sliceAt 9 (.string s) none (some (.int .i64 (b:Int))) none).run prog W=.ok (.string (strOf (l.take b))) W:=by
 have hz:s.size=l.length:=by rw [hs,ZQ]
 have h2:(b:Int)<=(s.size:Int):=by omega
 have h0:0<=(b:Int):=by omega
 have he:=MN hs 0 b;rw [List.drop_zero,Nat.sub_zero] at he;clear hs hz;rw [run_sliceAt_string _ _ _ _ _ _ underlying9];go_simp
def BP(w:World)(b:Nat):Nat:=match w.cell? ⟨b,0,none⟩ with
 | some (.string s)=>s.size
 | _=>0
theorem TM{w:World}{b:Nat}{l:List UInt8}(h:Z6 w b 9 #[.string (strOf l)]):BP w b=l.length:=by
 have c:w.cell? ⟨b,0,none⟩=some (.string (strOf l)):=h.q0 rfl;unfold BP;rw [c];exact ZQ l
def encS(x:List UInt8):Array Value:=#[.string (strOf x)]
theorem KC(l0:List UInt8)(hl0:l0.length<=1000000)(K:Nat->Prop)(bx:Nat)(hKb:K bx)(w:World)(B1:Z6 w bx 9 #[.string (strOf l0)]):
 Gt prog (fun x=>x∈TL l0) encS K (fun k=>k=bx) 86 #[.pointer (some ⟨bx,0,none⟩)] (fun ys=>ys=TL l0) (TL l0).length w:=by
 intro l J Jx R W hk xY sV hJ hJx hY h0;have B2:=B1.kept hk hKb;have HJ:=hide hJ;have HY:=hide hY;have HRW:=hide sV;have jS:Hid (R bx):=hide (xY _ hKb);have YD:prog.follows .mixedOrders=true:=by kernel_rfl
 clear hk xY sV hJ hJx hY B1 hKb;have cb:=B2.q0 rfl;refine (callsIn_wide (n:=6)).1 ?_;refine callsIn_of_wp func86 rfl trivial ?_ rfl;simp only [ntmps86,List.size_toArray,List.length_cons,List.length_nil,Nat.reduceAdd,Nat.reduceSub,Array.replicate_succ,Array.replicate_zero,List.push_toArray,List.append_toArray,List.nil_append,List.cons_append];gi_wp2
 gi_loopw [] (fun wr=>∃ (pre:List (List UInt8)) (rest:List UInt8),TL l0=pre++TL rest/\rest.length<=l0.length/\Z6 wr bx 9 #[.string (strOf rest)]/\J R pre wr/\W.heap.size<=wr.heap.size)
  (fun wr=>BP wr bx)
 case atStart=>exact ⟨[],l0,rfl,Nat.le_refl _,B2,h0,Nat.le_refl _⟩
 case round =>
  clear cb;obtain ⟨pre,rest,hks,hrl,Bx,hJs,hsz⟩:=hrel;have Sg:=hide hsz;have FU:=hide Bx;have cr:wr.cell? ⟨bx,0,none⟩=some (.string (strOf rest)):=Bx.q0 rfl;have fr:=Bx.frozen 0;clear hsz;obtain ⟨N,hN⟩:=eE rest.length;obtain ⟨s,hs⟩:=eE (strOf rest);have hz:(s.size:Int)=(N:Int):=by rw [hs,ZQ,hN]
  have HI:Hid (∀ X,Calls prog 87 #[.string s,.int .u8 10] X fun e w'=>e=.returned (.int .i64 (Lib.indexByte rest 10))/\w'=X):=hide fun X=>by rw [hs];exact EF rest X
  have HS:=hide hs;rw [<- hs] at cr;clear hs
  by_cases hne:rest=[]
  · have hN0:¬ (N:Int) > 0:=(by rw [hN,hne];simp);have eT:=hide hJs;gi_wp2;go_end0;exact ⟨⟨_,rfl⟩,.inl (by subst hne;simpa [TL,Wn] using eT.out)⟩
  · have hN1:(N:Int) > 0:=by
     have:=List.length_pos_iff.2 hne;omega
    rcases Ro rest with ⟨hi,h10⟩|⟨a,r,hrest,h10,hi⟩
    · have yV:Hid (TL l0=pre++[rest]):=hide (by rw [hks,Ip h10 hne]);rw [hi] at HI;have hJd:J R pre (wr.setCell ⟨bx,0,none⟩ (.string ⟨#[]⟩)):=HJ.out R R pre wr _ hJs (Zy.xE (X:=fun k=>k=bx) rfl _ _ _ _ _) fun j hj=>⟨.inl hj,by have:=HRW.out j hj;have:=Sg.out;simp;omega⟩;have l7:Hid (Z6 (wr.setCell ⟨bx,0,none⟩ (.string ⟨#[]⟩)) bx 9 #[.string (strOf [])]):=hide (Bx.set 0 _);have hlt:([]:List UInt8).length<rest.length:=List.length_pos_iff.2 hne;clear hks Bx hJs hi;gi_wp2_with fail;refine ⟨trivial,?_⟩;refine (callsIn_wide.2 (HI.out _)).mono ?_;rintro e w5 ⟨rfl,rfl⟩;have hRl:∀ j,R j->j<(w5.setCell ⟨bx,0,none⟩ (.string ⟨#[]⟩)).heap.size:=fun j hj=>by have:=HRW.out j hj;have:=Sg.out;simp;omega
      obtain ⟨fn,tmps,assign,body,hy,hR⟩:=HY.out 5 R pre rest (w5.setCell ⟨bx,0,none⟩ (.string ⟨#[]⟩)) hRl hJd (by rw [yV.out];simp) (by rw [yV.out];simp)
      have hR2:=hide (hR.mono (R':=fun e W'=>∃ b,e=.returned (.bool b)/\(b=true->J R (pre++[rest]) W'/\Z9 R (w5.setCell ⟨bx,0,none⟩ (.string ⟨#[]⟩)) W')/\(b=false->Jx R W')) (by
       rintro e W' (⟨rfl,h1,h2⟩|⟨rfl,h1,h2⟩)
       · exact ⟨true,rfl,fun _=>⟨h1,h2⟩,fun h=>by cases h⟩
       · exact ⟨false,rfl,(fun h=>by cases h),fun _=>h1⟩))
      unfold encS at hy;rw [<- HS.out] at hy;clear hR hJd hRl;gi_wp2_with fail;refine hR2.out.mono ?_;rintro e W3 ⟨b,rfl,hb1,hb2⟩;have HR1:=hide hb1;have HR2:=hide hb2;clear hb1 hb2 hy hR2;cases b with
      | false =>
        have Jz:=hide (HR2.out rfl);clear HR1 HR2;gi_wp2;refine bodyPost_ret (results_none rfl _ _ _) rfl ?_;exact ⟨⟨_,rfl⟩,.inr Jz.out⟩
      | true =>
        have rz:=hide (HR1.out rfl).1;have Lh:=hide (HR1.out rfl).2;clear HR1 HR2;have HB3:=hide (l7.out.kept Lh.out jS.out);have HZ3:Hid (W.heap.size<=W3.heap.size):=hide (Nat.le_trans Sg.out (by have h:=Lh.out.size;rw [World.size_setCell] at h;exact h));gi_wp2;go_roundw
        case rel=>exact ⟨pre++[rest],[],by rw [yV.out];simp [TL,Wn],Nat.zero_le _,HB3.out,rz.out,HZ3.out⟩
        case measure=>rw [TM HB3.out,TM FU.out];exact hlt
    · have yV:Hid (TL l0=pre++((a++[10])::TL r)):=hide (by rw [hks,hrest,BO h10]);obtain ⟨m,hm⟩:=eE a.length;have hrl2:rest.length=m+1+r.length:=(by rw [hrest,hm];simp;omega);have lQ:rest.take (m+1)=a++[10]:=(by rw [hrest,hm,show a++10::r=(a++[10])++r by simp,List.take_left' (by simp)]);have hdr:rest.drop (m+1)=r:=(by rw [hrest,hm,show a++10::r=(a++[10])++r by simp,List.drop_left' (by simp)]);obtain ⟨Y,hY⟩:=eE (strOf (a++[10]));obtain ⟨Z,hZ⟩:=eE (strOf r)
      have hslA:∀ X,(Instr.sliceAt 9 (.string s) none (some (.int .i64 ((m:Int)+1))) none).run prog X=.ok (.string Y) X:=fun X=>by
       rw [hY,<- lQ];exact PW HS.out (m+1) (by omega) X
      have hslB:∀ X,(Instr.sliceAt 9 (.string s) (some (.int .i64 ((m:Int)+1))) none none).run prog X=.ok (.string Z) X:=fun X=>by
       rw [hZ,<- hdr];exact Ux HS.out (m+1) (by omega) X
      have h64:IntKind.i64.wrap ((m:Int)+1)=(m:Int)+1:=(by rw [IntKind.wrap_i64];omega);have hlt:r.length<rest.length:=(by omega);have gM:=hide hY;have gP:=hide hZ;have yZ:=hide hrl;have fT:=hide hrl2;rw [hi,<- hm] at HI;clear hks hi lQ hdr hY hZ hrest hm hrl2 h10;gi_wp2_with fail;refine ⟨trivial,?_⟩;refine (callsIn_wide.2 (HI.out _)).mono ?_;rintro e w5 ⟨rfl,rfl⟩;have hm0:(m:Int) ≥ 0:=(by omega);gi_wp2;have hS:w5.drew.cell? ⟨bx,0,none⟩=some (.string s):=cr;have fD:w5.drew.frozen? ⟨bx,0,none⟩=false:=fr;have BD:=Bx.drew;have rZ:Hid (W.heap.size<=w5.drew.heap.size):=hide Sg.out;have JD:J R pre w5.drew:=HJ.out R R pre w5 _ hJs (Zy.of_below (ZV (Below.refl _ _)) _ _ _) fun j hj=>⟨.inl hj,by have:=HRW.out j hj;have:=Sg.out;show j<w5.heap.size;omega⟩;refine YO 9 (S:=fun w'=>w'.cell? ⟨bx,0,none⟩=some (.string s)) YD ?_;generalize w5.drew=u0 at *;refine' ZW (i:=0) rfl ?Xg hS ?VZ
      case Xg =>
       intro w' hSw;have k0:=hSw;go_simp;rfl
      simp only [Act.put,getElem_toArray,getElem_cons_zero,setIfInBounds_toArray,set_cons_zero,set_cons_succ];refine' ZW (i:=1) rfl ?Xh hS ?V3
      case Xh =>
       intro w' hSw;have k0:=hSw;go_simp;rfl
      simp only [Act.put,Z4];refine' ZW (i:=2) rfl ?Xj hS ?V4
      case Xj =>
       intro w' hSw;have k0:=hSw;go_simp;rfl
      simp only [Act.put,Z4];refine' ZW (i:=3) rfl ?Wm hS ?Vg
      case Wm =>
       intro w' hSw;have k0:=hSw;go_simp;rfl
      simp only [Act.put,Z4];refine' ZW (i:=4) rfl ?SN hS ?QH
      case SN =>
       intro w' hSw;have k0:=hSw;go_simp;rfl
      simp only [Act.put,Z4];refine' ZW (i:=5) rfl ?SQ hS ?QJ
      case SQ =>
       intro w' hSw;have k0:=hSw;go_simp;rfl
      simp only [Act.put,Z4];refine' ZW (i:=6) rfl ?uX hS ?qI
      case uX =>
       intro w' hSw;have k0:=hSw;go_simp;rfl
      simp only [Act.put,Z4];refine' ZW (i:=7) rfl ?uY hS ?qJ
      case uY =>
       intro w' hSw;have k0:=hSw;go_simp;rfl
      simp only [Act.put,Z4];refine Zc (i:=8) (by kernel_rfl) rfl ?_;intro K hK;rw [if_pos (by rfl)];go_simp;refine hK.out _ _ (fun _=>hS) ?_;clear hK K
      (try simp only [Act.put,Z4])
      have iL:(u0.setCell ⟨bx,0,none⟩ (.string Z)).cell? ⟨bx,0,none⟩=some (.string Z):=World.cell?_setCell_same _ _ _ hS;refine Zc (i:=9) (by kernel_rfl) rfl ?_;intro K hK;rw [if_pos (by rfl)];go_simp;refine hK.out _ _ (fun h=>absurd h (by decide)) ?_;clear hK K
      (try simp only [Act.put,Z4])
      refine Ye (by kernel_rfl) ?_ _;have l7:Hid (Z6 (u0.setCell ⟨bx,0,none⟩ (.string Z)) bx 9 #[.string (strOf r)]):=hide (by rw [<- gP.out];exact BD.set 0 _);have hJd:J R pre (u0.setCell ⟨bx,0,none⟩ (.string Z)):=HJ.out R R pre u0 _ JD (Zy.xE (X:=fun k=>k=bx) rfl _ _ _ _ _) fun j hj=>⟨.inl hj,by have:=HRW.out j hj;have:=rZ.out;simp;omega⟩;have Sg:=rZ;clear BD JD hS fD iL hslA hslB;have hRl:∀ j,R j->j<(u0.setCell ⟨bx,0,none⟩ (.string Z)).heap.size:=fun j hj=>by have:=HRW.out j hj;have:=Sg.out;simp;omega
      obtain ⟨fn,tmps,assign,body,hy,hR⟩:=HY.out 5 R pre (a++[10]) (u0.setCell ⟨bx,0,none⟩ (.string Z)) hRl hJd (by rw [yV.out];simp) (by rw [yV.out];simp)
      have hR2:=hide (hR.mono (R':=fun e W'=>∃ b,e=.returned (.bool b)/\(b=true->J R (pre++[(a++[10])]) W'/\Z9 R (u0.setCell ⟨bx,0,none⟩ (.string Z)) W')/\(b=false->Jx R W')) (by
       rintro e W' (⟨rfl,h1,h2⟩|⟨rfl,h1,h2⟩)
       · exact ⟨true,rfl,fun _=>⟨h1,h2⟩,fun h=>by cases h⟩
       · exact ⟨false,rfl,(fun h=>by cases h),fun _=>h1⟩))
      unfold encS at hy;rw [<- gM.out] at hy;clear hR hJd hRl;gi_wp2_with fail;refine hR2.out.mono ?_;rintro e W3 ⟨b,rfl,hb1,hb2⟩;have HR1:=hide hb1;have HR2:=hide hb2;clear hb1 hb2 hy hR2;cases b with
      | false =>
        have Jz:=hide (HR2.out rfl);clear HR1 HR2;gi_wp2;refine bodyPost_ret (results_none rfl _ _ _) rfl ?_;exact ⟨⟨_,rfl⟩,.inr Jz.out⟩
      | true =>
        have rz:=hide (HR1.out rfl).1;have Lh:=hide (HR1.out rfl).2;clear HR1 HR2;have HB3:=hide (l7.out.kept Lh.out jS.out);have HZ3:Hid (W.heap.size<=W3.heap.size):=hide (Nat.le_trans Sg.out (by have h:=Lh.out.size;rw [World.size_setCell] at h;exact h));gi_wp2;go_roundw
        case rel=>exact ⟨pre++[(a++[10])],r,by rw [yV.out];simp [TL],(by have:=yZ.out;omega),HB3.out,rz.out,HZ3.out⟩
        case measure=>rw [TM HB3.out,TM FU.out];exact hlt
theorem KD(s:ByteArray)(w:World):Calls prog 44 #[.string s] w fun e w'=>e=.returned (.func (.func 86) #[] #[.pointer (some ⟨w.heap.size,0,none⟩)])/\w'=w.alloc (.cells #[.string s] 9):=by
 go_enter func44,ntmps44;go_wp2;go_ret;exact ⟨rfl,rfl⟩
def Yy(x:List UInt8):List UInt8:=if x.getLast?=some 10 then x.dropLast else x
theorem QB:∀ (l cur:List UInt8),10 ∉ cur->(Wn cur l).map Yy=Yr cur l
 | [],cur,h=>by
   unfold Wn Yr;split
   · rfl
   · have h1:¬ cur.getLast?=some 10:=fun e=>h (List.mem_of_getLast? e);simp [Yy,h1]
 | c::r,cur,h=>by
   unfold Wn Yr;split
   · rw [List.map_cons,QB r [] (by simp)];simp [Yy]
   · rename_i hc
     refine QB r (cur++[c]) fun e=>?_;rcases List.mem_append.1 e with e|e
     · exact h e
     · exact hc (List.mem_singleton.1 e).symm
theorem QC(l:List UInt8):(TL l).map Yy=Ug l:=QB l [] (by simp)
end
end Go.Proofs.YthnenedoblncjaaGreatDoor