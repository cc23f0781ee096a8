/- RefLines Lines1 TrimNl ScrInv ScrLines -/
import Derived.Laws.BytesArg
import Derived.Test.YthnenedoblncjaaGreatDoorPkR26
import Derived.Test.YthnenedoblncjaaGreatDoorPkR34
import Derived.Test.YthnenedoblncjaaGreatDoorPkR42
import Derived.Test.YthnenedoblncjaaGreatDoorPkR44
import Derived.Test.YthnenedoblncjaaGreatDoorPkR45
set_option maxRecDepth 1000000
set_option maxHeartbeats 8000000
namespace Go.Proofs.YthnenedoblncjaaGreatDoor
open Go.Proofs.Tryz
open List (getElem_toArray getElem_cons_succ getElem_cons_zero setIfInBounds_toArray set_cons_zero set_cons_succ)
section
open Go.RowKit Go.Shelf
def YT:List UInt8->List UInt8->List (List UInt8)
 | cur,[]=>if cur=[] then [] else [cur]
 | cur,c::r=>if c=10 then cur::YT [] r else YT (cur++[c]) r
def Yb(l:List UInt8):List (List UInt8):=YT [] l
theorem Td:∀ (l cur:List UInt8),(YT cur l).length<=l.length+1
 | [],cur=>by unfold YT;split <;> simp
 | c::r,cur=>by
   unfold YT;split
   · have:=Td r [];simp only [List.length_cons];omega
   · have:=Td r (cur++[c]);simp only [List.length_cons];omega
theorem wR{l:List UInt8}{s:ByteArray}(hs:s=strOf l)(a b:Nat):s.extract a b=strOf ((l.drop a).take (b - a)):=by
 apply ByteArray.ext;rw [ByteArray.data_extract];apply Array.ext';rw [Array.toList_extract,hs];simp [strOf,List.extract]
theorem str_slice{l:List UInt8}{s:ByteArray}(hs:s=strOf l)(a b:Nat)(ha:a<=b)(hb:b<=l.length)(W:World):
 (Instr.sliceAt 9 (.string s) (some (.int .i64 (a:Int))) (some (.int .i64 (b:Int))) none).run prog W=.ok (.string (strOf ((l.drop a).take (b - a)))) W:=by
 have hz:s.size=l.length:=by rw [hs,ZK]
 have h1:(a:Int)<=(b:Int):=by omega
 have h2:(b:Int)<=(s.size:Int):=by omega
 have h0:0<=(a:Int):=by omega
 have he:=wR hs a b;clear hs hz;rw [run_sliceAt_string _ _ _ _ _ _ underlying9];go_simp
theorem M6{l:List UInt8}{s:ByteArray}(hs:s=strOf l)(a:Nat)(ha:a<=l.length)(W:World):
 (Instr.sliceAt 9 (.string s) (some (.int .i64 (a:Int))) none none).run prog W=.ok (.string (strOf (l.drop a))) W:=by
 have hz:s.size=l.length:=by rw [hs,ZK]
 have h2:(a:Int)<=(s.size:Int):=by omega
 have h0:0<=(a:Int):=by omega
 have he:=wR hs a s.size;rw [List.take_of_length_le (by rw [List.length_drop];omega)] at he;clear hs hz;rw [run_sliceAt_string _ _ _ _ _ _ underlying9];go_simp
theorem NQ{l:List UInt8}{s:ByteArray}(hs:s=strOf l){k:Nat}{c:UInt8}(hc:l[k]?=some c)(W:World):
 (Instr.index 9 (.string s) (.int .i64 (k:Int))).run prog W=.ok (.int .u8 (c.toNat:Int)) W:=by
 have hk:k<s.size:=by rw [hs,ZK];exact (List.getElem?_eq_some_iff.1 hc).1
 have h:s[k]=c:=by
  subst hs;have h2:(strOf l).data.toList[k]?=some c:=hc;rw [Array.getElem?_toList] at h2;exact (Array.getElem?_eq_some_iff.1 h2).2
 have hk2:(k:Int)<(s.size:Int):=by omega
 rw [run_index_string W _ _ _ _ underlying9];simp [hk,h]
theorem r9{l:List UInt8}{st k:Nat}{c:UInt8}(h:st<=k)(hc:l[k]?=some c):(l.drop st).take (k+1 - st)=(l.drop st).take (k - st)++[c]:=by
 rw [show k+1 - st=(k - st)+1 by omega,List.take_add_one,List.getElem?_drop,show st+(k - st)=k by omega,hc];rfl
theorem Gt{l:List UInt8}{k:Nat}{c:UInt8}(hc:l[k]?=some c):l.drop k=c::l.drop (k+1):=by
 obtain ⟨hk,rfl⟩:=List.getElem?_eq_some_iff.1 hc;exact List.drop_eq_getElem_cons hk
theorem Tx(l:List (List UInt8))(x:List UInt8):ZF (l++[x])=ZF l++[.string (strOf x)]:=by simp [ZF]
def IJ(l:List UInt8)(st k:Nat)(L:List (List UInt8)):Prop:=st<=k/\k<=l.length/\L.length<=k/\Yb l=L++YT ((l.drop st).take (k - st)) (l.drop k)
theorem IJ.nl{l:List UInt8}{st k:Nat}{L:List (List UInt8)}(h:IJ l st k L)(hc:l[k]?=some 10):IJ l (k+1) (k+1) (L++[(l.drop st).take (k - st)]):=by
 obtain ⟨h1,h2,h3,h4⟩:=h;have hk:=(List.getElem?_eq_some_iff.1 hc).1;refine ⟨Nat.le_refl _,hk,by rw [List.length_append];simp;omega,?_⟩;rw [h4,Gt hc,YT,if_pos rfl,Nat.sub_self,List.take_zero,List.append_assoc];rfl
theorem IJ.on{l:List UInt8}{st k:Nat}{L:List (List UInt8)}{c:UInt8}(h:IJ l st k L)(hc:l[k]?=some c)(h10:c≠10):IJ l st (k+1) L:=by
 obtain ⟨h1,h2,h3,h4⟩:=h;have hk:=(List.getElem?_eq_some_iff.1 hc).1;refine ⟨by omega,hk,by omega,?_⟩;rw [h4,Gt hc,YT,if_neg h10,r9 h1 hc]
theorem IJ.fin{l:List UInt8}{st:Nat}{L:List (List UInt8)}(h:IJ l st l.length L):Yb l=if st<l.length then L++[l.drop st] else L:=by
 obtain ⟨h1,h2,h3,h4⟩:=h;rw [h4,List.drop_length,YT,List.take_of_length_le (by rw [List.length_drop];omega)]
 by_cases hs:st<l.length
 · rw [if_pos hs,if_neg (by intro h;have:=congrArg List.length h;simp at this;omega)]
 · rw [if_neg hs,if_pos (List.drop_eq_nil_of_le (by omega)),List.append_nil]
theorem KU(l:List UInt8)(hl:l.length<=2000000)(w:World):Calls prog 14 #[.string (strOf l)] w fun e w'=>∃ v,e=.returned v/\w'.ownsRow w.heap.size 9 1 v (Yb l).length (ZF (Yb l))/\Below w.heap.size w w':=by
 obtain ⟨s,hs⟩:=eE (strOf l);obtain ⟨N,hN⟩:=eE l.length;have hz:(s.size:Int)=(N:Int):=by rw [hs,ZK,hN]
 obtain ⟨i0,hi,hi0,hi1,hi2⟩:=info_parts RJ;have hNl:N<=2000000:=by omega
 have HS:=hide hs;have HN:=hide hN;rw [<- hs];clear hs hN hl;go_enter func14,ntmps14;go_wp2
 go_loopw [3,4,5] (fun o a i wr=>∃ (st k:Nat) (L:List (List UInt8)),IJ l st k L/\a=.int .i64 (st:Int)/\i=.int .i64 (k:Int)/\wr.ownsRow w.heap.size 9 1 o L.length (ZF L)/\Below w.heap.size w wr)
  (fun _ _ i _=>N - (intOf i).toNat)
 case atStart=>exact ⟨0,0,[],⟨Nat.le_refl _,Nat.zero_le _,Nat.le_refl _,by simp [Yb]⟩,rfl,rfl,World.ownsRow_nil _ _ _ _,Below.refl _ _⟩
 case round =>
  obtain ⟨st,k,L,hat,rfl,rfl,ZT,hbr⟩:=hrel;obtain ⟨OA,oc,rfl,hoc⟩:=ZP ZT;have h1:=hat.1;have h2:k<=N:=by rw [HN.out];exact hat.2.1
  have h3:=hat.2.2.1;obtain ⟨m,hm⟩:=eE L.length;have HM:=hide hm;have HAT:=hide hat;have HOWN:=hide ZT;have RN:=hide hbr;rw [<- hm] at h3 ⊢;clear hat hm hoc ZT hbr
  by_cases hkn:k<N
  · have hki:(k:Int)<(N:Int):=(by omega);obtain ⟨c,hc⟩:∃ c,l[k]?=some c:=⟨_,List.getElem?_eq_getElem (by rw [<- HN.out];exact hkn)⟩;have hix:=fun W=>NQ HS.out hc W;have HC:=hide hc;clear hc
    by_cases h10:(c.toNat:Int)=10
    · have zgs:c=10:=by
       rw [<- UInt8.toNat_inj];show c.toNat=10;omega
      have hsl:=fun W=>str_slice HS.out st k h1 (by rw [<- HN.out];exact h2) W;have zP:=hide (HAT.out.nl (by rw [HC.out,zgs]));obtain ⟨X,hX⟩:=eE (strOf ((l.drop st).take (k - st)));have HX:=hide hX;rw [<- hX] at hsl;have hbs:=RN.out.size;clear hX zgs;go_wp2_with (at_builtin;refine wpList_append_lies _ rfl (.tmp 16) (.tmp 21) 28 rfl w.heap.size 9 i0 (.string ⟨#[]⟩) 1 16 underlying28 hi hi0 hi1 hi2 rfl (by decide) (.slice OA m oc) m _ rfl (ZI (by rw [HM.out];exact HOWN.out) (bA)) ⟨wr.heap.size,0,none⟩ 1 1 [.string X] rfl rfl (ZB (Z7.new _ _ _)) (by simp [Value.oneCell']) (by omega) (by unfold maxLen;omega) (by omega) (by simp;omega) (wr.heap.size+1) (by simp) ?_);intro g' cap w7 YZ ZL _ _
      have Eh:Hid (w7.ownsRow w.heap.size 9 1 (.slice (some ⟨g',0,none⟩) (m+1) cap) (L++[(l.drop st).take (k - st)]).length (ZF (L++[(l.drop st).take (k - st)]))):=hide (by
       rw [List.length_append,Tx,<- HM.out,<- HX.out];exact YZ)
      have dN:=hide ((Z8 RN.out (bA)).grown ZL (by simp;omega) (fun j hj=>ZN HOWN.out (by rw [<- HM.out];exact hj)));have h64:IntKind.i64.wrap ((k:Int)+1)=(k:Int)+1:=(by rw [IntKind.wrap_i64];omega);clear YZ ZL hsl hix hi hi0 hi1 hi2;go_wp2;go_roundw
      case rel=>exact ⟨k+1,k+1,_,zP.out,by go_num,by go_num,Eh.out,dN.out⟩
      case measure=>simp [intOf];omega
    · have zP:=hide (HAT.out.on HC.out (fun h=>h10 (by rw [h];rfl)));go_wp2;go_roundw
      case rel=>exact ⟨st,k+1,L,zP.out,rfl,by go_num,by rw [HM.out];exact HOWN.out,RN.out⟩
      case measure=>simp [intOf];omega
  · obtain rfl:N=k:=(by omega);have hki:¬ (N:Int)<(N:Int):=(by omega);have HE:=hide ((show IJ l st l.length L by rw [<- HN.out];exact HAT.out).fin)
    by_cases hst:st<N
    · have hsi:(st:Int)<(N:Int):=(by omega);have RO:Hid (Yb l=L++[l.drop st]):=hide (by rw [HE.out,if_pos (by rw [<- HN.out];exact hst)]);have hsl:=fun W=>M6 HS.out st (by rw [<- HN.out];omega) W;obtain ⟨X,hX⟩:=eE (strOf (l.drop st));have HX:=hide hX;rw [<- hX] at hsl;have hbs:=RN.out.size;clear hX;go_wp2_with (at_builtin;refine wpList_append_lies _ rfl (.tmp 29) (.tmp 33) 28 rfl w.heap.size 9 i0 (.string ⟨#[]⟩) 1 16 underlying28 hi hi0 hi1 hi2 rfl (by decide) (.slice OA m oc) m _ rfl (ZI (by rw [HM.out];exact HOWN.out) (bA)) ⟨wr.heap.size,0,none⟩ 1 1 [.string X] rfl rfl (ZB (Z7.new _ _ _)) (by simp [Value.oneCell']) (by omega) (by unfold maxLen;omega) (by omega) (by simp;omega) (wr.heap.size+1) (by simp) ?_);intro g' cap w7 YZ ZL _ _
      have Eh:Hid (w7.ownsRow w.heap.size 9 1 (.slice (some ⟨g',0,none⟩) (m+1) cap) (Yb l).length (ZF (Yb l))):=hide (by
       rw [RO.out,List.length_append,Tx,<- HM.out,<- HX.out];exact YZ)
      have dN:=hide ((Z8 RN.out (bA)).grown ZL (by simp;omega) (fun j hj=>ZN HOWN.out (by rw [<- HM.out];exact hj)));clear YZ ZL hsl hi hi0 hi1 hi2;go_wp2;go_ret;exact ⟨_,rfl,Eh.out,dN.out⟩
    · have hsi:¬ (st:Int)<(N:Int):=(by omega);have RO:Hid (Yb l=L):=hide (by rw [HE.out,if_neg (by rw [<- HN.out];exact hst)]);go_wp2;go_ret;exact ⟨_,rfl,by rw [RO.out,HM.out];exact HOWN.out,RN.out⟩
end
section
open Go.RowKit Go.Shelf
attribute [local go_sem] Oper.semAt_some
def Rj:List UInt8->List UInt8->List (List UInt8)
 | cur,[]=>if cur=[] then [] else [cur]
 | cur,c::r=>if c=10 then (cur++[10])::Rj [] r else Rj (cur++[c]) r
def Ls(l:List UInt8):List (List UInt8):=Rj [] l
theorem jM:∀ (a cur r:List UInt8),10 ∉ a->Rj cur (a++10::r)=(cur++a++[10])::Ls r
 | [],cur,r,_=>by rw [List.nil_append,Rj,if_pos rfl,List.append_nil];rfl
 | c::a,cur,r,h=>by
   have h1:c≠10:=fun e=>h (by rw [e];exact List.mem_cons_self ..);rw [List.cons_append,Rj,if_neg h1,jM a (cur++[c]) r fun e=>h (List.mem_cons_of_mem _ e)];simp
theorem Ck:∀ (l cur:List UInt8),10 ∉ l->Rj cur l=if cur++l=[] then [] else [cur++l]
 | [],cur,_=>by rw [Rj,List.append_nil]
 | c::l,cur,h=>by
   have h1:c≠10:=fun e=>h (by rw [e];exact List.mem_cons_self ..);rw [Rj,if_neg h1,Ck l (cur++[c]) fun e=>h (List.mem_cons_of_mem _ e)];simp
theorem zuh{a r:List UInt8}(h:10 ∉ a):Ls (a++10::r)=(a++[10])::Ls r:=by
 have:=jM a [] r h;simpa [Ls] using this
theorem jN{l:List UInt8}(h:10 ∉ l)(hn:l≠[]):Ls l=[l]:=by
 have:=Ck l [] h;simpa [Ls,hn] using this
theorem G5:∀ l:List UInt8,(Lib.indexByte l 10=-1/\10 ∉ l)\/∃ a r,l=a++10::r/\10 ∉ a/\Lib.indexByte l 10=(a.length:Int)
 | []=>.inl ⟨rfl,by simp⟩
 | c::l=>by
   by_cases hc:c=10
   · subst hc;exact .inr ⟨[],l,rfl,by simp,by simp [Lib.indexByte]⟩
   · rcases G5 l with ⟨h1,h2⟩|⟨a,r,rfl,h2,h3⟩
     · left
       refine ⟨by simp [Lib.indexByte,hc,h1],?_⟩;intro h;rcases List.mem_cons.1 h with h|h
       · exact hc h.symm
       · exact h2 h
     · right
       refine ⟨c::a,r,rfl,?_,?_⟩
       · intro h;rcases List.mem_cons.1 h with h|h
         · exact hc h.symm
         · exact h2 h
       · have h4:¬ ((a.length:Int)=-1):=(by omega);simp [Lib.indexByte,hc,h3,h4]
theorem zzk(l:List UInt8)(w:World):Calls prog 87 #[.string (strOf l),.int .u8 10] w fun e w'=>e=.returned (.int .i64 (Lib.indexByte l 10))/\w'=w:=by
 refine (Any.strings_IndexByte Tryz.lays137 (strOf l) 10 w).mono ?_;rintro e w' ⟨rfl,rfl⟩;exact ⟨rfl,rfl⟩
theorem DR{l:List UInt8}{s:ByteArray}(hs:s=strOf l)(b:Nat)(hb:b<=l.length)(W:World):
 (Instr.sliceAt 9 (.string s) none (some (.int .i64 (b:Int))) none).run prog W=.ok (.string (strOf (l.take b))) W:=by
 have hz:s.size=l.length:=by rw [hs,ZK]
 have h2:(b:Int)<=(s.size:Int):=by omega
 have h0:0<=(b:Int):=by omega
 have he:=wR hs 0 b;rw [List.drop_zero,Nat.sub_zero] at he;clear hs hz;rw [run_sliceAt_string _ _ _ _ _ _ underlying9];go_simp
def zui(w:World)(b:Nat):Nat:=match w.cell? ⟨b,0,none⟩ with
 | some (.string s)=>s.size
 | _=>0
theorem Lu{w:World}{b:Nat}{l:List UInt8}(h:Z7 w b 9 #[.string (strOf l)]):zui w b=l.length:=by
 have c:w.cell? ⟨b,0,none⟩=some (.string (strOf l)):=h.q0 rfl;unfold zui;rw [c];exact ZK l
def encS(x:List UInt8):Array Value:=#[.string (strOf x)]
theorem qo(l0:List UInt8)(hl0:l0.length<=1000000)(K:Nat->Prop)(bx:Nat)(hKb:K bx)(w:World)(B1:Z7 w bx 9 #[.string (strOf l0)]):
 eX prog (fun x=>x∈Ls l0) encS K (fun k=>k=bx) 86 #[.pointer (some ⟨bx,0,none⟩)] (fun ys=>ys=Ls l0) (Ls l0).length w:=by
 intro l J Jx R W hk zR GQ hJ hJx hY h0;have B2:=B1.kept hk hKb;have HJ:=hide hJ;have HY:=hide hY;have HRW:=hide GQ;have HRb:Hid (R bx):=hide (zR _ hKb);have Yv:prog.follows .mixedOrders=true:=by kernel_rfl
 clear hk zR GQ hJ hJx hY B1 hKb;have cb:=B2.q0 rfl;refine (callsIn_wide (n:=6)).1 ?_;refine callsIn_of_wp func86 rfl trivial ?_ rfl;simp only [ntmps86,List.size_toArray,List.length_cons,List.length_nil,Nat.reduceAdd,Nat.reduceSub,Array.replicate_succ,Array.replicate_zero,List.push_toArray,List.append_toArray,List.nil_append,List.cons_append];gi_wp2
 gi_loopw [] (fun wr=>∃ (pre:List (List UInt8)) (rest:List UInt8),Ls l0=pre++Ls rest/\rest.length<=l0.length/\Z7 wr bx 9 #[.string (strOf rest)]/\J R pre wr/\W.heap.size<=wr.heap.size)
  (fun wr=>zui wr bx)
 case atStart=>exact ⟨[],l0,rfl,Nat.le_refl _,B2,h0,Nat.le_refl _⟩
 case round =>
  clear cb;obtain ⟨pre,rest,hks,hrl,Bx,hJs,hsz⟩:=hrel;have Qx:=hide hsz;have Nb:=hide Bx;have cr:wr.cell? ⟨bx,0,none⟩=some (.string (strOf rest)):=Bx.q0 rfl;have fr:=Bx.frozen 0;clear hsz;obtain ⟨N,hN⟩:=eE rest.length;obtain ⟨s,hs⟩:=eE (strOf rest);have hz:(s.size:Int)=(N:Int):=by rw [hs,ZK,hN]
  have HI:Hid (∀ X,Calls prog 87 #[.string s,.int .u8 10] X fun e w'=>e=.returned (.int .i64 (Lib.indexByte rest 10))/\w'=X):=hide fun X=>by rw [hs];exact zzk rest X
  have HS:=hide hs;rw [<- hs] at cr;clear hs
  by_cases hne:rest=[]
  · have hN0:¬ (N:Int) > 0:=(by rw [hN,hne];simp);have HJS:=hide hJs;gi_wp2;go_end0;exact ⟨⟨_,rfl⟩,.inl (by subst hne;simpa [Ls,Rj] using HJS.out)⟩
  · have hN1:(N:Int) > 0:=by
     have:=List.length_pos_iff.2 hne;omega
    rcases G5 rest with ⟨hi,h10⟩|⟨a,r,hrest,h10,hi⟩
    · have HKS:Hid (Ls l0=pre++[rest]):=hide (by rw [hks,jN h10 hne]);rw [hi] at HI;have hJd:J R pre (wr.setCell ⟨bx,0,none⟩ (.string ⟨#[]⟩)):=HJ.out R R pre wr _ hJs (YC.zmn (X:=fun k=>k=bx) rfl _ _ _ _ _) fun j hj=>⟨.inl hj,by have:=HRW.out j hj;have:=Qx.out;simp;omega⟩;have HBN:Hid (Z7 (wr.setCell ⟨bx,0,none⟩ (.string ⟨#[]⟩)) bx 9 #[.string (strOf [])]):=hide (Bx.set 0 _);have hlt:([]:List UInt8).length<rest.length:=List.length_pos_iff.2 hne;clear hks Bx hJs hi;gi_wp2_with fail;refine ⟨trivial,?_⟩;refine (callsIn_wide.2 (HI.out _)).mono ?_;rintro e w5 ⟨rfl,rfl⟩;have hRl:∀ j,R j->j<(w5.setCell ⟨bx,0,none⟩ (.string ⟨#[]⟩)).heap.size:=fun j hj=>by have:=HRW.out j hj;have:=Qx.out;simp;omega
      obtain ⟨fn,tmps,assign,body,hy,hR⟩:=HY.out 5 R pre rest (w5.setCell ⟨bx,0,none⟩ (.string ⟨#[]⟩)) hRl hJd (by rw [HKS.out];simp) (by rw [HKS.out];simp)
      have hR2:=hide (hR.mono (R':=fun e W'=>∃ b,e=.returned (.bool b)/\(b=true->J R (pre++[rest]) W'/\Z9 R (w5.setCell ⟨bx,0,none⟩ (.string ⟨#[]⟩)) W')/\(b=false->Jx R W')) (by
       rintro e W' (⟨rfl,h1,h2⟩|⟨rfl,h1,h2⟩)
       · exact ⟨true,rfl,fun _=>⟨h1,h2⟩,fun h=>by cases h⟩
       · exact ⟨false,rfl,(fun h=>by cases h),fun _=>h1⟩))
      unfold encS at hy;rw [<- HS.out] at hy;clear hR hJd hRl;gi_wp2_with fail;refine hR2.out.mono ?_;rintro e W3 ⟨b,rfl,hb1,hb2⟩;have HR1:=hide hb1;have HR2:=hide hb2;clear hb1 hb2 hy hR2;cases b with
      | false =>
        have mW:=hide (HR2.out rfl);clear HR1 HR2;gi_wp2;refine bodyPost_ret (results_none rfl _ _ _) rfl ?_;exact ⟨⟨_,rfl⟩,.inr mW.out⟩
      | true =>
        have HJ3:=hide (HR1.out rfl).1;have Pp:=hide (HR1.out rfl).2;clear HR1 HR2;have HB3:=hide (HBN.out.kept Pp.out HRb.out);have HZ3:Hid (W.heap.size<=W3.heap.size):=hide (Nat.le_trans Qx.out (by have h:=Pp.out.size;rw [World.size_setCell] at h;exact h));gi_wp2;go_roundw
        case rel=>exact ⟨pre++[rest],[],by rw [HKS.out];simp [Ls,Rj],Nat.zero_le _,HB3.out,HJ3.out,HZ3.out⟩
        case measure=>rw [Lu HB3.out,Lu Nb.out];exact hlt
    · have HKS:Hid (Ls l0=pre++((a++[10])::Ls r)):=hide (by rw [hks,hrest,zuh h10]);obtain ⟨m,hm⟩:=eE a.length;have hrl2:rest.length=m+1+r.length:=(by rw [hrest,hm];simp;omega);have hta:rest.take (m+1)=a++[10]:=(by rw [hrest,hm,show a++10::r=(a++[10])++r by simp,List.take_left' (by simp)]);have hdr:rest.drop (m+1)=r:=(by rw [hrest,hm,show a++10::r=(a++[10])++r by simp,List.drop_left' (by simp)]);obtain ⟨Y,hY⟩:=eE (strOf (a++[10]));obtain ⟨Z,hZ⟩:=eE (strOf r)
      have hslA:∀ X,(Instr.sliceAt 9 (.string s) none (some (.int .i64 ((m:Int)+1))) none).run prog X=.ok (.string Y) X:=fun X=>by
       rw [hY,<- hta];exact DR HS.out (m+1) (by omega) X
      have hslB:∀ X,(Instr.sliceAt 9 (.string s) (some (.int .i64 ((m:Int)+1))) none none).run prog X=.ok (.string Z) X:=fun X=>by
       rw [hZ,<- hdr];exact M6 HS.out (m+1) (by omega) X
      have h64:IntKind.i64.wrap ((m:Int)+1)=(m:Int)+1:=(by rw [IntKind.wrap_i64];omega);have hlt:r.length<rest.length:=(by omega);have HYV:=hide hY;have HZV:=hide hZ;have eG:=hide hrl;have yyv:=hide hrl2;rw [hi,<- hm] at HI;clear hks hi hta hdr hY hZ hrest hm hrl2 h10;gi_wp2_with fail;refine ⟨trivial,?_⟩;refine (callsIn_wide.2 (HI.out _)).mono ?_;rintro e w5 ⟨rfl,rfl⟩;have hm0:(m:Int) ≥ 0:=(by omega);gi_wp2;have hS:w5.drew.cell? ⟨bx,0,none⟩=some (.string s):=cr;have fD:w5.drew.frozen? ⟨bx,0,none⟩=false:=fr;have BD:=Bx.drew;have zfm:Hid (W.heap.size<=w5.drew.heap.size):=hide Qx.out;have JD:J R pre w5.drew:=HJ.out R R pre w5 _ hJs (YC.of_below (ZV (Below.refl _ _)) _ _ _) fun j hj=>⟨.inl hj,by have:=HRW.out j hj;have:=Qx.out;show j<w5.heap.size;omega⟩;refine Yz 9 (S:=fun w'=>w'.cell? ⟨bx,0,none⟩=some (.string s)) Yv ?_;generalize w5.drew=u0 at *;refine' Z0 (i:=0) rfl ?VK hS ?Uz
      case VK =>
       intro w' hSw;have k0:=hSw;go_simp;rfl
      simp only [Act.put,getElem_toArray,getElem_cons_zero,setIfInBounds_toArray,set_cons_zero,set_cons_succ];refine' Z0 (i:=1) rfl ?VL hS ?UA
      case VL =>
       intro w' hSw;have k0:=hSw;go_simp;rfl
      simp only [Act.put,Z6];refine' Z0 (i:=2) rfl ?VN hS ?UC
      case VN =>
       intro w' hSw;have k0:=hSw;go_simp;rfl
      simp only [Act.put,Z6];refine' Z0 (i:=3) rfl ?U1 hS ?Tm
      case U1 =>
       intro w' hSw;have k0:=hSw;go_simp;rfl
      simp only [Act.put,Z6];refine' Z0 (i:=4) rfl ?Oz hS ?LG
      case Oz =>
       intro w' hSw;have k0:=hSw;go_simp;rfl
      simp only [Act.put,Z6];refine' Z0 (i:=5) rfl ?OB hS ?LH
      case OB =>
       intro w' hSw;have k0:=hSw;go_simp;rfl
      simp only [Act.put,Z6];refine' Z0 (i:=6) rfl ?jB hS ?aY
      case jB =>
       intro w' hSw;have k0:=hSw;go_simp;rfl
      simp only [Act.put,Z6];refine' Z0 (i:=7) rfl ?jF hS ?aZ
      case jF =>
       intro w' hSw;have k0:=hSw;go_simp;rfl
      simp only [Act.put,Z6];refine Zc (i:=8) (by kernel_rfl) rfl ?_;intro K hK;rw [if_pos (by rfl)];go_simp;refine hK.out _ _ (fun _=>hS) ?_;clear hK K
      (try simp only [Act.put,Z6])
      have hS9:(u0.setCell ⟨bx,0,none⟩ (.string Z)).cell? ⟨bx,0,none⟩=some (.string Z):=World.cell?_setCell_same _ _ _ hS;refine Zc (i:=9) (by kernel_rfl) rfl ?_;intro K hK;rw [if_pos (by rfl)];go_simp;refine hK.out _ _ (fun h=>absurd h (by decide)) ?_;clear hK K
      (try simp only [Act.put,Z6])
      refine Yc (by kernel_rfl) ?_ _;have HBN:Hid (Z7 (u0.setCell ⟨bx,0,none⟩ (.string Z)) bx 9 #[.string (strOf r)]):=hide (by rw [<- HZV.out];exact BD.set 0 _);have hJd:J R pre (u0.setCell ⟨bx,0,none⟩ (.string Z)):=HJ.out R R pre u0 _ JD (YC.zmn (X:=fun k=>k=bx) rfl _ _ _ _ _) fun j hj=>⟨.inl hj,by have:=HRW.out j hj;have:=zfm.out;simp;omega⟩;have Qx:=zfm;clear BD JD hS fD hS9 hslA hslB;have hRl:∀ j,R j->j<(u0.setCell ⟨bx,0,none⟩ (.string Z)).heap.size:=fun j hj=>by have:=HRW.out j hj;have:=Qx.out;simp;omega
      obtain ⟨fn,tmps,assign,body,hy,hR⟩:=HY.out 5 R pre (a++[10]) (u0.setCell ⟨bx,0,none⟩ (.string Z)) hRl hJd (by rw [HKS.out];simp) (by rw [HKS.out];simp)
      have hR2:=hide (hR.mono (R':=fun e W'=>∃ b,e=.returned (.bool b)/\(b=true->J R (pre++[(a++[10])]) W'/\Z9 R (u0.setCell ⟨bx,0,none⟩ (.string Z)) W')/\(b=false->Jx R W')) (by
       rintro e W' (⟨rfl,h1,h2⟩|⟨rfl,h1,h2⟩)
       · exact ⟨true,rfl,fun _=>⟨h1,h2⟩,fun h=>by cases h⟩
       · exact ⟨false,rfl,(fun h=>by cases h),fun _=>h1⟩))
      unfold encS at hy;rw [<- HYV.out] at hy;clear hR hJd hRl;gi_wp2_with fail;refine hR2.out.mono ?_;rintro e W3 ⟨b,rfl,hb1,hb2⟩;have HR1:=hide hb1;have HR2:=hide hb2;clear hb1 hb2 hy hR2;cases b with
      | false =>
        have mW:=hide (HR2.out rfl);clear HR1 HR2;gi_wp2;refine bodyPost_ret (results_none rfl _ _ _) rfl ?_;exact ⟨⟨_,rfl⟩,.inr mW.out⟩
      | true =>
        have HJ3:=hide (HR1.out rfl).1;have Pp:=hide (HR1.out rfl).2;clear HR1 HR2;have HB3:=hide (HBN.out.kept Pp.out HRb.out);have HZ3:Hid (W.heap.size<=W3.heap.size):=hide (Nat.le_trans Qx.out (by have h:=Pp.out.size;rw [World.size_setCell] at h;exact h));gi_wp2;go_roundw
        case rel=>exact ⟨pre++[(a++[10])],r,by rw [HKS.out];simp [Ls],(by have:=eG.out;omega),HB3.out,HJ3.out,HZ3.out⟩
        case measure=>rw [Lu HB3.out,Lu Nb.out];exact hlt
theorem qp(s:ByteArray)(w:World):Calls prog 44 #[.string s] w fun e w'=>e=.returned (.func (.func 86) #[] #[.pointer (some ⟨w.heap.size,0,none⟩)])/\w'=w.alloc (.cells #[.string s] 9):=by
 go_enter func44,ntmps44;go_wp2;go_ret;exact ⟨rfl,rfl⟩
def Wq(x:List UInt8):List UInt8:=if x.getLast?=some 10 then x.dropLast else x
theorem Fh:∀ (l cur:List UInt8),10 ∉ cur->(Rj cur l).map Wq=YT cur l
 | [],cur,h=>by
   unfold Rj YT;split
   · rfl
   · have h1:¬ cur.getLast?=some 10:=fun e=>h (List.mem_of_getLast? e);simp [Wq,h1]
 | c::r,cur,h=>by
   unfold Rj YT;split
   · rw [List.map_cons,Fh r [] (by simp)];simp [Wq]
   · rename_i hc
     refine Fh r (cur++[c]) fun e=>?_;rcases List.mem_append.1 e with e|e
     · exact h e
     · exact hc (List.mem_singleton.1 e).symm
theorem Fp(l:List UInt8):(Ls l).map Wq=Yb l:=Fh l [] (by simp)
end
section
open Go.RowKit Go.Shelf
theorem bL(x:List UInt8):Lib.trimSuffix x [10]=Wq x:=by
 unfold Wq;rcases List.eq_nil_or_concat x with rfl|⟨a,c,rfl⟩
 · rfl
 · by_cases hc:c=10
   · subst hc;simp [Lib.trimSuffix,Lib.hasSuffix]
   · simp [Lib.trimSuffix,Lib.hasSuffix,hc,Ne.symm hc]
theorem zC(x:List UInt8)(hx:x.length<=1000000)(w:World):Calls prog 45 #[.string (strOf x),.string ⟨#[10]⟩] w fun e w'=>e=.returned (.string (strOf (Wq x)))/\w'=w:=by
 refine (Any.strings_TrimSuffix Tryz.lays102 (strOf x) ⟨#[10]⟩ w (by rw [ZK];omega)).mono ?_;rintro e w' ⟨rfl,rfl⟩;refine ⟨?_,rfl⟩;rw [<- bL];rfl
end
section
open Go.RowKit Go.Shelf
def Xf(ans:List (List UInt8)->List UInt8->List UInt8):List (List UInt8)->List (List UInt8)->List (List UInt8)
 | _,[]=>[]
 | s,l::r=>ans s l::Xf ans (s++[l]) r
theorem Nj(ans:List (List UInt8)->List UInt8->List UInt8):∀ (r s:List (List UInt8)) (l:List UInt8),Xf ans s (r++[l])=Xf ans s r++[ans (s++r) l]
 | [],s,l=>by simp [Xf]
 | x::r,s,l=>by rw [List.cons_append,Xf,Xf,Nj ans r (s++[x]) l];simp
theorem Jw(ans:List (List UInt8)->List UInt8->List UInt8):∀ (r s:List (List UInt8)),(Xf ans s r).length=r.length
 | [],s=>rfl
 | x::r,s=>by rw [Xf,List.length_cons,Jw ans r,List.length_cons]
theorem Kv:∀ (l cur:List UInt8),∀ x∈Rj cur l,x.length<=cur.length+l.length
 | [],cur,x,h=>by
   unfold Rj at h;split at h
   · cases h
   · rw [List.mem_singleton.1 h];exact Nat.le_add_right ..
 | c::r,cur,x,h=>by
   unfold Rj at h;split at h
   · rcases List.mem_cons.1 h with h|h
     · rw [h,List.length_append,List.length_cons,List.length_cons,List.length_nil];omega
     · have:=Kv r [] x h;rw [List.length_cons];rw [List.length_nil] at this;omega
   · have:=Kv r _ x h;rw [List.length_append,List.length_cons,List.length_nil] at this;rw [List.length_cons];omega
theorem zzn{l x:List UInt8}(h:x∈Ls l):x.length<=l.length/\Wq x∈Yb l:=by
 refine ⟨by have:=Kv l [] x h;rw [List.length_nil] at this;omega,?_⟩;rw [<- Fp];exact List.mem_map_of_mem h
theorem Fj(l:List UInt8):(Ls l).length=(Yb l).length:=by rw [<- Fp,List.length_map]
theorem Wy{X:World}{k:Nat}(h:P8 X k):k<X.heap.size:=by
 obtain ⟨o,ho,_⟩:=h;exact (Array.getElem?_eq_some_iff.1 ho).1
theorem fO{X:World}{b o:Nat}{u:Value}(h:X.cell? ⟨b,o,none⟩=some u):P8 X b:=by
 unfold World.cell? at h;dsimp only at h;split at h
 · rename_i e
   exact ⟨_,e,rfl⟩
 · cases h
structure zW(B M:Nat)(T:List UInt8->Prop)(vS:Value)(ans:List (List UInt8)->List UInt8->List UInt8)(Inv:(Nat->Prop)->(Nat->Prop)->List (List UInt8)->World->Prop):Prop where
 keep:∀ {W R:Nat->Prop} {s:List (List UInt8)} {X Y:World},Inv W R s X->Z9 (fun k=>k<B\/W k\/R k) X Y->Inv W R s Y
 low:∀ {W R:Nat->Prop} {s:List (List UInt8)} {X:World},Inv W R s X->B<=X.heap.size/\∀ k,W k->B<=k
 cell:∀ {W R:Nat->Prop} {s:List (List UInt8)} {X:World},Inv W R s X->∀ k,W k\/R k->P8 X k
 step:∀ {W R:Nat->Prop} {s:List (List UInt8)} {X:World} (line:List UInt8),T line->s.length<M->Inv W R s X->Calls prog 21 #[vS,.string (strOf line)] X fun e Y=>e=.returned (.string (strOf (ans s line))) /\
  ∃ W' R',Inv W' R' (s++[line]) Y/\(∀ k,W' k->W k\/X.heap.size<=k)/\(∀ k,R' k->R k\/X.heap.size<=k)/\Z9 (fun k=>k<X.heap.size/\¬ W k) X Y
structure tq(w:World)(bs bo z:Nat)(vS:Value)(s0:List (List UInt8))(ans:List (List UInt8)->List UInt8->List UInt8)(Inv:(Nat->Prop)->(Nat->Prop)->List (List UInt8)->World->Prop)(W0 R0 Rk:Nat->Prop)(pre:List (List UInt8))(X:World):Prop where
 ex:∃ W R v,Inv W R (s0++pre.map Wq) X/\(∀ k,W k\/R k->¬ Rk k/\(k<w.heap.size\/z+2<=k)/\v.ownBlock≠some k)/\(∀ k,W k->W0 k\/w.heap.size<=k)/\(∀ k,R k->R0 k\/w.heap.size<=k)/\Z7 X bo 28 #[v] /\
  X.ownsRow (z+2) 9 1 v pre.length (ZF (Xf ans s0 (pre.map Wq)))/\∀ b,v.ownBlock=some b->¬ Rk b
 box:Z7 X bs 24 #[vS]
 nR:¬ Rk bo
 keep:Z9 (fun k=>k<w.heap.size/\¬ W0 k) w X
section
variable {B M:Nat}{T:List UInt8->Prop}{vS:Value}{ans:List (List UInt8)->List UInt8->List UInt8}{Inv:(Nat->Prop)->(Nat->Prop)->List (List UInt8)->World->Prop}(D:zW B M T vS ans Inv)(w:World)(s0:List (List UInt8))(W0 R0:Nat->Prop)
include D
theorem rH(bs bo bx z:Nat)(hz:bs=w.heap.size/\bo=bs+1/\bx=bs+2/\z=bs+3)(hB:B<=w.heap.size):Pq z (fun k=>k=bx) (tq w bs bo z vS s0 ans Inv W0 R0):=by
 rintro R R' es X Y ⟨⟨W,Rr,v,hi,hd,hw,hrr,hb,ZT,hv⟩,hbs,hn,hk⟩ hst hR
 have hnR:∀ k,k<X.heap.size->¬ R k->¬ R' k:=fun k hk hr h=>by
  rcases (hR k h).1 with h|h
  · exact hr h
  · omega
 have hlt:∀ k,W k\/Rr k->k<X.heap.size:=fun k hk=>Wy (D.cell hi k hk);refine ⟨⟨W,Rr,v,D.keep hi ⟨hst.os,hst.tape,hst.output,hst.size,fun k hk=>?_⟩,fun k hk=>?_,hw,hrr,(hst.block bo hb.lt (by omega) (.inl (by omega))).trans hb,KG ZT hst (fun b e h=>?_) hv,fun b e=>hnR b (Yk ZT e) (hv b e)⟩,(hst.block bs hbs.lt (by omega) (.inl (by omega))).trans hbs,hnR bo hb.lt hn,?_⟩
 · have hBX:=(D.low hi).1;rcases hk with hk|hk
   · exact hst.block k (by omega) (by omega) (.inl (by omega))
   · obtain ⟨a,c,_⟩:=hd k hk;exact hst.block k (hlt k hk) (by omega) (.inr ⟨a,D.cell hi k hk⟩)
 · obtain ⟨a,r⟩:=hd k hk;exact ⟨hnR k (hlt k hk) a,r⟩
 · have:=ZN ZT e;have h:b=bx:=h;omega
 · exact hk.trans ⟨hst.os,hst.tape,hst.output,hst.size,fun k hk'=>hst.block k (Nat.lt_of_lt_of_le hk'.1 hk.size) (by omega) (.inl (by omega))⟩
end
theorem UJ.cells{σ:St}{sb:Nat}{Wr Rd:Nat->Prop}{X:World}(h:UJ σ sb Wr Rd X):UJ σ sb (fun k=>Wr k/\P8 X k) (fun k=>Rd k/\P8 X k) X:=by
 obtain ⟨gs,vR,vQ,h⟩:=h;refine ⟨gs,vR,vQ,h.data,h.blk,h.rows,h.VW,⟨h.wb,_,h.blk,rfl⟩,fun k e=>⟨⟨(h.wr k e).1,QN h.rows e⟩,(h.wr k e).2⟩,fun k e=>⟨⟨(h.wq k e).1,QN h.VW e⟩,(h.wq k e).2⟩,h.rq,fun g hg=>⟨(h.ZY g hg).1,?_⟩,fun k hr hw=>h.apart k hr.1 hw.1,fun k hk=>h.IB k hk.1,fun k hk=>h.zV k hk.1,h.small⟩;rcases (h.ZY g hg).2 with h0|⟨b,off,hA,hb,hc⟩
 · exact .inl h0
 · cases hx:Zl g.2 with
   | nil=>exact .inl rfl
   | cons u r =>
     rw [<- hx];refine .inr ⟨b,off,hA,⟨hb,?_⟩,hc⟩;have:=hc 0 u (by rw [hx];rfl);exact fO this
def nC(f:St->List UInt8->List UInt8 × St)(σ:St)(s:List (List UInt8)):St:=s.foldl (fun σ l=>(f σ l).2) σ
def Y6(B:Nat)(f:St->List UInt8->List UInt8 × St)(σ:St)(sb:Nat)(W R:Nat->Prop)(s:List (List UInt8))(X:World):Prop :=
 UJ (nC f σ s) sb W R X/\Env B X/\(∀ k,W k->B<=k)/\∀ k,W k\/R k->P8 X k
theorem uW (B M:Nat) (T:List UInt8->Prop) (Q:St->Prop) (f:St->List UInt8->List UInt8 × St) (σ0:St) (sb:Nat) (hQ:∀ s:List (List UInt8),s.length<M->Q (nC f σ0 s))
 (hdo:∀ line,T line->∀ (σ:St) (Wr Rd:Nat->Prop) (X:World),Q σ->UJ σ sb Wr Rd X->Env B X->(∀ k,Wr k->B<=k)->Calls prog 21 #[.pointer (some ⟨sb,0,none⟩),.string (strOf line)] X (XD (f σ line) sb Wr Rd X)) :
 zW B M T (.pointer (some ⟨sb,0,none⟩)) (fun s l=>(f (nC f σ0 s) l).1) (Y6 B f σ0 sb) where
 keep:=fun {W R s X Y} h hk=>by
  obtain ⟨⟨gs,vR,vQ,h1⟩,h2,h3,h4⟩:=h;refine ⟨⟨gs,vR,vQ,h1.kept (hk.mono fun k hk=>.inr hk)⟩,h2.step ⟨hk.os,hk.tape,hk.output,hk.size,fun j hj=>hk.block j (.inl hj)⟩,h3,fun k hk'=>?_⟩;obtain ⟨o,ho,hc⟩:=h4 k hk';exact ⟨o,(hk.block k (.inr hk')).trans ho,hc⟩
 low:=fun {W R s X} h=>⟨h.2.1.1,h.2.2.1⟩
 cell:=fun {W R s X} h=>h.2.2.2
 step:=fun {W R s X} line ht hM h=>by
  obtain ⟨h1,h2,h3,h4⟩:=h;refine (hdo line ht _ W R X (hQ s hM) h1 h2 h3).mono ?_;rintro e Y ⟨rfl,hs⟩;have hbl:=hs.below h2.1 h3;obtain ⟨W',R',hs',a,b,k⟩:=hs;refine ⟨rfl,fun k=>W' k/\P8 Y k,fun k=>R' k/\P8 Y k,⟨?_,h2.step hbl,fun k hk=>?_,fun k hk=>?_⟩,fun k hk=>a k hk.1,fun k hk=>b k hk.1,k⟩
  · unfold nC;rw [List.foldl_append];exact hs'.cells
  · rcases a k hk.1 with h|h
    · exact h3 k h
    · exact Nat.le_trans h2.1 h
  · rcases hk with hk|hk
    · exact hk.2
    · exact hk.2
end
section
open Go.RowKit Go.Shelf
attribute [local go_sem] Oper.semAt_some
def Pv(s0:List (List UInt8))(t:List UInt8)(ans:List (List UInt8)->List UInt8->List UInt8)(Inv:(Nat->Prop)->(Nat->Prop)->List (List UInt8)->World->Prop)(W0 R0:Nat->Prop)(w:World)(e:Ending)(Y:World):Prop :=
 ∃ W R v,e=.returned v/\Inv W R (s0++Yb t) Y/\(∀ k,W k\/R k->v.ownBlock≠some k)/\(∀ k,W k->W0 k\/w.heap.size<=k)/\(∀ k,R k->R0 k\/w.heap.size<=k)/\Y.ownsRow w.heap.size 9 1 v (Yb t).length (ZF (Xf ans s0 (Yb t)))/\Z9 (fun k=>k<w.heap.size/\¬ W0 k) w Y
section
variable {B M:Nat}{T:List UInt8->Prop}{vA:Option Addr}{ans:List (List UInt8)->List UInt8->List UInt8}{Inv:(Nat->Prop)->(Nat->Prop)->List (List UInt8)->World->Prop}(D:zW B M T (.pointer vA) ans Inv)(t:List UInt8)(ht:t.length<=1000000)(hT:∀ l∈Yb t,T l)(w:World)(W0 R0:Nat->Prop)(s0:List (List UInt8))(hi:Inv W0 R0 s0 w)(hM:s0.length+(Yb t).length<=M)
include D ht hT hi hM
theorem Dr:Calls prog 17 #[.pointer vA,.string (strOf t)] w (Pv s0 t ans Inv W0 R0 w):=by
 have Yv:prog.follows .mixedOrders=true:=by kernel_rfl
 obtain ⟨bs,hbs⟩:∃ z,z=w.heap.size:=⟨_,rfl⟩;obtain ⟨bo,D9⟩:∃ z,z=w.heap.size+1:=⟨_,rfl⟩;obtain ⟨bx,hbx⟩:∃ z,z=w.heap.size+1+1:=⟨_,rfl⟩;obtain ⟨w1,hw1⟩:=eE ((w.alloc (.cells #[.pointer vA] 24)).alloc (.cells #[.slice none 0 0] 28));have hb1:=bF hw1;have hz1:w1.heap.size=bx:=by rw [hw1,hbx];simp
 have S1:Z7 w1 bs 24 #[.pointer vA]:=by rw [hw1,hbs];exact (Z7.new _ _ _).alloc _
 have O1:Z7 w1 bo 28 #[.slice none 0 0]:=by rw [hw1,D9];exact Z7.new2 _ _ _ _
 obtain ⟨w2,hw2⟩:=eE (w1.alloc (.cells #[.string (strOf t)] 9));have Vx:=bE hw2;have X2:Z7 w2 bx 9 #[.string (strOf t)]:=by rw [hw2,<- hz1];exact Z7.new _ _ _
 have hz2:w2.heap.size=bs+3:=by rw [hw2];simp [hz1];omega
 have Kg:=Z8 hb1 Vx;have LR:=hide (qp (strOf t) w1);rw [<- hw2,hz1] at LR;have Jq:Hid (eX prog (fun x=>x∈Ls t) encS (fun k=>k=bx) (fun k=>k=bx) 86 #[.pointer (some ⟨bx,0,none⟩)] (fun ys=>ys=Ls t) (Ls t).length w2):=hide (qo t ht (fun k=>k=bx) bx rfl w2 X2);have hB:=(D.low hi).1
 have II:Hid (tq w bs bo (bs+3) (.pointer vA) s0 ans Inv W0 R0 (fun k=>k=bx) [] w2):=hide
  ⟨⟨W0,R0,_,by
     rw [List.map_nil,List.append_nil]
     exact D.keep hi (Z9.of_below Kg fun k hk=>by
      rcases hk with hk|hk
      · omega
      · exact Wy (D.cell hi k hk)),fun k hk=>by
     have:=Wy (D.cell hi k hk)
     exact ⟨by omega,.inl this,fun e=>(by cases e)⟩,fun k hk=>.inl hk,fun k hk=>.inl hk,O1.step Vx,World.ownsRow_nil _ _ _ _,fun _ h=>(by cases h)⟩,
    S1.step Vx,by omega,Z9.of_below Kg fun k hk=>hk.1⟩
 have HZ:Hid (bs=w.heap.size/\bo=bs+1/\bx=bs+2/\w2.heap.size=bs+3):=hide (by omega);have Ji:=hide hB;have HM:=hide hM;have HD:=hide D;have HT:=hide hT;have HTL:=hide ht;have ng:∀ args w,(callFunc 86 args).run prog w=.ok (.enter 86 args) w:=enters_of func86 (by kernel_rfl) rfl;have HEG:=hide ng;have zgp:=hide hbs;have zgn:=hide D9;clear hM ht hT hi D hb1 hz1 S1 O1 hw2 Vx X2 hz2 Kg ng hB hbs D9 hbx;refine (callsIn_wide (n:=6)).1 ?_;refine callsIn_of_wp_marks func17 rfl trivial ?_ rfl;simp only [ntmps17,List.size_toArray,List.length_cons,List.length_nil,Nat.reduceAdd,Nat.reduceSub,Array.replicate_succ,Array.replicate_zero,List.push_toArray,List.append_toArray,List.nil_append,List.cons_append];gi_wp2_with fail;rw [<- hw1,<- zgn.out,<- zgp.out];clear hw1 zgn zgp;refine ⟨trivial,?_⟩;refine (callsIn_wide.2 LR.out).mono ?_;rintro e w' ⟨rfl,rfl⟩;clear LR;gi_wp2_with fail;refine SA (K:=fun k=>k=bx) rfl HEG.out Jq.out (fun k h=>by have:=HZ.out;omega) (fun k h=>by have:=HZ.out;omega) (fun _=>rfl) (tq w bs bo (bs+3) (.pointer vA) s0 ans Inv W0 R0) (fun _ _ _=>False) ?h1 (fun _ _ _ _ _ _ h=>h.elim) II.out ?round ?done ?stop
 case h1 =>
  have hz:=HZ.out;rw [hz.2.2.2];exact rH HD.out w s0 W0 R0 bs bo bx (bs+3) ⟨hz.1,hz.2.1,hz.2.2.1,rfl⟩ Ji.out
 case stop =>
  rintro cc X h;exact h.elim
 case done =>
  rintro ys X rfl ⟨⟨W,R,v,hi,hd,hw,hrr,hb,ZT,hv⟩,hbx,-,hk⟩ hD -;have c5:=hb.q0 rfl;have SE:=hide (And.intro hi (And.intro hd (And.intro hw (And.intro hrr (And.intro ZT hk)))));have HDF:=hide hD;clear hi hd hw hrr hb ZT hv hbx hk hD;gi_wp2;refine ⟨by simp,.inl ⟨_,_,rfl,run_takeDeferred HDF.out,?_⟩⟩;obtain ⟨hi,hd,hw,hrr,ZT,hk⟩:=SE.out;have hz:=HZ.out;have hBW:=Ji.out;have g:=grownBy_putObj' X w'.heap.size (.deferred none);refine ⟨_,results_tmp rfl _ _ _,?_⟩;have e1:(Ls t).map Wq=Yb t:=Fp t;rw [e1,Fj] at ZT;rw [e1] at hi;refine ⟨W,R,v,rfl,HD.out.keep hi (Z9.putObj _ (fun hk=>?_) _),fun k hk=>(hd k hk).2.2,hw,hrr,VT (ZT.kept g (.inr fun e=>by have:=ZN ZT e;omega)) (by omega),hk.trans (Z9.putObj _ (fun h=>by have:=h.1;omega) _)⟩;rcases hk with hk|hk
  · omega
  · have:=(hd _ hk).2.1;omega
 case round =>
  rintro R pre x X hR hnl Ko ⟨rec,hrec⟩ hat hpre hx;have HAT:=hide hat;have HR:=hide hR;have HNL:=hide hnl;have Qx:=hide Ko;have HX:=hide hx;have zY:=hide hpre;clear hat hR hnl Ko hrec hx hpre;unfold encS;gi_wp2;refine ⟨Z9.refl _ _,fun o=>?_⟩;have hz:=HZ.out;have hBW:=Ji.out;obtain ⟨⟨W,Rr,v,hi,hd,hw,hrr,hb,ZT,hv⟩,hbx,hn,hk⟩:=HAT.out;clear HAT;obtain ⟨X2,hX2⟩:=eE (X.putObj (w'.heap.size+1) (.loop o));have iO:X.grownBy X2 (some (w'.heap.size+1)):=by rw [hX2];exact grownBy_putObj' _ _ _
  have hXk:Z9 (fun k=>k≠w'.heap.size+1) X X2.drew:=by rw [hX2];exact (Z9.putObj _ (fun h=>h rfl) _).trans (Z9.drew _ _)
  have hi2:Inv W Rr (s0++pre.map Wq) X2.drew:=HD.out.keep hi (hXk.mono fun k hk=>by
   rcases hk with hk|hk
   · omega
   · have:=(hd _ hk).2.1;omega)
  have hb2:Z7 X2.drew bo 28 #[v]:=hb.kept hXk (by omega);have BH:Z7 X2.drew bs 24 #[.pointer vA]:=hbx.kept hXk (by omega);have Yd:X2.drew.ownsRow (bs+3+2) 9 1 v pre.length (ZF (Xf ans s0 (pre.map Wq))):=Rt ZT hXk fun k e=>by have:=ZN ZT e;omega
  have hk2:Z9 (fun k=>k<w.heap.size/\¬ W0 k) w X2.drew:=hk.trans (hXk.mono fun k hk=>by omega)
  have hR2:∀ k,Bk R w'.heap.size k->k<X2.drew.heap.size:=fun k hk=>by
   have h1:=Qx.out;have h2:X.heap.size<=X2.drew.heap.size:=hXk.size;rcases hk with hk|hk|hk
   · have:=HR.out k hk;omega
   · omega
   · omega
  have hsz2:w'.heap.size+2<=X2.drew.heap.size:=by have h1:=Qx.out;have h2:X.heap.size<=X2.drew.heap.size:=hXk.size;omega
  have hl:=zzn HX.out;have HTR:=hide (zC x (by have:=HTL.out;omega));have HDO:=hide (HD.out.step (Wq x) (HT.out _ hl.2) (by have h1:=zY.out;have h2:=HM.out;rw [Fj] at h1;rw [List.length_append,List.length_map];omega) hi2);have NV:Hid (Z9 (Bk R w'.heap.size) X2 X2.drew):=hide (Z9.drew _ _);have S0:X2.drew.cell? ⟨bs,0,none⟩=some (.pointer vA)/\X2.drew.cell? ⟨bo,0,none⟩=some v:=⟨BH.q0 rfl,hb2.q0 rfl⟩;have HA:=hide (And.intro hd (And.intro hw (And.intro hi2 (And.intro hb2 (And.intro BH (And.intro Yd (And.intro hk2 (And.intro hR2 (And.intro hsz2 (And.intro hv (And.intro hn hrr)))))))))));rw [<- hX2];clear hi hd hw hrr hb ZT hv hbx hn hk hX2 iO hXk hi2 hb2 BH Yd hk2 hR2 hsz2 hl hz hBW;gi_wp2;refine uY 6 (S:=fun Y=>Y.cell? ⟨bs,0,none⟩=some (.pointer vA)/\Y.cell? ⟨bo,0,none⟩=some v) Yv ?_;generalize X2.drew=u0 at *;refine' TV (i:=0) (v:=_) (YU (by kernel_rfl)) rfl (by kernel_rfl) (by kernel_rfl) (by kernel_rfl) (fun _ _ _ h=>h) (by kernel_rfl) ⟨Or.inl ⟨by rfl,?VK⟩,fun _=>rfl⟩ S0 ?Uz
  case VK =>
   intro w' hSw;obtain ⟨q0,q1⟩:=hSw;go_simp;rfl
  simp only [Act.put,getElem_toArray,getElem_cons_zero,setIfInBounds_toArray,set_cons_zero,set_cons_succ];refine' TV (i:=1) (v:=_) (YU (by kernel_rfl)) rfl (by kernel_rfl) (by kernel_rfl) (by kernel_rfl) (fun _ _ _ h=>h) (by kernel_rfl) ⟨Or.inl ⟨by rfl,?VL⟩,fun _=>rfl⟩ S0 ?UA
  case VL =>
   intro w' hSw;obtain ⟨q0,q1⟩:=hSw;go_simp;rfl
  simp only [Act.put,Z6];refine' TV (i:=2) (v:=_) (YU (by kernel_rfl)) rfl (by kernel_rfl) (by kernel_rfl) (by kernel_rfl) (fun _ _ _ h=>h) (by kernel_rfl) ⟨Or.inl ⟨by rfl,?VN⟩,fun _=>rfl⟩ S0 ?UC
  case VN =>
   intro w' hSw;obtain ⟨q0,q1⟩:=hSw;go_simp;rfl
  simp only [Act.put,Z6];refine CF (i:=3) (by kernel_rfl) rfl ?_;intro K hK;rw [if_pos (by rfl)];go_simp;refine ⟨trivial,?_⟩;refine (CallsIn.inRound _ (callsIn_wide.2 (HTR.out u0))).mono ?_;rintro e y1 ⟨rfl,hy1⟩;subst hy1;refine hK.out _ _ (fun _=>S0) ?_;clear hK K HTR
  (try simp only [Act.put,Z6])
  refine CF (i:=4) (by kernel_rfl) rfl ?_;intro K hK;rw [if_pos (by rfl)];go_simp;refine ⟨trivial,?_⟩;refine (CallsIn.inRound _ (callsIn_wide.2 HDO.out)).mono ?_;rintro e X3 ⟨rfl,W',R',hi3,hW',hR',hk3⟩;clear HDO;have hz:=HZ.out;have hBW:=Ji.out;obtain ⟨hd,hw,hi2,hb2,BH,Yd,hk2,hR2,hsz2,hv,hn,hrr⟩:=HA.out;have hlt2:∀ k,W k\/Rr k->k<y1.heap.size:=fun k hk=>Wy (HD.out.cell hi2 k hk);have hlt3:∀ k,W' k\/R' k->k<X3.heap.size:=fun k hk=>Wy (HD.out.cell hi3 k hk);have hnW:∀ k,w.heap.size<=k->k<bs+3+2->¬ W k:=fun k h1 h2 h=>by have:=(hd k (.inl h)).2.1;omega
  have B3:=hb2.kept hk3 ⟨hb2.lt,hnW bo (by omega) (by omega)⟩;have S3:=BH.kept hk3 ⟨BH.lt,hnW bs (by omega) (by omega)⟩;have hvW:∀ k,v.ownBlock=some k->¬ (W k\/Rr k):=fun k e h=>(hd k h).2.2 e;have Zt:=Rt Yd hk3 fun k e=>⟨Yk Yd e,fun h=>hvW k e (.inl h)⟩;obtain ⟨an,han⟩:=eE (ans (s0++pre.map Wq) (Wq x));rw [<- han];obtain ⟨X5,Lr⟩:=eE (X3.alloc (.cells #[.string (strOf an)] 9));obtain ⟨g5,hg5⟩:=eE X3.heap.size;have pE:=bE Lr;have N5:Z7 X5 g5 9 #[.string (strOf an)]:=by rw [Lr,hg5];exact Z7.new _ _ _
  have B5:=B3.step pE;have S5:=S3.step pE;have WQ:=ZI Zt pE;have hpn:pre.length<=1000001:=by have h1:=zY.out;have h2:=HTL.out;have h3:(Yb t).length<=t.length+1:=Td t [];rw [Fj] at h1;omega
  have zij:y1.heap.size<=X3.heap.size:=hk3.size;have hsz5:X3.heap.size<=X5.heap.size:=pE.size;obtain ⟨i0,hi,hz0,hz1,hz2⟩:=info_parts RJ;obtain ⟨g6,c6,X6,hr6,VJ,N8,BJ,zqk⟩:=run_append_lies (P:=prog) X5 28 28 (bs+3+2) 9 i0 (.string ⟨#[]⟩) 1 16 underlying28 hi hz0 hz1 hz2 rfl (by decide) v pre.length _ WQ ⟨g5,0,none⟩ 1 1 [.string (strOf an)] rfl (ZB N5) (by simp [Value.oneCell']) (by omega) (by unfold maxLen;omega) (by omega) (by omega) _ rfl;have hvo:∀ k,v.ownBlock=some k->bs+5<=k:=fun k e=>by have:=ZN Yd e;omega
  have B6:Z7 X6 bo 28 #[v]:=B5.grown N8 (fun e=>by have:=hvo bo e.symm;omega);have S6:Z7 X6 bs 24 #[.pointer vA]:=S5.grown N8 (fun e=>by have:=hvo bs e.symm;omega);have pO:¬ R g6/\bs+5<=g6/\¬ (W' g6\/R' g6):=by
   rcases BJ with h|h
   · refine ⟨hv g6 h,hvo g6 h,fun hh=>?_⟩;have hlt:=Yk Yd h;rcases hh with hh|hh
     · rcases hW' g6 hh with h3|h3
       · exact hvW g6 h (.inl h3)
       · omega
     · rcases hR' g6 hh with h3|h3
       · exact hvW g6 h (.inr h3)
       · omega
   · refine ⟨fun hr=>?_,by omega,fun hh=>?_⟩
     · have:=hR2 g6 (.inl hr);omega
     · have:=hlt3 g6 hh;omega
  obtain ⟨X7,xB⟩:=eE (X6.setCell ⟨bo,0,none⟩ (.slice (some ⟨g6,0,none⟩) (pre.length+1) c6));have B7:Z7 X7 bo 28 #[.slice (some ⟨g6,0,none⟩) (pre.length+1) c6]:=by rw [xB];exact B6.set 0 _
  have S7:Z7 X7 bs 24 #[.pointer vA]:=by rw [xB];exact S6.far (p:=⟨bo,0,none⟩) (by dsimp only;omega) _
  have XU:X7.ownsRow (bs+3+2) 9 1 (.slice (some ⟨g6,0,none⟩) (pre.length+1) c6) (pre++[x]).length (ZF (Xf ans s0 ((pre++[x]).map Wq))):=by
   have e:(pre++[x]).length=pre.length+1:=(by simp);rw [List.map_append,List.map_cons,List.map_nil,Nj,Tx,<- han,e,xB];exact Yt VJ (by simp [Value.ownBlock];omega) _
  have hgb:∀ (P:Nat->Prop),(∀ k,P k->k<X3.heap.size/\v.ownBlock≠some k/\k≠bo)->Z9 P X3 X7:=fun P hP=>by
   rw [xB];refine ((Z9.of_below pE fun k hk=>(hP k hk).1).trans ⟨N8.os,N8.tape,N8.output,N8.size,fun k hk=>N8.block k (Nat.lt_of_lt_of_le (hP k hk).1 hsz5) (Ne.symm (hP k hk).2.1)⟩).trans (Z9.setCell (fun hk=>(hP bo hk).2.2 rfl) _ _ _)
  have hkB:Z9 (Bk R w'.heap.size) y1 X7:=(hk3.mono fun k hk=>⟨hR2 k hk,fun h=>by
   rcases hk with hk|hk|hk
   · exact (hd k (.inl h)).1 hk
   · exact hnW k (by omega) (by omega) h
   · exact hnW k (by omega) (by omega) h⟩).trans (hgb _ fun k hk=>⟨Nat.lt_of_lt_of_le (hR2 k hk) zij,fun e=>by
     rcases hk with hk|hk|hk
     · exact hv k e hk
     · have:=hvo k e;omega
     · have:=hvo k e;omega,fun e=>by
     rcases hk with hk|hk|hk
     · exact hn (e ▸ hk)
     · omega
     · omega⟩)
  have hkI:Z9 (fun k=>k<B\/W' k\/R' k) X3 X7:=hgb _ fun k hk=>by
   have zya:w.heap.size<=y1.heap.size:=hk2.size;rcases hk with hk|hk
   · exact ⟨by omega,fun e=>by have:=hvo k e;omega,by omega⟩
   · refine ⟨hlt3 k hk,fun e=>?_,fun e=>?_⟩
     · have hlt:=Yk Yd e;rcases hk with hk|hk
       · rcases hW' k hk with h3|h3
         · exact hvW k e (.inl h3)
         · omega
       · rcases hR' k hk with h3|h3
         · exact hvW k e (.inr h3)
         · omega
     · have hlt:=hb2.lt;rcases hk with hk|hk
       · rcases hW' k hk with h3|h3
         · have:=(hd k (.inl h3)).2.1;omega
         · omega
       · rcases hR' k hk with h3|h3
         · have:=(hd k (.inr h3)).2.1;omega
         · omega
  have hi7:Inv W' R' (s0++(pre++[x]).map Wq) X7:=by
   have h:=HD.out.keep hi3 hkI;rw [List.map_append,List.map_cons,List.map_nil,<- List.append_assoc];exact h
  have HF:Hid (Z9 (Bk R w'.heap.size) y1 X7/\tq w bs bo (bs+3) (.pointer vA) s0 ans Inv W0 R0 R (pre++[x]) X7):=by
   refine hide ⟨hkB,
   ⟨⟨W',R',_,hi7,fun k hk=>?_,fun k hk=>?_,fun k hk=>?_,B7,XU,fun k e=>by
      have:g6=k:=(by have:some g6=some k:=e;exact Option.some.inj this);subst this
      exact pO.1⟩,S7,hn,?_⟩⟩
   · refine ⟨fun hr=>?_,?_,fun e=>?_⟩
     · have h2:=hR2 k (.inl hr);rcases hk with hk|hk
       · rcases hW' k hk with h3|h3
         · exact (hd k (.inl h3)).1 hr
         · omega
       · rcases hR' k hk with h3|h3
         · exact (hd k (.inr h3)).1 hr
         · omega
     · rcases hk with hk|hk
       · rcases hW' k hk with h3|h3
         · exact (hd k (.inl h3)).2.1
         · exact .inr (by omega)
       · rcases hR' k hk with h3|h3
         · exact (hd k (.inr h3)).2.1
         · exact .inr (by omega)
     · have:g6=k:=(by have:some g6=some k:=e;exact Option.some.inj this);subst this;exact pO.2.2 hk
   · rcases hW' k hk with h3|h3
     · exact hw k h3
     · have zya:w.heap.size<=y1.heap.size:=hk2.size;exact .inr (by omega)
   · rcases hR' k hk with h3|h3
     · exact hrr k h3
     · have zya:w.heap.size<=y1.heap.size:=hk2.size;exact .inr (by omega)
   · refine (hk2.trans (hk3.mono fun k hk=>?_)).trans (hgb _ fun k hk=>?_)
     · have zya:w.heap.size<=y1.heap.size:=hk2.size;refine ⟨by omega,fun h=>?_⟩;rcases hw k h with h3|h3
       · exact hk.2 h3
       · omega
     · have zya:w.heap.size<=y1.heap.size:=hk2.size;exact ⟨by omega,fun e=>by have:=hvo k e;omega,by omega⟩
  have S3':X3.cell? ⟨bs,0,none⟩=some (.pointer vA)/\X3.cell? ⟨bo,0,none⟩=some v:=⟨S3.q0 rfl,B3.q0 rfl⟩;have S5':X5.cell? ⟨bs,0,none⟩=some (.pointer vA)/\X5.cell? ⟨bo,0,none⟩=some v:=⟨S5.q0 rfl,B5.q0 rfl⟩;have c46:=B6.q0 rfl;have f46:=B6.frozen 0;have zgi:=Lr.symm;have zcl:=xB.symm;have zcp:=hg5.symm;clear hrr Lr xB hg5 hz hBW hd hw hi2 hb2 BH Yd hk2 hR2 hsz2 hv hn hlt2 hlt3 hnW B3 S3 hvW Zt han pE N5 B5 S5 WQ hpn zij hsz5 hi hz0 hz1 hz2 VJ N8 BJ zqk hvo B6 S6 pO B7 S7 XU hgb hkB hkI hi7 hi3 hW' hR' hk3;refine hK.out _ _ (fun _=>S3') ?_;clear hK K
  (try simp only [Act.put,Z6])
  refine CF (i:=5) (by kernel_rfl) rfl ?_;intro K hK;rw [if_pos (by rfl)];go_simp;refine hK.out _ _ (fun _=>S5') ?_;clear hK K
  (try simp only [Act.put,Z6])
  refine CF (i:=6) (by kernel_rfl) rfl ?_;intro K hK;rw [if_pos (by rfl)];refine Ai (.tmp 10) (.tmp 15) 28 rfl v _ rfl rfl hr6 ?_;refine hK.out _ _ (fun h=>absurd h (by decide)) ?_;clear hK K
  (try simp only [Act.put,Z6])
  refine CF (i:=7) (by kernel_rfl) rfl ?_;intro K hK;rw [if_pos (by rfl)];go_simp;refine hK.out _ _ (fun h=>absurd h (by decide)) ?_;clear hK K
  (try simp only [Act.put,Z6])
  refine zvz (by kernel_rfl) ?_ _;refine Qc.intro ?_;exact ⟨NV.out.trans HF.out.1,HF.out.2⟩
end
end
end Go.Proofs.YthnenedoblncjaaGreatDoor