/- Hex Unhex -/
import Derived.Deep.AppendLies
import Derived.Deep.RegionLaw
import Derived.Deep.RegionWith
import Derived.Laws.BytesArg
import Derived.Lib.OthersKept
import Derived.Shelf.Strings.SlTrimAscii
import Derived.Test.YthnenedoblncjaaGreatDoorPkR11
import Derived.Test.YthnenedoblncjaaGreatDoorPkR20
import Derived.Test.YthnenedoblncjaaGreatDoorPkR36
import Derived.Test.YthnenedoblncjaaGreatDoorPkR37
set_option maxRecDepth 1000000
set_option maxHeartbeats 8000000
namespace Go.Proofs.YthnenedoblncjaaGreatDoor
open Go.Proofs.Tryz
section
open Go.RowKit Go.Shelf
theorem iN(k:Nat)(h:k<16)(w:World):(Instr.index 9 (.string { data:=#[48,49,50,51,52,53,54,55,56,57,97,98,99,100,101,102] }) (.int .u8 (k:Int))).run prog w=.ok (.int .u8 ((Ug k).toNat:Int)) w:=by
 have h1:k=0\/k=1\/k=2\/k=3\/k=4\/k=5\/k=6\/k=7\/k=8\/k=9\/k=10\/k=11\/k=12\/k=13\/k=14\/k=15:=by omega
 rcases h1 with rfl|rfl|rfl|rfl|rfl|rfl|rfl|rfl|rfl|rfl|rfl|rfl|rfl|rfl|rfl|rfl <;> rfl
theorem fK{c:Int}(h0:0<=c)(h1:c<=255):Op.shift .shr .u8 c .u64 4=pure (.int .u8 ((c.toNat / 16:Nat):Int)):=by
 have e:=shift_shr .u8 .u64 c 4 (by decide) (by decide);rw [e]
 congr 2
 have:(2:Int) ^ (4:Int).toNat=16:=by decide
 rw [this];omega
theorem fI{c:Int}(h0:0<=c)(h1:c<=255):Op.intBits .and .u8 c 15=pure (.int .u8 ((c.toNat % 16:Nat):Int)):=by
 rw [intBits_and]
 congr 2
 have h:∀ i:Fin 256,Go.bits .and .u8 (i.val:Int) 15=((i.val % 16:Nat):Int):=by decide +kernel
 have h2:=h ⟨c.toNat,by omega⟩;dsimp only at h2;rw [show ((c.toNat:Nat):Int)=c from by omega] at h2;exact h2
theorem zpu:Builder.Extra prog Tryz.lays167_ren where
 sizeBuilder:=by kernel_rfl
 liesBuilder:=by kernel_rfl
 t5:=underlying5
 a5:=fun w=>by kernel_rfl
 z5:=fun w=>by kernel_rfl
 v5:=fun w=>by kernel_rfl
 infoByte:=by kernel_rfl
 cellsByte:=by kernel_rfl
 sizeByte:=by kernel_rfl
 neB5:=by decide
def Bd(B b:Nat)(l:List UInt8)(w:World):Prop:=Lib.IsBuilder 240 5 B b (Lib.byteCells l) w
theorem Qq(B b:Nat)(l:List UInt8)(c:UInt8)(w:World)(h:Bd B b l w)(hl:l.length<=100000000)(hB:B<=w.heap.size):
 Calls prog 220 #[.pointer (some ⟨b,0,none⟩),.int .u8 (c.toNat:Int)] w fun e w'=>e=.returned .nilIface/\Bd B b (l++[c]) w'/\Below B w w':=by
 refine (Any.Builder_WriteByte Tryz.lays167 zpu B b _ (c.toNat:Int) w h (by rw [Lib.byteCells_length];omega) hB).mono ?_;rintro e w' ⟨rfl,h1,h2⟩;refine ⟨rfl,?_,h2⟩;unfold Bd;rw [Lib.byteCells_append];exact .inr h1
theorem zpv:Builder.Extra prog Tryz.lays169_ren where
 sizeBuilder:=by kernel_rfl
 liesBuilder:=by kernel_rfl
 t5:=underlying5
 a5:=fun w=>by kernel_rfl
 z5:=fun w=>by kernel_rfl
 v5:=fun w=>by kernel_rfl
 infoByte:=by kernel_rfl
 cellsByte:=by kernel_rfl
 sizeByte:=by kernel_rfl
 neB5:=by decide
theorem Aj(B b:Nat)(l:List UInt8)(w:World)(h:Bd B b l w)(hB:B<=w.heap.size):
 Calls prog 212 #[.pointer (some ⟨b,0,none⟩)] w fun e w'=>e=.returned (.string (strOf l))/\Below B w w' :=
 Any.Builder_String_any Tryz.lays169 zpv B b l w h hB
theorem uo(bs:List Int)(A:Option Addr)(c:Nat)(w:World)(hs:Sl w w.heap.size A (ZU bs))(hby:By bs)(hn:bs.length<=1000000):
 Calls prog 153 #[.slice A bs.length c] w fun e w'=>e=.returned (.string (strOf (WC bs)))/\Below w.heap.size w w':=by
 have HS:=hide hs;have Uq:=hide hby;clear hs hby;have hf0:=Lib.fresh_isBuilder 240 5 w;have HF:=hide hf0;clear hf0;go_enter func153,ntmps153;go_wp2
 go_loopw [8] (fun i wr=>∃ k:Nat,k<=bs.length/\i=.int .i64 (k:Int)/\Bd w.heap.size w.heap.size (WC (bs.take k)) wr/\Below w.heap.size w wr)
  (fun i _=>bs.length - (intOf i).toNat)
 case atStart=>exact ⟨0,Nat.zero_le _,rfl,HF.out,bA⟩
 case round =>
  obtain ⟨k,hk,rfl,hbd,hbr⟩:=hrel;have Xe:=hide hbd;have RN:=hide hbr;have hsz:=hbr.size;clear hbd
  by_cases hlt:k<bs.length
  · obtain ⟨x,hx⟩:∃ x,bs[k]?=some x:=⟨_,List.getElem?_eq_getElem hlt⟩;have hxb:=Uq.out x (List.mem_of_getElem? hx);obtain ⟨b,off,rfl,hB,hc⟩:=(HS.out.below hbr).RU (by omega);have c0:=hc k x hx;have s1:=fK hxb.1 (by omega);have s2:=fI hxb.1 (by omega);have i1:=fun wx=>iN (x.toNat / 16) (by omega) wx;have i2:=fun wx=>iN (x.toNat % 16) (by omega) wx;obtain ⟨n1,hn1⟩:∃ n,n=((x.toNat / 16:Nat):Int):=⟨_,rfl⟩;obtain ⟨n2,hn2⟩:∃ n,n=((x.toNat % 16:Nat):Int):=⟨_,rfl⟩;obtain ⟨d1,hd1⟩:∃ d,d=Ug (x.toNat / 16):=⟨_,rfl⟩;obtain ⟨d2,hd2⟩:∃ d,d=Ug (x.toNat % 16):=⟨_,rfl⟩;obtain ⟨z1,hz1⟩:∃ z,z=(d1.toNat:Int):=⟨_,rfl⟩;obtain ⟨z2,hz2⟩:∃ z,z=(d2.toNat:Int):=⟨_,rfl⟩;simp only [<- hn1,<- hn2,<- hd1,<- hd2,<- hz1,<- hz2] at s1 s2 i1 i2;have HZ1:=hide hz1;have HZ2:=hide hz2;have hlen:(WC (bs.take k)).length<=2000000:=by rw [Ki,List.length_take];omega
    have Lh:Hid (WC (bs.take (k+1))=(WC (bs.take k)++[d1])++[d2]):=hide (by
     rw [hd1,hd2,List.take_add_one,hx,iL,List.append_assoc];rfl)
    have HL:=hide hlen;clear hlen hc hbr hn1 hn2 hd1 hd2 hz1 hz2;go_wp2_with fail;rw [HZ1.out];refine (Qq w.heap.size w.heap.size _ d1 wr Xe.out (by have:=HL.out;omega) hsz).mono ?_;rintro e w1 ⟨rfl,h1,hb1⟩;have zaw:=hide (RN.out.trans hb1);have zau:=hide h1;have hsz1:=Nat.le_trans hsz hb1.size;clear h1 hb1 c0;go_wp2_with fail;rw [HZ2.out];refine (Qq w.heap.size w.heap.size _ d2 w1 zau.out (by have:=HL.out;rw [List.length_append,List.length_singleton];omega) hsz1).mono ?_;rintro e w2 ⟨rfl,h2,hb2⟩;have zax:=hide (zaw.out.trans hb2);have zav:=hide h2;clear h2 hb2 s1 s2 i1 i2;go_wp2;go_roundw
    case rel=>exact ⟨k+1,by omega,by go_num,by rw [Lh.out];exact zav.out,zax.out⟩
    case measure=>simp [intOf];omega
  · obtain rfl:k=bs.length:=(by omega);rw [List.take_length] at Xe;clear hbr;go_wp2_with fail;refine (Aj w.heap.size w.heap.size _ wr Xe.out hsz).mono ?_;rintro e w1 ⟨rfl,hb1⟩;go_wp2;go_ret;exact ⟨rfl,RN.out.trans hb1⟩
theorem yA(n:Nat)(hn:n<=100000000)(w:World):(Instr.makeSlice 49 (.int .i64 (n:Int)) (.int .i64 (n:Int))).run prog w=.ok (.slice (some ⟨w.heap.size,0,none⟩) n n) (w.alloc (.cells (ZU (List.replicate n 0)).toArray 5)):=by
 obtain ⟨i,hi,hz0,hz1,hz2⟩:=info_parts UE;have h:=run_make (P:=prog) w 49 5 i _ underlying49 hi hz0 .i64 .i64 n n (by omega) (Int.le_refl _) (by rw [hz2];omega) (by omega);rw [hz1] at h;have e:madeCells (Value.cells (.int .u8 0)) (n*1)=(ZU (List.replicate n 0)).toArray:=by
  apply Array.ext
  · simp [size_madeCells,ZU]
  · intro j h1 h2;simp [madeCells,ZU,Value.cells,Nat.mod_one]
 rw [<- e];simpa using h
theorem zpn(l:List Int)(k:Nat)(z:Int):(ZU l).toArray.setIfInBounds k (.int .u8 z)=(ZU (l.set k z)).toArray:=by
 unfold ZU;rw [List.setIfInBounds_toArray,List.map_set]
theorem zmq(l:List UInt8):(strOf l).toList=l:=by
 unfold strOf;simp
theorem MH{l:List UInt8}{T:ByteArray}(hT:T=strOf l):T.toList.isEmpty=l.isEmpty:=by rw [hT,zmq]
theorem Iw(t:List UInt8)(hs:t.length<=1000000000)(w:World):
 Calls prog 198 #[.string (strOf t),.string { data:=#[48,49,50,51,52,53,54,55,56,57,97,98,99,100,101,102] }] w fun e w'=>∃ X:ByteArray,e=.returned (.string X)/\(X.toList=[] ↔ t.all Jk=true)/\Below w.heap.size w w':=by
 have hasc:∀ (j:Nat) b,(ByteArray.mk #[48,49,50,51,52,53,54,55,56,57,97,98,99,100,101,102]).data.toList[j]?=some b->b.toNat<128:=fun j b h=>by
  have h1:(ByteArray.mk #[48,49,50,51,52,53,54,55,56,57,97,98,99,100,101,102]).data.toList.all (fun b=>decide (b.toNat<128))=true:=by decide
  exact of_decide_eq_true (List.all_eq_true.1 h1 b (List.mem_of_getElem? h))
 refine (Any.strings_Trim_laid Tryz.lays160 (by kernel_rfl) (strOf t) { data:=#[48,49,50,51,52,53,54,55,56,57,97,98,99,100,101,102] } w (by rw [ZK];omega) (by decide) hasc).mono ?_;rintro e w' ⟨rfl,hb⟩;refine ⟨_,rfl,?_,hb⟩;have h1:=sw t [48,49,50,51,52,53,54,55,56,57,97,98,99,100,101,102];have h2:(([48,49,50,51,52,53,54,55,56,57,97,98,99,100,101,102]:List UInt8).contains ·)=Jk:=by
  unfold Jk;rw [pI]
 rw [h2] at h1;rw [<- h1];exact Iff.of_eq (congrArg (·=[]) (zmq _))
theorem zqe{t:List UInt8}{T:ByteArray}(hT:T=strOf t){k:Nat}{b:UInt8}(hb:t[k]?=some b)(h:k<T.size):T[k]=b:=by
 subst hT;have h2:k<t.length:=by rwa [ZK] at h
 have h3:=(List.getElem?_eq_some_iff.1 hb).2;simpa [strOf,ByteArray.getElem_eq_getElem_data] using h3
theorem sD(t:List UInt8)(hs:t.length<=100000000)(hg:Ea t=false)(w:World):
 Calls prog 156 #[.string (strOf t)] w fun e w'=>e=.returned (.tuple #[.slice none 0 0,.bool false])/\Below w.heap.size w w':=by
 obtain ⟨T,hT⟩:=eE (strOf t);have TR:=hide (Iw t (by omega) w);have HZ:Hid (T.size=t.length):=hide (by rw [hT,ZK]);have HE:Hid (T.toList.isEmpty=t.isEmpty):=hide (MH hT);rw [<- hT] at TR ⊢;have HT:=hide hT;clear hT;go_enter func156,ntmps156;cases h0:T.toList.isEmpty with
 | true =>
   go_wp2;go_ret2;exact ⟨rfl,Below.refl _ _⟩
 | false =>
   by_cases hp:t.length % 2=0
   · have hm:((T.size:Nat):Int) % 2=0:=(by rw [HZ.out];omega);have HP:=hide hp;clear hp;go_wp2_with fail;refine TR.out.mono ?_;rintro e w1 ⟨X,rfl,hX,hb1⟩;cases hx0:X.toList.isEmpty with
     | true =>
       exfalso
       have h1:=hX.1 (by simpa using hx0);unfold Ea at hg;rw [h1,decide_eq_true HP.out,<- HE.out,h0] at hg;cases hg
     | false =>
       clear hX;go_wp2;go_ret2;exact ⟨rfl,hb1⟩
   · have hm:((T.size:Nat):Int) % 2=1:=(by rw [HZ.out];omega);clear hp;go_wp2;go_ret2;exact ⟨rfl,Below.refl _ _⟩
theorem zfv{l:List Int}{k:Nat}{z:Int}(h:l[k]?=some z):(ZU l).toArray[k]?=some (.int .u8 z):=by
 unfold ZU;rw [List.getElem?_toArray,List.getElem?_map,h];rfl
theorem zzl(d:Nat)(h:d<16)(w:World):
 Calls prog 87 #[.string { data:=#[48,49,50,51,52,53,54,55,56,57,97,98,99,100,101,102] },.int .u8 ((Ug d).toNat:Int)] w fun e w'=>e=.returned (.int .i64 (d:Int))/\w'=w:=by
 refine (Any.strings_IndexByte Tryz.lays137 { data:=#[48,49,50,51,52,53,54,55,56,57,97,98,99,100,101,102] } ((Ug d).toNat:Int) w).mono ?_;rintro e w' ⟨rfl,rfl⟩;refine ⟨?_,rfl⟩;have h1:∀ i:Fin 16,Lib.indexByte [48,49,50,51,52,53,54,55,56,57,97,98,99,100,101,102] (((Ug i.val).toNat:Int)).toNat.toUInt8=(i.val:Int):=by decide +kernel
 exact congrArg (fun z=>Ending.returned (Value.int .i64 z)) (h1 ⟨d,h⟩)
theorem zzy{i:Nat}(h:i<16):Op.shift .shl .u8 (i:Int) .u64 4=pure (.int .u8 (16*(i:Int))):=by
 rw [shift_shl .u8 .u64 (i:Int) 4 (by decide) (by decide)]
 congr 2
 rw [IntKind.wrap_u8];have:(2:Int) ^ (4:Int).toNat=16:=by decide
 rw [this];omega
theorem ko{i j:Nat}(hi:i<16)(hj:j<16):Go.bits .or .u8 (16*(i:Int)) (j:Int)=16*(i:Int)+(j:Int):=by
 have h:∀ a b:Fin 16,Go.bits .or .u8 (16*(a.val:Int)) (b.val:Int)=16*(a.val:Int)+(b.val:Int):=by decide +kernel
 exact h ⟨i,hi⟩ ⟨j,hj⟩
theorem zI(bs:List Int)(hby:By bs)(hne:bs≠[])(hn:bs.length<=1000000)(w:World):
 Calls prog 156 #[.string (strOf (WC bs))] w fun e w'=>∃ A,e=.returned (.tuple #[.slice A bs.length bs.length,.bool true])/\Sl w' w'.heap.size A (ZU bs)/\Below w.heap.size w w':=by
 obtain ⟨t,ht⟩:=eE (WC bs);have F9:Hid (t.length=2*bs.length):=hide (by rw [ht,Ki]);have SE:Hid (t.all Jk=true):=hide (by rw [ht];exact iK hby)
 have HAT:Hid (∀ k b,t[k]?=some b->∃ d,d<16/\b=Ug d/\(k % 2=0->d=(bs.getD (k / 2) 0).toNat / 16)/\(k % 2=1->d=(bs.getD (k / 2) 0).toNat % 16)):=hide fun k b hb=>by
  have hk:k<t.length:=(List.getElem?_eq_some_iff.1 hb).1;have hk2:k / 2<bs.length:=by have:=F9.out;omega
  have hg:bs[k / 2]?=some (bs.getD (k / 2) 0):=by rw [List.getD_eq_getElem?_getD,List.getElem?_eq_getElem hk2];rfl
  have hxb:=hby _ (List.mem_of_getElem? hg);obtain ⟨e1,e2⟩:=pJ hg;rw [ht] at hb
  by_cases hp:k % 2=0
  · rw [show 2*(k / 2)=k from by omega,hb] at e1;exact ⟨_,by omega,Option.some.inj e1,fun _=>rfl,fun h=>by omega⟩
  · rw [show 2*(k / 2)+1=k from by omega,hb] at e2;exact ⟨_,by omega,Option.some.inj e2,fun h=>by omega,fun _=>rfl⟩
 obtain ⟨T,hT⟩:=eE (strOf t);have TR:=hide (Iw t (by have:=F9.out;omega) w);have HZ:Hid (T.size=2*bs.length):=hide (by rw [hT,ZK,F9.out]);have h0:T.toList.isEmpty=false:=by
  rw [MH hT,ht];cases bs with
  | nil=>exact absurd rfl hne
  | cons b bs=>rfl
 rw [<- ht,<- hT];rw [<- hT] at TR;have HT:=hide hT;clear hT ht;have hm:((T.size:Nat):Int) % 2=0:=by rw [HZ.out];omega
 have hmk:=fun wx=>yA bs.length (by omega) wx;obtain ⟨n,hnn⟩:=eE bs.length;rw [<- hnn] at hmk HZ ⊢;have hq:((T.size:Nat):Int) / 2=(n:Int):=by rw [HZ.out];omega
 have HN:=hide hnn;have Uq:=hide hby;have hn':n<=1000000:=by omega
 clear hnn hne hby hn;go_enter func156,ntmps156;go_wp2_with fail;refine TR.out.mono ?_;rintro e w1 ⟨X,rfl,hX,hb1⟩;have hx0:X.toList.isEmpty=true:=by rw [List.isEmpty_iff];exact hX.2 SE.out
 obtain ⟨gb,hgb⟩:=eE w1.heap.size;obtain ⟨w2,hw2⟩:=eE (w1.alloc (.cells (ZU (List.replicate n 0)).toArray 5));have zhh:=hmk w1;rw [<- hw2,<- hgb] at zhh;have hb2:Below w.heap.size w w2:=by rw [hw2];exact Z5 hb1 _
 have B2:Z7 w2 gb 5 (ZU (zG bs 0)).toArray:=by rw [mF,<- HN.out,hw2,hgb];exact Z7.new _ _ _
 have hlw:w.heap.size<=gb:=by rw [hgb];exact hb1.size
 have hz2:w2.heap.size=gb+1:=by rw [hw2,hgb];simp
 have HB2:=hide hb2;have HX2:=hide B2;have HZ2:=hide hz2;clear hX hb1 hgb hw2 hmk hb2 B2 TR hz2;go_wp2;clear zhh hm hq hx0 h0;obtain ⟨it,hit⟩:=eE w2.heap.size;rw [<- hit];have HIT:Hid (it=gb+1):=hide (by rw [hit,HZ2.out]);have HW2:=hide hit;clear hit
 go_loopw [] (fun wr=>∃ k:Nat,k<=T.size/\Z7 wr gb 5 (ZU (zG bs k)).toArray/\wr.heap[it]?=some (.stringIter T k)/\Below w.heap.size w wr)
  (fun wr=>T.size - wr.iterPos it)
 case atStart =>
  refine ⟨0,Nat.zero_le _,HX2.out.alloc _,?_,Z5 HB2.out _⟩;rw [HW2.out];have:=World.iter_heap w2 T 0;simpa using this
 case round =>
  obtain ⟨k,hk,hbd,hit2,hbr⟩:=hrel
  by_cases hlt:k<T.size
  · obtain ⟨b,hb⟩:∃ b,t[k]?=some b:=⟨_,List.getElem?_eq_getElem (by have:=F9.out;have:=HZ.out;have:=HN.out;omega)⟩;obtain ⟨d,hd,hbD,hd0,hd1⟩:=HAT.out k b hb;have pq:T[k]=b:=zqe HT.out hb hlt;have hasc:(T[k]'hlt).toNat<128:=by
     rw [pq];exact EJ b (by have:=List.all_eq_true.1 SE.out b (List.mem_of_getElem? hb);unfold Jk at this;exact List.contains_iff_mem.1 this)
    have hnx:=fun ty=>Lib.run_next_ascii_at (P:=prog) wr it T k ty hit2 hlt hasc;obtain ⟨w3,hw3⟩:=eE (wr.iterAt it T (k+1));rw [<- hw3] at hnx;have hit3:w3.heap[it]?=some (.stringIter T (k+1)):=(by rw [hw3];exact Lib.iterAt_heap wr it T k (k+1) hit2);have zhg:w.heap.size<=it:=(by have:=HIT.out;omega);have hb3:Below w.heap.size w w3:=(by rw [hw3];exact Lib.below_iterAt hbr zhg T (k+1));have B3:Z7 w3 gb 5 (ZU (zG bs k)).toArray:=by
     rw [hw3];exact (Lib.iterAt_other wr it gb T (k+1) (by have:=HIT.out;omega)).trans hbd
    -- the byte that the digit goes to
    obtain ⟨h,hh⟩:=eE (k / 2);have hhn:h<bs.length:=(by have:=HZ.out;have:=HN.out;omega);obtain ⟨y,hy⟩:=eE (bs.getD h 0);have hyb:0<=y/\y<=255:=by
     have:=Uq.out y (by rw [hy,List.getD_eq_getElem?_getD,List.getElem?_eq_getElem hhn];exact List.getElem_mem hhn);omega
    have hat:=zvr bs (i:=k) (by rw [<- hh];exact hhn);have hst:=mE bs k;rw [<- hh,<- hy] at hat hst hd0 hd1;obtain ⟨i,hi⟩:∃ i:Nat,i=if k % 2=0 then 0 else y.toNat / 16:=⟨_,rfl⟩;have zqh:i<16:=(by rw [hi];split <;> omega);have hiv:(if k % 2=0 then (0:Int) else y / 16)=(i:Int):=(by rw [hi];split <;> omega);have hrv:(if k % 2=0 then y / 16 else y)=16*(i:Int)+(d:Int):=by
     rw [hi]
     by_cases hp:k % 2=0
     · have:=hd0 hp;rw [if_pos hp,if_pos hp];omega
     · have:=hd1 (by omega);rw [if_neg hp,if_neg hp];omega
    rw [hiv] at hat;rw [hrv] at hst;have s1:=zzy zqh;obtain ⟨iz,hiz⟩:∃ z,z=(i:Int):=⟨_,rfl⟩;obtain ⟨dz,hdz⟩:∃ z,z=(d:Int):=⟨_,rfl⟩;obtain ⟨v4,hv4⟩:∃ z,z=16*iz:=⟨_,rfl⟩;obtain ⟨r,hr⟩:∃ z,z=v4+dz:=⟨_,rfl⟩;obtain ⟨bz,hbz⟩:∃ z,z=((Ug d).toNat:Int):=⟨_,rfl⟩;have HI:=hide (fun wx=>zzl d hd wx);rw [<- hiz] at s1 hat hst;rw [<- hdz] at hst HI;rw [<- hbz] at HI;rw [<- hv4] at s1 hst;rw [<- hr] at hst;have e3:dz % 256=dz:=(by omega);have hq:((k:Nat):Int) / 2=(h:Int):=(by omega);have hhi:(h:Int)<(n:Int):=(by have:=HN.out;omega);have hki:(k:Int)<(T.size:Int):=(by omega);have hwh:IntKind.i64.wrap (h:Int)=(h:Int):=by rw [IntKind.wrap_i64];omega
    have ix:∀ wx,(Instr.index 9 (.string T) (.int .i64 (k:Int))).run prog wx=.ok (.int .u8 bz) wx:=fun wx=>by
     rw [run_index_string wx _ _ _ _ underlying9,dif_pos ⟨by omega,by omega⟩];have:T[((k:Nat):Int).toNat]'(by omega)=b:=pq;rw [this,hbD,hbz]
    have z0:=B3.cell (zfv hat);have f0:=B3.frozen h;have B4:=B3.set h (.int .u8 r);rw [zpn,<- hst] at B4;obtain ⟨w4,hw4⟩:=eE ((w3.setCell ⟨gb,h,none⟩ (.int .u8 r)).drew);have HX4:Hid (Z7 w4 gb 5 (ZU (zG bs (k+1))).toArray):=hide (by rw [hw4];exact B4.drew)
    have LM:Hid (Below w.heap.size w w4):=hide (by
     rw [hw4];exact ZV (hb3.setCell (by have:=HIT.out;dsimp only;omega) _))
    have zqj:w4.heap[it]?=some (.stringIter T (k+1)):=by
     rw [hw4];exact (Below.heap_setCell w3 ⟨gb,h,none⟩ (.int .u8 r) it (by have:=HIT.out;dsimp only;omega)).trans hit3
    have HM:Hid (T.size - w4.iterPos it<T.size - wr.iterPos it):=hide (by
     simp only [World.iterPos,zqj,hit2];omega)
    have HI4:=hide zqj;have HW4:=hide hw4;have hwd:IntKind.u8.wrap dz=dz:=(by rw [IntKind.wrap_u8];exact e3);have hor:Go.bits .or .u8 v4 dz=r:=(by rw [hv4,hiz,hdz,hr,hv4,hiz,hdz];exact ko zqh hd);have HK:=hide hlt;clear hw4 zqj B3 B4 hst hat hv4 hr hiz hdz hbz hd0 hd1 hi hiv hrv zqh hbD pq hasc hy hh hhn hb3 hit3 hw3 hit2 hbd hbr hb hd hyb zhg;go_wp2_with fail
    go_region_law (first|(go_simp;go_at_call 87;refine (HI.out _).mono ?_;rintro e w5 ⟨rfl,rfl⟩))
    all_goals
     rw [<- HW4.out];go_wp2;go_roundw
     case rel=>exact ⟨k+1,by have:=HK.out;omega,HX4.out,HI4.out,LM.out⟩
     case measure=>exact HM.out
  · have hnx:∀ ty,(Instr.next (.pointer (some ⟨it,0,none⟩)) true ty).run prog wr=_:=fun ty=>Lib.run_next_end_at wr it T k ty hit2 hlt;obtain rfl:k=T.size:=(by omega);have Xe:=hide hbd;have RN:=hide hbr;clear hbd hbr hit2;go_wp2;go_ret2;rw [HZ.out,HN.out,bN] at Xe;exact ⟨some ⟨gb,0,none⟩,rfl,Sl.mk Xe.out.lt fun j u hu=>by rw [Nat.zero_add];exact Xe.out.cell (by simpa using hu),RN.out⟩
end
end Go.Proofs.YthnenedoblncjaaGreatDoor