/- Hex Unhex -/
import Derived.Deep.AppendLies
import Derived.Deep.RegionLaw
import Derived.Deep.RegionWith
import Derived.Lib.OthersKept
import Derived.Shelf.Strings.SlTrimAscii
import Derived.Test.YthnenedoblncjaaGreatDoorPkA17
import Derived.Test.YthnenedoblncjaaGreatDoorPkA19
import Derived.Test.YthnenedoblncjaaGreatDoorPkA20
import Derived.Test.YthnenedoblncjaaGreatDoorPkA21
set_option maxRecDepth 1000000
set_option maxHeartbeats 8000000
namespace Go.Proofs.YthnenedoblncjaaGreatDoor
open Go.Proofs.Tryz
section
open Go.RowKit Go.Shelf
theorem Il(k:Nat)(h:k<16)(w:World):(Instr.index 9 (.string { data:=#[48,49,50,51,52,53,54,55,56,57,97,98,99,100,101,102] }) (.int .u8 (k:Int))).run prog w=.ok (.int .u8 ((Ug k).toNat:Int)) w:=by
 have h1:k=0\/k=1\/k=2\/k=3\/k=4\/k=5\/k=6\/k=7\/k=8\/k=9\/k=10\/k=11\/k=12\/k=13\/k=14\/k=15:=by omega
 rcases h1 with rfl|rfl|rfl|rfl|rfl|rfl|rfl|rfl|rfl|rfl|rfl|rfl|rfl|rfl|rfl|rfl <;> rfl
theorem rF{c:Int}(h0:0<=c)(h1:c<=255):Op.shift .shr .u8 c .u64 4=pure (.int .u8 ((c.toNat / 16:Nat):Int)):=by
 have e:=shift_shr .u8 .u64 c 4 (by decide) (by decide);rw [e]
 congr 2
 have:(2:Int) ^ (4:Int).toNat=16:=by decide
 rw [this];omega
theorem rD{c:Int}(h0:0<=c)(h1:c<=255):Op.intBits .and .u8 c 15=pure (.int .u8 ((c.toNat % 16:Nat):Int)):=by
 rw [intBits_and]
 congr 2
 have h:∀ i:Fin 256,Go.bits .and .u8 (i.val:Int) 15=((i.val % 16:Nat):Int):=by decide +kernel
 have h2:=h ⟨c.toNat,by omega⟩;dsimp only at h2;rw [show ((c.toNat:Nat):Int)=c from by omega] at h2;exact h2
theorem bM:Builder.Extra prog Tryz.lays167_ren where
 sizeBuilder:=by kernel_rfl
 liesBuilder:=by kernel_rfl
 t5:=underlying5
 a5:=fun w=>by kernel_rfl
 z5:=fun w=>by kernel_rfl
 v5:=fun w=>by kernel_rfl
 infoByte:=by kernel_rfl
 cellsByte:=by kernel_rfl
 sizeByte:=by kernel_rfl
 neB5:=by decide
def Bd(B b:Nat)(l:List UInt8)(w:World):Prop:=Lib.IsBuilder 240 5 B b (Lib.byteCells l) w
theorem Rk(B b:Nat)(l:List UInt8)(c:UInt8)(w:World)(h:Bd B b l w)(hl:l.length<=100000000)(hB:B<=w.heap.size):
 Calls prog 220 #[.pointer (some ⟨b,0,none⟩),.int .u8 (c.toNat:Int)] w fun e w'=>e=.returned .nilIface/\Bd B b (l++[c]) w'/\Below B w w':=by
 refine (Any.Builder_WriteByte Tryz.lays167 bM B b _ (c.toNat:Int) w h (by rw [Lib.byteCells_length];omega) hB).mono ?_;rintro e w' ⟨rfl,h1,h2⟩;refine ⟨rfl,?_,h2⟩;unfold Bd;rw [Lib.byteCells_append];exact .inr h1
theorem bN:Builder.Extra prog Tryz.lays169_ren where
 sizeBuilder:=by kernel_rfl
 liesBuilder:=by kernel_rfl
 t5:=underlying5
 a5:=fun w=>by kernel_rfl
 z5:=fun w=>by kernel_rfl
 v5:=fun w=>by kernel_rfl
 infoByte:=by kernel_rfl
 cellsByte:=by kernel_rfl
 sizeByte:=by kernel_rfl
 neB5:=by decide
theorem EK(B b:Nat)(l:List UInt8)(w:World)(h:Bd B b l w)(hB:B<=w.heap.size):
 Calls prog 212 #[.pointer (some ⟨b,0,none⟩)] w fun e w'=>e=.returned (.string (strOf l))/\Below B w w' :=
 Any.Builder_String_any Tryz.lays169 bN B b l w h hB
theorem l7(bs:List Int)(A:Option Addr)(c:Nat)(w:World)(hs:Sl w w.heap.size A (ZY bs))(hby:By bs)(hn:bs.length<=1000000):
 Calls prog 153 #[.slice A bs.length c] w fun e w'=>e=.returned (.string (strOf (XE bs)))/\Below w.heap.size w w':=by
 have HS:=hide hs;have Pp:=hide hby;clear hs hby;have hf0:=Lib.fresh_isBuilder 240 5 w;have HF:=hide hf0;clear hf0;go_enter func153,ntmps153;go_wp2
 go_loopw [8] (fun i wr=>∃ k:Nat,k<=bs.length/\i=.int .i64 (k:Int)/\Bd w.heap.size w.heap.size (XE (bs.take k)) wr/\Below w.heap.size w wr)
  (fun i _=>bs.length - (intOf i).toNat)
 case atStart=>exact ⟨0,Nat.zero_le _,rfl,HF.out,bA⟩
 case round =>
  obtain ⟨k,hk,rfl,hbd,hbr⟩:=hrel;have Wp:=hide hbd;have qN:=hide hbr;have hsz:=hbr.size;clear hbd
  by_cases hlt:k<bs.length
  · obtain ⟨x,hx⟩:∃ x,bs[k]?=some x:=⟨_,List.getElem?_eq_getElem hlt⟩;have hxb:=Pp.out x (List.mem_of_getElem? hx);obtain ⟨b,off,rfl,hB,hc⟩:=(HS.out.below hbr).Q5 (by omega);have c0:=hc k x hx;have s1:=rF hxb.1 (by omega);have s2:=rD hxb.1 (by omega);have i1:=fun wx=>Il (x.toNat / 16) (by omega) wx;have i2:=fun wx=>Il (x.toNat % 16) (by omega) wx;obtain ⟨n1,hn1⟩:∃ n,n=((x.toNat / 16:Nat):Int):=⟨_,rfl⟩;obtain ⟨n2,hn2⟩:∃ n,n=((x.toNat % 16:Nat):Int):=⟨_,rfl⟩;obtain ⟨d1,hd1⟩:∃ d,d=Ug (x.toNat / 16):=⟨_,rfl⟩;obtain ⟨d2,hd2⟩:∃ d,d=Ug (x.toNat % 16):=⟨_,rfl⟩;obtain ⟨z1,hz1⟩:∃ z,z=(d1.toNat:Int):=⟨_,rfl⟩;obtain ⟨z2,hz2⟩:∃ z,z=(d2.toNat:Int):=⟨_,rfl⟩;simp only [<- hn1,<- hn2,<- hd1,<- hd2,<- hz1,<- hz2] at s1 s2 i1 i2;have HZ1:=hide hz1;have HZ2:=hide hz2;have hlen:(XE (bs.take k)).length<=2000000:=by rw [Sq,List.length_take];omega
    have Ep:Hid (XE (bs.take (k+1))=(XE (bs.take k)++[d1])++[d2]):=hide (by
     rw [hd1,hd2,List.take_add_one,hx,Fy,List.append_assoc];rfl)
    have HL:=hide hlen;clear hlen hc hbr hn1 hn2 hd1 hd2 hz1 hz2;go_wp2_with fail;rw [HZ1.out];refine (Rk w.heap.size w.heap.size _ d1 wr Wp.out (by have:=HL.out;omega) hsz).mono ?_;rintro e w1 ⟨rfl,h1,hb1⟩;have zoa:=hide (qN.out.trans hb1);have zny:=hide h1;have hsz1:=Nat.le_trans hsz hb1.size;clear h1 hb1 c0;go_wp2_with fail;rw [HZ2.out];refine (Rk w.heap.size w.heap.size _ d2 w1 zny.out (by have:=HL.out;rw [List.length_append,List.length_singleton];omega) hsz1).mono ?_;rintro e w2 ⟨rfl,h2,hb2⟩;have zob:=hide (zoa.out.trans hb2);have znz:=hide h2;clear h2 hb2 s1 s2 i1 i2;go_wp2;go_roundw
    case rel=>exact ⟨k+1,by omega,by go_num,by rw [Ep.out];exact znz.out,zob.out⟩
    case measure=>simp [intOf];omega
  · obtain rfl:k=bs.length:=(by omega);rw [List.take_length] at Wp;clear hbr;go_wp2_with fail;refine (EK w.heap.size w.heap.size _ wr Wp.out hsz).mono ?_;rintro e w1 ⟨rfl,hb1⟩;go_wp2;go_ret;exact ⟨rfl,qN.out.trans hb1⟩
theorem L8(n:Nat)(hn:n<=100000000)(w:World):(Instr.makeSlice 49 (.int .i64 (n:Int)) (.int .i64 (n:Int))).run prog w=.ok (.slice (some ⟨w.heap.size,0,none⟩) n n) (w.alloc (.cells (ZY (List.replicate n 0)).toArray 5)):=by
 obtain ⟨i,hi,hz0,hz1,hz2⟩:=info_parts Xt;have h:=run_make (P:=prog) w 49 5 i _ underlying49 hi hz0 .i64 .i64 n n (by omega) (Int.le_refl _) (by rw [hz2];omega) (by omega);rw [hz1] at h;have e:madeCells (Value.cells (.int .u8 0)) (n*1)=(ZY (List.replicate n 0)).toArray:=by
  apply Array.ext
  · simp [size_madeCells,ZY]
  · intro j h1 h2;simp [madeCells,ZY,Value.cells,Nat.mod_one]
 rw [<- e];simpa using h
theorem vG(l:List UInt8):strOfNums (l.map fun c=>(c.toNat:Int))=strOf l:=by
 unfold strOfNums strOf;rw [List.map_map];have:(l.map ((fun (z:Int)=>UInt8.ofNat z.toNat) ∘ fun c=>(c.toNat:Int)))=l:=by
  conv=>rhs;rw [<- List.map_id l]
  refine List.map_congr_left fun x _=>?_;simp
 rw [this]
theorem rC{l:List Int}{k:Nat}(h:k<l.length):(ZY l).toArray[k]?=some (.int .u8 l[k]):=by
 unfold ZY;rw [List.getElem?_toArray,List.getElem?_map,List.getElem?_eq_getElem h];rfl
theorem BG(l:List Int)(k:Nat)(z:Int):(ZY l).toArray.setIfInBounds k (.int .u8 z)=(ZY (l.set k z)).toArray:=by
 unfold ZY;rw [List.setIfInBounds_toArray,List.map_set]
theorem Gt(bs:List Int)(A:Option Addr)(c:Nat)(w:World)(hs:Sl w w.heap.size A (ZY bs))(hby:By bs)(hn:bs.length<=1000000):
 Calls prog 26 #[.slice A bs.length c] w fun e w'=>e=.returned (.string (strOf (XE bs)))/\Below w.heap.size w w':=by
 have HS:=hide hs;have Pp:=hide hby;clear hs hby;have hmk:=L8 (2*bs.length) (by omega) w;obtain ⟨gb,hgb⟩:=eE w.heap.size;have hm2:IntKind.i64.wrap (2*(bs.length:Int))=((2*bs.length:Nat):Int):=by rw [IntKind.wrap_i64];omega
 obtain ⟨L2,hL2⟩:=eE (2*bs.length);have HL2:=hide hL2;rw [<- hL2] at hmk hm2;obtain ⟨w0,hw0⟩:=eE (w.alloc (.cells (ZY (List.replicate L2 0)).toArray 5));have hb0:=bE hw0;have B0:Z6 w0 gb 5 (ZY (uj bs 0)).toArray:=by rw [uo,<- hL2,hw0,hgb];exact Z6.new _ _ _
 rw [<- hw0,<- hgb] at hmk;have jB:=hide hgb;have HB0:=hide hb0;have HX0:=hide B0;clear hL2 hgb hb0 B0 hw0;go_enter func26,ntmps26;go_wp2;clear hmk hm2
 go_loopw [5] (fun i wr=>∃ k:Nat,k<=bs.length/\i=.int .i64 (k:Int)/\Z6 wr gb 5 (ZY (uj bs k)).toArray/\Below w.heap.size w wr)
  (fun i _=>bs.length - (intOf i).toNat)
 case atStart=>exact ⟨0,Nat.zero_le _,rfl,HX0.out,HB0.out⟩
 case round =>
  obtain ⟨k,hk,rfl,hbd,hbr⟩:=hrel
  by_cases hlt:k<bs.length
  · obtain ⟨x,hx⟩:∃ x,bs[k]?=some x:=⟨_,List.getElem?_eq_getElem hlt⟩;have hxb:=Pp.out x (List.mem_of_getElem? hx);obtain ⟨b,off,rfl,hB,hc⟩:=(HS.out.below hbr).Q5 (by omega);have c0:=hc k x hx;have hki:(k:Int)<(bs.length:Int):=(by omega);have e1:x.tdiv 16=((x.toNat / 16:Nat):Int):=by
     rw [Int.tdiv_eq_ediv_of_nonneg hxb.1];omega
    have e2:x.tmod 16=((x.toNat % 16:Nat):Int):=by
     rw [Int.tmod_eq_emod_of_nonneg hxb.1];omega
    have i1:=fun wx=>Il (x.toNat / 16) (by omega) wx;have i2:=fun wx=>Il (x.toNat % 16) (by omega) wx;have hst:=um hx;have hlen:=mK bs (i:=k) (by omega);obtain ⟨m1,hm1⟩:=eE (2*k+1);obtain ⟨m,hm⟩:=eE (2*k);rw [show 2*k+1=m1 from hm1.symm,<- hm] at hst;have g1:IntKind.i64.wrap (2*(k:Int))=(m:Int):=(by rw [IntKind.wrap_i64];omega);have g2:IntKind.i64.wrap ((m:Int)+1)=(m1:Int):=(by rw [IntKind.wrap_i64];omega);have hl2:=HL2.out;have k1:(m:Int)<(L2:Int):=(by omega);have k2:(m1:Int)<(L2:Int):=(by omega);obtain ⟨d1,hd1⟩:∃ d,d=((Ug (x.toNat / 16)).toNat:Int):=⟨_,rfl⟩;obtain ⟨d2,hd2⟩:∃ d,d=((Ug (x.toNat % 16)).toNat:Int):=⟨_,rfl⟩;rw [<- hd1,<- hd2] at hst;simp only [<- hd1,<- hd2] at i1 i2;obtain ⟨n1,hn1⟩:∃ n,n=((x.toNat / 16:Nat):Int):=⟨_,rfl⟩;obtain ⟨n2,hn2⟩:∃ n,n=((x.toNat % 16:Nat):Int):=⟨_,rfl⟩;simp only [<- hn1,<- hn2] at i1 i2 e1 e2;have e3:n1 % 256=n1:=(by omega);have e4:n2 % 256=n2:=(by omega);obtain ⟨y1,z1⟩:∃ y,wr.cell? ⟨gb,m,none⟩=some y:=⟨_,hbd.cell (rC (by omega))⟩;have f1:=hbd.frozen m;obtain ⟨w1,hw1⟩:=eE (wr.setCell ⟨gb,m,none⟩ (.int .u8 d1));have b1:=hbd.set m (.int .u8 d1);rw [BG,<- hw1] at b1;have q1:w1.cell? ⟨b,off+k,none⟩=some (.int .u8 x):=by
     rw [hw1];exact (World.cell?_setCell_other _ _ _ _ (fun e=>by have:=jB.out;injection e with e;omega)).trans c0
    obtain ⟨y2,z2⟩:∃ y,w1.cell? ⟨gb,m1,none⟩=some y:=⟨_,b1.cell (rC (by rw [List.length_set];omega))⟩;have f2:=b1.frozen m1;obtain ⟨w2,hw2⟩:=eE (w1.setCell ⟨gb,m1,none⟩ (.int .u8 d2));have b2:=b1.set m1 (.int .u8 d2);rw [BG,<- hw2,hst] at b2
    have HB2:Hid (Below w.heap.size w w2):=hide (by
     rw [hw2,hw1]
     exact (hbr.setCell (by have:=jB.out;dsimp only;omega) _).setCell (by have:=jB.out;dsimp only;omega) _)
    have HBL:=hide b2;have znf:=hw1.symm;have zng:=hw2.symm;clear hw1 hw2 b1 b2 hst hlen hm hm1 hd1 hd2 hn1 hn2 hc hl2 hbr hbd;go_wp2;go_roundw
    case rel=>exact ⟨k+1,by omega,by go_num,HBL.out,HB2.out⟩
    case measure=>simp [intOf];omega
  · obtain rfl:k=bs.length:=(by omega);have hki:¬ (bs.length:Int)<(bs.length:Int):=by omega
    have CV:=QF wr wr.heap.size (some ⟨gb,0,none⟩) (Ns bs) L2 (Sl.mk hbd.lt fun j u hu=>by
     rw [Nat.zero_add];rw [mJ] at hbd;exact hbd.cell (by simpa using hu))
    rw [LQ,<- HL2.out] at CV;unfold Ns at CV;rw [vG] at CV;have HB:=hide hbr;clear hbd hbr;go_wp2;go_ret;exact ⟨rfl,HB.out⟩
theorem zyf(l:List UInt8):(strOf l).toList=l:=by
 unfold strOf;simp
theorem FN{l:List UInt8}{T:ByteArray}(hT:T=strOf l):T.toList.isEmpty=l.isEmpty:=by rw [hT,zyf]
theorem zR(t:List UInt8)(hs:t.length<=1000000000)(w:World):
 Calls prog 198 #[.string (strOf t),.string { data:=#[48,49,50,51,52,53,54,55,56,57,97,98,99,100,101,102] }] w fun e w'=>∃ X:ByteArray,e=.returned (.string X)/\(X.toList=[] ↔ t.all iB=true)/\Below w.heap.size w w':=by
 have hasc:∀ (j:Nat) b,(ByteArray.mk #[48,49,50,51,52,53,54,55,56,57,97,98,99,100,101,102]).data.toList[j]?=some b->b.toNat<128:=fun j b h=>by
  have h1:(ByteArray.mk #[48,49,50,51,52,53,54,55,56,57,97,98,99,100,101,102]).data.toList.all (fun b=>decide (b.toNat<128))=true:=by decide
  exact of_decide_eq_true (List.all_eq_true.1 h1 b (List.mem_of_getElem? h))
 refine (Any.strings_Trim_laid Tryz.lays160 (by kernel_rfl) (strOf t) { data:=#[48,49,50,51,52,53,54,55,56,57,97,98,99,100,101,102] } w (by rw [VO];omega) (by decide) hasc).mono ?_;rintro e w' ⟨rfl,hb⟩;refine ⟨_,rfl,?_,hb⟩;have h1:=zS t [48,49,50,51,52,53,54,55,56,57,97,98,99,100,101,102];have h2:(([48,49,50,51,52,53,54,55,56,57,97,98,99,100,101,102]:List UInt8).contains ·)=iB:=by
  unfold iB;rw [yH]
 rw [h2] at h1;rw [<- h1];exact Iff.of_eq (congrArg (·=[]) (zyf _))
theorem bR{t:List UInt8}{T:ByteArray}(hT:T=strOf t){k:Nat}{b:UInt8}(hb:t[k]?=some b)(h:k<T.size):T[k]=b:=by
 subst hT;have h2:k<t.length:=by rwa [VO] at h
 have h3:=(List.getElem?_eq_some_iff.1 hb).2;simpa [strOf,ByteArray.getElem_eq_getElem_data] using h3
theorem zsg{l:List Int}{k:Nat}{z:Int}(h:l[k]?=some z):(ZY l).toArray[k]?=some (.int .u8 z):=by
 unfold ZY;rw [List.getElem?_toArray,List.getElem?_map,h];rfl
theorem nV(d:Nat)(h:d<16)(w:World):
 Calls prog 87 #[.string { data:=#[48,49,50,51,52,53,54,55,56,57,97,98,99,100,101,102] },.int .u8 ((Ug d).toNat:Int)] w fun e w'=>e=.returned (.int .i64 (d:Int))/\w'=w:=by
 refine (Any.strings_IndexByte Tryz.lays137 { data:=#[48,49,50,51,52,53,54,55,56,57,97,98,99,100,101,102] } ((Ug d).toNat:Int) w).mono ?_;rintro e w' ⟨rfl,rfl⟩;refine ⟨?_,rfl⟩;have h1:∀ i:Fin 16,Lib.indexByte [48,49,50,51,52,53,54,55,56,57,97,98,99,100,101,102] (((Ug i.val).toNat:Int)).toNat.toUInt8=(i.val:Int):=by decide +kernel
 exact congrArg (fun z=>Ending.returned (Value.int .i64 z)) (h1 ⟨d,h⟩)
theorem oC{i:Nat}(h:i<16):Op.shift .shl .u8 (i:Int) .u64 4=pure (.int .u8 (16*(i:Int))):=by
 rw [shift_shl .u8 .u64 (i:Int) 4 (by decide) (by decide)]
 congr 2
 rw [IntKind.wrap_u8];have:(2:Int) ^ (4:Int).toNat=16:=by decide
 rw [this];omega
theorem vC{i j:Nat}(hi:i<16)(hj:j<16):Go.bits .or .u8 (16*(i:Int)) (j:Int)=16*(i:Int)+(j:Int):=by
 have h:∀ a b:Fin 16,Go.bits .or .u8 (16*(a.val:Int)) (b.val:Int)=16*(a.val:Int)+(b.val:Int):=by decide +kernel
 exact h ⟨i,hi⟩ ⟨j,hj⟩
theorem Eh(bs:List Int)(hby:By bs)(hne:bs≠[])(hn:bs.length<=1000000)(w:World):
 Calls prog 156 #[.string (strOf (XE bs))] w fun e w'=>∃ A,e=.returned (.tuple #[.slice A bs.length bs.length,.bool true])/\Sl w' w'.heap.size A (ZY bs)/\Below w.heap.size w w':=by
 obtain ⟨t,ht⟩:=eE (XE bs);have Rv:Hid (t.length=2*bs.length):=hide (by rw [ht,Sq]);have qJ:Hid (t.all iB=true):=hide (by rw [ht];exact tu hby)
 have HAT:Hid (∀ k b,t[k]?=some b->∃ d,d<16/\b=Ug d/\(k % 2=0->d=(bs.getD (k / 2) 0).toNat / 16)/\(k % 2=1->d=(bs.getD (k / 2) 0).toNat % 16)):=hide fun k b hb=>by
  have hk:k<t.length:=(List.getElem?_eq_some_iff.1 hb).1;have hk2:k / 2<bs.length:=by have:=Rv.out;omega
  have hg:bs[k / 2]?=some (bs.getD (k / 2) 0):=by rw [List.getD_eq_getElem?_getD,List.getElem?_eq_getElem hk2];rfl
  have hxb:=hby _ (List.mem_of_getElem? hg);obtain ⟨e1,e2⟩:=yI hg;rw [ht] at hb
  by_cases hp:k % 2=0
  · rw [show 2*(k / 2)=k from by omega,hb] at e1;exact ⟨_,by omega,Option.some.inj e1,fun _=>rfl,fun h=>by omega⟩
  · rw [show 2*(k / 2)+1=k from by omega,hb] at e2;exact ⟨_,by omega,Option.some.inj e2,fun h=>by omega,fun _=>rfl⟩
 obtain ⟨T,hT⟩:=eE (strOf t);have TR:=hide (zR t (by have:=Rv.out;omega) w);have HZ:Hid (T.size=2*bs.length):=hide (by rw [hT,VO,Rv.out]);have h0:T.toList.isEmpty=false:=by
  rw [FN hT,ht];cases bs with
  | nil=>exact absurd rfl hne
  | cons b bs=>rfl
 rw [<- ht,<- hT];rw [<- hT] at TR;have HT:=hide hT;clear hT ht;have hm:((T.size:Nat):Int) % 2=0:=by rw [HZ.out];omega
 have hmk:=fun wx=>L8 bs.length (by omega) wx;obtain ⟨n,hnn⟩:=eE bs.length;rw [<- hnn] at hmk HZ ⊢;have hq:((T.size:Nat):Int) / 2=(n:Int):=by rw [HZ.out];omega
 have HN:=hide hnn;have Pp:=hide hby;have hn':n<=1000000:=by omega
 clear hnn hne hby hn;go_enter func156,ntmps156;go_wp2_with fail;refine TR.out.mono ?_;rintro e w1 ⟨X,rfl,hX,hb1⟩;have hx0:X.toList.isEmpty=true:=by rw [List.isEmpty_iff];exact hX.2 qJ.out
 obtain ⟨gb,hgb⟩:=eE w1.heap.size;obtain ⟨w2,hw2⟩:=eE (w1.alloc (.cells (ZY (List.replicate n 0)).toArray 5));have ztj:=hmk w1;rw [<- hw2,<- hgb] at ztj;have hb2:Below w.heap.size w w2:=by rw [hw2];exact Z7 hb1 _
 have B2:Z6 w2 gb 5 (ZY (Ef bs 0)).toArray:=by rw [wK,<- HN.out,hw2,hgb];exact Z6.new _ _ _
 have hlw:w.heap.size<=gb:=by rw [hgb];exact hb1.size
 have hz2:w2.heap.size=gb+1:=by rw [hw2,hgb];simp
 have HB2:=hide hb2;have HX2:=hide B2;have HZ2:=hide hz2;clear hX hb1 hgb hw2 hmk hb2 B2 TR hz2;go_wp2;clear ztj hm hq hx0 h0;obtain ⟨it,hit⟩:=eE w2.heap.size;rw [<- hit];have HIT:Hid (it=gb+1):=hide (by rw [hit,HZ2.out]);have HW2:=hide hit;clear hit
 go_loopw [] (fun wr=>∃ k:Nat,k<=T.size/\Z6 wr gb 5 (ZY (Ef bs k)).toArray/\wr.heap[it]?=some (.stringIter T k)/\Below w.heap.size w wr)
  (fun wr=>T.size - wr.iterPos it)
 case atStart =>
  refine ⟨0,Nat.zero_le _,HX2.out.alloc _,?_,Z7 HB2.out _⟩;rw [HW2.out];have:=World.iter_heap w2 T 0;simpa using this
 case round =>
  obtain ⟨k,hk,hbd,hit2,hbr⟩:=hrel
  by_cases hlt:k<T.size
  · obtain ⟨b,hb⟩:∃ b,t[k]?=some b:=⟨_,List.getElem?_eq_getElem (by have:=Rv.out;have:=HZ.out;have:=HN.out;omega)⟩;obtain ⟨d,hd,hbD,hd0,hd1⟩:=HAT.out k b hb;have yF:T[k]=b:=bR HT.out hb hlt;have hasc:(T[k]'hlt).toNat<128:=by
     rw [yF];exact Ij b (by have:=List.all_eq_true.1 qJ.out b (List.mem_of_getElem? hb);unfold iB at this;exact List.contains_iff_mem.1 this)
    have hnx:=fun ty=>Lib.run_next_ascii_at (P:=prog) wr it T k ty hit2 hlt hasc;obtain ⟨w3,hw3⟩:=eE (wr.iterAt it T (k+1));rw [<- hw3] at hnx;have hit3:w3.heap[it]?=some (.stringIter T (k+1)):=(by rw [hw3];exact Lib.iterAt_heap wr it T k (k+1) hit2);have zti:w.heap.size<=it:=(by have:=HIT.out;omega);have hb3:Below w.heap.size w w3:=(by rw [hw3];exact Lib.below_iterAt hbr zti T (k+1));have B3:Z6 w3 gb 5 (ZY (Ef bs k)).toArray:=by
     rw [hw3];exact (Lib.iterAt_other wr it gb T (k+1) (by have:=HIT.out;omega)).trans hbd
    -- the byte that the digit goes to
    obtain ⟨h,hh⟩:=eE (k / 2);have hhn:h<bs.length:=(by have:=HZ.out;have:=HN.out;omega);obtain ⟨y,hy⟩:=eE (bs.getD h 0);have hyb:0<=y/\y<=255:=by
     have:=Pp.out y (by rw [hy,List.getD_eq_getElem?_getD,List.getElem?_eq_getElem hhn];exact List.getElem_mem hhn);omega
    have hat:=jq bs (i:=k) (by rw [<- hh];exact hhn);have hst:=wJ bs k;rw [<- hh,<- hy] at hat hst hd0 hd1;obtain ⟨i,hi⟩:∃ i:Nat,i=if k % 2=0 then 0 else y.toNat / 16:=⟨_,rfl⟩;have bV:i<16:=(by rw [hi];split <;> omega);have hiv:(if k % 2=0 then (0:Int) else y / 16)=(i:Int):=(by rw [hi];split <;> omega);have hrv:(if k % 2=0 then y / 16 else y)=16*(i:Int)+(d:Int):=by
     rw [hi]
     by_cases hp:k % 2=0
     · have:=hd0 hp;rw [if_pos hp,if_pos hp];omega
     · have:=hd1 (by omega);rw [if_neg hp,if_neg hp];omega
    rw [hiv] at hat;rw [hrv] at hst;have s1:=oC bV;obtain ⟨iz,hiz⟩:∃ z,z=(i:Int):=⟨_,rfl⟩;obtain ⟨dz,hdz⟩:∃ z,z=(d:Int):=⟨_,rfl⟩;obtain ⟨v4,hv4⟩:∃ z,z=16*iz:=⟨_,rfl⟩;obtain ⟨r,hr⟩:∃ z,z=v4+dz:=⟨_,rfl⟩;obtain ⟨bz,hbz⟩:∃ z,z=((Ug d).toNat:Int):=⟨_,rfl⟩;have HI:=hide (fun wx=>nV d hd wx);rw [<- hiz] at s1 hat hst;rw [<- hdz] at hst HI;rw [<- hbz] at HI;rw [<- hv4] at s1 hst;rw [<- hr] at hst;have e3:dz % 256=dz:=(by omega);have hq:((k:Nat):Int) / 2=(h:Int):=(by omega);have hhi:(h:Int)<(n:Int):=(by have:=HN.out;omega);have hki:(k:Int)<(T.size:Int):=(by omega);have hwh:IntKind.i64.wrap (h:Int)=(h:Int):=by rw [IntKind.wrap_i64];omega
    have ix:∀ wx,(Instr.index 9 (.string T) (.int .i64 (k:Int))).run prog wx=.ok (.int .u8 bz) wx:=fun wx=>by
     rw [run_index_string wx _ _ _ _ underlying9,dif_pos ⟨by omega,by omega⟩];have:T[((k:Nat):Int).toNat]'(by omega)=b:=yF;rw [this,hbD,hbz]
    have z0:=B3.cell (zsg hat);have f0:=B3.frozen h;have B4:=B3.set h (.int .u8 r);rw [BG,<- hst] at B4;obtain ⟨w4,hw4⟩:=eE ((w3.setCell ⟨gb,h,none⟩ (.int .u8 r)).drew);have HX4:Hid (Z6 w4 gb 5 (ZY (Ef bs (k+1))).toArray):=hide (by rw [hw4];exact B4.drew)
    have KX:Hid (Below w.heap.size w w4):=hide (by
     rw [hw4];exact ZU (hb3.setCell (by have:=HIT.out;dsimp only;omega) _))
    have bW:w4.heap[it]?=some (.stringIter T (k+1)):=by
     rw [hw4];exact (Below.heap_setCell w3 ⟨gb,h,none⟩ (.int .u8 r) it (by have:=HIT.out;dsimp only;omega)).trans hit3
    have HM:Hid (T.size - w4.iterPos it<T.size - wr.iterPos it):=hide (by
     simp only [World.iterPos,bW,hit2];omega)
    have HI4:=hide bW;have HW4:=hide hw4;have hwd:IntKind.u8.wrap dz=dz:=(by rw [IntKind.wrap_u8];exact e3);have hor:Go.bits .or .u8 v4 dz=r:=(by rw [hv4,hiz,hdz,hr,hv4,hiz,hdz];exact vC bV hd);have HK:=hide hlt;clear hw4 bW B3 B4 hst hat hv4 hr hiz hdz hbz hd0 hd1 hi hiv hrv bV hbD yF hasc hy hh hhn hb3 hit3 hw3 hit2 hbd hbr hb hd hyb zti;go_wp2_with fail
    go_region_law (first|(go_simp;go_at_call 87;refine (HI.out _).mono ?_;rintro e w5 ⟨rfl,rfl⟩))
    all_goals
     rw [<- HW4.out];go_wp2;go_roundw
     case rel=>exact ⟨k+1,by have:=HK.out;omega,HX4.out,HI4.out,KX.out⟩
     case measure=>exact HM.out
  · have hnx:∀ ty,(Instr.next (.pointer (some ⟨it,0,none⟩)) true ty).run prog wr=_:=fun ty=>Lib.run_next_end_at wr it T k ty hit2 hlt;obtain rfl:k=T.size:=(by omega);have Wp:=hide hbd;have qN:=hide hbr;clear hbd hbr hit2;go_wp2;go_ret2;rw [HZ.out,HN.out,pW] at Wp;exact ⟨some ⟨gb,0,none⟩,rfl,Sl.mk Wp.out.lt fun j u hu=>by rw [Nat.zero_add];exact Wp.out.cell (by simpa using hu),qN.out⟩
end
end Go.Proofs.YthnenedoblncjaaGreatDoor