/- U64 Each Tape -/
import Derived.Deep.AppendLies
import Derived.Deep.RegionLaw
import Derived.Maps.OwnOps
import Derived.RangeFuncBound
import Derived.RangeFuncNested
import Derived.Test.YthnenedoblncjaaGreatDoorPkA03
set_option maxRecDepth 1000000
set_option maxHeartbeats 8000000
namespace Go.Proofs.YthnenedoblncjaaGreatDoor
open Go.Proofs.Tryz
section
open Go.RowKit
structure Z8(P:Nat->Prop)(w w':World):Prop where
 os:w'.os=w.os
 tape:w'.tape=w.tape
 output:w'.output=w.output
 size:w.heap.size<=w'.heap.size
 block:∀ k,P k->w'.heap[k]?=w.heap[k]?
section
variable {P R:Nat->Prop}{w w' w'':World}{B:Nat}
theorem Z8.refl(P:Nat->Prop)(w:World):Z8 P w w:=⟨rfl,rfl,rfl,Nat.le_refl _,fun _ _=>rfl⟩
theorem Z8.trans(h:Z8 P w w')(k:Z8 P w' w''):Z8 P w w'' :=
 ⟨k.os.trans h.os,k.tape.trans h.tape,k.output.trans h.output,Nat.le_trans h.size k.size,fun i hi=>(k.block i hi).trans (h.block i hi)⟩
theorem Z8.of_below(h:Below B w w')(hP:∀ k,P k->k<B):Z8 P w w':=⟨h.os,h.tape,h.output,h.size,fun k hk=>h.block k (hP k hk)⟩
theorem Z8.below(h:Z8 P w w')(hP:∀ k,k<B->P k):Below B w w':=⟨h.os,h.tape,h.output,h.size,fun k hk=>h.block k (hP k hk)⟩
theorem Z8.mono(h:Z8 P w w')(hP:∀ k,R k->P k):Z8 R w w':=⟨h.os,h.tape,h.output,h.size,fun k hk=>h.block k (hP k hk)⟩
theorem Z8.cell(h:Z8 P w w'){b:Nat}(hb:P b)(o:Nat):w'.cell? ⟨b,o,none⟩=w.cell? ⟨b,o,none⟩:=World.cell?_of_block (h.block b hb)
theorem Z8.frozen(h:Z8 P w w'){b:Nat}(hb:P b)(o:Nat):w'.frozen? ⟨b,o,none⟩=w.frozen? ⟨b,o,none⟩:=World.frozen?_of_block (h.block b hb)
theorem Z6.kept{g:Nat}{t:TypeId}{cs:Array Value}(hb:Z6 w g t cs)(h:Z8 P w w')(hP:P g):Z6 w' g t cs:=(h.block g hP).trans hb
theorem Sl.kept{A:Option Addr}{xs:List Value}(hs:Sl w B A xs)(h:Z8 P w w')(hP:∀ k,k<B->P k):Sl w' B A xs:=by
 rcases hs with hs|⟨b,off,hA,hlt,hc⟩
 · exact .inl hs
 · exact .inr ⟨b,off,hA,hlt,fun j u hu=>(h.cell (hP b hlt) _).trans (hc j u hu)⟩
end
def WS(w:World)(P:Nat->Prop)(g:Nat)(bs:List Int):Prop :=
 ∃ v,Z6 w g 250 #[v]/\¬ P g/\w.ownsRow 0 5 1 v bs.length (ZY bs)/\v.ownBlock≠some g/\∀ k,v.ownBlock=some k->¬ P k
def YH(x:Int):List Int:=(List.range 8).map fun k=>x / 256 ^ k % 256
theorem Wo(x:Int):(YH x).length=8:=rfl
theorem MN(x:Int)(k:Nat)(hk:k<8):(YH x).take (k+1)=(YH x).take k++[x / 256 ^ k % 256]:=by
 unfold YH;rw [List.take_add_one]
 congr 1
 rw [List.getElem?_map,List.getElem?_range hk];rfl
theorem Jr {wr wa w1:World} {P:Nat->Prop} {g g' cap n:Nat} {t:TypeId} {v:Value} {bs news:List Int} {xs:List Value} (hP:∀ k,P k->k<wr.heap.size)
 (hblk:Z6 wr g t #[v]) (hg:¬ P g) (hne:v.ownBlock≠some g) (kg:∀ k,v.ownBlock=some k->¬ P k) (hb:Below wr.heap.size wr wa)
 (YN:w1.ownsRow 0 5 1 (.slice (some ⟨g',0,none⟩) n cap) n xs) (hn:n=(bs++news).length) (hx:xs=ZY (bs++news))
 (ZQ:wa.grownBy w1 v.ownBlock) (hat:v.ownBlock=some g'\/g'=wa.heap.size) (ht:t=250) :
 WS (w1.setCell ⟨g,0,none⟩ (.slice (some ⟨g',0,none⟩) n cap)) P g (bs++news)/\Z8 P wr (w1.setCell ⟨g,0,none⟩ (.slice (some ⟨g',0,none⟩) n cap)):=by
 subst ht hn hx;have hgl:g<wa.heap.size:=Nat.lt_of_lt_of_le hblk.lt hb.size;have hgg:some g'≠some g:=by
  rcases hat with h|h
  · rw [<- h];exact hne
  · intro e;injection e with e;omega
 have dx:¬ P g':=by
  rcases hat with h|h
  · exact kg g' h
  · intro hp;have:=hP g' hp;have:=hb.size;omega
 refine ⟨⟨_,?_,hg,IB YN (by simpa [Value.ownBlock] using hgg) _,by simpa [Value.ownBlock] using hgg,fun k hk=>by
  have:g'=k:=by simpa [Value.ownBlock] using hk
  subst this;exact dx⟩,?_⟩
 · have:=((hblk.step hb).grown ZQ (fun e=>hne e.symm)).set 0 (.slice (some ⟨g',0,none⟩) (bs++news).length cap);exact this
 · refine ⟨ZQ.os.trans hb.os,ZQ.tape.trans hb.tape,ZQ.output.trans hb.output,?_,fun k hk=>?_⟩
   · have h1:=hb.size;have h2:=ZQ.size;rw [World.size_setCell];omega
   · have hkl:=hP k hk;refine (Below.heap_setCell w1 ⟨g,0,none⟩ _ k ?_).trans ((ZQ.block k (Nat.lt_of_lt_of_le hkl hb.size) ?_).trans (hb.block k hkl))
     · rintro rfl;exact hg hk
     · intro e;exact kg k e.symm hk
theorem keepW{wk w':World}{g:Nat}{v:Value}(h:wk.cell? ⟨g,0,none⟩=some v/\wk.frozen? ⟨g,0,none⟩=false)(hb:Below wk.heap.size wk w'):w'.cell? ⟨g,0,none⟩=some v/\w'.frozen? ⟨g,0,none⟩=false :=
 have hl:=Zv h.1
 ⟨(hb.cell (p:=⟨g,0,none⟩) hl).trans h.1,(hb.frozen (p:=⟨g,0,none⟩) hl).trans h.2⟩
section
variable (P:Nat->Prop)(g:Nat)(bs:List Int)(x:Int)(w:World)
variable (hP:∀ k,P k->k<w.heap.size)(hw:WS w P g bs)(hlen:bs.length<=1000000)
include hP hw hlen
theorem Qv:Calls prog 283 #[.pointer (some ⟨g,0,none⟩),.int .u64 x] w fun e w'=>e=.returned (.tuple #[])/\Z8 P w w'/\WS w' P g (bs++YH x):=by
 have HP:=hide hP;clear hP;go_enter func283,ntmps283;go_wp2
 go_loopw [4,5] (fun _ i wr=>∃ k:Nat,k<=8/\i=.int .i64 k/\Z8 P w wr/\WS wr P g (bs++(YH x).take k))
  (fun _ i _=>8 - (intOf i).toNat)
 case atStart=>exact ⟨0,by omega,rfl,Z8.refl _ _,by simpa using hw⟩
 case round =>
  obtain ⟨k,hk,rfl,hbr,v,hblk,hg,ZL,hne,kg⟩:=hrel;have HV:=hide kg;clear kg
  by_cases hlt:k<8
  · have c0:=hblk.q0 rfl;have f0:=hblk.frozen 0;have hgl:=hblk.lt;obtain ⟨i0,hi,hz0,hz1,hz2⟩:=info_parts Xt;have hsh:Op.shift .shr .u64 x .i64 (IntKind.i64.wrap (8*(k:Int)))=pure (.int .u64 (x / 256 ^ k)):=by
     have h8:IntKind.i64.wrap (8*(k:Int))=8*(k:Int):=(by rw [IntKind.wrap_i64];omega);have e:(8*(k:Int)).toNat=8*k:=(by omega);have e2:=shift_shr .u64 .i64 x (8*(k:Int)) (by omega) (by simp [IntKind.bits];omega);rw [h8,e2,e]
     congr 3
     exact Int.pow_mul
    have hln:(bs++List.take k (YH x)).length<=1000008:=(by rw [List.length_append,List.length_take,Wo];omega);have hbd:IntKind.u8.wrap (x / 256 ^ k)=x / 256 ^ k % 256:=(by rw [IntKind.wrap_u8]);have HB:=hide hbd;clear hbd;have hsn:∀ cs,cs=bs++List.take k (YH x)->bs++List.take (k+1) (YH x)=cs++[x / 256 ^ k % 256]:=fun cs h=>by rw [h,MN x k hlt,List.append_assoc]
    generalize hcs:bs++List.take k (YH x)=cs at ZL hln hsn;have HS:=hide (hsn cs rfl);clear hsn hcs;go_wp2
    go_region_law ((refine step_append_lies _ (by rfl) (.tmp 12) (.tmp 18) 49 (by rfl) 0 5 i0 (.int .u8 0) 1 1 underlying49 hi hz0 hz1 hz2 (by rfl) (by decide) v _ _ (by rfl) (ZH ZL (ZU (bA))) ⟨wr.heap.size,0,none⟩ 1 1 [.int .u8 (IntKind.u8.wrap (x / 256 ^ k))] (by rfl) (by rfl) (ZF (Z6.new _ _ _).drew) (by simp [Value.oneCell']) (by omega) (by unfold maxLen;omega) (by omega) (by omega) (wr.heap.size+1) (by simp) ?_;intro g' cap w1 YN ZQ hat hlt';have c1:=(World.grownBy.cell_far ZQ ⟨g,0,none⟩ (by simp;omega) (Ne.symm hne)).trans (keepW ⟨c0,f0⟩ (ZU (bA))).1;have f1:=(World.grownBy.frozen_far ZQ ⟨g,0,none⟩ (by simp;omega) (Ne.symm hne)).trans (keepW ⟨c0,f0⟩ (ZU (bA))).2))
    all_goals
     obtain ⟨p1,p2⟩:=Jr (P:=P) (fun k hk=>Nat.lt_of_lt_of_le (HP.out k hk) hbr.size) hblk hg hne HV.out (ZU (bA)) YN (bs:=cs) (news:=[x / 256 ^ k % 256]) (by simp) (by rw [HB.out,Yp];rfl) ZQ (by simpa using hat) rfl;go_wp2;go_roundw
     case rel=>exact ⟨k+1,by omega,by go_num,hbr.trans p2,by rw [HS.out];exact p1⟩
     case measure=>simp [intOf];omega
  · have hk':k=8:=(by omega);subst hk';go_wp2;go_end0;exact ⟨rfl,hbr,v,hblk,hg,ZL,hne,HV.out⟩
end
end
section
open Go.RowKit
section
variable {w w':World}{P R:Nat->Prop}{g:Nat}{bs:List Int}
theorem WS.lt(h:WS w P g bs):g<w.heap.size:=by
 obtain ⟨v,hb,_⟩:=h;exact hb.lt
theorem WS.step(h:WS w P g bs)(hb:Below w.heap.size w w'):WS w' P g bs:=by
 obtain ⟨v,h1,h2,h3,h4,h5⟩:=h;exact ⟨v,h1.step hb,h2,ZH h3 hb,h4,h5⟩
theorem WS.mono(h:WS w P g bs)(hR:∀ k,R k->P k):WS w R g bs:=by
 obtain ⟨v,h1,h2,h3,h4,h5⟩:=h;exact ⟨v,h1,fun hr=>h2 (hR _ hr),h3,h4,fun k hk hr=>h5 k hk (hR _ hr)⟩
def More(P:Nat->Prop)(w w':World)(k:Nat):Prop:=P k\/w.heap.size<=k/\k<w'.heap.size
theorem WS.more(h:WS w P g bs)(hb:Below w.heap.size w w'):WS w' (More P w w') g bs:=by
 obtain ⟨v,h1,h2,h3,h4,h5⟩:=h;have:=h1.lt;refine ⟨v,h1.step hb,fun h=>?_,ZH h3 hb,h4,fun k hk h=>?_⟩
 · rcases h with h|h
   · exact h2 h
   · omega
 · have:=TN h3 hk;rcases h with h|h
   · exact h5 k hk h
   · omega
theorem Z8.more{w1:World}{P:Nat->Prop}(hb:Below w.heap.size w w')(hP:∀ k,P k->k<w.heap.size)(h:Z8 (More P w w') w' w1):Z8 P w w1 :=
 (Z8.of_below hb hP).trans (h.mono fun _ hk=>.inl hk)
theorem Yw{P:Nat->Prop}(hP:∀ k,P k->k<w.heap.size)(hb:Below w.heap.size w w'):∀ k,More P w w' k->k<w'.heap.size:=by
 intro k hk;rcases hk with hk|hk
 · exact Nat.lt_of_lt_of_le (hP k hk) hb.size
 · exact hk.2
end
def jo(x:Int):Int:=IntKind.u64.wrap x
def XW(p:Int × Int):List Int:=YH (jo p.1)++YH (jo p.2)
theorem XK(p:Int × Int):(XW p).length=16:=rfl
def q24(q:(Int × Int) × Int):List Int:=XW q.1++YH q.2
theorem Mi(q:(Int × Int) × Int):(q24 q).length=24:=rfl
def XR(r:Int × Int):List Int:=[r.1 % 256]++YH r.2
theorem UJ(r:Int × Int):(XR r).length=9:=rfl
section
variable (P:Nat->Prop)(g:Nat)(bs:List Int)(w:World)
variable (hP:∀ k,P k->k<w.heap.size)(hw:WS w P g bs)(hlen:bs.length<=900000)
include hP hw hlen
theorem Ka(x y:Int):Calls prog 217 #[.pointer (some ⟨g,0,none⟩),.agg #[.int .i64 x,.int .i64 y]] w fun e w'=>e=.returned (.tuple #[])/\Z8 P w w'/\WS w' P g (bs++XW (x,y)):=by
 obtain ⟨w0,hw0⟩:=eE (w.alloc (.cells #[.int .i64 x,.int .i64 y] 41));have hb:=bE hw0;have hz:w0.heap.size=w.heap.size+1:=by rw [hw0];simp
 have B0:Z6 w0 w.heap.size 41 #[.int .i64 x,.int .i64 y]:=by rw [hw0];exact Z6.new _ _ _
 have hP1:=Yw hP hb;have h0:=hw.more hb;have hm:∀ w1,Z8 (More P w w0) w0 w1->Z8 P w w1:=fun w1=>Z8.more hb hP;have hRk:More P w w0 w.heap.size:=.inr ⟨Nat.le_refl _,by omega⟩;have HM:=hide hm;have HZ:=hide hz;clear hm hz hP;have Nj:=hide hP1;clear hP1;go_enter func217,ntmps217;go_wp2_with fail;rw [<- hw0];have HW0:=hide hw0;clear hw0;refine (Qv (More P w w0) g bs _ _ Nj.out h0 (by omega)).mono ?_;rintro e w1 ⟨rfl,k1,s1⟩;have B1:=B0.kept k1 hRk;have c1:=B1.q1 rfl;go_wp2_with fail;refine (Qv (More P w w0) g _ _ _ (fun k hk=>Nat.lt_of_lt_of_le (Nj.out k hk) k1.size) s1 (by rw [List.length_append,Wo];omega)).mono ?_;rintro e w2 ⟨rfl,k2,s2⟩;go_wp2;go_end0;refine ⟨rfl,HM.out _ (k1.trans k2),?_⟩;have s3:=s2.mono (R:=P) (fun k hk=>.inl hk);rw [List.append_assoc] at s3;exact s3
theorem zq(x y d:Int):Calls prog 219 #[.pointer (some ⟨g,0,none⟩),.agg #[.int .i64 x,.int .i64 y,.int .u64 d]] w fun e w'=>e=.returned (.tuple #[])/\Z8 P w w'/\WS w' P g (bs++q24 ((x,y),d)):=by
 obtain ⟨w0,hw0⟩:=eE (w.alloc (.cells #[.int .i64 x,.int .i64 y,.int .u64 d] 46));have hb:=bE hw0;have hz:w0.heap.size=w.heap.size+1:=by rw [hw0];simp
 have B0:Z6 w0 w.heap.size 46 #[.int .i64 x,.int .i64 y,.int .u64 d]:=by rw [hw0];exact Z6.new _ _ _
 have hP1:=Yw hP hb;have h0:=hw.more hb;have hm:∀ w1,Z8 (More P w w0) w0 w1->Z8 P w w1:=fun w1=>Z8.more hb hP;have hRk:More P w w0 w.heap.size:=.inr ⟨Nat.le_refl _,by omega⟩;have HM:=hide hm;have HZ:=hide hz;clear hm hz hP;have Nj:=hide hP1;clear hP1;go_enter func219,ntmps219;go_wp2_with fail;rw [<- hw0];have HW0:=hide hw0;clear hw0;refine (Ka (More P w w0) g bs _ Nj.out h0 (by omega) x y).mono ?_;rintro e w1 ⟨rfl,k1,s1⟩;have B1:=B0.kept k1 hRk;have c2:=B1.q2 rfl;go_wp2_with fail;refine (Qv (More P w w0) g _ _ _ (fun k hk=>Nat.lt_of_lt_of_le (Nj.out k hk) k1.size) s1 (by rw [List.length_append,XK];omega)).mono ?_;rintro e w2 ⟨rfl,k2,s2⟩;go_wp2;go_end0;refine ⟨rfl,HM.out _ (k1.trans k2),?_⟩;have s3:=s2.mono (R:=P) (fun k hk=>.inl hk);rw [List.append_assoc] at s3;exact s3
theorem DC(x d:Int):Calls prog 234 #[.pointer (some ⟨g,0,none⟩),.agg #[.int .u64 x,.int .u64 d]] w fun e w'=>e=.returned (.tuple #[])/\Z8 P w w'/\WS w' P g (bs++XR (x,d)):=by
 obtain ⟨w0,hw0⟩:=eE (w.alloc (.cells #[.int .u64 x,.int .u64 d] 148));have hb:=bE hw0;have hz:w0.heap.size=w.heap.size+1:=by rw [hw0];simp
 have B0:Z6 w0 w.heap.size 148 #[.int .u64 x,.int .u64 d]:=by rw [hw0];exact Z6.new _ _ _
 have hP1:=Yw hP hb;have h0:=hw.more hb;have hm:∀ w1,Z8 (More P w w0) w0 w1->Z8 P w w1:=fun w1=>Z8.more hb hP;have hRk:More P w w0 w.heap.size:=.inr ⟨Nat.le_refl _,by omega⟩;obtain ⟨v,hblk,hg,ZL,hne,kg⟩:=h0;have HV:=hide kg;clear kg;have HM:=hide hm;have HZ:=hide hz;clear hm hz hP;have Nj:=hide hP1;clear hP1;have c0:=hblk.q0 rfl;have f0:=hblk.frozen 0;have hgl:=hblk.lt;have d0:=B0.q0 rfl;have d1:=B0.q1 rfl;obtain ⟨i0,hi,hz0,hz1,hz2⟩:=info_parts Xt;have hbd:IntKind.u8.wrap x=x % 256:=by rw [IntKind.wrap_u8]
 have HB:=hide hbd;clear hbd;go_enter func234,ntmps234;go_wp2;rw [<- hw0];have HW0:=hide hw0;clear hw0
 go_region_law ((refine step_append_lies _ (by rfl) (.tmp 8) (.tmp 12) 49 (by rfl) 0 5 i0 (.int .u8 0) 1 1 underlying49 hi hz0 hz1 hz2 (by rfl) (by decide) v _ _ (by rfl) (ZH ZL (ZU (bA))) ⟨w0.heap.size,0,none⟩ 1 1 [.int .u8 (IntKind.u8.wrap x)] (by rfl) (by rfl) (ZF (Z6.new _ _ _).drew) (by simp [Value.oneCell']) (by omega) (by unfold maxLen;omega) (by omega) (by omega) (w0.heap.size+1) (by simp) ?_;intro g' cap w1 YN ZQ hat hlt';have c1:=(World.grownBy.cell_far ZQ ⟨g,0,none⟩ (by simp;omega) (Ne.symm hne)).trans (keepW ⟨c0,f0⟩ (ZU (bA))).1;have f1:=(World.grownBy.frozen_far ZQ ⟨g,0,none⟩ (by simp;omega) (Ne.symm hne)).trans (keepW ⟨c0,f0⟩ (ZU (bA))).2))
 all_goals
  obtain ⟨p1,p2⟩:=Jr (P:=More P w w0) Nj.out hblk hg hne HV.out (ZU (bA)) YN (bs:=bs) (news:=[x % 256]) (by simp) (by rw [HB.out,Yp];rfl) ZQ (by simpa using hat) rfl;have B1:=B0.kept p2 hRk;have e1:=B1.q1 rfl;clear c0 f0 d0 d1 c1 f1;go_wp2_with fail;refine (Qv (More P w w0) g _ _ _ (fun k hk=>Nat.lt_of_lt_of_le (Nj.out k hk) p2.size) p1 (by rw [List.length_append];simp;omega)).mono ?_;rintro e w2 ⟨rfl,k2,s2⟩;go_wp2;go_end0;refine ⟨rfl,HM.out _ (p2.trans k2),?_⟩;have s3:=s2.mono (R:=P) (fun k hk=>.inl hk);rw [List.append_assoc] at s3;exact s3
end
end
section
open Go.RowKit
def Vo(x:Int):Prop:=0<=x/\x<18446744073709551616
theorem Vo.nonneg{x:Int}(h:Vo x):0<=x:=h.1
theorem GN(x:Int):Vo (IntKind.u64.wrap x):=by unfold Vo;rw [IntKind.wrap_u64];omega
theorem Vo.div{x:Int}(h:Vo x)(k:Nat):Vo (x / 256 ^ k):=by
 refine ⟨Int.ediv_nonneg h.1 (Int.pow_nonneg (by omega)),Int.lt_of_le_of_lt (Int.ediv_le_self _ h.1) h.2⟩
theorem Vo.quo{z:Int}(h:Vo z):IntKind.u64.wrap (z.tdiv 256)=z / 256:=by
 rw [Int.tdiv_eq_ediv_of_nonneg h.1,IntKind.wrap_u64,Int.emod_eq_of_lt (Int.ediv_nonneg h.1 (by omega)) (Int.lt_of_le_of_lt (Int.ediv_le_self _ h.1) h.2)]
theorem uQ{R:Nat->Prop}{w0 wk w':World}{b:Nat}{u v:Value}(hR:R b)(hk:Z8 R wk w')(h:Z8 R w0 wk/\wk.cell? ⟨b,0,none⟩=some u/\wk.cell? ⟨b,1,none⟩=some v):
 Z8 R w0 w'/\w'.cell? ⟨b,0,none⟩=some u/\w'.cell? ⟨b,1,none⟩=some v :=
 ⟨h.1.trans hk,(hk.cell hR _).trans h.2.1,(hk.cell hR _).trans h.2.2⟩
theorem Z8.drew(P:Nat->Prop)(w:World):Z8 P w w.drew:=⟨rfl,rfl,rfl,Nat.le_refl _,fun _ _=>rfl⟩
theorem NS(x:Int)(k:Nat):x / 256 ^ k / 256=x / 256 ^ (k+1):=by
 rw [Int.pow_succ,Int.ediv_ediv_of_nonneg (Int.pow_nonneg (by omega))]
end
section
open Go.RowKit
def Zg(ps:List (Int × Int)):List Value:=ps.flatMap fun p=>[.int .i64 p.1,.int .i64 p.2]
def ZA(ps:List (Int × Int)):List Value:=ps.flatMap fun p=>[.int .u64 p.1,.int .u64 p.2]
def Wt(qs:List ((Int × Int) × Int)):List Value:=qs.flatMap fun q=>[.int .i64 q.1.1,.int .i64 q.1.2,.int .u64 q.2]
theorem flat_get{α:Type}(f:α->List Value)(n:Nat)(hf:∀ a,(f a).length=n):∀ (l:List α) (i:Nat) (a:α),l[i]?=some a->∀ j,j<n->(l.flatMap f)[i*n+j]?=(f a)[j]?
 | [],i,a,h,j,hj=>by simp at h
 | b::l,0,a,h,j,hj=>by
   simp only [List.getElem?_cons_zero,Option.some.injEq] at h;subst h;rw [List.flatMap_cons,List.getElem?_append_left (by rw [hf];omega)]
   congr 1;omega
 | b::l,i+1,a,h,j,hj=>by
   have h':l[i]?=some a:=(by simpa using h);rw [List.flatMap_cons,List.getElem?_append_right (by rw [hf,Nat.succ_mul];omega),hf];have e:(i+1)*n+j - n=i*n+j:=(by rw [Nat.succ_mul];omega);rw [e];exact flat_get f n hf l i a h' j hj
theorem YE{α:Type}(f:α->List Value)(n:Nat)(hf:∀ a,(f a).length=n)(l:List α):(l.flatMap f).length=l.length*n:=by
 induction l with
 | nil=>simp
 | cons a l ih=>rw [List.flatMap_cons,List.length_append,ih,hf,List.length_cons,Nat.succ_mul];omega
section
variable {w:World}{B:Nat}{A:Option Addr}
theorem Sl.pt{ps:List (Int × Int)}(h:Sl w B A (Zg ps)){k:Nat}{p:Int × Int}(hk:ps[k]?=some p):
 ∃ b off,A=some ⟨b,off,none⟩/\b<B/\w.cell? ⟨b,off+k*2,none⟩=some (.int .i64 p.1)/\w.cell? ⟨b,off+k*2+1,none⟩=some (.int .i64 p.2):=by
 have hl:=YE (fun p:Int × Int=>[Value.int .i64 p.1,.int .i64 p.2]) 2 (fun _=>rfl) ps;have hlt:k<ps.length:=(List.getElem?_eq_some_iff.1 hk).1;obtain ⟨b,off,rfl,hB,hc⟩:=h.open_ (by unfold Zg;rw [hl];omega);have g:=flat_get (fun p:Int × Int=>[Value.int .i64 p.1,.int .i64 p.2]) 2 (fun _=>rfl) ps k p hk;exact ⟨b,off,rfl,hB,hc _ _ (g 0 (by omega)),hc _ _ (g 1 (by omega))⟩
theorem Sl.Gl{ps:List (Int × Int)}(h:Sl w B A (ZA ps)){k:Nat}{p:Int × Int}(hk:ps[k]?=some p):
 ∃ b off,A=some ⟨b,off,none⟩/\b<B/\w.cell? ⟨b,off+k*2,none⟩=some (.int .u64 p.1)/\w.cell? ⟨b,off+k*2+1,none⟩=some (.int .u64 p.2):=by
 have hl:=YE (fun p:Int × Int=>[Value.int .u64 p.1,.int .u64 p.2]) 2 (fun _=>rfl) ps;have hlt:k<ps.length:=(List.getElem?_eq_some_iff.1 hk).1;obtain ⟨b,off,rfl,hB,hc⟩:=h.open_ (by unfold ZA;rw [hl];omega);have g:=flat_get (fun p:Int × Int=>[Value.int .u64 p.1,.int .u64 p.2]) 2 (fun _=>rfl) ps k p hk;exact ⟨b,off,rfl,hB,hc _ _ (g 0 (by omega)),hc _ _ (g 1 (by omega))⟩
theorem Sl.qu{qs:List ((Int × Int) × Int)}(h:Sl w B A (Wt qs)){k:Nat}{q:(Int × Int) × Int}(hk:qs[k]?=some q):
 ∃ b off,A=some ⟨b,off,none⟩/\b<B/\w.cell? ⟨b,off+k*3,none⟩=some (.int .i64 q.1.1)/\w.cell? ⟨b,off+k*3+1,none⟩=some (.int .i64 q.1.2)/\w.cell? ⟨b,off+k*3+2,none⟩=some (.int .u64 q.2):=by
 have hl:=YE (fun q:(Int × Int) × Int=>[Value.int .i64 q.1.1,.int .i64 q.1.2,.int .u64 q.2]) 3 (fun _=>rfl) qs;have hlt:k<qs.length:=(List.getElem?_eq_some_iff.1 hk).1;obtain ⟨b,off,rfl,hB,hc⟩:=h.open_ (by unfold Wt;rw [hl];omega);have g:=flat_get (fun q:(Int × Int) × Int=>[Value.int .i64 q.1.1,.int .i64 q.1.2,.int .u64 q.2]) 3 (fun _=>rfl) qs k q hk;exact ⟨b,off,rfl,hB,hc _ _ (g 0 (by omega)),hc _ _ (g 1 (by omega)),hc _ _ (g 2 (by omega))⟩
end
theorem YF{α β:Type}(f:α->List β)(l:List α)(k:Nat)(a:α)(h:l[k]?=some a):(l.take (k+1)).flatMap f=(l.take k).flatMap f++f a:=by
 rw [List.take_add_one,h];simp
theorem XC{α β:Type}(f:α->List β)(n:Nat)(hf:∀ a,(f a).length=n)(l:List α):(l.flatMap f).length=l.length*n:=by
 induction l with
 | nil=>simp
 | cons a l ih=>rw [List.flatMap_cons,List.length_append,ih,hf,List.length_cons,Nat.succ_mul];omega
section
variable (P:Nat->Prop)(g:Nat)(bs:List Int)(w:World)(B:Nat)(A:Option Addr)(c:Nat)
variable (hP:∀ k,P k->k<w.heap.size)(hw:WS w P g bs)(hlen:bs.length<=400000)(hB:∀ k,k<B->P k)
include hP hw hlen hB
theorem Lv(ps:List (Int × Int))(hs:Sl w B A (Zg ps))(hn:ps.length<=10000):
 Calls prog 216 #[.slice A ps.length c,.func (.func 217) #[.pointer (some ⟨g,0,none⟩)] #[]] w fun e w'=>e=.returned (.tuple #[])/\Z8 P w w'/\WS w' P g (bs++ps.flatMap XW):=by
 have HP:=hide hP;clear hP;have HB:=hide hB;clear hB;go_enter func216,ntmps216;go_wp2
 go_loopw [8] (fun i wr=>∃ k:Nat,k<=ps.length/\i=.int .i64 k/\Z8 P w wr/\WS wr P g (bs++(ps.take k).flatMap XW))
  (fun i _=>ps.length - (intOf i).toNat)
 case atStart=>exact ⟨0,by omega,rfl,Z8.refl _ _,by simpa using hw⟩
 case round =>
  obtain ⟨k,hk,rfl,hbr,hwr⟩:=hrel
  by_cases hlt:k<ps.length
  · obtain ⟨p,hp⟩:∃ p,ps[k]?=some p:=⟨_,List.getElem?_eq_getElem hlt⟩;obtain ⟨b,off,rfl,hbB,c0,c1⟩:=(hs.kept hbr HB.out).pt hp;have hfl:=XC XW 16 XK (ps.take k);have hln:(bs++(ps.take k).flatMap XW).length<=900000:=(by rw [List.length_append,hfl,List.length_take];omega);have hts:=YF XW ps k p hp;have HT:=hide hts;clear hts hp hfl;have hbl:=Zv c0;go_wp2_with fail;refine (Ka P g _ _ (fun j hj=>Nat.lt_of_lt_of_le (Nat.lt_of_lt_of_le (HP.out j hj) hbr.size) (by simp)) (hwr.step (bA)) hln p.1 p.2).mono ?_;rintro e w1 ⟨rfl,k1,s1⟩;have hk2:=Z8.trans (Z8.of_below (P:=P) (bA) (fun j hj=>Nat.lt_of_lt_of_le (HP.out j hj) hbr.size)) k1;go_wp2;go_roundw
    case rel=>exact ⟨k+1,by omega,by go_num,hbr.trans hk2,by rw [HT.out,<- List.append_assoc];exact s1⟩
    case measure=>simp [intOf];omega
  · have hk':k=ps.length:=(by omega);subst hk';rw [List.take_length] at hwr;go_wp2;go_end0;exact ⟨rfl,hbr,hwr⟩
theorem NU(ps:List (Int × Int))(hs:Sl w B A (ZA ps))(hn:ps.length<=10000):
 Calls prog 233 #[.slice A ps.length c,.func (.func 234) #[.pointer (some ⟨g,0,none⟩)] #[]] w fun e w'=>e=.returned (.tuple #[])/\Z8 P w w'/\WS w' P g (bs++ps.flatMap XR):=by
 have HP:=hide hP;clear hP;have HB:=hide hB;clear hB;go_enter func233,ntmps233;go_wp2
 go_loopw [8] (fun i wr=>∃ k:Nat,k<=ps.length/\i=.int .i64 k/\Z8 P w wr/\WS wr P g (bs++(ps.take k).flatMap XR))
  (fun i _=>ps.length - (intOf i).toNat)
 case atStart=>exact ⟨0,by omega,rfl,Z8.refl _ _,by simpa using hw⟩
 case round =>
  obtain ⟨k,hk,rfl,hbr,hwr⟩:=hrel
  by_cases hlt:k<ps.length
  · obtain ⟨p,hp⟩:∃ p,ps[k]?=some p:=⟨_,List.getElem?_eq_getElem hlt⟩;obtain ⟨b,off,rfl,hbB,c0,c1⟩:=(hs.kept hbr HB.out).Gl hp;have hfl:=XC XR 9 UJ (ps.take k);have hln:(bs++(ps.take k).flatMap XR).length<=900000:=(by rw [List.length_append,hfl,List.length_take];omega);have hts:=YF XR ps k p hp;have HT:=hide hts;clear hts hp hfl;have hbl:=Zv c0;go_wp2_with fail;refine (DC P g _ _ (fun j hj=>Nat.lt_of_lt_of_le (Nat.lt_of_lt_of_le (HP.out j hj) hbr.size) (by simp)) (hwr.step (bA)) hln p.1 p.2).mono ?_;rintro e w1 ⟨rfl,k1,s1⟩;have hk2:=Z8.trans (Z8.of_below (P:=P) (bA) (fun j hj=>Nat.lt_of_lt_of_le (HP.out j hj) hbr.size)) k1;go_wp2;go_roundw
    case rel=>exact ⟨k+1,by omega,by go_num,hbr.trans hk2,by rw [HT.out,<- List.append_assoc];exact s1⟩
    case measure=>simp [intOf];omega
  · have hk':k=ps.length:=(by omega);subst hk';rw [List.take_length] at hwr;go_wp2;go_end0;exact ⟨rfl,hbr,hwr⟩
theorem BZ(ps:List ((Int × Int) × Int))(hs:Sl w B A (Wt ps))(hn:ps.length<=10000):
 Calls prog 218 #[.slice A ps.length c,.func (.func 219) #[.pointer (some ⟨g,0,none⟩)] #[]] w fun e w'=>e=.returned (.tuple #[])/\Z8 P w w'/\WS w' P g (bs++ps.flatMap q24):=by
 have HP:=hide hP;clear hP;have HB:=hide hB;clear hB;go_enter func218,ntmps218;go_wp2
 go_loopw [8] (fun i wr=>∃ k:Nat,k<=ps.length/\i=.int .i64 k/\Z8 P w wr/\WS wr P g (bs++(ps.take k).flatMap q24))
  (fun i _=>ps.length - (intOf i).toNat)
 case atStart=>exact ⟨0,by omega,rfl,Z8.refl _ _,by simpa using hw⟩
 case round =>
  obtain ⟨k,hk,rfl,hbr,hwr⟩:=hrel
  by_cases hlt:k<ps.length
  · obtain ⟨p,hp⟩:∃ p,ps[k]?=some p:=⟨_,List.getElem?_eq_getElem hlt⟩;obtain ⟨b,off,rfl,hbB,c0,c1,c2⟩:=(hs.kept hbr HB.out).qu hp;have hfl:=XC q24 24 Mi (ps.take k);have hln:(bs++(ps.take k).flatMap q24).length<=900000:=(by rw [List.length_append,hfl,List.length_take];omega);have hts:=YF q24 ps k p hp;have HT:=hide hts;clear hts hp hfl;have hbl:=Zv c0;go_wp2_with fail;refine (zq P g _ _ (fun j hj=>Nat.lt_of_lt_of_le (Nat.lt_of_lt_of_le (HP.out j hj) hbr.size) (by simp)) (hwr.step (bA)) hln p.1.1 p.1.2 p.2).mono ?_;rintro e w1 ⟨rfl,k1,s1⟩;have hk2:=Z8.trans (Z8.of_below (P:=P) (bA) (fun j hj=>Nat.lt_of_lt_of_le (HP.out j hj) hbr.size)) k1;go_wp2;go_roundw
    case rel=>exact ⟨k+1,by omega,by go_num,hbr.trans hk2,by rw [HT.out,<- List.append_assoc];exact s1⟩
    case measure=>simp [intOf];omega
  · have hk':k=ps.length:=(by omega);subst hk';rw [List.take_length] at hwr;go_wp2;go_end0;exact ⟨rfl,hbr,hwr⟩
end
end
section
open Go.RowKit Go.Maps
abbrev Ev:=Int × Int × Int
def yt(es:List Ev):List Value:=es.flatMap fun e=>[.int .i64 e.1,.int .i64 e.2.1,.int .i64 e.2.2]
theorem yu(es:List Ev)(k a b:Int):yt (es++[(k,a,b)])=yt es++[.int .i64 k,.int .i64 a,.int .i64 b]:=by simp [yt]
def Zz:Option (Nat × Nat)->Option Addr
 | none=>none
 | some t=>some ⟨t.1,0,none⟩
def EI(w:World)(P:Nat->Prop)(g m:Nat)(es:List Ev):Prop :=
 ∃ v n D,Z6 w g 377 #[v,.map (some m)]/\¬ P g/\¬ P m/\w.ownsRow 0 273 3 v es.length (yt es)/\v.ownBlock≠some g/\(∀ k,v.ownBlock=some k->¬ P k/\k≠m)/\n<=es.length/\w.ownsMap (H:=Unit) prog 3 (plainElem prog 3) m n D
def Tp(w:World)(P:Nat->Prop):Option (Nat × Nat)->List Ev->Prop
 | none,_=>True
 | some t,es=>EI w P t.1 t.2 es
structure Xd(t:Option (Nat × Nat))(w w':World):Prop where
 size:w.heap.size<=w'.heap.size
 same:∀ (k:Nat) (o:Obj),w.heap[k]?=some o->o.isCells=false->(∀ u,t=some u->k≠u.2)->w'.heap[k]?=some o
section
variable {w w' w'':World}{P R:Nat->Prop}{t:Option (Nat × Nat)}{es:List Ev}
theorem Xd.refl(t:Option (Nat × Nat))(w:World):Xd t w w:=⟨Nat.le_refl _,fun _ _ h _ _=>h⟩
theorem Xd.trans(h:Xd t w w')(k:Xd t w' w''):Xd t w w'':=⟨Nat.le_trans h.size k.size,fun i o hi ho hn=>k.same i o (h.same i o hi ho hn) ho hn⟩
theorem Xd.of(h:KeepsOthers w w'):Xd t w w':=⟨h.size,fun i o hi ho _=>h.same i o hi ho⟩
theorem Xd.below(h:Below w.heap.size w w'):Xd t w w':=⟨h.size,fun i _ hi _ _=>(h.block i (Array.getElem?_eq_some_iff.1 hi).1).trans hi⟩
theorem Xd.from{B:Nat}(h:Xd t w w')(hB:∀ u,t=some u->u.2<B):KeepsFrom B w w':=⟨h.size,fun i o hb hi ho=>h.same i o hi ho fun u hu=>by have:=hB u hu;omega⟩
theorem oP{base:Nat}{e:TypeId}{size n:Nat}{v:Value}{xs:List Value}(h:w.ownsRow base e size v n xs){k:Nat}(hk:v.ownBlock=some k):k<w.heap.size:=by
 rcases h.2 with ⟨rfl,_⟩|⟨g',cap,cur,rfl,hb,hh,_⟩
 · simp [Value.ownBlock] at hk
 · have:g'=k:=(by simpa [Value.ownBlock] using hk);subst this;exact Z6.lt hh
theorem J6{base:Nat}{e:TypeId}{size n:Nat}{v:Value}{xs:List Value}(h:w.ownsRow base e size v n xs){k:Nat}(hk:v.ownBlock=some k):∃ o:Obj,w.heap[k]?=some o/\o.isCells=true:=by
 rcases h.2 with ⟨rfl,_⟩|⟨g',cap,cur,rfl,hb,hh,_⟩
 · simp [Value.ownBlock] at hk
 · have:g'=k:=(by simpa [Value.ownBlock] using hk);subst this;exact ⟨_,hh,rfl⟩
theorem Me{base:Nat}{e:TypeId}{size n:Nat}{v:Value}{xs:List Value}{row:Option Nat}(h:w.ownsRow base e size v n xs)(hb:w.grownBy w' row)(hne:∀ k,v.ownBlock=some k->some k≠row):w'.ownsRow base e size v n xs:=by
 refine ⟨h.1,?_⟩;rcases h.2 with h0|⟨g',cap,cur,hv,hb1,hh,r⟩
 · exact .inl h0
 · subst hv;exact .inr ⟨g',cap,cur,rfl,hb1,(hb.block g' (Z6.lt hh) (hne g' (by simp [Value.ownBlock]))).trans hh,r⟩
theorem below_grown(h:Below w.heap.size w w'):w.grownBy w' none:=⟨h.os,h.tape,h.output,h.size,fun k hk _=>h.block k hk⟩
theorem EI.step{g m:Nat}(h:EI w P g m es)(hb:Below w.heap.size w w'):EI w' P g m es:=by
 obtain ⟨v,n,D,h1,h2,h3,h4,h5,h6,h7,h8⟩:=h;exact ⟨v,n,D,h1.step hb,h2,h3,ZH h4 hb,h5,h6,h7,h8.kept (below_grown hb) (by simp)⟩
theorem Tp.step(h:Tp w P t es)(hb:Below w.heap.size w w'):Tp w' P t es:=by
 cases t with
 | none=>trivial
 | some t=>exact EI.step h hb
theorem Tp.mono(h:Tp w P t es)(hR:∀ k,R k->P k):Tp w R t es:=by
 cases t with
 | none=>trivial
 | some t =>
   obtain ⟨v,n,D,h1,h2,h3,h4,h5,h6,h7,h8⟩:=h;exact ⟨v,n,D,h1,fun h=>h2 (hR _ h),fun h=>h3 (hR _ h),h4,h5,fun k hk=>⟨fun h=>(h6 k hk).1 (hR _ h),(h6 k hk).2⟩,h7,h8⟩
theorem Tp.add(h:Tp w P t es)(hR:∀ k,R k->P k\/w.heap.size<=k):Tp w R t es:=by
 cases t with
 | none=>trivial
 | some t =>
   obtain ⟨v,n,D,h1,h2,h3,h4,h5,h6,h7,h8⟩:=h;have l1:=h1.lt;have l2:=h8.lt;refine ⟨v,n,D,h1,fun h=>?_,fun h=>?_,h4,h5,fun k hk=>⟨fun h=>?_,(h6 k hk).2⟩,h7,h8⟩
   · rcases hR _ h with h|h
     · exact h2 h
     · omega
   · rcases hR _ h with h|h
     · exact h3 h
     · omega
   · have:=oP h4 hk;rcases hR _ h with h|h
     · exact (h6 k hk).1 h
     · omega
theorem Tp.more(h:Tp w P t es)(hb:Below w.heap.size w w'):Tp w' (More P w w') t es :=
 (h.add (R:=More P w w') fun k hk=>by rcases hk with hk|hk;exact .inl hk;exact .inr hk.1).step hb
theorem Tp.kept{b:Nat}(h:Tp w P t es)(hg:w.grownBy w' (some b))(hb:P b):Tp w' P t es:=by
 cases t with
 | none=>trivial
 | some t =>
   obtain ⟨v,n,D,h1,h2,h3,h4,h5,h6,h7,h8⟩:=h;refine ⟨v,n,D,h1.grown hg (fun e=>by cases e;exact h2 hb),h2,h3,Me h4 hg (fun k hk e=>by cases e;exact (h6 _ hk).1 hb),h5,h6,h7,h8.kept hg (fun e=>by cases e;exact h3 hb)⟩
theorem Tp.set{b:Nat}(h:Tp w P t es)(hb:P b)(o:Nat)(u:Value):Tp (w.setCell ⟨b,o,none⟩ u) P t es :=
 h.kept (b:=b) ⟨rfl,rfl,rfl,Nat.le_of_eq (World.size_setCell ..).symm,fun k _ hk=>Below.heap_setCell w ⟨b,o,none⟩ u k (fun e=>hk (by rw [e]))⟩ hb
theorem Tp.drew(h:Tp w P t es):Tp w.drew P t es:=h.step (ZU (Below.refl _ _))
theorem WE{β:Type}(B:Nat)(P:Nat->Prop)(t:Option (Nat × Nat))(f:β->List Ev)(hm:∀ u,t=some u->u.2<B):OwnFrom B (fun s W=>Tp W P t (f s)):=by
 intro s X Y row hs hg hr;cases t with
 | none=>trivial
 | some t =>
   obtain ⟨v,n,D,h1,h2,h3,h4,h5,h6,h7,h8⟩:=hs;refine ⟨v,n,D,h1.grown hg (fun e=>?_),h2,h3,Me h4 hg (fun k hk e=>?_),h5,h6,h7,h8.kept hg (fun e=>?_)⟩
   · obtain ⟨_,o,ho,hc⟩:=hr _ e.symm;rw [show X.heap[t.1]?=_ from h1] at ho;cases ho;cases hc
   · obtain ⟨_,o,ho,hc⟩:=hr _ e.symm;obtain ⟨o',ho',hc'⟩:=J6 h4 hk;rw [ho'] at ho;cases ho;rw [hc'] at hc;cases hc
   · have:=(hr _ e.symm).1;have:=hm t rfl;omega
end
def UU(w:World)(P:Nat->Prop)(A:Option Addr)(xs:List Value):Prop :=
 xs=[]\/∃ b off,A=some ⟨b,off,none⟩/\P b/\∀ j u,xs[j]?=some u->w.cell? ⟨b,off+j,none⟩=some u
section
variable {w w':World}{P R:Nat->Prop}{A:Option Addr}{xs:List Value}
theorem UU.kept(h:UU w P A xs)(hk:Z8 P w w'):UU w' P A xs:=by
 rcases h with h|⟨b,off,hA,hb,hc⟩
 · exact .inl h
 · exact .inr ⟨b,off,hA,hb,fun j u hu=>(hk.cell hb _).trans (hc j u hu)⟩
theorem UU.mono(h:UU w P A xs)(hR:∀ k,P k->R k):UU w R A xs:=by
 rcases h with h|⟨b,off,hA,hb,hc⟩
 · exact .inl h
 · exact .inr ⟨b,off,hA,hR _ hb,hc⟩
theorem UU.sl{B:Nat}(h:UU w P A xs)(hP:∀ k,P k->k<B):Sl w B A xs:=by
 rcases h with h|⟨b,off,hA,hb,hc⟩
 · exact .inl h
 · exact .inr ⟨b,off,hA,hP _ hb,hc⟩
theorem Sl.slP{B:Nat}(h:Sl w B A xs)(hP:∀ k,k<B->P k):UU w P A xs:=by
 rcases h with h|⟨b,off,hA,hb,hc⟩
 · exact .inl h
 · exact .inr ⟨b,off,hA,hP _ hb,hc⟩
theorem Z8.putObj{l:Nat}(o:Obj)(hl:¬ P l)(W:World):Z8 P W (W.putObj l o) :=
 ⟨rfl,rfl,rfl,by simp,fun k hk=>World.putObj_heap_other (fun e=>hl (e ▸ hk))⟩
theorem Z8.setCell{b:Nat}(hb:¬ P b)(o:Nat)(u:Value)(W:World):Z8 P W (W.setCell ⟨b,o,none⟩ u) :=
 ⟨rfl,rfl,rfl,Nat.le_of_eq (World.size_setCell ..).symm,fun k hk=>Below.heap_setCell W ⟨b,o,none⟩ u k (fun e=>hb (by have e:k=b:=e;rw [<- e];exact hk))⟩
theorem UC{β:Type}{B:Nat}{P:Nat->Prop}{w₀:World}(hB:∀ k,P k->k<w₀.heap.size/\k<B):OwnFrom B (fun (_:β) W=>Z8 P w₀ W) :=
 fun _ X Y row hs hg hr=>⟨hg.os.trans hs.os,hg.tape.trans hs.tape,hg.output.trans hs.output,Nat.le_trans hs.size hg.size,fun k hk =>
  (hg.block k (Nat.lt_of_lt_of_le (hB k hk).1 hs.size) (fun e=>by have:=(hr k e.symm).1;have:=(hB k hk).2;omega)).trans (hs.block k hk)⟩
end
section
variable {w w':World}{P R:Nat->Prop}{t:Option (Nat × Nat)}{es:List Ev}
theorem Tp.iE(h:Tp w P t es):∀ u,t=some u->u.2<w.heap.size:=by
 rintro u rfl;obtain ⟨v,n,D,h1,h2,h3,h4,h5,h6,h7,h8⟩:=h;exact h8.lt
theorem Tp.putObj{l:Nat}{o:Obj}(h:Tp w P t es)(hm:∀ u,t=some u->u.2<l)(hl:w.heap[l]?=some o)(ho:o.isCells=false)(o':Obj):Tp (w.putObj l o') P t es :=
 (WE l P t (fun _:Unit=>es) hm).putObj (s:=()) o' h (Nat.le_refl _) hl ho
theorem Tp.with{es':List Ev}(h:Tp w P t es)(h':Tp w R t es'):Tp w R t es:=by
 cases t with
 | none=>trivial
 | some t =>
   obtain ⟨v,n,D,h1,h2,h3,h4,h5,h6,h7,h8⟩:=h;obtain ⟨v',n',D',k1,k2,k3,k4,k5,k6,k7,k8⟩:=h';have e:v'=v:=by
    have e1:=(show w.heap[t.1]?=_ from k1).symm.trans h1;injection e1 with e1;injection e1 with e1;have:=congrArg (fun c=>c[0]?) e1;simpa using this
   subst e;exact ⟨v',n,D,h1,k2,k3,h4,h5,k6,h7,h8⟩
end
theorem lW:(prog.info? 273).map (fun i=>(i.zero,i.size,i.bytes))=some (some (.agg #[.int .i64 0,.int .i64 0,.int .i64 0]),3,24):=by kernel_rfl
theorem p9(w:World):(zeroValue 3).run prog w=.ok (.int .i64 0) w:=by kernel_rfl
theorem Vw:Keyed prog 3:=int_keyed underlying3
def QB(x:Int):Prop:=-9223372036854775808<=x/\x<=9223372036854775807
theorem QB.wf{x:Int}(h:QB x):(Lit.int .i64 x).wf=true:=by unfold QB at h;exact WalkArith.wf_i64 (by omega)
theorem pU {w w1 w3:World} {P:Nat->Prop} {g m g' cap n:Nat} {es:List Ev} {k a b:Int} {v:Value} {D':DataW Unit} {o:Obj} (hP:∀ j,P j->j<w.heap.size) (h1:Z6 w g 377 #[v,.map (some m)]) (h2:¬ P g) (h3:¬ P m)
 (h4:w.ownsRow 0 273 3 v es.length (yt es)) (h5:v.ownBlock≠some g) (h6:∀ k,v.ownBlock=some k->¬ P k/\k≠m) (h7:n<=es.length) (hml:m<w.heap.size) (hgm:g≠m)
 (YN:w1.ownsRow 0 273 3 (.slice (some ⟨g',0,none⟩) (es.length+1) cap) (es.length+1) (yt es++[.int .i64 k,.int .i64 a,.int .i64 b]))
 (ZQ:(w.alloc o).grownBy w1 v.ownBlock) (hat:v.ownBlock=some g'\/g'=w.heap.size+1)
 (Zw:w3.ownsMap (H:=Unit) prog 3 (plainElem prog 3) m (n+1) D') (Zo:(w1.setCell ⟨g,0,none⟩ (.slice (some ⟨g',0,none⟩) (es.length+1) cap)).grownBy w3 (some m)) :
 Z8 P w w3/\Xd (some (g,m)) w w3/\EI w3 P g m (es++[(k,a,b)]):=by
 have hgl:=h1.lt;have hs1:=ZQ.size;rw [World.size_alloc] at hs1;have hs3:=Zo.size;rw [World.size_setCell] at hs3;have hgg:g'≠g/\g'≠m/\¬ P g':=by
  rcases hat with h|h
  · exact ⟨fun e=>h5 (by rw [h,e]),(h6 _ h).2,(h6 _ h).1⟩
  · exact ⟨by omega,by omega,fun hp=>by have:=hP _ hp;omega⟩
 have key:∀ j,j<w.heap.size->j≠g->j≠m->v.ownBlock≠some j->w3.heap[j]?=w.heap[j]?:=fun j hj hg hm hv=>by
  refine (Zo.block j (by rw [World.size_setCell];omega) (fun e=>hm (by cases e;rfl))).trans ?_;refine (Below.heap_setCell w1 ⟨g,0,none⟩ _ j hg).trans ?_;refine (ZQ.block j (by rw [World.size_alloc];omega) (fun e=>hv e.symm)).trans (Below.heap_alloc w o j hj)
 refine ⟨⟨Zo.os.trans ZQ.os,Zo.tape.trans ZQ.tape,Zo.output.trans ZQ.output,by omega,fun j hj=>key j (hP j hj) (fun e=>h2 (e ▸ hj)) (fun e=>h3 (e ▸ hj)) (fun e=>(h6 _ e).1 hj)⟩,⟨by omega,fun j o' ho hc hn=>?_⟩,?_⟩
 · have hj:=(Array.getElem?_eq_some_iff.1 ho).1;refine (key j hj (fun e=>?_) (hn (g,m) rfl) (fun e=>?_)).trans ho
   · subst e;rw [show w.heap[j]?=_ from h1] at ho;cases ho;cases hc
   · obtain ⟨o2,ho2,hc2⟩:=J6 h4 e;rw [ho2] at ho;cases ho;rw [hc2] at hc;cases hc
 · refine ⟨_,n+1,_,(((h1.alloc o).grown ZQ (Ne.symm h5)).set 0 (.slice (some ⟨g',0,none⟩) (es.length+1) cap)).grown Zo (fun e=>hgm (by cases e;rfl)),h2,h3,?_,?_,?_,by simp;omega,Zw⟩
   · have e1:(es++[(k,a,b)]).length=es.length+1:=(by simp);rw [yu,e1];refine Me (IB YN (by simpa [Value.ownBlock] using hgg.1) _) Zo (fun j hj e=>?_);have:g'=j:=(by simpa [Value.ownBlock] using hj);exact hgg.2.1 (by cases e;exact this)
   · simpa [Value.ownBlock] using hgg.1
   · intro j hj;have:g'=j:=(by simpa [Value.ownBlock] using hj);subst this;exact ⟨hgg.2.2,hgg.2.1⟩
theorem vE(k a b:Value)(w:World):Calls prog 259 #[.pointer none,k,a,b] w fun e w'=>e=.returned (.tuple #[])/\w=w':=by
 go_enter func259,ntmps259;go_wp2;refine bodyPost_ret (results_none rfl _ _ _) rfl ?_;exact ⟨rfl,rfl⟩
theorem oG(P:Nat->Prop)(g m:Nat)(es:List Ev)(k a b:Int)(w:World)(hP:∀ j,P j->j<w.heap.size)(ht:EI w P g m es)(hl:es.length<=1000000)(hk:QB k):
 Calls prog 259 #[.pointer (some ⟨g,0,none⟩),.int .i64 k,.int .i64 a,.int .i64 b] w fun e w'=>e=.returned (.tuple #[])/\Z8 P w w'/\Xd (some (g,m)) w w'/\EI w' P g m (es++[(k,a,b)]):=by
 obtain ⟨v,n,D,h1,h2,h3,h4,h5,h6,h7,h8⟩:=ht;have c0:w.cell? ⟨g,0,none⟩=some v:=h1.q0 rfl;have f0:=h1.frozen 0;have hgl:=h1.lt;have hml:=h8.lt;obtain ⟨i0,hi,hz0,hz1,hz2⟩:=info_parts lW;have hgm:g≠m:=by
  rintro rfl;obtain ⟨es',clock,hb,_⟩:=h8;rw [show w.heap[g]?=_ from h1] at hb;cases hb
 have HP:=hide hP;have H6:=hide h6;have HK:=hide hk.wf;have H1:=hide h1;have H8:=hide h8;clear hP h6 hk h1 h8;go_enter func259,ntmps259
 go_wp2_with (first
  | (at_builtin;refine wpList_append_lies _ rfl (.tmp 14) (.tmp 19) 123 rfl 0 273 i0 (.agg #[.int .i64 0,.int .i64 0,.int .i64 0]) 3 24 underlying123 hi hz0 hz1 hz2 rfl (by decide) v es.length _ rfl (ZH h4 (bA)) ⟨w.heap.size,0,none⟩ 1 1 [.int .i64 k,.int .i64 a,.int .i64 b] rfl rfl ?a1 ?a2 ?a3 ?a4 ?a5 ?a6 (w.heap.size+1) ?a7 ?_;rotate_right;intro g' cap w1 YN ZQ hat hlt';have B1:=(H1.out.alloc (.cells #[.int .i64 k,.int .i64 a,.int .i64 b] 273)).grown ZQ (Ne.symm h5);have d1:w1.cell? ⟨g,0,none⟩=some v:=B1.q0 rfl;have e1:=B1.frozen 0;have d2:w1.cell? ⟨g,1,none⟩=some (.map (some m)):=B1.q1 rfl;have M1:=hide ((H8.out.alloc (.cells #[.int .i64 k,.int .i64 a,.int .i64 b] 273)).kept ZQ (fun e=>(H6.out m e.symm).2 rfl));have B1:=hide B1)
  | (at_lookup;refine wpList_lookup_own_int _ rfl _ _ 375 rfl 3 3 .i64 Vw underlying375 underlying3 (p9 _) m n D rfl ?b1 _ (.int .i64 k) rfl ?b2 ?_;rotate_right;intro c zlt hwc)
  | (at_mapUpdate;refine wpList_mapUpdate_own _ rfl _ _ _ 375 rfl 3 3 Vw underlying375 _ m n D rfl ?c1 ?c2 _ _ (.int .i64 k) rfl rfl ?c3 _ [] (plainElem_int underlying3 (wrap64_wf _)) ?_;rotate_right;intro w3 Zw Zo))
 case c1=>exact M1.out.kept (grownBy_setCell' _ _ _) (fun e=>hgm (by cases e;rfl))
 case c2=>unfold maxLen;omega
 case c3=>exact keyOf_int_mk underlying3 HK.out
 case b1=>exact M1.out.kept (grownBy_setCell' _ _ _) (fun e=>hgm (by cases e;rfl))
 case b2=>exact keyOf_int_mk underlying3 HK.out
 case a1=>exact ZF (Z6.new _ _ _)
 case a2=>simp [Value.oneCell']
 case a3=>omega
 case a4=>unfold maxLen;omega
 case a5=>omega
 case a6=>omega
 case a7=>simp
 go_end0;exact ⟨rfl,pU HP.out H1.out h2 h3 h4 h5 H6.out h7 hml hgm YN ZQ hat Zw Zo⟩
theorem Vy(P:Nat->Prop)(t:Option (Nat × Nat))(es:List Ev)(k a b:Int)(w:World)(hP:∀ j,P j->j<w.heap.size)(ht:Tp w P t es)(hl:es.length<=1000000)(hk:QB k):
 Calls prog 259 #[.pointer (Zz t),.int .i64 k,.int .i64 a,.int .i64 b] w fun e w'=>e=.returned (.tuple #[])/\Z8 P w w'/\Xd t w w'/\Tp w' P t (es++[(k,a,b)]):=by
 cases t with
 | none =>
   refine (vE _ _ _ w).mono ?_;rintro e w' ⟨he,rfl⟩;exact ⟨he,Z8.refl _ _,Xd.refl _ _,trivial⟩
 | some t=>exact oG P t.1 t.2 es k a b w hP ht hl hk
end
end Go.Proofs.YthnenedoblncjaaGreatDoor