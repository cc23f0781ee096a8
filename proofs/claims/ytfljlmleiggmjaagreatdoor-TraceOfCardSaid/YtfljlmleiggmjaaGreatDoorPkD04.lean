/- U64 Each -/
import Derived.Deep.AppendLies
import Derived.Deep.RegionLaw
import Derived.Test.YtfljlmleiggmjaaGreatDoorPkD03
set_option maxRecDepth 1000000
set_option maxHeartbeats 8000000
namespace Go.Proofs.YtfljlmleiggmjaaGreatDoor
open Go.Proofs.Tryz
section
open Go.RowKit
structure Z8(P:Nat->Prop)(w w':World):Prop where
 os:w'.os=w.os
 tape:w'.tape=w.tape
 output:w'.output=w.output
 size:w.heap.size<=w'.heap.size
 block:∀ k,P k->w'.heap[k]?=w.heap[k]?
section
variable {P R:Nat->Prop}{w w' w'':World}{B:Nat}
theorem Z8.refl(P:Nat->Prop)(w:World):Z8 P w w:=⟨rfl,rfl,rfl,Nat.le_refl _,fun _ _=>rfl⟩
theorem Z8.trans(h:Z8 P w w')(k:Z8 P w' w''):Z8 P w w'' :=
 ⟨k.os.trans h.os,k.tape.trans h.tape,k.output.trans h.output,Nat.le_trans h.size k.size,fun i hi=>(k.block i hi).trans (h.block i hi)⟩
theorem Z8.of_below(h:Below B w w')(hP:∀ k,P k->k<B):Z8 P w w':=⟨h.os,h.tape,h.output,h.size,fun k hk=>h.block k (hP k hk)⟩
theorem Z8.below(h:Z8 P w w')(hP:∀ k,k<B->P k):Below B w w':=⟨h.os,h.tape,h.output,h.size,fun k hk=>h.block k (hP k hk)⟩
theorem Z8.mono(h:Z8 P w w')(hP:∀ k,R k->P k):Z8 R w w':=⟨h.os,h.tape,h.output,h.size,fun k hk=>h.block k (hP k hk)⟩
theorem Z8.cell(h:Z8 P w w'){b:Nat}(hb:P b)(o:Nat):w'.cell? ⟨b,o,none⟩=w.cell? ⟨b,o,none⟩:=World.cell?_of_block (h.block b hb)
theorem Z8.frozen(h:Z8 P w w'){b:Nat}(hb:P b)(o:Nat):w'.frozen? ⟨b,o,none⟩=w.frozen? ⟨b,o,none⟩:=World.frozen?_of_block (h.block b hb)
theorem Z6.kept{g:Nat}{t:TypeId}{cs:Array Value}(hb:Z6 w g t cs)(h:Z8 P w w')(hP:P g):Z6 w' g t cs:=(h.block g hP).trans hb
theorem Sl.kept{A:Option Addr}{xs:List Value}(hs:Sl w B A xs)(h:Z8 P w w')(hP:∀ k,k<B->P k):Sl w' B A xs:=by
 rcases hs with hs|⟨b,off,hA,hlt,hc⟩
 · exact .inl hs
 · exact .inr ⟨b,off,hA,hlt,fun j u hu=>(h.cell (hP b hlt) _).trans (hc j u hu)⟩
end
def WS(w:World)(P:Nat->Prop)(g:Nat)(bs:List Int):Prop :=
 ∃ v,Z6 w g 162 #[v]/\¬ P g/\w.ownsRow 0 5 1 v bs.length (ZY bs)/\v.ownBlock≠some g/\∀ k,v.ownBlock=some k->¬ P k
def XU(x:Int):List Int:=(List.range 8).map fun k=>x / 256 ^ k % 256
theorem VO(x:Int):(XU x).length=8:=rfl
theorem Lm(x:Int)(k:Nat)(hk:k<8):(XU x).take (k+1)=(XU x).take k++[x / 256 ^ k % 256]:=by
 unfold XU;rw [List.take_add_one]
 congr 1
 rw [List.getElem?_map,List.getElem?_range hk];rfl
theorem GY {wr wa w1:World} {P:Nat->Prop} {g g' cap n:Nat} {t:TypeId} {v:Value} {bs news:List Int} {xs:List Value} (hP:∀ k,P k->k<wr.heap.size)
 (hblk:Z6 wr g t #[v]) (hg:¬ P g) (hne:v.ownBlock≠some g) (eZ:∀ k,v.ownBlock=some k->¬ P k) (hb:Below wr.heap.size wr wa)
 (Zn:w1.ownsRow 0 5 1 (.slice (some ⟨g',0,none⟩) n cap) n xs) (hn:n=(bs++news).length) (hx:xs=ZY (bs++news))
 (ZL:wa.grownBy w1 v.ownBlock) (hat:v.ownBlock=some g'\/g'=wa.heap.size) (ht:t=162) :
 WS (w1.setCell ⟨g,0,none⟩ (.slice (some ⟨g',0,none⟩) n cap)) P g (bs++news)/\Z8 P wr (w1.setCell ⟨g,0,none⟩ (.slice (some ⟨g',0,none⟩) n cap)):=by
 subst ht hn hx;have hgl:g<wa.heap.size:=Nat.lt_of_lt_of_le hblk.lt hb.size;have hgg:some g'≠some g:=by
  rcases hat with h|h
  · rw [<- h];exact hne
  · intro e;injection e with e;omega
 have zxi:¬ P g':=by
  rcases hat with h|h
  · exact eZ g' h
  · intro hp;have:=hP g' hp;have:=hb.size;omega
 refine ⟨⟨_,?_,hg,LU Zn (by simpa [Value.ownBlock] using hgg) _,by simpa [Value.ownBlock] using hgg,fun k hk=>by
  have:g'=k:=by simpa [Value.ownBlock] using hk
  subst this;exact zxi⟩,?_⟩
 · have:=((hblk.step hb).grown ZL (fun e=>hne e.symm)).set 0 (.slice (some ⟨g',0,none⟩) (bs++news).length cap);exact this
 · refine ⟨ZL.os.trans hb.os,ZL.tape.trans hb.tape,ZL.output.trans hb.output,?_,fun k hk=>?_⟩
   · have h1:=hb.size;have h2:=ZL.size;rw [World.size_setCell];omega
   · have hkl:=hP k hk;refine (Below.heap_setCell w1 ⟨g,0,none⟩ _ k ?_).trans ((ZL.block k (Nat.lt_of_lt_of_le hkl hb.size) ?_).trans (hb.block k hkl))
     · rintro rfl;exact hg hk
     · intro e;exact eZ k e.symm hk
theorem keepW{wk w':World}{g:Nat}{v:Value}(h:wk.cell? ⟨g,0,none⟩=some v/\wk.frozen? ⟨g,0,none⟩=false)(hb:Below wk.heap.size wk w'):w'.cell? ⟨g,0,none⟩=some v/\w'.frozen? ⟨g,0,none⟩=false :=
 have hl:=Zv h.1
 ⟨(hb.cell (p:=⟨g,0,none⟩) hl).trans h.1,(hb.frozen (p:=⟨g,0,none⟩) hl).trans h.2⟩
section
variable (P:Nat->Prop)(g:Nat)(bs:List Int)(x:Int)(w:World)
variable (hP:∀ k,P k->k<w.heap.size)(hw:WS w P g bs)(hlen:bs.length<=1000000)
include hP hw hlen
theorem Po:Calls prog 157 #[.pointer (some ⟨g,0,none⟩),.int .u64 x] w fun e w'=>e=.returned (.tuple #[])/\Z8 P w w'/\WS w' P g (bs++XU x):=by
 have HP:=hide hP;clear hP;go_enter func157,ntmps157;go_wp2
 go_loopw [4,5] (fun _ i wr=>∃ k:Nat,k<=8/\i=.int .i64 k/\Z8 P w wr/\WS wr P g (bs++(XU x).take k))
  (fun _ i _=>8 - (intOf i).toNat)
 case atStart=>exact ⟨0,by omega,rfl,Z8.refl _ _,by simpa using hw⟩
 case round =>
  obtain ⟨k,hk,rfl,hbr,v,hblk,hg,ZQ,hne,eZ⟩:=hrel;have HV:=hide eZ;clear eZ
  by_cases hlt:k<8
  · have c0:=hblk.q0 rfl;have f0:=hblk.frozen 0;have hgl:=hblk.lt;obtain ⟨i0,hi,hz0,hz1,hz2⟩:=info_parts WB;have hsh:Op.shift .shr .u64 x .i64 (IntKind.i64.wrap (8*(k:Int)))=pure (.int .u64 (x / 256 ^ k)):=by
     have h8:IntKind.i64.wrap (8*(k:Int))=8*(k:Int):=(by rw [IntKind.wrap_i64];omega);have e:(8*(k:Int)).toNat=8*k:=(by omega);have e2:=shift_shr .u64 .i64 x (8*(k:Int)) (by omega) (by simp [IntKind.bits];omega);rw [h8,e2,e]
     congr 3
     exact Int.pow_mul
    have hln:(bs++List.take k (XU x)).length<=1000008:=(by rw [List.length_append,List.length_take,VO];omega);have hbd:IntKind.u8.wrap (x / 256 ^ k)=x / 256 ^ k % 256:=(by rw [IntKind.wrap_u8]);have HB:=hide hbd;clear hbd;have hsn:∀ cs,cs=bs++List.take k (XU x)->bs++List.take (k+1) (XU x)=cs++[x / 256 ^ k % 256]:=fun cs h=>by rw [h,Lm x k hlt,List.append_assoc]
    generalize hcs:bs++List.take k (XU x)=cs at ZQ hln hsn;have HS:=hide (hsn cs rfl);clear hsn hcs;go_wp2
    go_region_law ((refine step_append_lies _ (by rfl) (.tmp 12) (.tmp 18) 36 (by rfl) 0 5 i0 (.int .u8 0) 1 1 underlying36 hi hz0 hz1 hz2 (by rfl) (by decide) v _ _ (by rfl) (ZO ZQ (ZV (bA))) ⟨wr.heap.size,0,none⟩ 1 1 [.int .u8 (IntKind.u8.wrap (x / 256 ^ k))] (by rfl) (by rfl) (ZI (Z6.new _ _ _).drew) (by simp [Value.oneCell']) (by omega) (by unfold maxLen;omega) (by omega) (by omega) (wr.heap.size+1) (by simp) ?_;intro g' cap w1 Zn ZL hat hlt';have c1:=(World.grownBy.cell_far ZL ⟨g,0,none⟩ (by simp;omega) (Ne.symm hne)).trans (keepW ⟨c0,f0⟩ (ZV (bA))).1;have f1:=(World.grownBy.frozen_far ZL ⟨g,0,none⟩ (by simp;omega) (Ne.symm hne)).trans (keepW ⟨c0,f0⟩ (ZV (bA))).2))
    all_goals
     obtain ⟨p1,p2⟩:=GY (P:=P) (fun k hk=>Nat.lt_of_lt_of_le (HP.out k hk) hbr.size) hblk hg hne HV.out (ZV (bA)) Zn (bs:=cs) (news:=[x / 256 ^ k % 256]) (by simp) (by rw [HB.out,XZ];rfl) ZL (by simpa using hat) rfl;go_wp2;go_roundw
     case rel=>exact ⟨k+1,by omega,by go_num,hbr.trans p2,by rw [HS.out];exact p1⟩
     case measure=>simp [intOf];omega
  · have hk':k=8:=(by omega);subst hk';go_wp2;go_end0;exact ⟨rfl,hbr,v,hblk,hg,ZQ,hne,HV.out⟩
end
end
section
open Go.RowKit
section
variable {w w':World}{P R:Nat->Prop}{g:Nat}{bs:List Int}
theorem WS.lt(h:WS w P g bs):g<w.heap.size:=by
 obtain ⟨v,hb,_⟩:=h;exact hb.lt
theorem WS.step(h:WS w P g bs)(hb:Below w.heap.size w w'):WS w' P g bs:=by
 obtain ⟨v,h1,h2,h3,h4,h5⟩:=h;exact ⟨v,h1.step hb,h2,ZO h3 hb,h4,h5⟩
theorem WS.mono(h:WS w P g bs)(hR:∀ k,R k->P k):WS w R g bs:=by
 obtain ⟨v,h1,h2,h3,h4,h5⟩:=h;exact ⟨v,h1,fun hr=>h2 (hR _ hr),h3,h4,fun k hk hr=>h5 k hk (hR _ hr)⟩
def More(P:Nat->Prop)(w w':World)(k:Nat):Prop:=P k\/w.heap.size<=k/\k<w'.heap.size
theorem WS.more(h:WS w P g bs)(hb:Below w.heap.size w w'):WS w' (More P w w') g bs:=by
 obtain ⟨v,h1,h2,h3,h4,h5⟩:=h;have:=h1.lt;refine ⟨v,h1.step hb,fun h=>?_,ZO h3 hb,h4,fun k hk h=>?_⟩
 · rcases h with h|h
   · exact h2 h
   · omega
 · have:=SX h3 hk;rcases h with h|h
   · exact h5 k hk h
   · omega
theorem Z8.more{w1:World}{P:Nat->Prop}(hb:Below w.heap.size w w')(hP:∀ k,P k->k<w.heap.size)(h:Z8 (More P w w') w' w1):Z8 P w w1 :=
 (Z8.of_below hb hP).trans (h.mono fun _ hk=>.inl hk)
theorem Yg{P:Nat->Prop}(hP:∀ k,P k->k<w.heap.size)(hb:Below w.heap.size w w'):∀ k,More P w w' k->k<w'.heap.size:=by
 intro k hk;rcases hk with hk|hk
 · exact Nat.lt_of_lt_of_le (hP k hk) hb.size
 · exact hk.2
end
def dx(x:Int):Int:=IntKind.u64.wrap x
def Xx(p:Int × Int):List Int:=XU (dx p.1)++XU (dx p.2)
theorem Xl(p:Int × Int):(Xx p).length=16:=rfl
def q24(q:(Int × Int) × Int):List Int:=Xx q.1++XU q.2
theorem KR(q:(Int × Int) × Int):(q24 q).length=24:=rfl
def Vt(r:Int × Int):List Int:=[r.1 % 256]++XU r.2
theorem Rs(r:Int × Int):(Vt r).length=9:=rfl
section
variable (P:Nat->Prop)(g:Nat)(bs:List Int)(w:World)
variable (hP:∀ k,P k->k<w.heap.size)(hw:WS w P g bs)(hlen:bs.length<=900000)
include hP hw hlen
theorem IL(x y:Int):Calls prog 148 #[.pointer (some ⟨g,0,none⟩),.agg #[.int .i64 x,.int .i64 y]] w fun e w'=>e=.returned (.tuple #[])/\Z8 P w w'/\WS w' P g (bs++Xx (x,y)):=by
 obtain ⟨w0,hw0⟩:=eE (w.alloc (.cells #[.int .i64 x,.int .i64 y] 123));have hb:=bE hw0;have hz:w0.heap.size=w.heap.size+1:=by rw [hw0];simp
 have B0:Z6 w0 w.heap.size 123 #[.int .i64 x,.int .i64 y]:=by rw [hw0];exact Z6.new _ _ _
 have hP1:=Yg hP hb;have h0:=hw.more hb;have hm:∀ w1,Z8 (More P w w0) w0 w1->Z8 P w w1:=fun w1=>Z8.more hb hP;have hRk:More P w w0 w.heap.size:=.inr ⟨Nat.le_refl _,by omega⟩;have HM:=hide hm;have HZ:=hide hz;clear hm hz hP;have L9:=hide hP1;clear hP1;go_enter func148,ntmps148;go_wp2_with fail;rw [<- hw0];have HW0:=hide hw0;clear hw0;refine (Po (More P w w0) g bs _ _ L9.out h0 (by omega)).mono ?_;rintro e w1 ⟨rfl,k1,s1⟩;have B1:=B0.kept k1 hRk;have c1:=B1.q1 rfl;go_wp2_with fail;refine (Po (More P w w0) g _ _ _ (fun k hk=>Nat.lt_of_lt_of_le (L9.out k hk) k1.size) s1 (by rw [List.length_append,VO];omega)).mono ?_;rintro e w2 ⟨rfl,k2,s2⟩;go_wp2;go_end0;refine ⟨rfl,HM.out _ (k1.trans k2),?_⟩;have s3:=s2.mono (R:=P) (fun k hk=>.inl hk);rw [List.append_assoc] at s3;exact s3
theorem wR(x y d:Int):Calls prog 150 #[.pointer (some ⟨g,0,none⟩),.agg #[.int .i64 x,.int .i64 y,.int .u64 d]] w fun e w'=>e=.returned (.tuple #[])/\Z8 P w w'/\WS w' P g (bs++q24 ((x,y),d)):=by
 obtain ⟨w0,hw0⟩:=eE (w.alloc (.cells #[.int .i64 x,.int .i64 y,.int .u64 d] 127));have hb:=bE hw0;have hz:w0.heap.size=w.heap.size+1:=by rw [hw0];simp
 have B0:Z6 w0 w.heap.size 127 #[.int .i64 x,.int .i64 y,.int .u64 d]:=by rw [hw0];exact Z6.new _ _ _
 have hP1:=Yg hP hb;have h0:=hw.more hb;have hm:∀ w1,Z8 (More P w w0) w0 w1->Z8 P w w1:=fun w1=>Z8.more hb hP;have hRk:More P w w0 w.heap.size:=.inr ⟨Nat.le_refl _,by omega⟩;have HM:=hide hm;have HZ:=hide hz;clear hm hz hP;have L9:=hide hP1;clear hP1;go_enter func150,ntmps150;go_wp2_with fail;rw [<- hw0];have HW0:=hide hw0;clear hw0;refine (IL (More P w w0) g bs _ L9.out h0 (by omega) x y).mono ?_;rintro e w1 ⟨rfl,k1,s1⟩;have B1:=B0.kept k1 hRk;have c2:=B1.q2 rfl;go_wp2_with fail;refine (Po (More P w w0) g _ _ _ (fun k hk=>Nat.lt_of_lt_of_le (L9.out k hk) k1.size) s1 (by rw [List.length_append,Xl];omega)).mono ?_;rintro e w2 ⟨rfl,k2,s2⟩;go_wp2;go_end0;refine ⟨rfl,HM.out _ (k1.trans k2),?_⟩;have s3:=s2.mono (R:=P) (fun k hk=>.inl hk);rw [List.append_assoc] at s3;exact s3
theorem BD(x d:Int):Calls prog 108 #[.pointer (some ⟨g,0,none⟩),.agg #[.int .u64 x,.int .u64 d]] w fun e w'=>e=.returned (.tuple #[])/\Z8 P w w'/\WS w' P g (bs++Vt (x,d)):=by
 obtain ⟨w0,hw0⟩:=eE (w.alloc (.cells #[.int .u64 x,.int .u64 d] 150));have hb:=bE hw0;have hz:w0.heap.size=w.heap.size+1:=by rw [hw0];simp
 have B0:Z6 w0 w.heap.size 150 #[.int .u64 x,.int .u64 d]:=by rw [hw0];exact Z6.new _ _ _
 have hP1:=Yg hP hb;have h0:=hw.more hb;have hm:∀ w1,Z8 (More P w w0) w0 w1->Z8 P w w1:=fun w1=>Z8.more hb hP;have hRk:More P w w0 w.heap.size:=.inr ⟨Nat.le_refl _,by omega⟩;obtain ⟨v,hblk,hg,ZQ,hne,eZ⟩:=h0;have HV:=hide eZ;clear eZ;have HM:=hide hm;have HZ:=hide hz;clear hm hz hP;have L9:=hide hP1;clear hP1;have c0:=hblk.q0 rfl;have f0:=hblk.frozen 0;have hgl:=hblk.lt;have d0:=B0.q0 rfl;have d1:=B0.q1 rfl;obtain ⟨i0,hi,hz0,hz1,hz2⟩:=info_parts WB;have hbd:IntKind.u8.wrap x=x % 256:=by rw [IntKind.wrap_u8]
 have HB:=hide hbd;clear hbd;go_enter func108,ntmps108;go_wp2;rw [<- hw0];have HW0:=hide hw0;clear hw0
 go_region_law ((refine step_append_lies _ (by rfl) (.tmp 8) (.tmp 12) 36 (by rfl) 0 5 i0 (.int .u8 0) 1 1 underlying36 hi hz0 hz1 hz2 (by rfl) (by decide) v _ _ (by rfl) (ZO ZQ (ZV (bA))) ⟨w0.heap.size,0,none⟩ 1 1 [.int .u8 (IntKind.u8.wrap x)] (by rfl) (by rfl) (ZI (Z6.new _ _ _).drew) (by simp [Value.oneCell']) (by omega) (by unfold maxLen;omega) (by omega) (by omega) (w0.heap.size+1) (by simp) ?_;intro g' cap w1 Zn ZL hat hlt';have c1:=(World.grownBy.cell_far ZL ⟨g,0,none⟩ (by simp;omega) (Ne.symm hne)).trans (keepW ⟨c0,f0⟩ (ZV (bA))).1;have f1:=(World.grownBy.frozen_far ZL ⟨g,0,none⟩ (by simp;omega) (Ne.symm hne)).trans (keepW ⟨c0,f0⟩ (ZV (bA))).2))
 all_goals
  obtain ⟨p1,p2⟩:=GY (P:=More P w w0) L9.out hblk hg hne HV.out (ZV (bA)) Zn (bs:=bs) (news:=[x % 256]) (by simp) (by rw [HB.out,XZ];rfl) ZL (by simpa using hat) rfl;have B1:=B0.kept p2 hRk;have e1:=B1.q1 rfl;clear c0 f0 d0 d1 c1 f1;go_wp2_with fail;refine (Po (More P w w0) g _ _ _ (fun k hk=>Nat.lt_of_lt_of_le (L9.out k hk) p2.size) p1 (by rw [List.length_append];simp;omega)).mono ?_;rintro e w2 ⟨rfl,k2,s2⟩;go_wp2;go_end0;refine ⟨rfl,HM.out _ (p2.trans k2),?_⟩;have s3:=s2.mono (R:=P) (fun k hk=>.inl hk);rw [List.append_assoc] at s3;exact s3
end
end
section
open Go.RowKit
def Uf(x:Int):Prop:=0<=x/\x<18446744073709551616
theorem Uf.nonneg{x:Int}(h:Uf x):0<=x:=h.1
theorem EP(x:Int):Uf (IntKind.u64.wrap x):=by unfold Uf;rw [IntKind.wrap_u64];omega
theorem Uf.div{x:Int}(h:Uf x)(k:Nat):Uf (x / 256 ^ k):=by
 refine ⟨Int.ediv_nonneg h.1 (Int.pow_nonneg (by omega)),Int.lt_of_le_of_lt (Int.ediv_le_self _ h.1) h.2⟩
theorem Uf.quo{z:Int}(h:Uf z):IntKind.u64.wrap (z.tdiv 256)=z / 256:=by
 rw [Int.tdiv_eq_ediv_of_nonneg h.1,IntKind.wrap_u64,Int.emod_eq_of_lt (Int.ediv_nonneg h.1 (by omega)) (Int.lt_of_le_of_lt (Int.ediv_le_self _ h.1) h.2)]
theorem qC{R:Nat->Prop}{w0 wk w':World}{b:Nat}{u v:Value}(hR:R b)(hk:Z8 R wk w')(h:Z8 R w0 wk/\wk.cell? ⟨b,0,none⟩=some u/\wk.cell? ⟨b,1,none⟩=some v):
 Z8 R w0 w'/\w'.cell? ⟨b,0,none⟩=some u/\w'.cell? ⟨b,1,none⟩=some v :=
 ⟨h.1.trans hk,(hk.cell hR _).trans h.2.1,(hk.cell hR _).trans h.2.2⟩
theorem Z8.drew(P:Nat->Prop)(w:World):Z8 P w w.drew:=⟨rfl,rfl,rfl,Nat.le_refl _,fun _ _=>rfl⟩
theorem MH(x:Int)(k:Nat):x / 256 ^ k / 256=x / 256 ^ (k+1):=by
 rw [Int.pow_succ,Int.ediv_ediv_of_nonneg (Int.pow_nonneg (by omega))]
end
section
open Go.RowKit
def Zc(ps:List (Int × Int)):List Value:=ps.flatMap fun p=>[.int .i64 p.1,.int .i64 p.2]
def Zt(ps:List (Int × Int)):List Value:=ps.flatMap fun p=>[.int .u64 p.1,.int .u64 p.2]
def Vs(qs:List ((Int × Int) × Int)):List Value:=qs.flatMap fun q=>[.int .i64 q.1.1,.int .i64 q.1.2,.int .u64 q.2]
theorem flat_get{α:Type}(f:α->List Value)(n:Nat)(hf:∀ a,(f a).length=n):∀ (l:List α) (i:Nat) (a:α),l[i]?=some a->∀ j,j<n->(l.flatMap f)[i*n+j]?=(f a)[j]?
 | [],i,a,h,j,hj=>by simp at h
 | b::l,0,a,h,j,hj=>by
   simp only [List.getElem?_cons_zero,Option.some.injEq] at h;subst h;rw [List.flatMap_cons,List.getElem?_append_left (by rw [hf];omega)]
   congr 1;omega
 | b::l,i+1,a,h,j,hj=>by
   have h':l[i]?=some a:=(by simpa using h);rw [List.flatMap_cons,List.getElem?_append_right (by rw [hf,Nat.succ_mul];omega),hf];have e:(i+1)*n+j - n=i*n+j:=(by rw [Nat.succ_mul];omega);rw [e];exact flat_get f n hf l i a h' j hj
theorem YK{α:Type}(f:α->List Value)(n:Nat)(hf:∀ a,(f a).length=n)(l:List α):(l.flatMap f).length=l.length*n:=by
 induction l with
 | nil=>simp
 | cons a l ih=>rw [List.flatMap_cons,List.length_append,ih,hf,List.length_cons,Nat.succ_mul];omega
section
variable {w:World}{B:Nat}{A:Option Addr}
theorem Sl.pt{ps:List (Int × Int)}(h:Sl w B A (Zc ps)){k:Nat}{p:Int × Int}(hk:ps[k]?=some p):
 ∃ b off,A=some ⟨b,off,none⟩/\b<B/\w.cell? ⟨b,off+k*2,none⟩=some (.int .i64 p.1)/\w.cell? ⟨b,off+k*2+1,none⟩=some (.int .i64 p.2):=by
 have hl:=YK (fun p:Int × Int=>[Value.int .i64 p.1,.int .i64 p.2]) 2 (fun _=>rfl) ps;have hlt:k<ps.length:=(List.getElem?_eq_some_iff.1 hk).1;obtain ⟨b,off,rfl,hB,hc⟩:=h.open_ (by unfold Zc;rw [hl];omega);have g:=flat_get (fun p:Int × Int=>[Value.int .i64 p.1,.int .i64 p.2]) 2 (fun _=>rfl) ps k p hk;exact ⟨b,off,rfl,hB,hc _ _ (g 0 (by omega)),hc _ _ (g 1 (by omega))⟩
theorem Sl.Es{ps:List (Int × Int)}(h:Sl w B A (Zt ps)){k:Nat}{p:Int × Int}(hk:ps[k]?=some p):
 ∃ b off,A=some ⟨b,off,none⟩/\b<B/\w.cell? ⟨b,off+k*2,none⟩=some (.int .u64 p.1)/\w.cell? ⟨b,off+k*2+1,none⟩=some (.int .u64 p.2):=by
 have hl:=YK (fun p:Int × Int=>[Value.int .u64 p.1,.int .u64 p.2]) 2 (fun _=>rfl) ps;have hlt:k<ps.length:=(List.getElem?_eq_some_iff.1 hk).1;obtain ⟨b,off,rfl,hB,hc⟩:=h.open_ (by unfold Zt;rw [hl];omega);have g:=flat_get (fun p:Int × Int=>[Value.int .u64 p.1,.int .u64 p.2]) 2 (fun _=>rfl) ps k p hk;exact ⟨b,off,rfl,hB,hc _ _ (g 0 (by omega)),hc _ _ (g 1 (by omega))⟩
theorem Sl.qu{qs:List ((Int × Int) × Int)}(h:Sl w B A (Vs qs)){k:Nat}{q:(Int × Int) × Int}(hk:qs[k]?=some q):
 ∃ b off,A=some ⟨b,off,none⟩/\b<B/\w.cell? ⟨b,off+k*3,none⟩=some (.int .i64 q.1.1)/\w.cell? ⟨b,off+k*3+1,none⟩=some (.int .i64 q.1.2)/\w.cell? ⟨b,off+k*3+2,none⟩=some (.int .u64 q.2):=by
 have hl:=YK (fun q:(Int × Int) × Int=>[Value.int .i64 q.1.1,.int .i64 q.1.2,.int .u64 q.2]) 3 (fun _=>rfl) qs;have hlt:k<qs.length:=(List.getElem?_eq_some_iff.1 hk).1;obtain ⟨b,off,rfl,hB,hc⟩:=h.open_ (by unfold Vs;rw [hl];omega);have g:=flat_get (fun q:(Int × Int) × Int=>[Value.int .i64 q.1.1,.int .i64 q.1.2,.int .u64 q.2]) 3 (fun _=>rfl) qs k q hk;exact ⟨b,off,rfl,hB,hc _ _ (g 0 (by omega)),hc _ _ (g 1 (by omega)),hc _ _ (g 2 (by omega))⟩
end
theorem Yn{α β:Type}(f:α->List β)(l:List α)(k:Nat)(a:α)(h:l[k]?=some a):(l.take (k+1)).flatMap f=(l.take k).flatMap f++f a:=by
 rw [List.take_add_one,h];simp
theorem WI{α β:Type}(f:α->List β)(n:Nat)(hf:∀ a,(f a).length=n)(l:List α):(l.flatMap f).length=l.length*n:=by
 induction l with
 | nil=>simp
 | cons a l ih=>rw [List.flatMap_cons,List.length_append,ih,hf,List.length_cons,Nat.succ_mul];omega
section
variable (P:Nat->Prop)(g:Nat)(bs:List Int)(w:World)(B:Nat)(A:Option Addr)(c:Nat)
variable (hP:∀ k,P k->k<w.heap.size)(hw:WS w P g bs)(hlen:bs.length<=400000)(hB:∀ k,k<B->P k)
include hP hw hlen hB
theorem Kg(ps:List (Int × Int))(hs:Sl w B A (Zc ps))(hn:ps.length<=10000):
 Calls prog 147 #[.slice A ps.length c,.func (.func 148) #[.pointer (some ⟨g,0,none⟩)] #[]] w fun e w'=>e=.returned (.tuple #[])/\Z8 P w w'/\WS w' P g (bs++ps.flatMap Xx):=by
 have HP:=hide hP;clear hP;have HB:=hide hB;clear hB;go_enter func147,ntmps147;go_wp2
 go_loopw [8] (fun i wr=>∃ k:Nat,k<=ps.length/\i=.int .i64 k/\Z8 P w wr/\WS wr P g (bs++(ps.take k).flatMap Xx))
  (fun i _=>ps.length - (intOf i).toNat)
 case atStart=>exact ⟨0,by omega,rfl,Z8.refl _ _,by simpa using hw⟩
 case round =>
  obtain ⟨k,hk,rfl,hbr,hwr⟩:=hrel
  by_cases hlt:k<ps.length
  · obtain ⟨p,hp⟩:∃ p,ps[k]?=some p:=⟨_,List.getElem?_eq_getElem hlt⟩;obtain ⟨b,off,rfl,hbB,c0,c1⟩:=(hs.kept hbr HB.out).pt hp;have hfl:=WI Xx 16 Xl (ps.take k);have hln:(bs++(ps.take k).flatMap Xx).length<=900000:=(by rw [List.length_append,hfl,List.length_take];omega);have hts:=Yn Xx ps k p hp;have HT:=hide hts;clear hts hp hfl;have hbl:=Zv c0;go_wp2_with fail;refine (IL P g _ _ (fun j hj=>Nat.lt_of_lt_of_le (Nat.lt_of_lt_of_le (HP.out j hj) hbr.size) (by simp)) (hwr.step (bA)) hln p.1 p.2).mono ?_;rintro e w1 ⟨rfl,k1,s1⟩;have hk2:=Z8.trans (Z8.of_below (P:=P) (bA) (fun j hj=>Nat.lt_of_lt_of_le (HP.out j hj) hbr.size)) k1;go_wp2;go_roundw
    case rel=>exact ⟨k+1,by omega,by go_num,hbr.trans hk2,by rw [HT.out,<- List.append_assoc];exact s1⟩
    case measure=>simp [intOf];omega
  · have hk':k=ps.length:=(by omega);subst hk';rw [List.take_length] at hwr;go_wp2;go_end0;exact ⟨rfl,hbr,hwr⟩
theorem MI(ps:List (Int × Int))(hs:Sl w B A (Zt ps))(hn:ps.length<=10000):
 Calls prog 107 #[.slice A ps.length c,.func (.func 108) #[.pointer (some ⟨g,0,none⟩)] #[]] w fun e w'=>e=.returned (.tuple #[])/\Z8 P w w'/\WS w' P g (bs++ps.flatMap Vt):=by
 have HP:=hide hP;clear hP;have HB:=hide hB;clear hB;go_enter func107,ntmps107;go_wp2
 go_loopw [8] (fun i wr=>∃ k:Nat,k<=ps.length/\i=.int .i64 k/\Z8 P w wr/\WS wr P g (bs++(ps.take k).flatMap Vt))
  (fun i _=>ps.length - (intOf i).toNat)
 case atStart=>exact ⟨0,by omega,rfl,Z8.refl _ _,by simpa using hw⟩
 case round =>
  obtain ⟨k,hk,rfl,hbr,hwr⟩:=hrel
  by_cases hlt:k<ps.length
  · obtain ⟨p,hp⟩:∃ p,ps[k]?=some p:=⟨_,List.getElem?_eq_getElem hlt⟩;obtain ⟨b,off,rfl,hbB,c0,c1⟩:=(hs.kept hbr HB.out).Es hp;have hfl:=WI Vt 9 Rs (ps.take k);have hln:(bs++(ps.take k).flatMap Vt).length<=900000:=(by rw [List.length_append,hfl,List.length_take];omega);have hts:=Yn Vt ps k p hp;have HT:=hide hts;clear hts hp hfl;have hbl:=Zv c0;go_wp2_with fail;refine (BD P g _ _ (fun j hj=>Nat.lt_of_lt_of_le (Nat.lt_of_lt_of_le (HP.out j hj) hbr.size) (by simp)) (hwr.step (bA)) hln p.1 p.2).mono ?_;rintro e w1 ⟨rfl,k1,s1⟩;have hk2:=Z8.trans (Z8.of_below (P:=P) (bA) (fun j hj=>Nat.lt_of_lt_of_le (HP.out j hj) hbr.size)) k1;go_wp2;go_roundw
    case rel=>exact ⟨k+1,by omega,by go_num,hbr.trans hk2,by rw [HT.out,<- List.append_assoc];exact s1⟩
    case measure=>simp [intOf];omega
  · have hk':k=ps.length:=(by omega);subst hk';rw [List.take_length] at hwr;go_wp2;go_end0;exact ⟨rfl,hbr,hwr⟩
theorem zI(ps:List ((Int × Int) × Int))(hs:Sl w B A (Vs ps))(hn:ps.length<=10000):
 Calls prog 149 #[.slice A ps.length c,.func (.func 150) #[.pointer (some ⟨g,0,none⟩)] #[]] w fun e w'=>e=.returned (.tuple #[])/\Z8 P w w'/\WS w' P g (bs++ps.flatMap q24):=by
 have HP:=hide hP;clear hP;have HB:=hide hB;clear hB;go_enter func149,ntmps149;go_wp2
 go_loopw [8] (fun i wr=>∃ k:Nat,k<=ps.length/\i=.int .i64 k/\Z8 P w wr/\WS wr P g (bs++(ps.take k).flatMap q24))
  (fun i _=>ps.length - (intOf i).toNat)
 case atStart=>exact ⟨0,by omega,rfl,Z8.refl _ _,by simpa using hw⟩
 case round =>
  obtain ⟨k,hk,rfl,hbr,hwr⟩:=hrel
  by_cases hlt:k<ps.length
  · obtain ⟨p,hp⟩:∃ p,ps[k]?=some p:=⟨_,List.getElem?_eq_getElem hlt⟩;obtain ⟨b,off,rfl,hbB,c0,c1,c2⟩:=(hs.kept hbr HB.out).qu hp;have hfl:=WI q24 24 KR (ps.take k);have hln:(bs++(ps.take k).flatMap q24).length<=900000:=(by rw [List.length_append,hfl,List.length_take];omega);have hts:=Yn q24 ps k p hp;have HT:=hide hts;clear hts hp hfl;have hbl:=Zv c0;go_wp2_with fail;refine (wR P g _ _ (fun j hj=>Nat.lt_of_lt_of_le (Nat.lt_of_lt_of_le (HP.out j hj) hbr.size) (by simp)) (hwr.step (bA)) hln p.1.1 p.1.2 p.2).mono ?_;rintro e w1 ⟨rfl,k1,s1⟩;have hk2:=Z8.trans (Z8.of_below (P:=P) (bA) (fun j hj=>Nat.lt_of_lt_of_le (HP.out j hj) hbr.size)) k1;go_wp2;go_roundw
    case rel=>exact ⟨k+1,by omega,by go_num,hbr.trans hk2,by rw [HT.out,<- List.append_assoc];exact s1⟩
    case measure=>simp [intOf];omega
  · have hk':k=ps.length:=(by omega);subst hk';rw [List.take_length] at hwr;go_wp2;go_end0;exact ⟨rfl,hbr,hwr⟩
end
end
end Go.Proofs.YtfljlmleiggmjaaGreatDoor