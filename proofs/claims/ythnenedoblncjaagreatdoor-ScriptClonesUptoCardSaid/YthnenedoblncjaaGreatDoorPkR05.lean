/- Reader TakeRec Answer Reader2 Take WordAt Points -/
import Derived.Deep.AppendLies
import Derived.Deep.RegionLaw
import Derived.Laws.BitsAllLaws
import Derived.Laws.MakeOwn
import Derived.Test.YthnenedoblncjaaGreatDoorPkR03
set_option maxRecDepth 1000000
set_option maxHeartbeats 8000000
namespace Go.Proofs.YthnenedoblncjaaGreatDoor
open Go.Proofs.Tryz
section
open Go.RowKit
def le:List Int->Int
 | []=>0
 | b::t=>b+256*le t
theorem Fv(l:List Int)(b:Int):le (l++[b])=le l+b*256 ^ l.length:=by
 induction l with
 | nil=>simp [le]
 | cons a l ih =>
   simp only [List.cons_append,le,ih,List.length_cons];rw [Int.pow_succ,Int.mul_add,Int.add_assoc]
   congr 2
   rw [Int.mul_comm,Int.mul_assoc]
def By(bs:List Int):Prop:=∀ x∈bs,0<=x/\x<=255
theorem By.tail{b:Int}{t:List Int}(h:By (b::t)):By t:=fun x hx=>h x (by simp [hx])
theorem By.head{b:Int}{t:List Int}(h:By (b::t)):0<=b/\b<=255:=h b (by simp)
theorem By.take{l:List Int}(h:By l)(k:Nat):By (l.take k):=fun x hx=>h x (List.mem_of_mem_take hx)
theorem By.drop{l:List Int}(h:By l)(k:Nat):By (l.drop k):=fun x hx=>h x (List.mem_of_mem_drop hx)
theorem Cq:∀ (l:List Int),By l->0<=le l/\le l<256 ^ l.length
 | [],_=>by simp [le]
 | b::t,h=>by
   have h1:=Cq t h.tail;have h2:=h.head;simp only [le,List.length_cons];rw [Int.pow_succ];have:le t+1<=256 ^ t.length:=h1.2;omega
theorem le_step{x b:Int}{k:Nat}(hk:k<8)(h0:0<=x)(h1:x<256 ^ k)(b0:0<=b)(b1:b<=255):bits .or .u64 x (IntKind.u64.wrap (b*2 ^ (8*k)))=x+b*256 ^ k:=by
 have e:(2:Int) ^ (8*k)=256 ^ k:=Int.pow_mul;have hp:(256:Int) ^ (k+1)<=18446744073709551616:=by
  exact (by decide:∀ k,k<8->(256:Int) ^ (k+1)<=18446744073709551616) k hk
 have hpos:(0:Int)<256 ^ k:=Int.pow_pos (by omega);rw [Int.pow_succ] at hp;have hb:b*256 ^ k<=255*256 ^ k:=Int.mul_le_mul_of_nonneg_right b1 (Int.le_of_lt hpos);have hb0:0<=b*256 ^ k:=Int.mul_nonneg b0 (Int.le_of_lt hpos);have hw:IntKind.u64.wrap (b*2 ^ (8*k))=b*256 ^ k:=by rw [e,IntKind.wrap_u64,Int.emod_eq_of_lt hb0 (by omega)]
 rw [hw,u64_or x _ h0 (by omega) hb0 (by omega)];have ex:((x.toNat:Nat):Int)=x:=by omega
 have eb:(b*256 ^ k).toNat=2 ^ (8*k)*b.toNat:=by
  have:b*256 ^ k=((2 ^ (8*k)*b.toNat:Nat):Int):=by
   rw [Int.natCast_mul,Int.natCast_pow];have:((b.toNat:Nat):Int)=b:=(by omega);rw [this,Int.mul_comm,<- e];rfl
  omega
 have hlt:x.toNat<2 ^ (8*k):=by
  have:((x.toNat:Nat):Int)<((2 ^ (8*k):Nat):Int):=by rw [ex,Int.natCast_pow];rw [<- e] at h1;exact h1
  omega
 rw [eb,Nat.or_comm,<- Nat.two_pow_add_eq_or_of_lt hlt];have:b*256 ^ k=((2 ^ (8*k)*b.toNat:Nat):Int):=by omega
 omega
def RS(w:World)(P:Nat->Prop)(B g:Nat)(bs:List Int):Prop :=
 ∃ A c,Z7 w g 264 #[.slice A bs.length c]/\¬ P g/\bs.length<=c/\Sl w B A (ZU bs)
theorem L9{l t:List Int}{k:Nat}(h:k<l.length):l.drop k++t=l[k]::(l.drop (k+1)++t):=by
 rw [List.drop_eq_getElem_cons h];rfl
theorem Fw{l:List Int}{k:Nat}(h:k<l.length):le (l.take (k+1))=le (l.take k)+l[k]*256 ^ k:=by
 rw [List.take_succ_eq_append_getElem h,Fv,List.length_take,Nat.min_eq_left (by omega)]
section
variable {w w':World}{P R:Nat->Prop}{B g:Nat}{bs:List Int}
theorem RS.lt(h:RS w P B g bs):g<w.heap.size:=by obtain ⟨A,c,h1,_⟩:=h;exact h1.lt
theorem RS.step(h:RS w P B g bs)(hb:Below w.heap.size w w')(hB:∀ k,k<B->P k)(hP:∀ k,P k->k<w.heap.size):RS w' P B g bs:=by
 obtain ⟨A,c,h1,h2,h3,h4⟩:=h;exact ⟨A,c,h1.step hb,h2,h3,h4.kept (Z9.of_below hb hP) hB⟩
theorem RS.mono(h:RS w P B g bs)(hR:∀ k,R k->P k):RS w R B g bs:=by
 obtain ⟨A,c,h1,h2,h3,h4⟩:=h;exact ⟨A,c,h1,fun hr=>h2 (hR _ hr),h3,h4⟩
theorem Z9.set{b:Nat}(hb:¬ P b)(o:Nat)(u:Value)(w:World):Z9 P w (w.setCell ⟨b,o,none⟩ u) :=
 ⟨rfl,rfl,rfl,by rw [World.size_setCell];exact Nat.le_refl _,fun k hk=>Below.heap_setCell w _ u k (by rintro rfl;exact hb hk)⟩
theorem RS.far(h:RS w P B g bs){b:Nat}(hg:g≠b)(hb:¬ P b)(hB:∀ k,k<B->P k)(o:Nat)(u:Value):RS (w.setCell ⟨b,o,none⟩ u) P B g bs:=by
 obtain ⟨A,c,h1,h2,h3,h4⟩:=h;exact ⟨A,c,h1.far (p:=⟨b,o,none⟩) hg u,h2,h3,h4.kept (Z9.set hb o u w) hB⟩
theorem RS.more(h:RS w P B g bs)(hb:Below w.heap.size w w')(hB:∀ k,k<B->P k)(hP:∀ k,P k->k<w.heap.size):RS w' (More P w w') B g bs:=by
 have hl:=h.lt;obtain ⟨A,c,h1,h2,h3,h4⟩:=h.step hb hB hP;exact ⟨A,c,h1,fun hm=>by rcases hm with hm|hm;exact h2 hm;omega,h3,h4⟩
end
section
variable (P:Nat->Prop)(B g:Nat)(w:World)(hB:∀ k,k<B->P k)
include hB
theorem fJ(x:Int)(t:List Int)(hr:RS w P B g (x::t))(hl:t.length<=1000000):
 Calls prog 329 #[.pointer (some ⟨g,0,none⟩)] w fun e w'=>e=.returned (.int .u8 x)/\Z9 P w w'/\RS w' P B g t:=by
 obtain ⟨A,c,hblk,hg,hc,hs⟩:=hr;obtain ⟨b,off,rfl,hb,hcell⟩:=hs.RU (by simp);have c0:=hcell 0 x rfl;rw [Nat.add_zero] at c0;have hcl:t.length+1<=c:=by simpa using hc
 have g0:=hblk.q0 rfl;have f0:=hblk.frozen 0;have hgl:=hblk.lt;have hbl:=Zz c0;have HB:=hide hB;have HC:=hide hcell;have HS:=hide hs;clear hs hcell hB hc;simp only [List.length_cons] at g0;have hkeep:∀ u,Z9 P w (w.setCell ⟨g,0,none⟩ u):=fun u=>⟨rfl,rfl,rfl,by rw [World.size_setCell];exact Nat.le_refl _,fun k hk=>Below.heap_setCell w _ u k (by rintro rfl;exact hg hk)⟩;have HK:=hide hkeep;clear hkeep
 by_cases hc1:c=1
 · subst hc1;have ht:t=[]:=List.eq_nil_of_length_eq_zero (by omega);subst ht;go_enter func329,ntmps329;go_wp2;go_ret;exact ⟨rfl,HK.out _,_,_,hblk.set 0 _,hg,Nat.le_refl _,Sl.nil _ _ _⟩
 · have hc2:1<c:=(by omega);go_enter func329,ntmps329;go_wp2;go_ret;refine ⟨rfl,HK.out _,_,_,hblk.set 0 _,hg,by omega,?_⟩;refine Sl.kept (P:=P) ?_ (HK.out _) HB.out
   exact Sl.mk hb fun j u hu=>by
    have:=HC.out (j+1);rw [show off+1+j=off+(j+1) by omega];simp only [ZU,List.getElem?_map,Option.map_eq_some_iff] at hu;obtain ⟨y,hy,rfl⟩:=hu;exact this y (by simpa using hy)
theorem PY(l t:List Int)(hl8:l.length=8)(hby:By l)(hr:RS w P B g (l++t))(hl:t.length<=900000):
 Calls prog 289 #[.pointer (some ⟨g,0,none⟩)] w fun e w'=>e=.returned (.int .u64 (le l))/\Z9 P w w'/\RS w' P B g t:=by
 have HB:=hide hB;clear hB;have Uq:=hide hby;clear hby;have HL:=hide hl8;clear hl8;go_enter func289,ntmps289;go_wp2
 go_loopw [3,5] (fun x i wr=>∃ (k:Nat) (y:Int),k<=8/\i=.int .i64 k/\x=.int .u64 y/\y=le (l.take k)/\Z9 P w wr/\RS wr P B g (l.drop k++t))
  (fun _ i _=>8 - (intOf i).toNat)
 case atStart=>exact ⟨0,0,by omega,rfl,rfl,rfl,Z9.refl _ _,by simpa using hr⟩
 case round =>
  obtain ⟨k,y,hk,rfl,rfl,hy,hkp,hrs⟩:=hrel;have HY:=hide hy;clear hy
  by_cases hlt:k<8
  · have hkl:k<l.length:=(by rw [HL.out];exact hlt);obtain ⟨b,hb⟩:=eE (l[k]);have pz:=Uq.out l[k] (List.getElem_mem hkl);rw [<- hb] at pz;obtain ⟨hb0,hb1⟩:=pz;have hyb:=Cq (l.take k) (Uq.out.take k);rw [List.length_take,Nat.min_eq_left (by omega),<- HY.out] at hyb;have HST:=hide (le_step hlt hyb.1 hyb.2 hb0 hb1);have Mj:Hid (le (l.take (k+1))=y+b*256 ^ k):=(by apply hide;rw [Fw hkl,HY.out,hb]);rw [L9 hkl,<- hb] at hrs;have hsh:Op.shift .shl .u64 b .i64 (IntKind.i64.wrap (8*(k:Int)))=pure (.int .u64 (IntKind.u64.wrap (b*2 ^ (8*k)))):=by
     have h8:IntKind.i64.wrap (8*(k:Int))=8*(k:Int):=(by rw [IntKind.wrap_i64];omega);have e:(8*(k:Int)).toNat=8*k:=(by omega);have e2:=shift_shl .u64 .i64 b (8*(k:Int)) (by omega) (by simp [IntKind.bits];omega);rw [h8,e2,e]
    have HBE:=hide hb;clear hb hyb;have hln:(l.drop (k+1)++t).length<=1000000:=(by rw [List.length_append,List.length_drop,HL.out];omega);go_wp2_with fail;refine (fJ P B g wr HB.out b _ hrs hln).mono ?_;rintro e w1 ⟨rfl,k1,r1⟩;go_wp2;go_roundw
    case rel=>exact ⟨k+1,_,by omega,by go_num,rfl,by rw [Mj.out];exact HST.out,hkp.trans k1,r1⟩
    case measure=>simp [intOf];omega
  · have hk':k=8:=(by omega);subst hk';have h8:l.drop 8=[]:=List.drop_of_length_le (by rw [HL.out];omega);have t8:l.take 8=l:=List.take_of_length_le (by rw [HL.out];omega);rw [h8,List.nil_append] at hrs;have HYY:Hid (y=le l):=(by apply hide;rw [HY.out,t8]);clear h8 t8;go_wp2;go_ret;exact ⟨Zf HYY.out,hkp,hrs⟩
end
end
section
open Go.RowKit
def Plus(P:Nat->Prop)(b k:Nat):Prop:=P k\/k=b
theorem RS.plus{w:World}{P:Nat->Prop}{B g b:Nat}{bs:List Int}(h:RS w P B g bs)(hg:g≠b):RS w (Plus P b) B g bs:=by
 obtain ⟨A,c,h1,h2,h3,h4⟩:=h;exact ⟨A,c,h1,fun hp=>by rcases hp with hp|hp;exact h2 hp;exact hg hp,h3,h4⟩
def recAt(bs:List Int)(i:Nat):Int × Int:=(bs.getD (9*i) 0,le ((bs.drop (9*i+1)).take 8))
def yY(bs:List Int)(n:Nat):List (Int × Int):=(List.range n).map (recAt bs)
theorem kT:(prog.info? 148).map (fun i=>(i.zero,i.size,i.bytes))=some (some (.agg #[.int .u64 0,.int .u64 0]),2,16):=by kernel_rfl
theorem G7(n:Nat)(hn:n<=1000000)(w:World):(Instr.makeSlice 110 (.int .i64 (n:Int)) (.int .i64 (n:Int))).run prog w=.ok (.slice (some ⟨w.heap.size,0,none⟩) n n) (w.alloc (.cells (madeCells #[.int .u64 0,.int .u64 0] (n*2)) 148)):=by
 obtain ⟨i,hi,hz0,hz1,hz2⟩:=info_parts kT;have h:=run_make (P:=prog) w 110 148 i _ underlying110 hi hz0 .i64 .i64 n n (by omega) (Int.le_refl _) (by rw [hz2];omega) (by omega);rw [hz1] at h;simpa [Value.cells] using h
theorem UD{w:World}{g:Nat}{t:TypeId}{cs:Array Value}(h:Z7 w g t cs){xs:List Value}(hx:∀ (j:Nat) u,xs[j]?=some u->cs[j]?=some u):Sl w w.heap.size (some ⟨g,0,none⟩) xs :=
 Sl.mk h.lt fun j u hu=>by rw [Nat.zero_add];exact h.cell (hx j u hu)
theorem Hy{α:Type}(f:α->List Value)(m:Nat)(hm:0<m)(hf:∀ a,(f a).length=m)(l:List α)(cs:Array Value)(h:∀ (i:Nat) (a:α),l[i]?=some a->∀ j,j<m->cs[i*m+j]?=(f a)[j]?):
 ∀ (j:Nat) u,(l.flatMap f)[j]?=some u->cs[j]?=some u:=by
 intro j u hu;have hl:=Y5 f m hf l;have hj:j<(l.flatMap f).length:=(List.getElem?_eq_some_iff.1 hu).1;have hi:j / m<l.length:=by rw [hl] at hj;exact (Nat.div_lt_iff_lt_mul hm).2 hj
 have hd:j=j / m*m+j % m:=by rw [Nat.mul_comm];exact (Nat.div_add_mod j m).symm
 have h1:=flat_get f m hf l (j / m) l[j / m] (List.getElem?_eq_getElem hi) (j % m) (Nat.mod_lt _ hm);have h2:=h (j / m) l[j / m] (List.getElem?_eq_getElem hi) (j % m) (Nat.mod_lt _ hm);rw [<- hd] at h1 h2;rw [h2,<- h1];exact hu
section
variable (P:Nat->Prop)(B g:Nat)(w:World)(hB:∀ k,k<B->P k)
include hB
end
end
section
open Go.RowKit
def U7(cnt:Int)(i:Nat)(r:Int × Int):Bool:=if (i:Int)<cnt then r.1 == 1 else (r.1 == 0 && r.2 == 0)
def WV(cnt:Int):Nat->List (Int × Int)->Bool
 | _,[]=>true
 | i,r::t=>U7 cnt i r && WV cnt (i+1) t
def most(op:Int):Int:=if op=3 then 3 else if op=5 then 1 else 2
def IK(val ZY:Int):Int:=if val=0 then 0 else ZY
def Vr(op ZY val cnt:Int)(recs:List (Int × Int)):Bool :=
 if val<0 then false else if most op<val then false else if (recs.length:Int)≠ZY then false else if cnt<0 then false else if IK val ZY<cnt then false else WV cnt 0 recs
theorem Cz(cnt:Int)(recs:List (Int × Int))(k:Nat)(r:Int × Int)(h:recs[k]?=some r):WV cnt k (recs.drop k)=(U7 cnt k r && WV cnt (k+1) (recs.drop (k+1))):=by
 have hk:k<recs.length:=(List.getElem?_eq_some_iff.1 h).1;rw [List.drop_eq_getElem_cons hk];have:recs[k]=r:=by rw [List.getElem?_eq_getElem hk] at h;simpa using h
 rw [this];rfl
section
variable (op vs ZY val cnt:Int)(HA RA:Option Addr)(hn hc rc:Nat)(recs:List (Int × Int))(w:World)
variable (hs:Sl w w.heap.size RA (Zb recs))(hrn:recs.length<=maxLen)(hp0:0<=ZY)(hp1:ZY<=4096)
include hs hrn hp0 hp1
theorem Ci(M:Int)(hM:op=3/\M=3\/op=5/\M=1\/(op == 3)=false/\(op == 5)=false/\M=2)(hm:most op=M):
 Calls prog 232 #[.agg #[.int .i64 op,.int .i64 vs,.slice HA hn hc,.int .i64 ZY],.agg #[.int .i64 val,.int .i64 cnt,.slice RA recs.length rc]] w fun e w'=>e=.returned (.bool (Vr op ZY val cnt recs))/\Below w.heap.size w w':=by
 unfold maxLen at hrn;have HS:=hide hs;clear hs;obtain ⟨w0,hw0⟩:=eE ((w.alloc (.cells #[.int .i64 op,.int .i64 vs,.slice HA hn hc,.int .i64 ZY] 53)).alloc (.cells #[.int .i64 val,.int .i64 cnt,.slice RA recs.length rc] 175));have hb0:=bF hw0;have BA:Z7 w0 w.heap.size 53 #[.int .i64 op,.int .i64 vs,.slice HA hn hc,.int .i64 ZY]:=by rw [hw0];exact (Z7.new _ _ _).alloc _
 have BR:Z7 w0 (w.heap.size+1) 175 #[.int .i64 val,.int .i64 cnt,.slice RA recs.length rc]:=by rw [hw0];exact Z7.new2 _ _ _ _
 have HW0:=hide hw0;clear hw0;have HI:Hid (Vr op ZY val cnt recs=if val<0 then false else if M<val then false else if (recs.length:Int)≠ZY then false else if cnt<0 then false else if IK val ZY<cnt then false else WV cnt 0 recs):=by
  apply hide;unfold Vr;rw [hm]
 clear hm
 by_cases c1:val<0
 · rcases hM with ⟨rfl,rfl⟩|⟨rfl,rfl⟩|⟨h3,h5,rfl⟩
   all_goals
    go_enter func232,ntmps232;go_wp2;go_ret;exact ⟨XA (by rw [HI.out,if_pos (by omega)]),Z5 (bA) _⟩
 by_cases c2:M<val
 · rcases hM with ⟨rfl,rfl⟩|⟨rfl,rfl⟩|⟨h3,h5,rfl⟩
   all_goals
    go_enter func232,ntmps232;go_wp2;go_ret;exact ⟨XA (by rw [HI.out,if_neg (by omega),if_pos (by omega)]),Z5 (bA) _⟩
 by_cases c3:(recs.length:Int)≠ZY
 · rcases hM with ⟨rfl,rfl⟩|⟨rfl,rfl⟩|⟨h3,h5,rfl⟩
   all_goals
    have c3':((recs.length:Int) != ZY)=true:=(by simpa using c3);go_enter func232,ntmps232;go_wp2;go_ret;exact ⟨XA (by rw [HI.out,if_neg (by omega),if_neg (by omega),if_pos (by omega)]),Z5 (bA) _⟩
 obtain rfl:ZY=(recs.length:Int):=by omega
 by_cases c4:cnt<0
 · rcases hM with ⟨rfl,rfl⟩|⟨rfl,rfl⟩|⟨h3,h5,rfl⟩
   all_goals
    go_enter func232,ntmps232;go_wp2;go_ret;exact ⟨XA (by rw [HI.out,if_neg (by omega),if_neg (by omega),if_neg (by omega),if_pos (by omega)]),Z5 (bA) _⟩
 have hl:IK val (recs.length:Int)=if val=0 then 0 else (recs.length:Int):=rfl;obtain ⟨L,hL⟩:∃ L,IK val (recs.length:Int)=L:=⟨_,rfl⟩;rw [hL] at hl;have sO:=hide hL;clear hL;have hv3:val=0/\L=0\/val=1/\L=recs.length\/1<val/\L=recs.length:=by
  by_cases h0:val=0
  · rw [if_pos h0] at hl;omega
  · rw [if_neg h0] at hl;omega
 clear hl
 by_cases c5:L<cnt
 · rcases hv3 with ⟨rfl,rfl⟩|⟨rfl,rfl⟩|⟨hv1,rfl⟩
   all_goals rcases hM with ⟨rfl,rfl⟩|⟨rfl,rfl⟩|⟨h3,h5,rfl⟩
   all_goals first|(exfalso;omega)|(
    go_enter func232,ntmps232;go_wp2;go_ret
    exact ⟨XA (by rw [HI.out,if_neg (by omega),if_neg (by omega),if_neg (by omega),if_neg (by omega),sO.out,if_pos (by omega)]),Z5 (bA) _⟩)
 have HI2:Hid (Vr op recs.length val cnt recs=WV cnt 0 recs):=by
  apply hide;rw [HI.out,if_neg (by omega),if_neg (by omega),if_neg (by omega),if_neg (by omega),sO.out,if_neg (by omega)]
 clear HI sO c3;have b11:=BR.q1 rfl;have b12:=BR.q2 rfl;rcases hv3 with ⟨rfl,rfl⟩|⟨rfl,rfl⟩|⟨hv1,rfl⟩
 all_goals rcases hM with ⟨rfl,rfl⟩|⟨rfl,rfl⟩|⟨h3,h5,rfl⟩
 all_goals first|(exfalso;omega)|(
  go_enter func232,ntmps232;go_wp2;rw [<- HW0.out]
  go_loopw [51] (fun i wr=>∃ k:Nat,k<=recs.length/\i=.int .i64 k/\Below w0.heap.size w0 wr/\WV cnt k (recs.drop k)=WV cnt 0 recs)
   (fun i _=>recs.length - (intOf i).toNat)
  case atStart=>exact ⟨0,by omega,rfl,Below.refl _ _,by simp⟩
  case round =>
   obtain ⟨k,hk,rfl,hbr,hok⟩:=hrel;have Ud:=hide hok;clear hok;have r1:=(BR.step hbr).q1 rfl;have hBl:=(BR.step hbr).lt
   by_cases hlt:k<recs.length
   · obtain ⟨r,hr⟩:∃ r,recs[k]?=some r:=⟨_,List.getElem?_eq_getElem hlt⟩;obtain ⟨b,off,rfl,hb,q0,q1⟩:=(HS.out.below (Z8 hb0 hbr)).aR hr;have hbl:=Zz q0;have HD:=hide (Cz cnt recs k r hr);clear hr b11 b12
     by_cases hlive:(k:Int)<cnt
     · first
        | (exfalso;omega)
        | (by_cases h1:r.1=1
           · have h1':(r.1 != 1)=false:=(by simpa using h1);have HO:Hid (U7 cnt k r=true):=(by apply hide;unfold U7;rw [if_pos hlive,h1];rfl);have H1:=hide h1;clear h1;go_wp2;go_roundw
             case rel=>exact ⟨k+1,by omega,by go_num,Z5 hbr _,by rw [<- Ud.out,HD.out,HO.out,Bool.true_and]⟩
             case measure=>simp [intOf];omega
           · have h1':(r.1 != 1)=true:=(by simpa using h1);have HO:Hid (U7 cnt k r=false):=(by apply hide;unfold U7;rw [if_pos hlive];simpa using h1);have H1:=hide h1;clear h1;go_wp2;go_ret
             exact ⟨XA (by rw [HI2.out,<- Ud.out,HD.out,HO.out,Bool.false_and]),Z8 hb0 (Z5 hbr _)⟩)
     · by_cases h1:r.1=0
       · by_cases h2:r.2=0
         · have HO:Hid (U7 cnt k r=true):=(by apply hide;unfold U7;rw [if_neg hlive,h1,h2];rfl);go_wp2;go_roundw
           case rel=>exact ⟨k+1,by omega,by go_num,Z5 hbr _,by rw [<- Ud.out,HD.out,HO.out,Bool.true_and]⟩
           case measure=>simp [intOf];omega
         · have HO:Hid (U7 cnt k r=false):=(by apply hide;unfold U7;rw [if_neg hlive];simp [h2]);go_wp2;go_ret;exact ⟨XA (by rw [HI2.out,<- Ud.out,HD.out,HO.out,Bool.false_and]),Z8 hb0 (Z5 hbr _)⟩
       · have HO:Hid (U7 cnt k r=false):=(by apply hide;unfold U7;rw [if_neg hlive];simp [h1]);go_wp2;go_ret;exact ⟨XA (by rw [HI2.out,<- Ud.out,HD.out,HO.out,Bool.false_and]),Z8 hb0 (Z5 hbr _)⟩
   · have hk':k=recs.length:=(by omega);subst hk';go_wp2;go_ret
     exact ⟨XA (by rw [HI2.out,<- Ud.out,List.drop_length];rfl),Z8 hb0 hbr⟩)
end
end
section
open Go.RowKit
def VO(x:Int):Int:=wrap64 x
section
variable (P:Nat->Prop)(B g:Nat)(w:World)(hB:∀ k,k<B->P k)
include hB
theorem MR(l1 l2 t:List Int)(h1:l1.length=8)(h2:l2.length=8)(hb1:By l1)(hb2:By l2)(hP:∀ k,P k->k<w.heap.size)(hr:RS w P B g (l1++(l2++t)))(hl:t.length<=800000):
 Calls prog 228 #[.pointer (some ⟨g,0,none⟩)] w fun e w'=>e=.returned (.agg #[.int .i64 (VO (le l1)),.int .i64 (VO (le l2))])/\Z9 P w w'/\RS w' P B g t:=by
 obtain ⟨w0,hw0⟩:=eE (w.alloc (.cells #[.int .i64 0,.int .i64 0] 41));have hb:=bE hw0;have hz:w0.heap.size=w.heap.size+1:=by rw [hw0];simp
 have B0:Z7 w0 w.heap.size 41 #[.int .i64 0,.int .i64 0]:=by rw [hw0];exact Z7.new _ _ _
 have hP1:=Yr hP hb;have h0:=hr.more hb hB hP;have hm:∀ w1,Z9 (More P w w0) w0 w1->Z9 P w w1:=fun w1=>Z9.more hb hP;have hRk:More P w w0 w.heap.size:=.inr ⟨Nat.le_refl _,by omega⟩;have hBm:∀ k,k<B->More P w w0 k:=fun k hk=>.inl (hB k hk);have HM:=hide hm;have HZ:=hide hz;have eD:=hide hP;clear hm hz hP;have Ei:=hide hP1;clear hP1;have hB0:=hide hB;have HB:=hide hBm;clear hB hBm;have HB1:=hide hb1;have HB2:=hide hb2;have HL1:=hide h1;have HL2:=hide h2;clear hb1 hb2 h1 h2;have hln:(l2++t).length<=900000:=by rw [List.length_append,HL2.out];omega
 go_enter func228,ntmps228;go_wp2_with fail;rw [<- hw0];have HW0:=hide hw0;clear hw0;refine (PY (More P w w0) B g w0 HB.out l1 (l2++t) HL1.out HB1.out h0 hln).mono ?_;rintro e w1 ⟨rfl,k1,r1⟩;go_wp2_with fail;refine (PY (More P w w0) B g w1 HB.out l2 t HL2.out HB2.out r1 (by omega)).mono ?_;rintro e w2 ⟨rfl,k2,r2⟩;have B2:=(B0.kept k1 hRk).kept k2 hRk;have b0:=B2.q0 rfl;have b1:=B2.q1 rfl;have f0:=B2.frozen 0;have f1:=B2.frozen 1;have hBl:=B2.lt;have B3:=(B2.set 0 (.int .i64 (wrap64 (le l1)))).set 1 (.int .i64 (wrap64 (le l2)));have e0:(w2.setCell ⟨w.heap.size,0,none⟩ (.int .i64 (wrap64 (le l1)))).cell? ⟨w.heap.size,0,none⟩=some (.int .i64 (wrap64 (le l1))):=(B2.set 0 _).q0 rfl;have e1:((w2.setCell ⟨w.heap.size,0,none⟩ (.int .i64 (wrap64 (le l1)))).setCell ⟨w.heap.size,1,none⟩ (.int .i64 (wrap64 (le l2)))).cell? ⟨w.heap.size,1,none⟩=some (.int .i64 (wrap64 (le l2))):=B3.q1 rfl;have Md:¬ P w.heap.size:=fun h=>by have:=eD.out _ h;omega
 have pQ:g≠w.heap.size:=by have:=hr.lt;omega
 clear B3;go_wp2;refine bodyPost_ret (v:=.agg #[.int .i64 (wrap64 (le l1)),.int .i64 (wrap64 (le l2))]) (by simp [results,Tryz.results228,go_sem,e0,e1]) rfl ⟨rfl,?_,?_⟩
 · exact ((HM.out _ (k1.trans k2)).trans (Z9.set Md _ _ _)).trans (Z9.set Md _ _ _)
 · exact ((r2.mono (R:=P) (fun k hk=>.inl hk)).far pQ Md hB0.out _ _).far pQ Md hB0.out _ _
theorem Dh(l1 l2 l3 t:List Int)(h1:l1.length=8)(h2:l2.length=8)(h3:l3.length=8)(hb1:By l1)(hb2:By l2)(hb3:By l3)(hP:∀ k,P k->k<w.heap.size)(hr:RS w P B g (l1++(l2++(l3++t))))(hl:t.length<=700000):
 Calls prog 230 #[.pointer (some ⟨g,0,none⟩)] w fun e w'=>e=.returned (.agg #[.int .i64 (VO (le l1)),.int .i64 (VO (le l2)),.int .u64 (le l3)])/\Z9 P w w'/\RS w' P B g t:=by
 obtain ⟨w0,hw0⟩:=eE (w.alloc (.cells #[.int .i64 0,.int .i64 0,.int .u64 0] 46));have hb:=bE hw0;have hz:w0.heap.size=w.heap.size+1:=by rw [hw0];simp
 have B0:Z7 w0 w.heap.size 46 #[.int .i64 0,.int .i64 0,.int .u64 0]:=by rw [hw0];exact Z7.new _ _ _
 have hP1:=Yr hP hb;have h0:=hr.more hb hB hP;have hm:∀ w1,Z9 (More P w w0) w0 w1->Z9 P w w1:=fun w1=>Z9.more hb hP;have hRk:More P w w0 w.heap.size:=.inr ⟨Nat.le_refl _,by omega⟩;have hBm:∀ k,k<B->More P w w0 k:=fun k hk=>.inl (hB k hk);have HM:=hide hm;have HZ:=hide hz;have eD:=hide hP;clear hm hz hP;have Ei:=hide hP1;clear hP1;have hB0:=hide hB;have HB:=hide hBm;clear hB hBm;have HB3:=hide hb3;have HL3:=hide h3;have hln:(l3++t).length<=800000:=by rw [List.length_append,h3];omega
 have PT:=MR (More P w w0) B g w0 HB.out l1 l2 (l3++t) h1 h2 hb1 hb2 Ei.out h0 hln;have vJ:=hide PT;clear hb1 hb2 hb3 h1 h2 h3 PT;go_enter func230,ntmps230;go_wp2_with fail;rw [<- hw0];have HW0:=hide hw0;clear hw0;refine vJ.out.mono ?_;rintro e w1 ⟨rfl,k1,r1⟩;go_wp2;obtain ⟨w2,hw2⟩:=eE (w1.alloc (.cells #[.int .i64 (VO (le l1)),.int .i64 (VO (le l2))] 41));rw [<- hw2];have hbx:=bE hw2;have Q2:Z7 w2 w1.heap.size 41 #[.int .i64 (VO (le l1)),.int .i64 (VO (le l2))]:=by rw [hw2];exact Z7.new _ _ _
 have hz2:w2.heap.size=w1.heap.size+1:=by rw [hw2];simp
 have HW2:=hide hw2;clear hw2;have hPx:∀ k,More P w w0 k->k<w1.heap.size:=fun k hk=>Nat.lt_of_lt_of_le (Ei.out k hk) k1.size;have r2:=r1.more hbx HB.out hPx;have B2:=(B0.kept k1 hRk).step hbx;have c0:=Q2.q0 rfl;have c1:=Q2.q1 rfl;have xw:More (More P w w0) w1 w2 w.heap.size:=.inl hRk;have zgf:More (More P w w0) w1 w2 w1.heap.size:=.inr ⟨Nat.le_refl _,by omega⟩;have WD:=PY (More (More P w w0) w1 w2) B g w2.drew (fun k hk=>.inl (HB.out k hk)) l3 t HL3.out HB3.out r2 (by omega);have HWD:=hide WD;have HPX:=hide hPx;clear WD hPx hz2;have Md:¬ P w.heap.size:=fun h=>by have:=eD.out _ h;omega
 have pQ:g≠w.heap.size:=by have:=hr.lt;omega
 go_region_law (first
  | (go_simp;go_at_call 289;refine HWD.out.mono ?_;rintro e w3 ⟨rfl,k3,r3⟩;have x0:=(Q2.drew.kept k3 zgf).q0 rfl;have x1:=(Q2.drew.kept k3 zgf).q1 rfl;have y0:=(B2.drew.kept k3 xw).q0 rfl;have y1:=(B2.drew.kept k3 xw).q1 rfl;have y2:=(B2.drew.kept k3 xw).q2 rfl;have f0:=(B2.drew.kept k3 xw).frozen 0;have f1:=(B2.drew.kept k3 xw).frozen 1;have f2:=(B2.drew.kept k3 xw).frozen 2))
 all_goals
  have B3:=B2.drew.kept k3 xw;go_wp2;have e0:=(B3.set 0 (.int .i64 (VO (le l1)))).q0 rfl;have e1:=((B3.set 0 (.int .i64 (VO (le l1)))).set 1 (.int .i64 (VO (le l2)))).q1 rfl;have e2:=(((B3.set 0 (.int .i64 (VO (le l1)))).set 1 (.int .i64 (VO (le l2)))).set 2 (.int .u64 (le l3))).q2 rfl;have kk:Z9 P w w3:=HM.out _ ((k1.trans (Z9.of_below hbx HPX.out)).trans ((Z9.drew _ _).trans (k3.mono (fun k hk=>.inl hk))));refine bodyPost_ret (v:=.agg #[.int .i64 (VO (le l1)),.int .i64 (VO (le l2)),.int .u64 (le l3)]) (by simp [results,Tryz.results230,go_sem,e0,e1,e2]) rfl ⟨rfl,?_,?_⟩
  · exact ((kk.trans (Z9.set Md _ _ _)).trans (Z9.set Md _ _ _)).trans (Z9.set Md _ _ _)
  · exact (((r3.mono (R:=P) (fun k hk=>.inl (.inl hk))).far pQ Md hB0.out _ _).far pQ Md hB0.out _ _).far pQ Md hB0.out _ _
end
end
section
open Go.RowKit
def eight(bs:List Int)(k:Nat):List Int:=(bs.drop k).take 8
theorem WO{bs:List Int}{k:Nat}(h:k+8<=bs.length):(eight bs k).length=8:=by unfold eight;rw [List.length_take,List.length_drop];omega
theorem Xc{bs:List Int}(h:By bs)(k:Nat):By (eight bs k):=(h.drop _).take _
theorem VE(bs:List Int)(k:Nat):bs.drop k=eight bs k++bs.drop (k+8):=by
 unfold eight;rw [<- List.drop_drop,List.take_append_drop]
def UF(bs:List Int)(i:Nat):Int × Int:=(VO (le (eight bs (16*i))),VO (le (eight bs (16*i+8))))
def WK(bs:List Int)(i:Nat):(Int × Int) × Int:=((VO (le (eight bs (24*i))),VO (le (eight bs (24*i+8)))),le (eight bs (24*i+16)))
def XV(bs:List Int)(n:Nat):List (Int × Int):=(List.range n).map (UF bs)
def XG(bs:List Int)(n:Nat):List ((Int × Int) × Int):=(List.range n).map (WK bs)
theorem Zj(bs:List Int)(n:Nat):(XV bs n).length=n:=by simp [XV]
theorem qQ(bs:List Int){n i:Nat}(h:i<n):(XV bs n)[i]?=some (UF bs i):=by simp [XV,h]
theorem WJ(bs:List Int)(n:Nat):(XG bs n).length=n:=by simp [XG]
theorem qY(bs:List Int){n i:Nat}(h:i<n):(XG bs n)[i]?=some (WK bs i):=by simp [XG,h]
theorem C8(bs:List Int)(k:Nat):bs.drop (16*k)=eight bs (16*k)++(eight bs (16*k+8)++bs.drop (16*(k+1))):=by
 rw [show 16*(k+1)=16*k+8+8 by omega,<- VE,<- VE]
theorem kR(bs:List Int)(k:Nat):bs.drop (24*k)=eight bs (24*k)++(eight bs (24*k+8)++(eight bs (24*k+16)++bs.drop (24*(k+1)))):=by
 rw [show 24*(k+1)=24*k+16+8 by omega,<- VE,show 24*k+16=24*k+8+8 by omega,<- VE,<- VE]
theorem uS:(prog.info? 41).map (fun i=>(i.zero,i.size,i.bytes))=some (some (.agg #[.int .i64 0,.int .i64 0]),2,16):=by kernel_rfl
theorem jW(n:Nat)(hn:n<=1000000)(w:World):(Instr.makeSlice 36 (.int .i64 (n:Int)) (.int .i64 (n:Int))).run prog w=.ok (.slice (some ⟨w.heap.size,0,none⟩) n n) (w.alloc (.cells (madeCells #[.int .i64 0,.int .i64 0] (n*2)) 41)):=by
 obtain ⟨i,hi,hz0,hz1,hz2⟩:=info_parts uS;have h:=run_make (P:=prog) w 36 41 i _ underlying36 hi hz0 .i64 .i64 n n (by omega) (Int.le_refl _) (by rw [hz2];omega) (by omega);rw [hz1] at h;simpa [Value.cells] using h
def zpc(P:Nat->Prop)(B g:Nat)(bs:List Int)(n:Nat)(w:World)(e:Ending)(w':World):Prop :=
 ∃ A,e=.returned (.slice A n n)/\Z9 P w w'/\RS w' P B g (bs.drop (16*n))/\Sl w' w'.heap.size A (Zl (XV bs n))/\∀ x,A=some x->w.heap.size<=x.block/\x.block≠g
section
variable (P:Nat->Prop)(B g:Nat)(w:World)(hB:∀ k,k<B->P k)
include hB
theorem K9(bs:List Int)(n:Nat)(hn:16*n<=bs.length)(hbl:bs.length<=700000)(hby:By bs)(hP:∀ k,P k->k<w.heap.size)(hr:RS w P B g bs):
 Calls prog 227 #[.int .i64 (n:Int),.func (.func 228) #[.pointer (some ⟨g,0,none⟩)] #[]] w (zpc P B g bs n w):=by
 have hmk:=jW n (by omega);obtain ⟨w0,hw0⟩:=eE (w.alloc (.cells (madeCells #[.int .i64 0,.int .i64 0] (n*2)) 41));have hb:=bE hw0;have hz:w0.heap.size=w.heap.size+1:=by rw [hw0];simp
 have B0:Z7 w0 w.heap.size 41 (madeCells #[.int .i64 0,.int .i64 0] (n*2)):=by rw [hw0];exact Z7.new _ _ _
 have hgs:g≠w.heap.size:=by have:=hr.lt;omega
 have Md:¬ P w.heap.size:=fun h=>by have:=hP _ h;omega
 have hr0:RS w0 P B g bs:=hr.step hb hB hP
 have Sm:∀ k,Plus P w.heap.size k->k<w0.heap.size:=fun k hk=>by
  rcases hk with hk|hk
  · have:=hP k hk;omega
  · omega
 have hBp:∀ k,k<B->Plus P w.heap.size k:=fun k hk=>.inl (hB k hk);have k0:Z9 P w w0:=Z9.of_below hb hP;have HP:=hide hP;have II:=hide Sm;have HB:=hide hB;have sN:=hide hBp;have HZ:=hide hz;have Uq:=hide hby;have NU:=hide hgs;have Sg:=hide Md;clear hP Sm hB hBp hz hby hgs Md;go_enter func227,ntmps227;go_wp2;rw [<- hw0];have HW0:=hide hw0;clear hw0
 go_loopw [11] (fun i wr=>∃ (k:Nat) (cs:Array Value),k<=n/\i=.int .i64 k/\Z9 P w wr/\RS wr P B g (bs.drop (16*k))/\Z7 wr w.heap.size 41 cs/\cs.size=n*2/\∀ j,j<k->cs[j*2]?=some (.int .i64 (UF bs j).1)/\cs[j*2+1]?=some (.int .i64 (UF bs j).2))
  (fun i _=>n - (intOf i).toNat)
 case atStart=>exact ⟨0,_,by omega,rfl,k0,by simpa using hr0,B0,size_madeCells _ _,fun j hj=>by omega⟩
 case round =>
  obtain ⟨k,cs,hk,rfl,hkp,hrs,hblk,hsz,hcs⟩:=hrel;have HCS:=hide hcs;clear hcs
  by_cases hlt:k<n
  · have hsp:=C8 bs k;rw [hsp] at hrs;have hl0:(eight bs (16*k)).length=8:=WO (by omega);have hl1:(eight bs (16*k+8)).length=8:=WO (by omega);have Ma:∀ j,Plus P w.heap.size j->j<wr.heap.size:=fun j hj=>Nat.lt_of_lt_of_le (II.out j hj) (by have:=hkp.size;have:=hblk.lt;have:=HZ.out;omega);have C:=MR (Plus P w.heap.size) B g wr sN.out (eight bs (16*k)) (eight bs (16*k+8)) (bs.drop (16*(k+1))) hl0 hl1 (Xc Uq.out _) (Xc Uq.out _) Ma (hrs.plus NU.out) (by rw [List.length_drop];omega);have C':Calls prog 228 #[.pointer (some ⟨g,0,none⟩)] wr fun e w'=>e=.returned (.agg #[.int .i64 (UF bs k).1,.int .i64 (UF bs k).2])/\Z9 (Plus P w.heap.size) wr w'/\RS w' (Plus P w.heap.size) B g (bs.drop (16*(k+1))):=C;have HC:=hide C';have HSP:=hide hsp;clear C C' hl0 hl1 Ma hsp;go_wp2_with fail;refine HC.out.mono ?_;rintro e w1 ⟨rfl,k1,r1⟩;have B1:=hblk.kept k1 (.inr rfl);have q0:k*2<cs.size:=(by omega);have c0:=B1.cell (i:=k*2) (Array.getElem?_eq_getElem q0);have f0:=B1.frozen (k*2);have q1:k*2+1<cs.size:=(by omega);have c1:=B1.cell (i:=k*2+1) (Array.getElem?_eq_getElem q1);have f1:=B1.frozen (k*2+1);have hkn:(k:Int)<(n:Int):=(by omega);have r1':=r1.mono (R:=P) (fun j hj=>.inl hj);have r2:=((r1'.far NU.out Sg.out HB.out (k*2) (.int .i64 (UF bs k).1)).far NU.out Sg.out HB.out (k*2+1) (.int .i64 (UF bs k).2));have B2:=((B1.set (k*2) (.int .i64 (UF bs k).1)).set (k*2+1) (.int .i64 (UF bs k).2));have k2:=(((k1.mono (R:=P) (fun j hj=>.inl hj)).trans (Z9.set Sg.out (k*2) (.int .i64 (UF bs k).1) _)).trans (Z9.set Sg.out (k*2+1) (.int .i64 (UF bs k).2) _));have H2:=hide r2;have Ef:=hide k2;have HB2:=hide B2;clear r1 r1' r2 k2 B2;go_wp2;go_roundw
    case rel =>
     refine ⟨k+1,_,by omega,by go_num,hkp.trans Ef.out,H2.out,HB2.out,by simpa using hsz,fun j hj=>?_⟩;simp only [Array.getElem?_setIfInBounds,Array.size_setIfInBounds]
     by_cases hjk:j=k
     · subst hjk;refine ⟨?_,?_⟩
       · rw [if_neg (by omega),if_pos rfl,if_pos q0]
       · rw [if_pos rfl,if_pos q1]
     · have:=HCS.out j (by omega);refine ⟨?_,?_⟩
       · rw [if_neg (by omega),if_neg (by omega)];exact this.1
       · rw [if_neg (by omega),if_neg (by omega)];exact this.2
    case measure=>simp [intOf];omega
  · have hk':k=n:=(by omega);subst hk';go_wp2;go_ret;refine ⟨_,rfl,hkp,hrs,?_,fun x hx=>by cases hx;exact ⟨Nat.le_refl _,fun h=>NU.out h.symm⟩⟩;refine UD hblk (Hy (fun p:Int × Int=>[.int .i64 p.1,.int .i64 p.2]) 2 (by omega) (fun _=>rfl) _ _ fun i a ha j hj=>?_);have hi:i<k:=(by have:=(List.getElem?_eq_some_iff.1 ha).1;rw [Zj] at this;exact this);rw [qQ bs hi] at ha;have ha':UF bs i=a:=(by simpa using ha);have:=HCS.out i hi;rw [ha'] at this
    match j,hj with
    | 0,_=>exact this.1
    | 1,_=>exact this.2
end
theorem LD:(prog.info? 46).map (fun i=>(i.zero,i.size,i.bytes))=some (some (.agg #[.int .i64 0,.int .i64 0,.int .u64 0]),3,24):=by kernel_rfl
theorem jX(n:Nat)(hn:n<=1000000)(w:World):(Instr.makeSlice 33 (.int .i64 (n:Int)) (.int .i64 (n:Int))).run prog w=.ok (.slice (some ⟨w.heap.size,0,none⟩) n n) (w.alloc (.cells (madeCells #[.int .i64 0,.int .i64 0,.int .u64 0] (n*3)) 46)):=by
 obtain ⟨i,hi,hz0,hz1,hz2⟩:=info_parts LD;have h:=run_make (P:=prog) w 33 46 i _ underlying33 hi hz0 .i64 .i64 n n (by omega) (Int.le_refl _) (by rw [hz2];omega) (by omega);rw [hz1] at h;simpa [Value.cells] using h
def zpd(P:Nat->Prop)(B g:Nat)(bs:List Int)(n:Nat)(w:World)(e:Ending)(w':World):Prop :=
 ∃ A,e=.returned (.slice A n n)/\Z9 P w w'/\RS w' P B g (bs.drop (24*n))/\Sl w' w'.heap.size A (XC (XG bs n))/\∀ x,A=some x->w.heap.size<=x.block/\x.block≠g
section
variable (P:Nat->Prop)(B g:Nat)(w:World)(hB:∀ k,k<B->P k)
include hB
theorem zy(bs:List Int)(n:Nat)(hn:24*n<=bs.length)(hbl:bs.length<=700000)(hby:By bs)(hP:∀ k,P k->k<w.heap.size)(hr:RS w P B g bs):
 Calls prog 229 #[.int .i64 (n:Int),.func (.func 230) #[.pointer (some ⟨g,0,none⟩)] #[]] w (zpd P B g bs n w):=by
 have hmk:=jX n (by omega);obtain ⟨w0,hw0⟩:=eE (w.alloc (.cells (madeCells #[.int .i64 0,.int .i64 0,.int .u64 0] (n*3)) 46));have hb:=bE hw0;have hz:w0.heap.size=w.heap.size+1:=by rw [hw0];simp
 have B0:Z7 w0 w.heap.size 46 (madeCells #[.int .i64 0,.int .i64 0,.int .u64 0] (n*3)):=by rw [hw0];exact Z7.new _ _ _
 have hgs:g≠w.heap.size:=by have:=hr.lt;omega
 have Md:¬ P w.heap.size:=fun h=>by have:=hP _ h;omega
 have hr0:RS w0 P B g bs:=hr.step hb hB hP
 have Sm:∀ k,Plus P w.heap.size k->k<w0.heap.size:=fun k hk=>by
  rcases hk with hk|hk
  · have:=hP k hk;omega
  · omega
 have hBp:∀ k,k<B->Plus P w.heap.size k:=fun k hk=>.inl (hB k hk);have k0:Z9 P w w0:=Z9.of_below hb hP;have HP:=hide hP;have II:=hide Sm;have HB:=hide hB;have sN:=hide hBp;have HZ:=hide hz;have Uq:=hide hby;have NU:=hide hgs;have Sg:=hide Md;clear hP Sm hB hBp hz hby hgs Md;go_enter func229,ntmps229;go_wp2;rw [<- hw0];have HW0:=hide hw0;clear hw0
 go_loopw [11] (fun i wr=>∃ (k:Nat) (cs:Array Value),k<=n/\i=.int .i64 k/\Z9 P w wr/\RS wr P B g (bs.drop (24*k))/\Z7 wr w.heap.size 46 cs/\cs.size=n*3/\∀ j,j<k->cs[j*3]?=some (.int .i64 (WK bs j).1.1)/\cs[j*3+1]?=some (.int .i64 (WK bs j).1.2)/\cs[j*3+2]?=some (.int .u64 (WK bs j).2))
  (fun i _=>n - (intOf i).toNat)
 case atStart=>exact ⟨0,_,by omega,rfl,k0,by simpa using hr0,B0,size_madeCells _ _,fun j hj=>by omega⟩
 case round =>
  obtain ⟨k,cs,hk,rfl,hkp,hrs,hblk,hsz,hcs⟩:=hrel;have HCS:=hide hcs;clear hcs
  by_cases hlt:k<n
  · have hsp:=kR bs k;rw [hsp] at hrs;have hl0:(eight bs (24*k)).length=8:=WO (by omega);have hl1:(eight bs (24*k+8)).length=8:=WO (by omega);have hl2:(eight bs (24*k+16)).length=8:=WO (by omega);have Ma:∀ j,Plus P w.heap.size j->j<wr.heap.size:=fun j hj=>Nat.lt_of_lt_of_le (II.out j hj) (by have:=hkp.size;have:=hblk.lt;have:=HZ.out;omega);have C:=Dh (Plus P w.heap.size) B g wr sN.out (eight bs (24*k)) (eight bs (24*k+8)) (eight bs (24*k+16)) (bs.drop (24*(k+1))) hl0 hl1 hl2 (Xc Uq.out _) (Xc Uq.out _) (Xc Uq.out _) Ma (hrs.plus NU.out) (by rw [List.length_drop];omega);have C':Calls prog 230 #[.pointer (some ⟨g,0,none⟩)] wr fun e w'=>e=.returned (.agg #[.int .i64 (WK bs k).1.1,.int .i64 (WK bs k).1.2,.int .u64 (WK bs k).2])/\Z9 (Plus P w.heap.size) wr w'/\RS w' (Plus P w.heap.size) B g (bs.drop (24*(k+1))):=C;have HC:=hide C';have HSP:=hide hsp;clear C C' hl0 hl1 hl2 Ma hsp;go_wp2_with fail;refine HC.out.mono ?_;rintro e w1 ⟨rfl,k1,r1⟩;have B1:=hblk.kept k1 (.inr rfl);have q0:k*3<cs.size:=(by omega);have c0:=B1.cell (i:=k*3) (Array.getElem?_eq_getElem q0);have f0:=B1.frozen (k*3);have q1:k*3+1<cs.size:=(by omega);have c1:=B1.cell (i:=k*3+1) (Array.getElem?_eq_getElem q1);have f1:=B1.frozen (k*3+1);have q2:k*3+2<cs.size:=(by omega);have c2:=B1.cell (i:=k*3+2) (Array.getElem?_eq_getElem q2);have f2:=B1.frozen (k*3+2);have hkn:(k:Int)<(n:Int):=(by omega);have r1':=r1.mono (R:=P) (fun j hj=>.inl hj);have r2:=(((r1'.far NU.out Sg.out HB.out (k*3) (.int .i64 (WK bs k).1.1)).far NU.out Sg.out HB.out (k*3+1) (.int .i64 (WK bs k).1.2)).far NU.out Sg.out HB.out (k*3+2) (.int .u64 (WK bs k).2));have B2:=(((B1.set (k*3) (.int .i64 (WK bs k).1.1)).set (k*3+1) (.int .i64 (WK bs k).1.2)).set (k*3+2) (.int .u64 (WK bs k).2));have k2:=((((k1.mono (R:=P) (fun j hj=>.inl hj)).trans (Z9.set Sg.out (k*3) (.int .i64 (WK bs k).1.1) _)).trans (Z9.set Sg.out (k*3+1) (.int .i64 (WK bs k).1.2) _)).trans (Z9.set Sg.out (k*3+2) (.int .u64 (WK bs k).2) _));have H2:=hide r2;have Ef:=hide k2;have HB2:=hide B2;clear r1 r1' r2 k2 B2;go_wp2;go_roundw
    case rel =>
     refine ⟨k+1,_,by omega,by go_num,hkp.trans Ef.out,H2.out,HB2.out,by simpa using hsz,fun j hj=>?_⟩;simp only [Array.getElem?_setIfInBounds,Array.size_setIfInBounds]
     by_cases hjk:j=k
     · subst hjk;refine ⟨?_,?_,?_⟩
       · rw [if_neg (by omega),if_neg (by omega),if_pos rfl,if_pos q0]
       · rw [if_neg (by omega),if_pos rfl,if_pos q1]
       · rw [if_pos rfl,if_pos q2]
     · have:=HCS.out j (by omega);refine ⟨?_,?_,?_⟩
       · rw [if_neg (by omega),if_neg (by omega),if_neg (by omega)];exact this.1
       · rw [if_neg (by omega),if_neg (by omega),if_neg (by omega)];exact this.2.1
       · rw [if_neg (by omega),if_neg (by omega),if_neg (by omega)];exact this.2.2
    case measure=>simp [intOf];omega
  · have hk':k=n:=(by omega);subst hk';go_wp2;go_ret;refine ⟨_,rfl,hkp,hrs,?_,fun x hx=>by cases hx;exact ⟨Nat.le_refl _,fun h=>NU.out h.symm⟩⟩;refine UD hblk (Hy (fun p:(Int × Int) × Int=>[.int .i64 p.1.1,.int .i64 p.1.2,.int .u64 p.2]) 3 (by omega) (fun _=>rfl) _ _ fun i a ha j hj=>?_);have hi:i<k:=(by have:=(List.getElem?_eq_some_iff.1 ha).1;rw [WJ] at this;exact this);rw [qY bs hi] at ha;have ha':WK bs i=a:=(by simpa using ha);have:=HCS.out i hi;rw [ha'] at this
    match j,hj with
    | 0,_=>exact this.1
    | 1,_=>exact this.2.1
    | 2,_=>exact this.2.2
end
end
section
open Go.RowKit
theorem jP{x b:Int}{k:Nat}(hk:k<8)(h0:0<=x)(h1:x<256 ^ k)(b0:0<=b)(b1:b<=255):IntKind.u64.wrap (x*256)=x*256/\IntKind.u64.wrap (x*256+b)=x*256+b:=by
 have hp:(256:Int) ^ (k+1)<=18446744073709551616:=(by decide:∀ k,k<8->(256:Int) ^ (k+1)<=18446744073709551616) k hk;rw [Int.pow_succ] at hp;rw [IntKind.wrap_u64,IntKind.wrap_u64];exact ⟨Int.emod_eq_of_lt (by omega) (by omega),Int.emod_eq_of_lt (by omega) (by omega)⟩
theorem P6(bs:List Int)(A:Option Addr)(c B:Nat)(w:World)(hs:Sl w B A (ZU bs))(hby:By bs)(hbl:bs.length<=1000000)(at_:Nat)(h8:at_+8<=bs.length):
 Calls prog 109 #[.slice A bs.length c,.int .i64 (at_:Int)] w fun e w'=>e=.returned (.int .u64 (le ((bs.drop at_).take 8)))/\w=w':=by
 obtain ⟨b,off,rfl,hb,hcell⟩:=hs.RU (by omega);have HC:=hide hcell;clear hcell hs;have Uq:=hide hby;clear hby;go_enter func109,ntmps109;go_wp2
 go_loop [5,6] (fun x i=>∃ (k:Nat) (y:Int),k<=8/\i=.int .i64 (7 - (k:Int))/\x=.int .u64 y/\y=le ((bs.drop (at_+(8 - k))).take k))
  (fun _ i=>(intOf i+1).toNat)
 case atStart=>exact ⟨0,0,by omega,rfl,rfl,by simp [le]⟩
 case round =>
  obtain ⟨k,y,hk,rfl,rfl,hy⟩:=hrel;have HY:=hide hy;clear hy
  by_cases hlt:k<8
  · have hi:at_+(7 - k)<bs.length:=(by omega);obtain ⟨x,hx⟩:=eE (bs[at_+(7 - k)]);have zim:=Uq.out _ (List.getElem_mem hi);rw [<- hx] at zim;obtain ⟨hx0,hx1⟩:=zim;have c0:=HC.out (at_+(7 - k)) x (by rw [hx];exact List.getElem?_eq_getElem hi);have hyb:=Cq ((bs.drop (at_+(8 - k))).take k) ((Uq.out.drop _).take _);rw [<- HY.out,List.length_take,List.length_drop,Nat.min_eq_left (by omega)] at hyb;obtain ⟨hy0,hy1⟩:=hyb;obtain ⟨m1,m2⟩:=jP hlt hy0 hy1 hx0 hx1;have vM:Hid (le ((bs.drop (at_+(8 - (k+1)))).take (k+1))=y*256+x):=by
     apply hide;have e:at_+(8 - (k+1))=at_+(7 - k):=(by omega);have e2:at_+(7 - k)+1=at_+(8 - k):=(by omega);rw [e,List.drop_eq_getElem_cons hi,List.take_succ_cons,e2,le,<- hx,<- HY.out];omega
    have hadd:IntKind.i64.wrap ((at_:Int)+(7 - (k:Int)))=(at_:Int)+(7 - (k:Int)):=(by rw [IntKind.wrap_i64];omega);have hidx:((at_:Int)+(7 - (k:Int))).toNat=at_+(7 - k):=(by omega);have hk0:(0:Int)<=7 - (k:Int):=(by omega);have hi0:(0:Int)<=(at_:Int)+(7 - (k:Int)):=(by omega);have hi1:(at_:Int)+(7 - (k:Int))<(bs.length:Int):=(by omega);have HX:=hide hx;clear hx hy1;go_wp2
    go_round
    case rel=>exact ⟨k+1,y*256+x,by omega,by congr 1;omega,rfl,vM.out.symm⟩
    case measure=>simp [intOf];omega
  · have hk':k=8:=(by omega);subst hk';go_wp2;go_ret;exact ⟨Zf (by rw [HY.out];simp),rfl⟩
def OP(bs:List Int)(at_ step i:Nat):Int × Int:=(VO (le (eight bs (at_+i*step))),VO (le (eight bs (at_+i*step+8))))
def XL(bs:List Int)(at_ step n:Nat):List (Int × Int):=(List.range n).map (OP bs at_ step)
theorem Yf(bs:List Int)(at_ step n:Nat):(XL bs at_ step n).length=n:=by simp [XL]
theorem C9(bs:List Int)(at_ step n:Nat):XL bs at_ step (n+1)=XL bs at_ step n++[OP bs at_ step n]:=by simp [XL,List.range_succ]
def Pointed(ps:List (Int × Int))(w:World)(e:Ending)(w':World):Prop :=
 ∃ A c,e=.returned (.slice A ps.length c)/\Below w.heap.size w w'/\w'.ownsRow w.heap.size 41 2 (.slice A ps.length c) ps.length (Zl ps)
theorem zf(bs:List Int)(A:Option Addr)(c:Nat)(w:World)(hs:Sl w w.heap.size A (ZU bs))(hby:By bs)(hbl:bs.length<=1000000)(at_ n step:Nat)(hst:step<=100)(h16:16<=step)(hn:at_+n*step<=bs.length):
 Calls prog 108 #[.slice A bs.length c,.int .i64 (at_:Int),.int .i64 (n:Int),.int .i64 (step:Int)] w (Pointed (XL bs at_ step n) w):=by
 have HS:=hide hs;have Uq:=hide hby;clear hs hby;have hnn:n<=1000000:=Nat.le_trans (Nat.le_trans (Nat.le_mul_of_pos_right n (by omega:0<step)) (Nat.le_add_left _ at_)) (Nat.le_trans hn hbl);have HN:=hide hn;clear hn;go_enter func108,ntmps108;go_wp2
 go_loopw [9,10] (fun u i wr=>∃ k:Nat,k<=n/\i=.int .i64 k/\Below w.heap.size w wr/\wr.ownsRow w.heap.size 41 2 u k (Zl (XL bs at_ step k)))
  (fun _ i _=>n - (intOf i).toNat)
 case atStart=>exact ⟨0,by omega,rfl,Below.refl _ _,World.ownsRow_nil _ _ _ _⟩
 case round =>
  obtain ⟨k,hk,rfl,hbr,ZT⟩:=hrel
  by_cases hlt:k<n
  · have hks:k*step+step<=n*step:=by
     have:=Nat.mul_le_mul_right step (show k+1<=n from hlt);rw [Nat.succ_mul] at this;exact this
    have hln:=HN.out;obtain ⟨kp,hkp⟩:=eE (k*step);have hmul:(k:Int)*(step:Int)=(kp:Int):=(by rw [hkp];exact (Int.natCast_mul k step).symm);rw [<- hkp] at hks;have W1:=P6 bs A c wr.heap.size wr ((HS.out.below hbr).more hbr.size) Uq.out hbl (at_+kp) (by omega);have W2:=P6 bs A c wr.heap.size wr ((HS.out.below hbr).more hbr.size) Uq.out hbl (at_+kp+8) (by omega);rw [show ((at_+kp:Nat):Int)=(at_:Int)+(kp:Int) by omega] at W1;rw [show ((at_+kp+8:Nat):Int)=(at_:Int)+(kp:Int)+8 by omega] at W2;obtain ⟨x,hx⟩:=eE (le ((bs.drop (at_+kp)).take 8));obtain ⟨y,hy⟩:=eE (le ((bs.drop (at_+kp+8)).take 8));rw [<- hx] at W1;rw [<- hy] at W2;have vJ:Hid (XL bs at_ step (k+1)=XL bs at_ step k++[(wrap64 x,wrap64 y)]):=by
     apply hide;rw [C9];unfold OP eight VO;rw [<- hkp,<- hx,<- hy]
    have HW1:=hide W1;have HW2:=hide W2;have mP:=hide hkp;have HX:=hide hx;have HY:=hide hy;obtain ⟨i0,hi,hi0,hi1,hi2⟩:=info_parts uS;have yzo:at_+kp<=1000000:=(by omega);clear W1 W2 hkp hx hy hln hks;have hlk:(XL bs at_ step k).length=k:=Yf _ _ _ _;have hw1:IntKind.i64.wrap ((k:Int)*(step:Int))=(kp:Int):=(by rw [hmul,IntKind.wrap_i64];omega);have hw2:IntKind.i64.wrap ((at_:Int)+(kp:Int))=(at_:Int)+(kp:Int):=(by rw [IntKind.wrap_i64];omega);have hw3:IntKind.i64.wrap ((at_:Int)+(kp:Int)+8)=(at_:Int)+(kp:Int)+8:=(by rw [IntKind.wrap_i64];omega);go_wp2_with fail;refine HW1.out.mono ?_;rintro e w' ⟨rfl,rfl⟩;go_wp2_with fail;refine HW2.out.mono ?_;rintro e w' ⟨rfl,rfl⟩;have hbs:=hbr.size;go_wp2_with (at_builtin;refine wpList_append_own _ rfl (.tmp 16) (.tmp 35) 36 rfl w.heap.size 41 i0 (.agg #[.int .i64 0,.int .i64 0]) 2 16 underlying36 hi hi0 hi1 hi2 rfl (by decide) _ k (Zl (XL bs at_ step k)) rfl (ZT.alloc _) ⟨wr.heap.size,0,none⟩ 1 1 [.int .i64 (wrap64 x),.int .i64 (wrap64 y)] rfl rfl ?d1 ?d2 ?d3 ?d4 ?d5 ?_)
    case d1=>exact ZB (Z7.new _ _ _)
    case d2=>simp [Value.oneCell']
    case d3=>unfold maxLen;omega
    case d4=>omega
    case d5=>simp;omega
    intro v3 w3 Zt Zx _;have hb3:Below w.heap.size w w3:=(Z5 hbr _).grown Zx (by simp;omega) (fun k hk=>ZN ZT hk);have Y1:w3.ownsRow w.heap.size 41 2 v3 (k+1) (Zl (XL bs at_ step (k+1))):=by
     rw [vJ.out];simpa [Zl] using Zt
    have HO:=hide Y1;clear Zt Y1 Zx;go_wp2;go_roundw
    case rel=>exact ⟨k+1,by omega,by go_num,hb3,HO.out⟩
    case measure=>simp [intOf];omega
  · obtain rfl:n=k:=(by omega);have hl:=Yf bs at_ step n;obtain ⟨RA,zuu,rfl,_⟩:=ZP ZT;go_wp2;go_ret;exact ⟨RA,zuu,by rw [hl];rfl,hbr,by rw [hl];exact ZT⟩
end
end Go.Proofs.YthnenedoblncjaaGreatDoor