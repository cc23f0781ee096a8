/- HexMath HexText -/
import Derived.Lib.SlTrimSet
import Derived.Test.YthnenedoblncjaaGreatDoorPkR05
import Derived.Test.YthnenedoblncjaaGreatDoorPkR14
set_option maxRecDepth 1000000
set_option maxHeartbeats 8000000
namespace Go.Proofs.YthnenedoblncjaaGreatDoor
section
open Go.RowKit
def Ug(k:Nat):UInt8:=if k<10 then UInt8.ofNat (48+k) else UInt8.ofNat (87+k)
def WC(bs:List Int):List UInt8:=bs.flatMap fun b=>[Ug (b.toNat / 16),Ug (b.toNat % 16)]
def Ns:List UInt8:=(List.range 16).map Ug
theorem pI:Ns=[48,49,50,51,52,53,54,55,56,57,97,98,99,100,101,102]:=by decide +kernel
theorem BI{k:Nat}(h:k<16):Ug k∈Ns:=List.mem_map.2 ⟨k,List.mem_range.2 h,rfl⟩
theorem Nt(b:Int)(bs:List Int):WC (b::bs)=Ug (b.toNat / 16)::Ug (b.toNat % 16)::WC bs:=rfl
theorem iL(l bs:List Int):WC (l++bs)=WC l++WC bs:=by unfold WC;rw [List.flatMap_append]
theorem Ki(bs:List Int):(WC bs).length=2*bs.length:=by
 induction bs with
 | nil=>rfl
 | cons b bs ih=>rw [Nt,List.length_cons,List.length_cons,ih,List.length_cons];omega
theorem iM{bs:List Int}(hby:By bs):∀ c∈WC bs,c∈Ns:=by
 intro c hc;obtain ⟨b,hb,hc⟩:=List.mem_flatMap.1 hc;have:=hby b hb;simp only [List.mem_cons,List.not_mem_nil,or_false] at hc;rcases hc with rfl|rfl
 · exact BI (by omega)
 · exact BI (by omega)
theorem EJ:∀ c∈Ns,c.toNat<128:=by decide +kernel
theorem pJ{bs:List Int}{j:Nat}{b:Int}(h:bs[j]?=some b):(WC bs)[2*j]?=some (Ug (b.toNat / 16))/\(WC bs)[2*j+1]?=some (Ug (b.toNat % 16)):=by
 induction bs generalizing j with
 | nil=>simp at h
 | cons a bs ih =>
   cases j with
   | zero=>simp at h;subst h;exact ⟨rfl,rfl⟩
   | succ j =>
     rw [List.getElem?_cons_succ] at h;obtain ⟨h1,h2⟩:=ih h;rw [Nt,show 2*(j+1)=2*j+1+1 from by omega];simp only [List.getElem?_cons_succ];exact ⟨h1,h2⟩
def zG(bs:List Int)(i:Nat):List Int:=(List.range bs.length).map fun j=>if 2*j+2<=i then bs.getD j 0 else if 2*j+1<=i then bs.getD j 0 / 16 else 0
theorem FY(bs:List Int)(i:Nat):(zG bs i).length=bs.length:=by unfold zG;rw [List.length_map,List.length_range]
theorem Pf(bs:List Int)(i:Nat){n:Nat}(h:n<bs.length):(zG bs i)[n]?=some (if 2*n+2<=i then bs.getD n 0 else if 2*n+1<=i then bs.getD n 0 / 16 else 0):=by
 unfold zG;rw [List.getElem?_map,List.getElem?_range h];rfl
theorem FZ(bs:List Int)(i:Nat){n:Nat}(h:¬ n<bs.length):(zG bs i)[n]?=none:=List.getElem?_eq_none (by rw [FY];omega)
theorem mF(bs:List Int):zG bs 0=List.replicate bs.length 0:=by
 apply List.ext_getElem?;intro n
 by_cases h:n<bs.length
 · rw [Pf _ _ h,List.getElem?_replicate,if_pos h,if_neg (by omega),if_neg (by omega)]
 · rw [FZ _ _ h,List.getElem?_replicate,if_neg h]
theorem bN(bs:List Int):zG bs (2*bs.length)=bs:=by
 apply List.ext_getElem?;intro n
 by_cases h:n<bs.length
 · rw [Pf _ _ h,if_pos (by omega),List.getD_eq_getElem?_getD,List.getElem?_eq_getElem h];rfl
 · rw [FZ _ _ h,List.getElem?_eq_none (by omega)]
theorem mE(bs:List Int)(i:Nat):zG bs (i+1)=(zG bs i).set (i / 2) (if i % 2=0 then bs.getD (i / 2) 0 / 16 else bs.getD (i / 2) 0):=by
 apply List.ext_getElem?;intro n
 by_cases h:n<bs.length
 · rw [Pf _ _ h,List.getElem?_set]
   by_cases hn:i / 2=n
   · rw [if_pos hn];subst hn;have hl:i / 2<(zG bs i).length:=by rw [FY];exact h
     by_cases hp:i % 2=0
     · have h1:¬ 2*(i / 2)+2<=i+1:=(by omega);have h2:2*(i / 2)+1<=i+1:=(by omega);simp only [if_pos hp,if_neg h1,if_pos h2,if_pos hl]
     · have h1:2*(i / 2)+2<=i+1:=(by omega);simp only [if_neg hp,if_pos h1,if_pos hl]
   · rw [if_neg hn,Pf _ _ h]
     by_cases h3:2*n+2<=i
     · rw [if_pos (by omega),if_pos h3]
     · rw [if_neg (by omega),if_neg h3]
       by_cases h4:2*n+1<=i
       · rw [if_pos (by omega),if_pos h4]
       · rw [if_neg (by omega),if_neg h4]
 · rw [FZ _ _ h,List.getElem?_eq_none (by rw [List.length_set,FY];omega)]
theorem zvr(bs:List Int){i:Nat}(h:i / 2<bs.length):(zG bs i)[i / 2]?=some (if i % 2=0 then 0 else bs.getD (i / 2) 0 / 16):=by
 rw [Pf _ _ h]
 by_cases hp:i % 2=0
 · rw [if_pos hp,if_neg (by omega),if_neg (by omega)]
 · rw [if_neg hp,if_neg (by omega),if_pos (by omega)]
def Jk(c:UInt8):Bool:=Ns.contains c
def R9(c:UInt8):Nat:=if c.toNat<58 then c.toNat - 48 else c.toNat - 87
def Ea(t:List UInt8):Bool:=!t.isEmpty && decide (t.length % 2=0) && t.all Jk
def YF:List UInt8->List Int
 | a::b::t=>((16*R9 a+R9 b:Nat):Int)::YF t
 | _=>[]
theorem EK{c:UInt8}(h:Jk c=true):R9 c<16/\Ug (R9 c)=c:=by
 have h1:∀ i:Fin 16,R9 (Ug i.val)<16/\Ug (R9 (Ug i.val))=Ug i.val:=by decide +kernel
 unfold Jk Ns at h;rw [List.contains_iff_mem] at h;obtain ⟨k,hk,rfl⟩:=List.mem_map.1 h;exact h1 ⟨k,List.mem_range.1 hk⟩
theorem PW:∀ (n:Nat) (t:List UInt8),t.length=2*n->t.all Jk=true->WC (YF t)=t/\By (YF t)/\(YF t).length=n
 | 0,t,hl,_=>by
   obtain rfl:t=[]:=List.length_eq_zero_iff.1 (by omega);exact ⟨rfl,(fun x hx=>by cases hx),rfl⟩
 | n+1,a::b::t,hl,h=>by
   rw [List.all_cons,List.all_cons,Bool.and_eq_true,Bool.and_eq_true] at h;obtain ⟨ha,hb,ht⟩:=h;obtain ⟨i1,i2,i3⟩:=PW n t (by simp at hl;omega) ht;obtain ⟨a1,a2⟩:=EK ha;obtain ⟨b1,b2⟩:=EK hb;refine ⟨?_,?_,by unfold YF;rw [List.length_cons,i3]⟩
   · unfold YF;rw [Nt,i1];rw [show (((16*R9 a+R9 b:Nat):Int)).toNat / 16=R9 a from by omega,show (((16*R9 a+R9 b:Nat):Int)).toNat % 16=R9 b from by omega,a2,b2]
   · intro x hx;unfold YF at hx;rcases List.mem_cons.1 hx with rfl|hx
     · omega
     · exact i2 x hx
 | n+1,[],hl,_=>by simp at hl
 | n+1,[_],hl,_=>by simp at hl;omega
theorem iK{bs:List Int}(hby:By bs):(WC bs).all Jk=true:=by
 rw [List.all_eq_true];intro c hc;unfold Jk;rw [List.contains_iff_mem];exact iM hby c hc
theorem CB{t:List UInt8}(h:Ea t=true):∃ bs,t=WC bs/\By bs/\bs≠[]/\bs=YF t:=by
 unfold Ea at h;simp only [Bool.and_eq_true,Bool.not_eq_true',decide_eq_true_eq] at h;obtain ⟨⟨h0,h1⟩,h2⟩:=h;obtain ⟨i1,i2,i3⟩:=PW (t.length / 2) t (by omega) h2;refine ⟨YF t,i1.symm,i2,fun e=>?_,rfl⟩;rw [e] at i3;have:t.length=0:=by simp at i3;omega
 rw [List.length_eq_zero_iff.1 this] at h0;simp at h0
theorem SQ{α:Type}(p:α->Bool):∀ l:List α,l.dropWhile p=[] ↔ l.all p=true
 | []=>by simp
 | a::l=>by
   rw [List.dropWhile_cons]
   by_cases h:p a
   · rw [if_pos h,SQ p l];simp [h]
   · rw [if_neg h];simp [h]
theorem sw(D cs:List UInt8):Lib.trimS D cs=[] ↔ D.all (cs.contains ·)=true:=by
 unfold Lib.trimS Lib.trimLeftS Lib.trimRightS;generalize (cs.contains ·)=p;rw [SQ];constructor
 · intro h;rw [List.all_reverse] at h;have h2:(D.reverse.dropWhile p)=[]:=by
    cases hd:D.reverse.dropWhile p with
    | nil=>rfl
    | cons a l =>
      exfalso
      have h3:=List.head_dropWhile_not p (l:=D.reverse) (by rw [hd];simp);simp only [hd,List.head_cons] at h3;rw [hd] at h;simp [h3] at h
   rw [SQ,List.all_reverse] at h2;exact h2
 · intro h;have h2:D.reverse.dropWhile p=[]:=(by rw [SQ,List.all_reverse];exact h);rw [h2];simp
end
end Go.Proofs.YthnenedoblncjaaGreatDoor