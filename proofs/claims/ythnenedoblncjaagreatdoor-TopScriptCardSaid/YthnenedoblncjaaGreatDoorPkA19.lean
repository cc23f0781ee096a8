/- HexMath HexText -/
import Derived.Lib.SlTrimSet
import Derived.Test.YthnenedoblncjaaGreatDoorPkA06
import Derived.Test.YthnenedoblncjaaGreatDoorPkA16
set_option maxRecDepth 1000000
set_option maxHeartbeats 8000000
namespace Go.Proofs.YthnenedoblncjaaGreatDoor
section
open Go.RowKit
def Ug(k:Nat):UInt8:=if k<10 then UInt8.ofNat (48+k) else UInt8.ofNat (87+k)
def XE(bs:List Int):List UInt8:=bs.flatMap fun b=>[Ug (b.toNat / 16),Ug (b.toNat % 16)]
def OX:List UInt8:=(List.range 16).map Ug
theorem yH:OX=[48,49,50,51,52,53,54,55,56,57,97,98,99,100,101,102]:=by decide +kernel
theorem FC{k:Nat}(h:k<16):Ug k∈OX:=List.mem_map.2 ⟨k,List.mem_range.2 h,rfl⟩
theorem JU(b:Int)(bs:List Int):XE (b::bs)=Ug (b.toNat / 16)::Ug (b.toNat % 16)::XE bs:=rfl
theorem Fy(l bs:List Int):XE (l++bs)=XE l++XE bs:=by unfold XE;rw [List.flatMap_append]
theorem Sq(bs:List Int):(XE bs).length=2*bs.length:=by
 induction bs with
 | nil=>rfl
 | cons b bs ih=>rw [JU,List.length_cons,List.length_cons,ih,List.length_cons];omega
theorem Fz{bs:List Int}(hby:By bs):∀ c∈XE bs,c∈OX:=by
 intro c hc;obtain ⟨b,hb,hc⟩:=List.mem_flatMap.1 hc;have:=hby b hb;simp only [List.mem_cons,List.not_mem_nil,or_false] at hc;rcases hc with rfl|rfl
 · exact FC (by omega)
 · exact FC (by omega)
theorem LP:(32:UInt8) ∉ OX:=by decide +kernel
theorem Ik{bs:List Int}(hby:By bs):(32:UInt8) ∉ XE bs:=fun h=>LP (Fz hby _ h)
theorem Ij:∀ c∈OX,c.toNat<128:=by decide +kernel
theorem yI{bs:List Int}{j:Nat}{b:Int}(h:bs[j]?=some b):(XE bs)[2*j]?=some (Ug (b.toNat / 16))/\(XE bs)[2*j+1]?=some (Ug (b.toNat % 16)):=by
 induction bs generalizing j with
 | nil=>simp at h
 | cons a bs ih =>
   cases j with
   | zero=>simp at h;subst h;exact ⟨rfl,rfl⟩
   | succ j =>
     rw [List.getElem?_cons_succ] at h;obtain ⟨h1,h2⟩:=ih h;rw [JU,show 2*(j+1)=2*j+1+1 from by omega];simp only [List.getElem?_cons_succ];exact ⟨h1,h2⟩
def Ef(bs:List Int)(i:Nat):List Int:=(List.range bs.length).map fun j=>if 2*j+2<=i then bs.getD j 0 else if 2*j+1<=i then bs.getD j 0 / 16 else 0
theorem Jo(bs:List Int)(i:Nat):(Ef bs i).length=bs.length:=by unfold Ef;rw [List.length_map,List.length_range]
theorem Qt(bs:List Int)(i:Nat){n:Nat}(h:n<bs.length):(Ef bs i)[n]?=some (if 2*n+2<=i then bs.getD n 0 else if 2*n+1<=i then bs.getD n 0 / 16 else 0):=by
 unfold Ef;rw [List.getElem?_map,List.getElem?_range h];rfl
theorem Jp(bs:List Int)(i:Nat){n:Nat}(h:¬ n<bs.length):(Ef bs i)[n]?=none:=List.getElem?_eq_none (by rw [Jo];omega)
theorem wK(bs:List Int):Ef bs 0=List.replicate bs.length 0:=by
 apply List.ext_getElem?;intro n
 by_cases h:n<bs.length
 · rw [Qt _ _ h,List.getElem?_replicate,if_pos h,if_neg (by omega),if_neg (by omega)]
 · rw [Jp _ _ h,List.getElem?_replicate,if_neg h]
theorem pW(bs:List Int):Ef bs (2*bs.length)=bs:=by
 apply List.ext_getElem?;intro n
 by_cases h:n<bs.length
 · rw [Qt _ _ h,if_pos (by omega),List.getD_eq_getElem?_getD,List.getElem?_eq_getElem h];rfl
 · rw [Jp _ _ h,List.getElem?_eq_none (by omega)]
theorem wJ(bs:List Int)(i:Nat):Ef bs (i+1)=(Ef bs i).set (i / 2) (if i % 2=0 then bs.getD (i / 2) 0 / 16 else bs.getD (i / 2) 0):=by
 apply List.ext_getElem?;intro n
 by_cases h:n<bs.length
 · rw [Qt _ _ h,List.getElem?_set]
   by_cases hn:i / 2=n
   · rw [if_pos hn];subst hn;have hl:i / 2<(Ef bs i).length:=by rw [Jo];exact h
     by_cases hp:i % 2=0
     · have h1:¬ 2*(i / 2)+2<=i+1:=(by omega);have h2:2*(i / 2)+1<=i+1:=(by omega);simp only [if_pos hp,if_neg h1,if_pos h2,if_pos hl]
     · have h1:2*(i / 2)+2<=i+1:=(by omega);simp only [if_neg hp,if_pos h1,if_pos hl]
   · rw [if_neg hn,Qt _ _ h]
     by_cases h3:2*n+2<=i
     · rw [if_pos (by omega),if_pos h3]
     · rw [if_neg (by omega),if_neg h3]
       by_cases h4:2*n+1<=i
       · rw [if_pos (by omega),if_pos h4]
       · rw [if_neg (by omega),if_neg h4]
 · rw [Jp _ _ h,List.getElem?_eq_none (by rw [List.length_set,Jo];omega)]
theorem jq(bs:List Int){i:Nat}(h:i / 2<bs.length):(Ef bs i)[i / 2]?=some (if i % 2=0 then 0 else bs.getD (i / 2) 0 / 16):=by
 rw [Qt _ _ h]
 by_cases hp:i % 2=0
 · rw [if_pos hp,if_neg (by omega),if_neg (by omega)]
 · rw [if_neg hp,if_neg (by omega),if_pos (by omega)]
def Ns(bs:List Int):List Int:=(XE bs).map fun c=>(c.toNat:Int)
def uj(bs:List Int)(i:Nat):List Int:=Ns (bs.take i)++List.replicate (2*(bs.length - i)) 0
theorem LQ(bs:List Int):(Ns bs).length=2*bs.length:=by unfold Ns;rw [List.length_map,Sq]
theorem tC(l bs:List Int):Ns (l++bs)=Ns l++Ns bs:=by unfold Ns;rw [Fy,List.map_append]
theorem mK(bs:List Int){i:Nat}(h:i<=bs.length):(uj bs i).length=2*bs.length:=by
 unfold uj;rw [List.length_append,LQ,List.length_replicate,List.length_take];omega
theorem uo(bs:List Int):uj bs 0=List.replicate (2*bs.length) 0:=by unfold uj;simp [Ns,XE]
theorem mJ(bs:List Int):uj bs bs.length=Ns bs:=by unfold uj;simp
theorem um{bs:List Int}{i:Nat}{b:Int}(h:bs[i]?=some b):((uj bs i).set (2*i) ((Ug (b.toNat / 16)).toNat:Int)).set (2*i+1) ((Ug (b.toNat % 16)).toNat:Int)=uj bs (i+1):=by
 have hi:i<bs.length:=(List.getElem?_eq_some_iff.1 h).1;have ht:bs.take (i+1)=bs.take i++[b]:=by rw [List.take_add_one,h];rfl
 have hl:(Ns (bs.take i)).length=2*i:=by rw [LQ,List.length_take];omega
 have hr:List.replicate (2*(bs.length - i)) (0:Int)=0::0::List.replicate (2*(bs.length - (i+1))) 0:=by
  rw [show 2*(bs.length - i)=2*(bs.length - (i+1))+1+1 from by omega,List.replicate_succ,List.replicate_succ]
 unfold uj;rw [ht,tC,hr,List.set_append_right _ _ (by omega),hl,Nat.sub_self,List.set_cons_zero,List.set_append_right _ _ (by omega),hl,show 2*i+1 - 2*i=1 from by omega,List.set_cons_succ,List.set_cons_zero,List.append_assoc];rfl
def iB(c:UInt8):Bool:=OX.contains c
theorem tu{bs:List Int}(hby:By bs):(XE bs).all iB=true:=by
 rw [List.all_eq_true];intro c hc;unfold iB;rw [List.contains_iff_mem];exact Fz hby c hc
theorem TF{α:Type}(p:α->Bool):∀ l:List α,l.dropWhile p=[] ↔ l.all p=true
 | []=>by simp
 | a::l=>by
   rw [List.dropWhile_cons]
   by_cases h:p a
   · rw [if_pos h,TF p l];simp [h]
   · rw [if_neg h];simp [h]
theorem zS(D cs:List UInt8):Lib.trimS D cs=[] ↔ D.all (cs.contains ·)=true:=by
 unfold Lib.trimS Lib.trimLeftS Lib.trimRightS;generalize (cs.contains ·)=p;rw [TF];constructor
 · intro h;rw [List.all_reverse] at h;have h2:(D.reverse.dropWhile p)=[]:=by
    cases hd:D.reverse.dropWhile p with
    | nil=>rfl
    | cons a l =>
      exfalso
      have h3:=List.head_dropWhile_not p (l:=D.reverse) (by rw [hd];simp);simp only [hd,List.head_cons] at h3;rw [hd] at h;simp [h3] at h
   rw [TF,List.all_reverse] at h2;exact h2
 · intro h;have h2:D.reverse.dropWhile p=[]:=(by rw [TF,List.all_reverse];exact h);rw [h2];simp
end
end Go.Proofs.YthnenedoblncjaaGreatDoor