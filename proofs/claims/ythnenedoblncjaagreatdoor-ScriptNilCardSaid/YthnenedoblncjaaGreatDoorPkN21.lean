/- TraceText TraceForm Fail -/
import Derived.BigQuiet
import Derived.ChangeAlike
import Derived.Deep.AppendLies
import Derived.Deep.QuietTactic
import Derived.Lib.SliceRun
import Derived.LoopN
import Derived.Test.YthnenedoblncjaaGreatDoorPkN03
import Derived.Test.YthnenedoblncjaaGreatDoorPkN10
import Derived.Test.YthnenedoblncjaaGreatDoorPkN18
set_option maxRecDepth 1000000
set_option maxHeartbeats 8000000
namespace Go.Proofs.YthnenedoblncjaaGreatDoor
open Go.Proofs.Tryz
section
open Go.RowKit Go.Shelf
def PT(w : World): Prop := ∀ w', Below w.heap.size w w' -> Lib.TabIs prog w' "internal/strconv.uint64pow10" .u64 Lib.pow10Tab
theorem PT.step{w w':World}(h:PT w)(hb:Below w.heap.size w w'):PT w':=fun w2 hb2=>h w2 (Z8 hb hb2)
theorem PT.of{w : World}(h : Lib.TabIs prog w "internal/strconv.uint64pow10" .u64 Lib.pow10Tab): PT w := fun w' hb => by
 unfold Lib.TabIs World.var? at h ⊢;obtain ⟨g, hg⟩ : ∃ g, prog.globalNamed "internal/strconv.uint64pow10" = some g := by
  cases hg : prog.globalNamed "internal/strconv.uint64pow10" with
  | none=>rw [hg] at h;cases h
  | some g=>exact ⟨g,rfl⟩
 rw [hg] at h ⊢;simp only [Option.bind_some] at h ⊢;have hl:g<w.heap.size:=by
  rcases Nat.lt_or_ge g w.heap.size with h1|h1
  · exact h1
  · rw [Array.getElem?_eq_none h1] at h;cases h
 rw [hb.block g hl];exact h
theorem Qn:∀ u:Nat,Lib.decDigits u=Un u:=by
 intro u
 induction u using Nat.strongRecOn with
 | _ u ih =>
   by_cases h:u<10
   · rw [Lib.decDigits,dif_pos h];unfold Un;rw [XI h];rfl
   · rw [Lib.decDigits,dif_neg h,ih (u / 10) (by omega)];unfold Un;rw [MI (n:=u) (by omega),List.reverse_cons,List.map_append];rfl
theorem Jo(n:Int):Lib.itoa n=txt n:=by
 unfold Lib.itoa txt
 by_cases h:n<0
 · rw [if_pos h,if_pos h,Qn];rfl
 · rw [if_neg h,if_neg h,Qn,List.nil_append]
   congr 1;omega
theorem L9{n:Int}(h:Zj n):(txt n).length<=30:=by
 unfold Zj at h
 have h1:(dr n.natAbs).length<=19+1:=MJ (by
  have:n.natAbs<=9223372036854775808:=by omega
  exact Nat.lt_of_le_of_lt this (by decide))
 unfold txt Un;rw [List.length_append,List.length_map,List.length_reverse];split <;> simp <;> omega
theorem UZ(w:World)(k:Nat)(os:Array Obj):Below w.heap.size w (Go.Sort.grow (w.drewN k) os) :=
 ⟨rfl,rfl,rfl,by show w.heap.size<=(w.heap++os).size;rw [Array.size_append];omega,fun j hj=>by
   show (w.heap++os)[j]?=w.heap[j]?
   rw [Array.getElem?_append_left hj]⟩
theorem U9(n:Int)(hn:Zj n)(w:World)(hp:PT w):Calls prog 22 #[.int .i64 n] w fun e w'=>e=.returned (.string (strOf (txt n)))/\Below w.heap.size w w':=by
 refine (Any.strconv_Itoa Tryz.lays171 n hn.1 hn.2 w (hp w (Below.refl _ _))).mono ?_;rintro e w' ⟨rfl,k,os,rfl⟩;refine ⟨?_,UZ w k os⟩;rw [<- Jo];rfl
theorem GH {P:Program} {ops:Array Oper} {rest:List Oper} {o:Oper} {a:Act} {Q:Exit->Act->World->Prop} {w:World} (s x:Operand) (t:TypeId)
 (hop:o.op=Op.call { callee:=Callee.builtin Builtin.append,args:=#[s,x],argTypes:=#[t,t] }) (hw:Region.wanted o (yielded ops a.tmps)=true) (v xv:Value) (hs:a.eval s=v) (hx:a.eval x=xv) {v':Value} {w':World}
 (hrun:(Builtin.append_ #[t,t] o.type #[v,xv]).run P w=.ok v' w') (h:wpList P ops Q rest (a.put o.dst v') w'):wpList P ops Q (o::rest) a w:=by
 unfold wpList;rw [if_pos hw]
 left
 unfold Oper.wp;simp [execOp,hop,resolve,invoke,builtin,hs,hx,hrun,Result.andThen];exact h
theorem TA:(prog.info? 9).map (fun i=>(i.zero,i.size,i.bytes))=some (some (.string ⟨#[]⟩),1,16):=by kernel_rfl
theorem Hf:Builder.Extra prog Tryz.lays156_ren where
 sizeBuilder:=by kernel_rfl
 liesBuilder:=by kernel_rfl
 t5:=underlying5
 a5:=fun w=>by kernel_rfl
 z5:=fun w=>by kernel_rfl
 v5:=fun w=>by kernel_rfl
 infoByte:=by kernel_rfl
 cellsByte:=by kernel_rfl
 sizeByte:=by kernel_rfl
 neB5:=by decide
theorem Na(a:Option Addr)(c:Nat)(sep:ByteArray)(w:World):Calls prog 149 #[.slice a 0 c,.string sep] w fun e w'=>e=.returned (.string (strOf []))/\w'=w :=
 Any.strings_Join_none Tryz.lays156 Hf a c sep w
theorem Kv(xs:List (List UInt8))(sep:List UInt8)(A:Option Addr)(c:Nat)(w:World)(hs:Sl w w.heap.size A (xs.map fun x=>Value.string (strOf x)))(hc:xs.length<=c)(hn:xs.length<=1000000)(hl:(Lib.join xs sep).length<=140737488355328):
 Calls prog 149 #[.slice A xs.length c,.string (strOf sep)] w fun e w'=>e=.returned (.string (strOf (Lib.join xs sep)))/\Below w.heap.size w w':=by
 rcases hs with h0|⟨b,off,rfl,hb,hcs⟩
 · have hx:xs=[]:=(by simpa using h0);subst hx;refine (Na A c (strOf sep) w).mono ?_;rintro e w' ⟨rfl,rfl⟩;exact ⟨rfl,Below.refl _ _⟩
 · have e1:(xs.map strOf).map (fun x=>x.data.toList)=xs:=by
    rw [List.map_map]
    conv=>rhs;rw [<- List.map_id xs]
    refine List.map_congr_left fun x _=>?_;simp [strOf]
   have h:=Any.strings_Join Tryz.lays156 Hf b off c (xs.map strOf) (strOf sep) w (fun j x hj=>by
    refine hcs j _ ?_;rw [List.getElem?_map] at hj ⊢;cases hx:xs[j]? with
    | none=>rw [hx] at hj;simp at hj
    | some y=>rw [hx] at hj;simp at hj;subst hj;rfl) hb (by rw [List.length_map];omega) (by rw [List.length_map];exact hc) (by rw [e1];simpa [strOf] using hl)
   rw [e1,List.length_map] at h;refine h.mono ?_;rintro e w' ⟨rfl,hb'⟩;refine ⟨?_,hb'⟩;simp [strOf]
def Zr(n:Int):List UInt8:=[101,114,114,111,114,32]++txt n
theorem YR(n:Int)(hn:Zj n)(w:World)(hp:PT w):Calls prog 49 #[.int .i64 n] w fun e w'=>e=.returned (.string (strOf (Zr n)))/\Below w.heap.size w w':=by
 have HI:=hide (U9 n hn w hp);have hcs:¬ 9223372036854775807<6+(strOf (txt n)).size:=by
  rw [ZQ];have:=L9 hn;omega
 have yR:Hid (({ data:=#[101,114,114,111,114,32] }:ByteArray)++strOf (txt n)=strOf (Zr n)):=hide (K9 [101,114,114,111,114,32] (txt n));clear hn hp;go_enter func49,ntmps49;go_wp2_with fail;refine HI.out.mono ?_;rintro e w1 ⟨rfl,hb1⟩;go_wp2;go_ret;exact ⟨by rw [yR.out];rfl,hb1⟩
end
end Go.Proofs.YthnenedoblncjaaGreatDoor