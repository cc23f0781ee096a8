/- TraceText Fail TraceForm FormU -/
import Derived.BigQuiet
import Derived.ChangeAlike
import Derived.Deep.AppendLies
import Derived.Deep.QuietTactic
import Derived.Lib.AppendIntMem
import Derived.Lib.ItoaMem
import Derived.Lib.ItoaWalk
import Derived.Lib.SliceRun
import Derived.LoopN
import Derived.Shelf.Strconv.Itoa1
import Derived.Shelf.Strconv.Itoa2
import Derived.Test.YthnenedoblncjaaGreatDoorPkP00
import Derived.Test.YthnenedoblncjaaGreatDoorPkP02
import Derived.Test.YthnenedoblncjaaGreatDoorPkP07
set_option maxRecDepth 1000000
set_option maxHeartbeats 8000000
namespace Go.Proofs.YthnenedoblncjaaGreatDoor
section
open Go.RowKit Go.Shelf
def PT (w : World) : Prop := ∀ w', Below w.heap.size w w' → Lib.TabIs Tryz.prog w' "internal/strconv.uint64pow10" .u64 Lib.pow10Tab
theorem PT.step {w w':World} (h:PT w) (hb:Below w.heap.size w w'):PT w':=fun w2 hb2=>h w2 (bl_step hb hb2)
theorem PT.of {w : World} (h : Lib.TabIs Tryz.prog w "internal/strconv.uint64pow10" .u64 Lib.pow10Tab) : PT w := fun w' hb => by
 unfold Lib.TabIs World.var? at h ⊢
 obtain ⟨g, hg⟩ : ∃ g, Tryz.prog.globalNamed "internal/strconv.uint64pow10" = some g := by
  cases hg : Tryz.prog.globalNamed "internal/strconv.uint64pow10" with
  | none=>rw [hg] at h;cases h
  | some g=>exact ⟨g,rfl⟩
 rw [hg] at h ⊢
 simp only [Option.bind_some] at h ⊢
 have hl:g<w.heap.size:=by
  rcases Nat.lt_or_ge g w.heap.size with h1 | h1
  · exact h1
  · rw [Array.getElem?_eq_none h1] at h;cases h
 rw [hb.block g hl]
 exact h
theorem dgB_dec:∀ u:Nat,Lib.decDigits u=dgB u:=by
 intro u
 induction u using Nat.strongRecOn with
 | _ u ih =>
   by_cases h:u<10
   · rw [Lib.decDigits,dif_pos h]
     unfold dgB
     rw [dr_small h];rfl
   · rw [Lib.decDigits,dif_neg h,ih (u / 10) (by omega)]
     unfold dgB
     rw [dr_big (n:=u) (by omega),List.reverse_cons,List.map_append];rfl
theorem txt_itoa (n:Int):Lib.itoa n=txt n:=by
 unfold Lib.itoa txt
 by_cases h:n<0
 · rw [if_pos h,if_pos h,dgB_dec];rfl
 · rw [if_neg h,if_neg h,dgB_dec,List.nil_append]
   congr 1;omega
theorem txt_len {n:Int} (h:I64w n):(txt n).length≤30:=by
 unfold I64w at h
 have h1:(dr n.natAbs).length≤19+1:=dr_len (by
  have:n.natAbs≤9223372036854775808:=by omega
  exact Nat.lt_of_le_of_lt this (by decide))
 unfold txt dgB
 rw [List.length_append,List.length_map,List.length_reverse]
 split <;> simp <;> omega
theorem below_grown' (w:World) (k:Nat) (os:Array Obj):Below w.heap.size w (Go.Sort.grow (w.drewN k) os) :=
 ⟨rfl,rfl,rfl,by show w.heap.size≤(w.heap++os).size;rw [Array.size_append];omega,fun j hj=>by
   show (w.heap++os)[j]?=w.heap[j]?
   rw [Array.getElem?_append_left hj]⟩
theorem itoa_any (n:Int) (hn:I64w n) (w:World) (hp:PT w):Calls Tryz.prog 22 #[.int .i64 n] w fun e w'=>e=.returned (.string (strOf (txt n)))∧Below w.heap.size w w':=by
 refine (Any.strconv_Itoa Tryz.lays171 n hn.1 hn.2 w (hp w (Below.refl _ _))).mono ?_
 rintro e w' ⟨rfl,k,os,rfl⟩
 refine ⟨?_,below_grown' w k os⟩
 rw [← txt_itoa];rfl
end
section
open Go.RowKit Go.Shelf
def errT (n:Int):List UInt8:=[101,114,114,111,114,32]++txt n
theorem fail_any (n:Int) (hn:I64w n) (w:World) (hp:PT w):Calls Tryz.prog 49 #[.int .i64 n] w fun e w'=>e=.returned (.string (strOf (errT n)))∧Below w.heap.size w w':=by
 have HI:=hide (itoa_any n hn w hp)
 have hcs:¬ 9223372036854775807<6+(strOf (txt n)).size:=by
  rw [strOf_size];have:=txt_len hn;omega
 have HEQ:Hid (({ data:=#[101,114,114,111,114,32] }:ByteArray)++strOf (txt n)=strOf (errT n)):=hide (strOf_app [101,114,114,111,114,32] (txt n))
 clear hn hp
 go_enter Tryz.func49,Tryz.ntmps49
 go_wp2_with fail
 refine HI.out.mono ?_
 rintro e w1 ⟨rfl,hb1⟩
 go_wp2
 go_ret
 exact ⟨by rw [HEQ.out];rfl,hb1⟩
end
section
open Go.RowKit Go.Shelf
theorem app_runS {P:Program} {ops:Array Oper} {rest:List Oper} {o:Oper} {a:Act} {Q:Exit→Act→World→Prop} {w:World} (s x:Operand) (t:TypeId)
 (hop:o.op=Op.call { callee:=Callee.builtin Builtin.append,args:=#[s,x],argTypes:=#[t,t] }) (hw:Region.wanted o (yielded ops a.tmps)=true) (v xv:Value) (hs:a.eval s=v) (hx:a.eval x=xv) {v':Value} {w':World}
 (hrun:(Builtin.append_ #[t,t] o.type #[v,xv]).run P w=.ok v' w') (h:wpList P ops Q rest (a.put o.dst v') w'):wpList P ops Q (o::rest) a w:=by
 unfold wpList
 rw [if_pos hw]
 left
 unfold Oper.wp
 simp [execOp,hop,resolve,invoke,builtin,hs,hx,hrun,Result.andThen]
 exact h
theorem str_info:(Tryz.prog.info? 9).map (fun i=>(i.zero,i.size,i.bytes))=some (some (.string ⟨#[]⟩),1,16):=by kernel_rfl
theorem extraB:Builder.Extra Tryz.prog Tryz.lays156_ren where
 sizeBuilder:=by kernel_rfl
 liesBuilder:=by kernel_rfl
 t5:=Tryz.underlying5
 a5:=fun w=>by kernel_rfl
 z5:=fun w=>by kernel_rfl
 v5:=fun w=>by kernel_rfl
 infoByte:=by kernel_rfl
 cellsByte:=by kernel_rfl
 sizeByte:=by kernel_rfl
 neB5:=by decide
theorem joinS_none (a:Option Addr) (c:Nat) (sep:ByteArray) (w:World):Calls Tryz.prog 149 #[.slice a 0 c,.string sep] w fun e w'=>e=.returned (.string (strOf []))∧w'=w :=
 Any.strings_Join_none Tryz.lays156 extraB a c sep w
theorem joinS_any (xs:List (List UInt8)) (sep:List UInt8) (A:Option Addr) (c:Nat) (w:World) (hs:Sl w w.heap.size A (xs.map fun x=>Value.string (strOf x))) (hc:xs.length≤c) (hn:xs.length≤1000000) (hl:(Lib.join xs sep).length≤140737488355328) :
 Calls Tryz.prog 149 #[.slice A xs.length c,.string (strOf sep)] w fun e w'=>e=.returned (.string (strOf (Lib.join xs sep)))∧Below w.heap.size w w':=by
 rcases hs with h0 | ⟨b,off,rfl,hb,hcs⟩
 · have hx:xs=[]:=by simpa using h0
   subst hx
   refine (joinS_none A c (strOf sep) w).mono ?_
   rintro e w' ⟨rfl,rfl⟩
   exact ⟨rfl,Below.refl _ _⟩
 · have e1:(xs.map strOf).map (fun x=>x.data.toList)=xs:=by
    rw [List.map_map]
    conv=>rhs;rw [← List.map_id xs]
    refine List.map_congr_left fun x _=>?_
    simp [strOf]
   have h:=Any.strings_Join Tryz.lays156 extraB b off c (xs.map strOf) (strOf sep) w (fun j x hj=>by
    refine hcs j _ ?_
    rw [List.getElem?_map] at hj ⊢
    cases hx:xs[j]? with
    | none=>rw [hx] at hj;simp at hj
    | some y=>rw [hx] at hj;simp at hj;subst hj;rfl) hb (by rw [List.length_map];omega) (by rw [List.length_map];exact hc) (by rw [e1];simpa [strOf] using hl)
   rw [e1,List.length_map] at h
   refine h.mono ?_
   rintro e w' ⟨rfl,hb'⟩
   refine ⟨?_,hb'⟩
   simp [strOf]
end
section
open Go.RowKit Go.Shelf Go.Sort
theorem fu_small (u:Nat) (hu:u<100) (w:World):Calls Tryz.prog 209 #[.int .u64 u,.int .i64 10] w fun e w'=>e=.returned (.string ⟨(Lib.decDigits u).toArray⟩)∧Below w.heap.size w w':=by
 have hw:IntKind.i64.wrap (u:Int)=u:=by rw [IntKind.wrap_i64];omega
 have hi:(u:Int)<100:=by omega
 go_enter Tryz.func209,Tryz.ntmps209
 go_wp2_with (go_at_call 129;refine (Any.internal_strconv_small { Tryz.lays171 with } u hu _).mono ?_;rintro e w' ⟨rfl,rfl⟩)
 go_ret
 exact ⟨rfl,Below.refl _ _⟩
theorem fu_big (u : Nat) (hu : 100 ≤ u) (hu64 : u < 18446744073709551616) (w : World) (htab : Lib.TabIs Tryz.prog w "internal/strconv.uint64pow10" .u64 Lib.pow10Tab) : Calls Tryz.prog 209 #[.int .u64 u, .int .i64 10] w fun e w' => e = .returned (.string ⟨(Lib.decDigits u).toArray⟩) ∧ Below w.heap.size w w' := by
 have hu1:1≤u:=by omega
 have hi:¬ (u:Int)<100:=by omega
 have hnd:Lib.nDigits u≤20:=by have:=Lib.numDigits_eq u hu1 hu64;split at this <;> omega
 have hal:Tryz.prog.arrayLen 160=24:=by kernel_rfl
 have hsl:∀ W,(Instr.sliceAt 160 (.pointer (some ⟨w.heap.size,0,none⟩)) none (some (.int .i64 (Lib.nDigits u:Int))) none).run Tryz.prog W=.ok (.slice (some ⟨w.heap.size,0,none⟩) (Lib.nDigits u) 24) W:=fun W=>by
  rw [run_sliceAt_array_h W 160 ⟨w.heap.size,0,none⟩ (by kernel_rfl) .i64 (Lib.nDigits u:Int) (by omega) (by rw [hal];omega)]
  go_simp
 have hH0:=Lib.holds_zero0 w 160 (Lib.nDigits u) (by omega)
 have hfmt:=Any.internal_strconv_formatBase10 { Tryz.lays171 with } w.heap.size 0 24 u (Array.replicate (Lib.nDigits u) 0) (w.alloc (.cells Lib.zeros24 160)) hH0 (by rw [Array.size_replicate];exact Lib.lt_pow_nDigits u) hu64 (by rw [Array.size_replicate];omega)
 rw [Array.size_replicate] at hfmt
 have HH0:=hide hH0
 have HF:=hide hfmt
 clear hH0 hal hfmt
 go_enter Tryz.func209,Tryz.ntmps209
 go_wp2_with (go_at_call 130;refine (Any.internal_strconv_numDigits { Tryz.lays171 with } u hu1 hu64 _ (Lib.tabIs_alloc htab _)).mono ?_;rintro e w' ⟨rfl,rfl⟩)
 refine HF.out.mono ?_
 rintro e w' ⟨rfl,k,v',dk,rfl,hF⟩
 have hcv:(convert 49 9 (.slice (some ⟨w.heap.size,0,none⟩) (Lib.nDigits u) 24)).run Tryz.prog ((putRow (fun (b:UInt8)=>Value.int .u8 (b.toNat:Int)) (w.alloc (.cells Lib.zeros24 160)) w.heap.size 0 dk).drewN k)=.ok (.string ⟨(Lib.decDigits u).toArray⟩) ((putRow (fun (b:UInt8)=>Value.int .u8 (b.toNat:Int)) (w.alloc (.cells Lib.zeros24 160)) w.heap.size 0 dk).drewN k):=by
  have h:=run_convert_bytes_back (P:=Tryz.prog) ((putRow (fun (b:UInt8)=>Value.int .u8 (b.toNat:Int)) (w.alloc (.cells Lib.zeros24 160)) w.heap.size 0 dk).drewN k) 49 9 5 ⟨w.heap.size,0,none⟩ 24 (Lib.decDigits u) (by kernel_rfl) (by kernel_rfl) (by kernel_rfl) (fun j hj=>by
   rw [Lib.row_is_numeral hF j hj,Lib.add_plain,World.cell?_drewN]
   exact cell?_putRow (fun (b:UInt8)=>Value.int .u8 (b.toNat:Int)) _ w.heap.size 0 _ dk HH0.out (by rw [hF.size,Array.size_replicate]) j (by rw [hF.size];rw [Lib.decDigits_length] at hj;exact hj))
  rw [Lib.decDigits_length] at h
  exact h
 go_wp2
 go_ret
 obtain ⟨os,eo⟩:=Lib.fin_at w (.cells Lib.zeros24 160) dk k 0
 refine ⟨rfl,?_⟩
 rw [eo]
 exact below_grown' w k os
theorem formatU_any (u:Nat) (hu:u<18446744073709551616) (w:World) (hp:PT w):Calls Tryz.prog 148 #[.int .u64 u,.int .i64 10] w fun e w'=>e=.returned (.string (strOf (dgB u)))∧Below w.heap.size w w':=by
 have HC:Hid (Calls Tryz.prog 209 #[.int .u64 u,.int .i64 10] w fun e w'=>e=.returned (.string ⟨(Lib.decDigits u).toArray⟩)∧Below w.heap.size w w'):=hide (by
  by_cases h:u<100
  · exact fu_small u h w
  · exact fu_big u (by omega) hu w (hp w (Below.refl _ _)))
 clear hp hu
 go_enter Tryz.func148,Tryz.ntmps148
 go_wp2_with fail
 refine HC.out.mono ?_
 rintro e w' ⟨rfl,hb⟩
 go_wp2
 go_ret
 exact ⟨by rw [← dgB_dec];rfl,hb⟩
end
end Go.Proofs.YthnenedoblncjaaGreatDoor
