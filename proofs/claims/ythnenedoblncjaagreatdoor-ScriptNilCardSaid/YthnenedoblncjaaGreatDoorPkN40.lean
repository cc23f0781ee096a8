/- FormU -/
import Derived.ChangeAlike
import Derived.Lib.AppendIntMem
import Derived.Lib.ItoaMem
import Derived.Lib.ItoaWalk
import Derived.Shelf.Strconv.Itoa1
import Derived.Shelf.Strconv.Itoa2
import Derived.Test.YthnenedoblncjaaGreatDoorPkN21
set_option maxRecDepth 1000000
set_option maxHeartbeats 8000000
namespace Go.Proofs.YthnenedoblncjaaGreatDoor
open Go.Proofs.Tryz
section
open Go.RowKit Go.Shelf Go.Sort
theorem Ho(u:Nat)(hu:u<100)(w:World):Calls prog 209 #[.int .u64 u,.int .i64 10] w fun e w'=>e=.returned (.string ⟨(Lib.decDigits u).toArray⟩)/\Below w.heap.size w w':=by
 have hw:IntKind.i64.wrap (u:Int)=u:=by rw [IntKind.wrap_i64];omega
 have hi:(u:Int)<100:=by omega
 go_enter func209,ntmps209;go_wp2_with (go_at_call 129;refine (Any.internal_strconv_small { Tryz.lays171 with } u hu _).mono ?_;rintro e w' ⟨rfl,rfl⟩);go_ret;exact ⟨rfl,Below.refl _ _⟩
theorem zK(u : Nat)(hu : 100 <= u)(hu64 : u < 18446744073709551616)(w : World)(htab : Lib.TabIs prog w "internal/strconv.uint64pow10" .u64 Lib.pow10Tab): Calls prog 209 #[.int .u64 u, .int .i64 10] w fun e w' => e = .returned (.string ⟨(Lib.decDigits u).toArray⟩) /\ Below w.heap.size w w' := by
 have hu1:1<=u:=by omega
 have hi:¬ (u:Int)<100:=by omega
 have hnd:Lib.nDigits u<=20:=by have:=Lib.numDigits_eq u hu1 hu64;split at this <;> omega
 have hal:prog.arrayLen 160=24:=by kernel_rfl
 have hsl:∀ W,(Instr.sliceAt 160 (.pointer (some ⟨w.heap.size,0,none⟩)) none (some (.int .i64 (Lib.nDigits u:Int))) none).run prog W=.ok (.slice (some ⟨w.heap.size,0,none⟩) (Lib.nDigits u) 24) W:=fun W=>by
  rw [run_sliceAt_array_h W 160 ⟨w.heap.size,0,none⟩ (by kernel_rfl) .i64 (Lib.nDigits u:Int) (by omega) (by rw [hal];omega)];go_simp
 have hH0:=Lib.holds_zero0 w 160 (Lib.nDigits u) (by omega);have hfmt:=Any.internal_strconv_formatBase10 { Tryz.lays171 with } w.heap.size 0 24 u (Array.replicate (Lib.nDigits u) 0) (w.alloc (.cells Lib.zeros24 160)) hH0 (by rw [Array.size_replicate];exact Lib.lt_pow_nDigits u) hu64 (by rw [Array.size_replicate];omega);rw [Array.size_replicate] at hfmt;have HH0:=hide hH0;have HF:=hide hfmt;clear hH0 hal hfmt;go_enter func209,ntmps209;go_wp2_with (go_at_call 130;refine (Any.internal_strconv_numDigits { Tryz.lays171 with } u hu1 hu64 _ (Lib.tabIs_alloc htab _)).mono ?_;rintro e w' ⟨rfl,rfl⟩);refine HF.out.mono ?_;rintro e w' ⟨rfl,k,v',dk,rfl,hF⟩;have hcv:(convert 49 9 (.slice (some ⟨w.heap.size,0,none⟩) (Lib.nDigits u) 24)).run prog ((putRow (fun (b:UInt8)=>Value.int .u8 (b.toNat:Int)) (w.alloc (.cells Lib.zeros24 160)) w.heap.size 0 dk).drewN k)=.ok (.string ⟨(Lib.decDigits u).toArray⟩) ((putRow (fun (b:UInt8)=>Value.int .u8 (b.toNat:Int)) (w.alloc (.cells Lib.zeros24 160)) w.heap.size 0 dk).drewN k):=by
  have h:=run_convert_bytes_back (P:=prog) ((putRow (fun (b:UInt8)=>Value.int .u8 (b.toNat:Int)) (w.alloc (.cells Lib.zeros24 160)) w.heap.size 0 dk).drewN k) 49 9 5 ⟨w.heap.size,0,none⟩ 24 (Lib.decDigits u) (by kernel_rfl) (by kernel_rfl) (by kernel_rfl) (fun j hj=>by
   rw [Lib.row_is_numeral hF j hj,Lib.add_plain,World.cell?_drewN]
   exact cell?_putRow (fun (b:UInt8)=>Value.int .u8 (b.toNat:Int)) _ w.heap.size 0 _ dk HH0.out (by rw [hF.size,Array.size_replicate]) j (by rw [hF.size];rw [Lib.decDigits_length] at hj;exact hj))
  rw [Lib.decDigits_length] at h;exact h
 go_wp2;go_ret;obtain ⟨os,eo⟩:=Lib.fin_at w (.cells Lib.zeros24 160) dk k 0;refine ⟨rfl,?_⟩;rw [eo];exact UZ w k os
theorem OO(u:Nat)(hu:u<18446744073709551616)(w:World)(hp:PT w):Calls prog 148 #[.int .u64 u,.int .i64 10] w fun e w'=>e=.returned (.string (strOf (Un u)))/\Below w.heap.size w w':=by
 have HC:Hid (Calls prog 209 #[.int .u64 u,.int .i64 10] w fun e w'=>e=.returned (.string ⟨(Lib.decDigits u).toArray⟩)/\Below w.heap.size w w'):=hide (by
  by_cases h:u<100
  · exact Ho u h w
  · exact zK u (by omega) hu w (hp w (Below.refl _ _)))
 clear hp hu;go_enter func148,ntmps148;go_wp2_with fail;refine HC.out.mono ?_;rintro e w' ⟨rfl,hb⟩;go_wp2;go_ret;exact ⟨by rw [<- Qn];rfl,hb⟩
end
end Go.Proofs.YthnenedoblncjaaGreatDoor