/- Poly RowKit23 RowFacts23 -/
import Derived.Deep.DeepHandedRow
import Derived.Deep.DeepLaidRun
import Derived.Deep.DeepWitnessRowRef
import Derived.Deep.Slices
import Derived.Deep.Strs
import Derived.Lib.ItoaNum
import Derived.Lib.LaidTab
import Derived.Lib.SmallJoins
import Derived.Lib.Space
import Derived.OpenShut
import Derived.ProofKit
import Derived.Test.YthnenedoblncjaaGreatDoorCards
import Derived.Test.YthnenedoblncjaaGreatDoorTie
import Derived.Test.YthnenedoblncjaaGreatDoorPkA04
import Derived.Test.YthnenedoblncjaaGreatDoorPkA27
set_option maxRecDepth 1000000
set_option maxHeartbeats 8000000
namespace Go.Proofs.YthnenedoblncjaaGreatDoor
open Go.Proofs.Tryz
section
open Go.RowKit
def Z5(ps:List Pt)(i:Nat):Pt:=ps.getD i (0,0)
def Ub(ps:List Pt):Prop:=∀ p∈ps,PJ p
theorem Ub.at_{ps:List Pt}(h:Ub ps)(i:Nat):PJ (Z5 ps i):=by
 unfold Z5;rw [List.getD_eq_getElem?_getD];cases hi:ps[i]? with
 | none=>exact ⟨⟨by decide,by decide⟩,⟨by decide,by decide⟩⟩
 | some p=>exact h p (List.mem_of_getElem? hi)
theorem Gb{ps:List Pt}{i:Nat}(hi:i<ps.length):ps[i]?=some (Z5 ps i):=by
 unfold Z5;rw [List.getD_eq_getElem?_getD,List.getElem?_eq_getElem hi];rfl
def Z4(ps:List Pt):Int:=if 3<=ps.length/\ps.length<=64 then (ZM (Z5 ps 0) (Z5 ps 1) (Z5 ps 2)).sign else 0
theorem X8{w:World}{B b off:Nat}{ps:List Pt}(h:Sl w B (some ⟨b,off,none⟩) (Zg ps)){k:Nat}(hk:k<ps.length):
 w.cell? ⟨b,off+k*2,none⟩=some (.int .i64 (Z5 ps k).1)/\w.cell? ⟨b,off+k*2+1,none⟩=some (.int .i64 (Z5 ps k).2):=by
 obtain ⟨b',off',e,_,h1,h2⟩:=h.pt (Gb hk);cases e;exact ⟨h1,h2⟩
theorem VL{w:World}{B:Nat}{A:Option Addr}{ps:List Pt}(h:Sl w B A (Zg ps))(hn:0<ps.length):∃ b off,A=some ⟨b,off,none⟩/\b<B:=by
 obtain ⟨b,off,e,hb,_,_⟩:=h.pt (Gb hn);exact ⟨b,off,e,hb⟩
theorem Tt(ps:List Pt)(hps:Ub ps)(hn:ps.length<=10000)(A:Option Addr)(c:Nat)(w:World)(hs:Sl w w.heap.size A (Zg ps))(hw:MW w):
 Calls prog 257 #[.slice A ps.length c] w fun e w'=>e=.returned (.int .i64 (Z4 ps))/\Below w.heap.size w w':=by
 by_cases h3:ps.length<3
 · have h3i:((ps.length:Nat):Int)<3:=(by omega);have ho:Z4 ps=0:=(by unfold Z4;rw [if_neg (by omega)]);rw [ho];clear hps hs hw ho;go_enter func257,ntmps257;go_wp2;go_ret;exact ⟨rfl,Below.refl _ _⟩
 · have h3i:¬ ((ps.length:Nat):Int)<3:=by omega
   by_cases h64:64<ps.length
   · have bP:(64:Int)<((ps.length:Nat):Int):=(by omega);have ho:Z4 ps=0:=(by unfold Z4;rw [if_neg (by omega)]);rw [ho];clear hps hs hw ho;go_enter func257,ntmps257;go_wp2;go_ret;exact ⟨rfl,Below.refl _ _⟩
   · have bP:¬ (64:Int)<((ps.length:Nat):Int):=(by omega);have ho:Z4 ps=(ZM (Z5 ps 0) (Z5 ps 1) (Z5 ps 2)).sign:=(by unfold Z4;rw [if_pos (by omega)]);rw [ho];obtain ⟨b,off,rfl,hb⟩:=VL hs (by omega);obtain ⟨a0,a1⟩:=X8 hs (k:=0) (by omega);obtain ⟨b0,b1⟩:=X8 hs (k:=1) (by omega);obtain ⟨c0,c1⟩:=X8 hs (k:=2) (by omega);have l0:0<ps.length:=(by omega);have l1:(1:Int)<((ps.length:Nat):Int):=(by omega);have l2:(2:Int)<((ps.length:Nat):Int):=by omega
     have HO:Hid (∀ wk,Below w.heap.size w wk->Calls prog 137 #[.agg #[.int .i64 (Z5 ps 0).1,.int .i64 (Z5 ps 0).2],.agg #[.int .i64 (Z5 ps 1).1,.int .i64 (Z5 ps 1).2],.agg #[.int .i64 (Z5 ps 2).1,.int .i64 (Z5 ps 2).2]] wk fun e w'=>e=.returned (.int .i64 (ZM (Z5 ps 0) (Z5 ps 1) (Z5 ps 2)).sign)/\Below wk.heap.size wk w') :=
      hide fun wk hk=>U9 _ _ _ (hps.at_ 0) (hps.at_ 1) (hps.at_ 2) wk (hw.step hk)
     generalize hos:(ZM (Z5 ps 0) (Z5 ps 1) (Z5 ps 2)).sign=os at *;generalize hpa:Z5 ps 0=pa at *;generalize hpb:Z5 ps 1=pb at *;generalize hpc:Z5 ps 2=pc at *;obtain ⟨a,a'⟩:=pa;obtain ⟨b2,b'⟩:=pb;obtain ⟨c2,c'⟩:=pc;dsimp only at *;simp only [Nat.zero_mul,Nat.add_zero,Nat.one_mul,Nat.reduceMul] at a0 a1 b0 b1 c0 c1;clear hos hpa hpb hpc ho hs hps hw;have h00:OJ w b b b a a' b2 b' c2 c' w\/True:=.inr trivial;clear h00;have hbd:=ZU (Below.refl w.heap.size w);go_enter func257,ntmps257;go_wp2
     go_region_held3 (fun w'=>(Below w.heap.size w w'/\w'.cell? ⟨b,off,none⟩=some (.int .i64 a)/\w'.cell? ⟨b,off+1,none⟩=some (.int .i64 a'))/\(w'.cell? ⟨b,off+2,none⟩=some (.int .i64 b2)/\w'.cell? ⟨b,off+2+1,none⟩=some (.int .i64 b'))/\w'.cell? ⟨b,off+4,none⟩=some (.int .i64 c2)/\w'.cell? ⟨b,off+4+1,none⟩=some (.int .i64 c'))
      (first|exact ⟨⟨hbd,a0,a1⟩,⟨b0,b1⟩,c0,c1⟩|exact ⟨⟨Z9 hbd (by assumption),(hb1.cell (p:=⟨b,_,none⟩) hb).trans a0,(hb1.cell (p:=⟨b,_,none⟩) hb).trans a1⟩,⟨(hb1.cell (p:=⟨b,_,none⟩) hb).trans b0,(hb1.cell (p:=⟨b,_,none⟩) hb).trans b1⟩,(hb1.cell (p:=⟨b,_,none⟩) hb).trans c0,(hb1.cell (p:=⟨b,_,none⟩) hb).trans c1⟩)
      (first
        | (go_at_call 137;((with_reducible refine (HO.out _ hbd).mono ?_);rintro e w' ⟨rfl,hb1⟩)))
     all_goals
      go_wp2;go_ret;exact ⟨rfl,Z9 hbd hb1⟩
end
section
open Go.ChangeShapes Go.WideShapes Go.ChangeAt Go.RowKit
theorem Ci : prog.globalNamed "geofence/mask.words" = some 8 := by kernel_rfl
theorem Cj:(prog.globals[8]?).map (·.type)=some 311:=by kernel_rfl
theorem BJ:prog.cellsOf 311=2:=by kernel_rfl
theorem ES:prog.cellsOf 44=1:=by kernel_rfl
theorem sJ : prog.globalNamed "geofence/header.fixed" = some 9 := by kernel_rfl
theorem Ch:(prog.globals[9]?).map (·.type)=some 192:=by kernel_rfl
theorem BI:prog.cellsOf 192=6:=by kernel_rfl
theorem rH:prog.cellsOf 3=1:=by kernel_rfl
theorem Uj{P:Program}{x:String × DataW Unit}{l:List (String × DataW Unit)}{W:World}(h:laidMet P (x::l) W):laidMet P l W:=by
 obtain ⟨ps,⟨g',t',cs,fuel,p,q,hg',ht',hvar,hd,hq,hps⟩,hn,hm⟩:=h;subst hps;exact ⟨q,hq,(List.nodup_append.1 hn).2.1,fun b off hp=>hm b off (List.mem_append_right _ hp)⟩
theorem KE{W : World}(h : laidMetH prog [("geofence/mask.words", Rows.laid_geofence_mask_words), ("math/bits.deBruijn32tab", Rows.laid_math_bits_deBruijn32tab), ("math/bits.deBruijn64tab", Rows.laid_math_bits_deBruijn64tab), ("internal/strconv.uint64pow10", Rows.laid_internal_strconv_uint64pow10), ("unicode/utf8.acceptRanges", Rows.laid_unicode_utf8_acceptRanges), ("geofence/header.fixed", Rows.laid_geofence_header_fixed), ("unicode.White_Space", Rows.laid_unicode_White_Space), ("strings.asciiSpace", Rows.laid_strings_asciiSpace), ("unicode/utf8.first", Rows.laid_unicode_utf8_first)] W): (Fixed W /\ 9 < W.heap.size) /\ MW W := by
 have h' : laidMet prog [("geofence/mask.words", Rows.laid_geofence_mask_words), ("math/bits.deBruijn32tab", Rows.laid_math_bits_deBruijn32tab), ("math/bits.deBruijn64tab", Rows.laid_math_bits_deBruijn64tab), ("internal/strconv.uint64pow10", Rows.laid_internal_strconv_uint64pow10), ("unicode/utf8.acceptRanges", Rows.laid_unicode_utf8_acceptRanges), ("geofence/header.fixed", Rows.laid_geofence_header_fixed), ("unicode.White_Space", Rows.laid_unicode_White_Space), ("strings.asciiSpace", Rows.laid_strings_asciiSpace), ("unicode/utf8.first", Rows.laid_unicode_utf8_first)] W := h;have ht : Lib.TabIs prog W "geofence/mask.words" .u64 [9223372036854775808, 18446744073709551615] := Lib.tabIs_of_head (rest := [("math/bits.deBruijn32tab", Rows.laid_math_bits_deBruijn32tab), ("math/bits.deBruijn64tab", Rows.laid_math_bits_deBruijn64tab), ("internal/strconv.uint64pow10", Rows.laid_internal_strconv_uint64pow10), ("unicode/utf8.acceptRanges", Rows.laid_unicode_utf8_acceptRanges), ("geofence/header.fixed", Rows.laid_geofence_header_fixed), ("unicode.White_Space", Rows.laid_unicode_White_Space), ("strings.asciiSpace", Rows.laid_strings_asciiSpace), ("unicode/utf8.first", Rows.laid_unicode_utf8_first)]) Ci Cj underlying311 underlying44 ES BJ h';have h5:=Uj (Uj (Uj (Uj (Uj h'))));have hf : Lib.TabIs prog W "geofence/header.fixed" .i64 [0, 3, 4, 1, 1, 0] := Lib.tabIs_of_head (rest := [("unicode.White_Space", Rows.laid_unicode_White_Space), ("strings.asciiSpace", Rows.laid_strings_asciiSpace), ("unicode/utf8.first", Rows.laid_unicode_utf8_first)]) sJ Ch underlying192 underlying3 rH BI h5;have h0:=ht.cell Ci 0 (by decide);have h1:=ht.cell Ci 1 (by decide);have hc:Fixed W:=fun j hj=>hf.cell sJ j (by simpa using hj);exact ⟨⟨hc,block_lt (hc 0 (by omega))⟩,⟨h0,h1⟩,block_lt h0⟩
def iD:DataW Unit->Value
 | .lit (.int k n)=>.int k n
 | _=>undef
def FV:DataW Unit->List Value
 | .agg ps=>ps.flatMap fun
   | .agg qs=>qs.map iD
   | x=>[iD x]
 | x=>[iD x]
def Dv:DataW Unit->List Value
 | .ptr (.agg (.slice es _::_))=>FV (.agg es)
 | _=>[]
def FR(cs:List Value):Obj->Obj
 | .cells _ t frozen=>.cells cs.toArray t frozen
 | o=>o
def Vx(d:DataW Unit):Obj->Obj:=FR (FV d)
noncomputable def Pj (os:Os):World :=
 let N:=(World.settled prog os).heap.size
 let w0:=World.holding prog os ⟨#[.cells (Dv Rows.laid_unicode_White_Space).toArray 369,.cells #[.slice (some ⟨N,0,none⟩) 7 7,.slice none 0 0,.int .i64 2] 366],#[],[]⟩
 { w0 with heap:=(((((((((w0.heap.modify 8 (Vx Rows.laid_geofence_mask_words)).modify 4 (Vx Rows.laid_math_bits_deBruijn32tab)).modify 5 (Vx Rows.laid_math_bits_deBruijn64tab)).modify 0 (Vx Rows.laid_internal_strconv_uint64pow10)).modify 7 (Vx Rows.laid_unicode_utf8_acceptRanges)).modify 9 (Vx Rows.laid_geofence_header_fixed)).modify 1 (Vx Rows.laid_strings_asciiSpace)).modify 6 (Vx Rows.laid_unicode_utf8_first)).modify 3 (FR [.pointer (some ⟨N+1,0,none⟩)])) }
theorem WA{a b:Bool}(ha:a=true)(hb:b=true):(a && b)=true:=by rw [ha,hb];rfl
theorem sw:laidOutB Tryz.pinned.checked.prog=true:=by kernel_rfl
theorem sD:mapsRowed Tryz.pinned.checked.prog=true:=by kernel_rfl
theorem factKeys:(true == Tryz.pinned.checked.prog.plainKeys)=true:=by kernel_rfl
theorem yx:Tryz.pinned.checked.prog.stopsHeard=true:=by kernel_rfl
theorem yw:Tryz.pinned.checked.prog.mayEnter=true:=by kernel_rfl
end
end Go.Proofs.YthnenedoblncjaaGreatDoor