/- Poly RowKit21 -/
import Derived.Deep.DeepHandedRow
import Derived.Deep.DeepLaidRun
import Derived.Deep.Slices
import Derived.Deep.Strs
import Derived.Lib.LaidTab
import Derived.Lib.SmallJoins
import Derived.OpenShut
import Derived.ProofKit
import Derived.Test.YtpnoofphfomjoaaGreatDoorCards
import Derived.Test.YtpnoofphfomjoaaGreatDoorTie
import Derived.Test.YtpnoofphfomjoaaGreatDoorPkM06
import Derived.Test.YtpnoofphfomjoaaGreatDoorPkM26
set_option maxRecDepth 1000000
set_option maxHeartbeats 8000000
namespace Go.Proofs.YtpnoofphfomjoaaGreatDoor
section
open Go.RowKit
def ptAt (ps:List Pt) (i:Nat):Pt:=ps.getD i (0,0)
def PsJ (ps:List Pt):Prop:=∀ p∈ps,PJ p
theorem PsJ.at_ {ps:List Pt} (h:PsJ ps) (i:Nat):PJ (ptAt ps i):=by
 unfold ptAt
 rw [List.getD_eq_getElem?_getD]
 cases hi:ps[i]? with
 | none=>exact ⟨⟨by decide,by decide⟩,⟨by decide,by decide⟩⟩
 | some p=>exact h p (List.mem_of_getElem? hi)
theorem ptAt_get {ps:List Pt} {i:Nat} (hi:i<ps.length):ps[i]?=some (ptAt ps i):=by
 unfold ptAt
 rw [List.getD_eq_getElem?_getD,List.getElem?_eq_getElem hi]
 rfl
def orientV (ps:List Pt):Int:=if 3≤ps.length∧ps.length≤64 then (orientD (ptAt ps 0) (ptAt ps 1) (ptAt ps 2)).sign else 0
theorem sl_pt {w:World} {B b off:Nat} {ps:List Pt} (h:Sl w B (some ⟨b,off,none⟩) (ptCs ps)) {k:Nat} (hk:k<ps.length) :
 w.cell? ⟨b,off+k*2,none⟩=some (.int .i64 (ptAt ps k).1)∧w.cell? ⟨b,off+k*2+1,none⟩=some (.int .i64 (ptAt ps k).2):=by
 obtain ⟨b',off',e,_,h1,h2⟩:=h.pt (ptAt_get hk)
 cases e
 exact ⟨h1,h2⟩
theorem sl_pts {w:World} {B:Nat} {A:Option Addr} {ps:List Pt} (h:Sl w B A (ptCs ps)) (hn:0<ps.length):∃ b off,A=some ⟨b,off,none⟩∧b<B:=by
 obtain ⟨b,off,e,hb,_,_⟩:=h.pt (ptAt_get hn)
 exact ⟨b,off,e,hb⟩
theorem orientation_any (ps:List Pt) (hps:PsJ ps) (hn:ps.length≤10000) (A:Option Addr) (c:Nat) (w:World) (hs:Sl w w.heap.size A (ptCs ps)) (hw:MW w) :
 Calls Tryz.prog 190 #[.slice A ps.length c] w fun e w'=>e=.returned (.int .i64 (orientV ps))∧Below w.heap.size w w':=by
 by_cases h3:ps.length<3
 · have h3i:((ps.length:Nat):Int)<3:=by omega
   have ho:orientV ps=0:=by unfold orientV;rw [if_neg (by omega)]
   rw [ho]
   clear hps hs hw ho
   go_enter Tryz.func190,Tryz.ntmps190
   go_wp2
   go_ret
   exact ⟨rfl,Below.refl _ _⟩
 · have h3i:¬ ((ps.length:Nat):Int)<3:=by omega
   by_cases h64:64<ps.length
   · have h64i:(64:Int)<((ps.length:Nat):Int):=by omega
     have ho:orientV ps=0:=by unfold orientV;rw [if_neg (by omega)]
     rw [ho]
     clear hps hs hw ho
     go_enter Tryz.func190,Tryz.ntmps190
     go_wp2
     go_ret
     exact ⟨rfl,Below.refl _ _⟩
   · have h64i:¬ (64:Int)<((ps.length:Nat):Int):=by omega
     have ho:orientV ps=(orientD (ptAt ps 0) (ptAt ps 1) (ptAt ps 2)).sign:=by unfold orientV;rw [if_pos (by omega)]
     rw [ho]
     obtain ⟨b,off,rfl,hb⟩:=sl_pts hs (by omega)
     obtain ⟨a0,a1⟩:=sl_pt hs (k:=0) (by omega)
     obtain ⟨b0,b1⟩:=sl_pt hs (k:=1) (by omega)
     obtain ⟨c0,c1⟩:=sl_pt hs (k:=2) (by omega)
     have l0:0<ps.length:=by omega
     have l1:(1:Int)<((ps.length:Nat):Int):=by omega
     have l2:(2:Int)<((ps.length:Nat):Int):=by omega
     have HO:Hid (∀ wk,Below w.heap.size w wk→Calls Tryz.prog 127 #[.agg #[.int .i64 (ptAt ps 0).1,.int .i64 (ptAt ps 0).2],.agg #[.int .i64 (ptAt ps 1).1,.int .i64 (ptAt ps 1).2],.agg #[.int .i64 (ptAt ps 2).1,.int .i64 (ptAt ps 2).2]] wk fun e w'=>e=.returned (.int .i64 (orientD (ptAt ps 0) (ptAt ps 1) (ptAt ps 2)).sign)∧Below wk.heap.size wk w') :=
      hide fun wk hk=>osign_any _ _ _ (hps.at_ 0) (hps.at_ 1) (hps.at_ 2) wk (hw.step hk)
     generalize hos:(orientD (ptAt ps 0) (ptAt ps 1) (ptAt ps 2)).sign=os at *
     generalize hpa:ptAt ps 0=pa at *
     generalize hpb:ptAt ps 1=pb at *
     generalize hpc:ptAt ps 2=pc at *
     obtain ⟨a,a'⟩:=pa
     obtain ⟨b2,b'⟩:=pb
     obtain ⟨c2,c'⟩:=pc
     dsimp only at *
     simp only [Nat.zero_mul,Nat.add_zero,Nat.one_mul,Nat.reduceMul] at a0 a1 b0 b1 c0 c1
     clear hos hpa hpb hpc ho hs hps hw
     have h00:Held3P w b b b a a' b2 b' c2 c' w∨True:=.inr trivial
     clear h00
     have hbd:=bl_drew (Below.refl w.heap.size w)
     go_enter Tryz.func190,Tryz.ntmps190
     go_wp2
     go_region_held3 (fun w'=>(Below w.heap.size w w'∧w'.cell? ⟨b,off,none⟩=some (.int .i64 a)∧w'.cell? ⟨b,off+1,none⟩=some (.int .i64 a'))∧(w'.cell? ⟨b,off+2,none⟩=some (.int .i64 b2)∧w'.cell? ⟨b,off+2+1,none⟩=some (.int .i64 b'))∧w'.cell? ⟨b,off+4,none⟩=some (.int .i64 c2)∧w'.cell? ⟨b,off+4+1,none⟩=some (.int .i64 c'))
      (first | exact ⟨⟨hbd,a0,a1⟩,⟨b0,b1⟩,c0,c1⟩ | exact ⟨⟨bl_step hbd (by assumption),(hb1.cell (p:=⟨b,_,none⟩) hb).trans a0,(hb1.cell (p:=⟨b,_,none⟩) hb).trans a1⟩,⟨(hb1.cell (p:=⟨b,_,none⟩) hb).trans b0,(hb1.cell (p:=⟨b,_,none⟩) hb).trans b1⟩,(hb1.cell (p:=⟨b,_,none⟩) hb).trans c0,(hb1.cell (p:=⟨b,_,none⟩) hb).trans c1⟩)
      (first
        | (go_at_call 127;((with_reducible refine (HO.out _ hbd).mono ?_);rintro e w' ⟨rfl,hb1⟩)))
     all_goals
      go_wp2
      go_ret
      exact ⟨rfl,bl_step hbd hb1⟩
end
section
open Go.ChangeShapes Go.WideShapes Go.ChangeAt Go.RowKit
theorem gWords : Tryz.prog.globalNamed "geofence/mask.words" = some 1 := by kernel_rfl
theorem gWordsType:(Tryz.prog.globals[1]?).map (·.type)=some 210:=by kernel_rfl
theorem cellsWords:Tryz.prog.cellsOf 210=2:=by kernel_rfl
theorem cellsUint64:Tryz.prog.cellsOf 80=1:=by kernel_rfl
theorem gFixed : Tryz.prog.globalNamed "geofence/header.fixed" = some 0 := by kernel_rfl
theorem gFixedType:(Tryz.prog.globals[0]?).map (·.type)=some 205:=by kernel_rfl
theorem cellsFixed:Tryz.prog.cellsOf 205=6:=by kernel_rfl
theorem cellsInt:Tryz.prog.cellsOf 3=1:=by kernel_rfl
theorem laid_tail {P:Program} {x:String × DataW Unit} {l:List (String × DataW Unit)} {W:World} (h:laidMet P (x::l) W):laidMet P l W:=by
 obtain ⟨ps,⟨g',t',cs,fuel,p,q,hg',ht',hvar,hd,hq,hps⟩,hn,hm⟩:=h
 subst hps
 exact ⟨q,hq,(List.nodup_append.1 hn).2.1,fun b off hp=>hm b off (List.mem_append_right _ hp)⟩
theorem fixed_of_laid {W : World} (h : laidMetH Tryz.prog [("geofence/mask.words", Rows.laid_geofence_mask_words), ("geofence/header.fixed", Rows.laid_geofence_header_fixed)] W) : (Fixed W ∧ 0 < W.heap.size) ∧ MW W := by
 have h' : laidMet Tryz.prog [("geofence/mask.words", Rows.laid_geofence_mask_words), ("geofence/header.fixed", Rows.laid_geofence_header_fixed)] W := h
 have ht : Lib.TabIs Tryz.prog W "geofence/mask.words" .u64 [9223372036854775808, 18446744073709551615] := Lib.tabIs_of_head (rest := [("geofence/header.fixed", Rows.laid_geofence_header_fixed)]) gWords gWordsType Tryz.underlying210 Tryz.underlying80 cellsUint64 cellsWords h'
 have hf : Lib.TabIs Tryz.prog W "geofence/header.fixed" .i64 [0, 3, 4, 1, 1, 0] := Lib.tabIs_of_head (rest := []) gFixed gFixedType Tryz.underlying205 Tryz.underlying3 cellsInt cellsFixed (laid_tail h')
 have h0:=ht.cell gWords 0 (by decide)
 have h1:=ht.cell gWords 1 (by decide)
 have hc:Fixed W:=fun j hj=>hf.cell gFixed j (by simpa using hj)
 exact ⟨⟨hc,block_lt (hc 0 (by omega))⟩,⟨h0,h1⟩,block_lt h0⟩
def litV:DataW Unit→Value
 | .lit (.int k n)=>.int k n
 | _=>undef
def litCells:DataW Unit→List Value
 | .agg ps=>ps.map litV
 | x=>[litV x]
def layTable (d:DataW Unit):Obj→Obj
 | .cells _ t frozen=>.cells (litCells d).toArray t frozen
 | o=>o
noncomputable def laidWorld (os:Os):World :=
 { World.holding Tryz.prog os ⟨#[],#[],[]⟩ with heap:=((World.holding Tryz.prog os ⟨#[],#[],[]⟩).heap.modify 1 (layTable Rows.laid_geofence_mask_words)).modify 0 (layTable Rows.laid_geofence_header_fixed) }
end
end Go.Proofs.YtpnoofphfomjoaaGreatDoor
