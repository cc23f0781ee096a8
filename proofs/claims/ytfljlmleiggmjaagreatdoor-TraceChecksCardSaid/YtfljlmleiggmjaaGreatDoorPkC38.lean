/- Ops OpFns -/
import Derived.Maps.OwnSet
import Derived.Test.YtfljlmleiggmjaaGreatDoorPkC30
set_option maxRecDepth 1000000
set_option maxHeartbeats 8000000
namespace Go.Proofs.YtfljlmleiggmjaaGreatDoor
open List (getElem_toArray getElem_cons_succ getElem_cons_zero setIfInBounds_toArray set_cons_zero set_cons_succ)
section
open Go.RowKit Go.Shelf Go.Maps
def opR (v:Value):Option (DataW Unit × List MemPlace) :=
 match v with
 | .agg cs=>match cs.toList with
   | [.func (.func n) f c]=>if f.size=0∧c.size=0 then some (.lit (.int .i64 n),[]) else some (.lit (.int .i64 0),[])
   | _=>some (.lit (.int .i64 0),[])
 | _=>some (.lit (.int .i64 0),[])
theorem lit_ne {n:Nat} {ps:List MemPlace} (hn:n≠0):¬ (some ((DataW.lit (.int .i64 0):DataW Unit),([]:List MemPlace))=some (.lit (.int .i64 (n:Int)),ps)):=fun h=>by
 injection h with h
 injection h with h _
 injection h with h
 injection h with _ h
 omega
theorem opR_inv {v:Value} {n:Nat} {ps:List MemPlace} (hn:n≠0) (h:opR v=some (.lit (.int .i64 n),ps)):v=.agg #[.func (.func n) #[] #[]]:=by
 unfold opR at h
 split at h
 · rename_i cs
   split at h
   · rename_i m f c he
     split at h
     · rename_i hz
       simp at h
       obtain ⟨h,_⟩:=h
       obtain rfl:m=n:=by first | exact h | exact Int.ofNat.inj h
       have:cs=#[.func (.func m) f c]:=by rw [← Array.toArray_toList (xs:=cs),he]
       rw [this,Array.eq_empty_of_size_eq_zero hz.1,Array.eq_empty_of_size_eq_zero hz.2]
     · exact absurd h (lit_ne hn)
   · exact absurd h (lit_ne hn)
 · exact absurd h (lit_ne hn)
def opsD:DataW Unit:=(((DataW.map []).put (.int .i64 1) (.lit (.int .i64 186))).put (.int .i64 2) (.lit (.int .i64 188))).put (.int .i64 3) (.lit (.int .i64 190)) |>.put (.int .i64 4) (.lit (.int .i64 192))
theorem key_wf (n:Int) (h0:0≤n) (h1:n≤100):keyOf Tryz.prog 3 (.int .i64 n)=some (.int .i64 n):=keyOf_int_mk Tryz.underlying3 (WalkArith.wf_i64 (by omega))
def Ops (w:World) (b:Nat):Prop:=w.ownsMap Tryz.prog 3 opR b 4 opsD
theorem operations_any (w:World):Calls Tryz.prog 156 #[] w fun e w'=>e=.returned (.map (some w.heap.size))∧Below w.heap.size w w'∧Ops w' w.heap.size:=by
 have hmm:=@run_makeMap Tryz.prog
 have hown0:=World.ownsMap_made w Tryz.prog 3 opR
 obtain ⟨w1,hrun1,hown1,hg1⟩:=hown0.update keyedInt Tryz.underlying208 (by unfold maxLen;omega) (key_wf 1 (by omega) (by omega)) (show opR (.agg #[.func (.func 186) #[] #[]])=some (.lit (.int .i64 186),[]) from rfl)
 obtain ⟨w2,hrun2,hown2,hg2⟩:=hown1.update keyedInt Tryz.underlying208 (by unfold maxLen;omega) (key_wf 2 (by omega) (by omega)) (show opR (.agg #[.func (.func 188) #[] #[]])=some (.lit (.int .i64 188),[]) from rfl)
 obtain ⟨w3,hrun3,hown3,hg3⟩:=hown2.update keyedInt Tryz.underlying208 (by unfold maxLen;omega) (key_wf 3 (by omega) (by omega)) (show opR (.agg #[.func (.func 190) #[] #[]])=some (.lit (.int .i64 190),[]) from rfl)
 obtain ⟨w4,hrun4,hown4,hg4⟩:=hown3.update keyedInt Tryz.underlying208 (by unfold maxLen;omega) (key_wf 4 (by omega) (by omega)) (show opR (.agg #[.func (.func 192) #[] #[]])=some (.lit (.int .i64 192),[]) from rfl)
 have hb:Below w.heap.size w w4:=((((bl_alloc (Below.refl w.heap.size w) (.map #[] 0)).grown hg1 (by simp) (fun k e=>by cases e;exact Nat.le_refl _)).grown hg2 (Nat.le_trans (by simp) hg1.size) (fun k e=>by cases e;exact Nat.le_refl _)).grown hg3 (Nat.le_trans (Nat.le_trans (by simp) hg1.size) hg2.size) (fun k e=>by cases e;exact Nat.le_refl _)).grown hg4 (Nat.le_trans (Nat.le_trans (Nat.le_trans (by simp) hg1.size) hg2.size) hg3.size) (fun k e=>by cases e;exact Nat.le_refl _)
 have HB:=hide hb;have HO:=hide (show Ops w4 w.heap.size from hown4)
 clear hown0 hown1 hown2 hown3 hown4 hg1 hg2 hg3 hg4 hb
 go_enter Tryz.func156,Tryz.ntmps156
 go_wp2
 go_ret
 exact ⟨rfl,HB.out,HO.out⟩
theorem Ops.step {w w':World} {b:Nat} (h:Ops w b) (hb:Below w.heap.size w w'):Ops w' b:=World.ownsMap.kept h (below_grown hb) (by simp)
theorem ops_look {w:World} {b:Nat} (h:Ops w b) (op:Int) (n:Nat) (hn:op=1∧n=186∨op=2∧n=188∨op=3∧n=190∨op=4∧n=192) :
 (Instr.lookup 208 (.map (some b)) (.int .i64 op) true).run Tryz.prog w=.ok (.tuple #[.agg #[.func (.func n) #[] #[]],.bool true]) w:=by
 have hz:(zeroValue 206).run Tryz.prog w=.ok (.agg #[.nilFunc]) w:=by kernel_rfl
 have hk:keyOf Tryz.prog 3 (.int .i64 op)=some (.int .i64 op):=key_wf op (by omega) (by omega)
 obtain ⟨v,ps,hrun,hv⟩:=World.ownsMap.look_ok h keyedInt Tryz.underlying208 hz (show opR (.agg #[.nilFunc])=some (.lit (.int .i64 0),[]) from rfl) hk
 rcases hn with ⟨rfl,rfl⟩ | ⟨rfl,rfl⟩ | ⟨rfl,rfl⟩ | ⟨rfl,rfl⟩
 · have hv':opR v=some (.lit (.int .i64 ((186:Nat):Int)),ps):=hv
   obtain rfl:=opR_inv (by decide) hv'
   rw [hrun]
   rfl
 · have hv':opR v=some (.lit (.int .i64 ((188:Nat):Int)),ps):=hv
   obtain rfl:=opR_inv (by decide) hv'
   rw [hrun]
   rfl
 · have hv':opR v=some (.lit (.int .i64 ((190:Nat):Int)),ps):=hv
   obtain rfl:=opR_inv (by decide) hv'
   rw [hrun]
   rfl
 · have hv':opR v=some (.lit (.int .i64 ((192:Nat):Int)),ps):=hv
   obtain rfl:=opR_inv (by decide) hv'
   rw [hrun]
   rfl
theorem ops_miss {w:World} {b:Nat} (h:Ops w b) :
 (Instr.lookup 208 (.map (some b)) (.int .i64 5) true).run Tryz.prog w=.ok (.tuple #[.agg #[.nilFunc],.bool false]) w:=by
 have hz:(zeroValue 206).run Tryz.prog w=.ok (.agg #[.nilFunc]) w:=by kernel_rfl
 have hk:keyOf Tryz.prog 3 (.int .i64 5)=some (.int .i64 5):=key_wf 5 (by omega) (by omega)
 obtain ⟨es,clock,hb,F,_,hD⟩:=h
 rcases Maps.fit_look true keyedInt Tryz.underlying208 hz hb F hk with ⟨hrun,_,hat⟩ | ⟨e0,y,h1,h2,hrun,hRv,hat,h3⟩
 · exact hrun
 · exfalso
   rw [← hD] at hat
   have a:(DataW.lit (.int .i64 0):DataW Unit)=.lit (.int .i64 1):=(show _=_ from (hat (.lit (.int .i64 0)))).trans (show _=_ from (hat (.lit (.int .i64 1)))).symm
   injection a with a
   injection a with _ a
   omega
end
section
open Go.RowKit Go.Shelf
def PtC (w:World) (b off:Nat) (ps:List Pt) (j:Nat):Prop:=w.cell? ⟨b,off+j*2,none⟩=some (.int .i64 (ptAt ps j).1)∧w.cell? ⟨b,off+j*2+1,none⟩=some (.int .i64 (ptAt ps j).2)
theorem slP_open {w:World} {P:Nat→Prop} {A:Option Addr} {ps:List Pt} (h:SlP w P A (ptCs ps)) (hn:0<ps.length):∃ b off,A=some ⟨b,off,none⟩∧P b∧∀ w',KeepP P w w'→∀ j,j<ps.length→PtC w' b off ps j:=by
 rcases h with h | ⟨b,off,hA,hb,hc⟩
 · exfalso
   have h2:(ptCs ps).length=ps.length*2:=flat_length (fun p:Int × Int=>[Value.int .i64 p.1,.int .i64 p.2]) 2 (fun _=>rfl) ps
   rw [h] at h2
   simp at h2
   omega
 · subst hA
   refine ⟨b,off,rfl,hb,fun w' hk j hj=>?_⟩
   have hb':Sl w' (b+1) (some ⟨b,off,none⟩) (ptCs ps):=.inr ⟨b,off,rfl,by omega,fun j u hu=>(hk.cell hb _).trans (hc j u hu)⟩
   exact sl_pt hb' hj
theorem PtC.step {w w':World} {b off:Nat} {ps:List Pt} {j:Nat} (h:PtC w b off ps j) (hb:Below w.heap.size w w'):PtC w' b off ps j :=
 ⟨(hb.cell (p:=⟨b,off+j*2,none⟩) (cell_lt h.1)).trans h.1,(hb.cell (p:=⟨b,off+j*2+1,none⟩) (cell_lt h.2)).trans h.2⟩
section
variable (P:Nat→Prop) (t:Option (Nat × Nat)) (es:List Ev) (op vs pts:Int) (HA:Option Addr) (hn hc:Nat) (gs:List Gr) (GA:Option Addr) (gc:Nat) (ps:List Pt) (PA:Option Addr) (pc:Nat) (QA:Option Addr) (qn qc:Nat) (w:World)
variable (hP:∀ k,P k→k<w.heap.size) (hg0:P 3) (hw:MW w) (ht:Tp w P t es) (hl:es.length≤600000) (hps:PsJ ps) (hs:SlP w P PA (ptCs ps))
include hP hg0 hw ht hl hps hs
omit ht hl hg0 in
theorem op1_any (hlen:ps.length=3):Calls Tryz.prog 186 #[.pointer (tapeA t),.agg #[.int .i64 op,.int .i64 vs,.slice HA hn hc,.int .i64 pts,.slice GA gs.length gc,.slice PA ps.length pc,.slice QA qn qc]] w fun e w'=>e=.returned (.int .i64 ((orientD (ptAt ps 0) (ptAt ps 1) (ptAt ps 2)).sign+1))∧Below w.heap.size w w':=by
 obtain ⟨b,off,rfl,hb,hcs⟩:=slP_open hs (by omega)
 obtain ⟨w0,hw0⟩:∃ w0,w0=w.alloc (.cells #[.int .i64 op,.int .i64 vs,.slice HA hn hc,.int .i64 pts,.slice GA gs.length gc,.slice (some ⟨b,off,none⟩) 3 pc,.slice QA qn qc] 100):=⟨_,rfl⟩
 have hb0:Below w.heap.size w w0:=by rw [hw0];exact bA
 have B0:Blk w0 w.heap.size 100 #[.int .i64 op,.int .i64 vs,.slice HA hn hc,.int .i64 pts,.slice GA gs.length gc,.slice (some ⟨b,off,none⟩) 3 pc,.slice QA qn qc]:=by rw [hw0];exact Blk.new _ _ _
 have hk0:KeepP P w w0:=KeepP.of_below hb0 hP
 have Q0:=hcs w0 hk0 0 (by omega)
 have Q1:=hcs w0 hk0 1 (by omega)
 have Q2:=hcs w0 hk0 2 (by omega)
 obtain ⟨os,hos⟩:∃ os,os=(orientD (ptAt ps 0) (ptAt ps 1) (ptAt ps 2)).sign:=⟨_,rfl⟩
 have hbo:os=-1∨os=0∨os=1:=by rw [hos];exact sign_bd _
 have HOS0:=fun w (hM:MW w)=>osign_any (ptAt ps 0) (ptAt ps 1) (ptAt ps 2) (hps.at_ 0) (hps.at_ 1) (hps.at_ 2) w hM
 rw [← hos] at HOS0
 have HOS:=hide (HOS0 w0.drew ((hw.step hb0).step (bl_drew (Below.refl _ _))))
 have hwr:IntKind.i64.wrap (os+1)=os+1:=by rw [IntKind.wrap_i64];omega
 have hmix:Tryz.prog.follows .mixedOrders=true:=by kernel_rfl
 rw [← hos,hlen]
 clear hos hbo HOS0 hcs hk0 hlen hs hps hw hP
 refine (callsIn_wide (n:=6)).1 ?_
 refine callsIn_of_wp Tryz.func186 rfl trivial ?_ rfl
 simp only [Tryz.ntmps186,List.size_toArray,List.length_cons,List.length_nil,Nat.reduceAdd,Nat.reduceSub,Array.replicate_succ,Array.replicate_zero,List.push_toArray,List.append_toArray,List.nil_append,List.cons_append]
 gi_wp2_with fail
 rw [← hw0]
 clear hw0
 refine startH 1000 (S:=fun w'=>Blk w' w.heap.size 100 #[.int .i64 op,.int .i64 vs,.slice HA hn hc,.int .i64 pts,.slice GA gs.length gc,.slice (some ⟨b,off,none⟩) 3 pc,.slice QA qn qc]∧PtC w' b off ps 0∧PtC w' b off ps 1∧PtC w' b off ps 2) hmix ?_
 have hS:Blk w0.drew w.heap.size 100 #[.int .i64 op,.int .i64 vs,.slice HA hn hc,.int .i64 pts,.slice GA gs.length gc,.slice (some ⟨b,off,none⟩) 3 pc,.slice QA qn qc]∧PtC w0.drew b off ps 0∧PtC w0.drew b off ps 1∧PtC w0.drew b off ps 2:=⟨B0.drew,Q0,Q1,Q2⟩
 refine' takeH (i:=0) (v:=_) (noDefer_of (by kernel_rfl)) rfl (by kernel_rfl) (by kernel_rfl) (by kernel_rfl) (fun _ _ _ h=>h) (by kernel_rfl) ⟨Or.inl ⟨by rfl,?hy0k1⟩,fun _=>rfl⟩ hS ?rest0k1
 case hy0k1 =>
  intro w' hSw
  go_simp
  rfl
 simp only [Act.put,getElem_toArray,getElem_cons_zero,setIfInBounds_toArray,set_cons_zero,set_cons_succ]
 refine' takeH (i:=1) (v:=_) (noDefer_of (by kernel_rfl)) rfl (by kernel_rfl) (by kernel_rfl) (by kernel_rfl) (fun _ _ _ h=>h) (by kernel_rfl) ⟨Or.inl ⟨by rfl,?hy1k2⟩,fun _=>rfl⟩ hS ?rest1k2
 case hy1k2 =>
  intro w' hSw
  obtain ⟨r0,q0,q1,q2⟩:=hSw
  have z5:=r0.cell (i:=5) rfl
  go_simp
  rfl
 simp only [Act.put,getElem_toArray,getElem_cons_succ,getElem_cons_zero,setIfInBounds_toArray,set_cons_zero,set_cons_succ]
 refine' takeH (i:=2) (v:=_) (noDefer_of (by kernel_rfl)) rfl (by kernel_rfl) (by kernel_rfl) (by kernel_rfl) (fun _ _ _ h=>h) (by kernel_rfl) ⟨Or.inl ⟨by rfl,?hy2k3⟩,fun _=>rfl⟩ hS ?rest2k3
 case hy2k3 =>
  intro w' hSw
  go_simp
  rfl
 simp only [Act.put,getElem_toArray,getElem_cons_succ,getElem_cons_zero,setIfInBounds_toArray,set_cons_zero,set_cons_succ]
 refine' takeH (i:=3) (v:=_) (noDefer_of (by kernel_rfl)) rfl (by kernel_rfl) (by kernel_rfl) (by kernel_rfl) (fun _ _ _ h=>h) (by kernel_rfl) ⟨Or.inl ⟨by rfl,?hy3k4⟩,fun _=>rfl⟩ hS ?rest3k4
 case hy3k4 =>
  intro w' hSw
  obtain ⟨r0,q0,q1,q2⟩:=hSw
  have z0:w'.cell? ⟨b,off,none⟩=some (.int .i64 (ptAt ps 0).1):=by simpa using q0.1
  have z1:w'.cell? ⟨b,off+1,none⟩=some (.int .i64 (ptAt ps 0).2):=by simpa using q0.2
  go_simp
  rfl
 simp only [Act.put,getElem_toArray,getElem_cons_succ,getElem_cons_zero,setIfInBounds_toArray,set_cons_zero,set_cons_succ]
 refine' takeH (i:=4) (v:=_) (noDefer_of (by kernel_rfl)) rfl (by kernel_rfl) (by kernel_rfl) (by kernel_rfl) (fun _ _ _ h=>h) (by kernel_rfl) ⟨Or.inl ⟨by rfl,?hy4k5⟩,fun _=>rfl⟩ hS ?rest4k5
 case hy4k5 =>
  intro w' hSw
  go_simp
  rfl
 simp only [Act.put,getElem_toArray,getElem_cons_succ,getElem_cons_zero,setIfInBounds_toArray,set_cons_zero,set_cons_succ]
 refine' takeH (i:=5) (v:=_) (noDefer_of (by kernel_rfl)) rfl (by kernel_rfl) (by kernel_rfl) (by kernel_rfl) (fun _ _ _ h=>h) (by kernel_rfl) ⟨Or.inl ⟨by rfl,?hy5k6⟩,fun _=>rfl⟩ hS ?rest5k6
 case hy5k6 =>
  intro w' hSw
  obtain ⟨r0,q0,q1,q2⟩:=hSw
  have z5:=r0.cell (i:=5) rfl
  go_simp
  rfl
 simp only [Act.put,getElem_toArray,getElem_cons_succ,getElem_cons_zero,setIfInBounds_toArray,set_cons_zero,set_cons_succ]
 refine' takeH (i:=6) (v:=_) (noDefer_of (by kernel_rfl)) rfl (by kernel_rfl) (by kernel_rfl) (by kernel_rfl) (fun _ _ _ h=>h) (by kernel_rfl) ⟨Or.inl ⟨by rfl,?hy6k7⟩,fun _=>rfl⟩ hS ?rest6k7
 case hy6k7 =>
  intro w' hSw
  go_simp
  rfl
 simp only [Act.put,getElem_toArray,getElem_cons_succ,getElem_cons_zero,setIfInBounds_toArray,set_cons_zero,set_cons_succ]
 refine' takeH (i:=7) (v:=_) (noDefer_of (by kernel_rfl)) rfl (by kernel_rfl) (by kernel_rfl) (by kernel_rfl) (fun _ _ _ h=>h) (by kernel_rfl) ⟨Or.inl ⟨by rfl,?hy7k8⟩,fun _=>rfl⟩ hS ?rest7k8
 case hy7k8 =>
  intro w' hSw
  obtain ⟨r0,q0,q1,q2⟩:=hSw
  have z0:w'.cell? ⟨b,off+2,none⟩=some (.int .i64 (ptAt ps 1).1):=by simpa using q1.1
  have z1:w'.cell? ⟨b,off+2+1,none⟩=some (.int .i64 (ptAt ps 1).2):=by simpa using q1.2
  have z2:w'.cell? ⟨b,off+3,none⟩=some (.int .i64 (ptAt ps 1).2):=z1
  go_simp
  rfl
 simp only [Act.put,getElem_toArray,getElem_cons_succ,getElem_cons_zero,setIfInBounds_toArray,set_cons_zero,set_cons_succ]
 refine' takeH (i:=8) (v:=_) (noDefer_of (by kernel_rfl)) rfl (by kernel_rfl) (by kernel_rfl) (by kernel_rfl) (fun _ _ _ h=>h) (by kernel_rfl) ⟨Or.inl ⟨by rfl,?hy8k9⟩,fun _=>rfl⟩ hS ?rest8k9
 case hy8k9 =>
  intro w' hSw
  go_simp
  rfl
 simp only [Act.put,getElem_toArray,getElem_cons_succ,getElem_cons_zero,setIfInBounds_toArray,set_cons_zero,set_cons_succ]
 refine' takeH (i:=9) (v:=_) (noDefer_of (by kernel_rfl)) rfl (by kernel_rfl) (by kernel_rfl) (by kernel_rfl) (fun _ _ _ h=>h) (by kernel_rfl) ⟨Or.inl ⟨by rfl,?hy9k10⟩,fun _=>rfl⟩ hS ?rest9k10
 case hy9k10 =>
  intro w' hSw
  obtain ⟨r0,q0,q1,q2⟩:=hSw
  have z5:=r0.cell (i:=5) rfl
  go_simp
  rfl
 simp only [Act.put,getElem_toArray,getElem_cons_succ,getElem_cons_zero,setIfInBounds_toArray,set_cons_zero,set_cons_succ]
 refine' takeH (i:=10) (v:=_) (noDefer_of (by kernel_rfl)) rfl (by kernel_rfl) (by kernel_rfl) (by kernel_rfl) (fun _ _ _ h=>h) (by kernel_rfl) ⟨Or.inl ⟨by rfl,?hy10k11⟩,fun _=>rfl⟩ hS ?rest10k11
 case hy10k11 =>
  intro w' hSw
  go_simp
  rfl
 simp only [Act.put,getElem_toArray,getElem_cons_succ,getElem_cons_zero,setIfInBounds_toArray,set_cons_zero,set_cons_succ]
 refine' takeH (i:=11) (v:=_) (noDefer_of (by kernel_rfl)) rfl (by kernel_rfl) (by kernel_rfl) (by kernel_rfl) (fun _ _ _ h=>h) (by kernel_rfl) ⟨Or.inl ⟨by rfl,?hy11k12⟩,fun _=>rfl⟩ hS ?rest11k12
 case hy11k12 =>
  intro w' hSw
  obtain ⟨r0,q0,q1,q2⟩:=hSw
  have z0:w'.cell? ⟨b,off+4,none⟩=some (.int .i64 (ptAt ps 2).1):=by simpa using q2.1
  have z1:w'.cell? ⟨b,off+4+1,none⟩=some (.int .i64 (ptAt ps 2).2):=by simpa using q2.2
  have z2:w'.cell? ⟨b,off+5,none⟩=some (.int .i64 (ptAt ps 2).2):=z1
  go_simp
  rfl
 simp only [Act.put,getElem_toArray,getElem_cons_succ,getElem_cons_zero,setIfInBounds_toArray,set_cons_zero,set_cons_succ]
 refine oneH (i:=12) (by kernel_rfl) rfl ?_
 intro K hK
 rw [if_pos (by rfl)]
 go_simp
 refine ⟨trivial,?_⟩
 refine (callsIn_wide.2 HOS.out).mono ?_
 rintro e w1 ⟨rfl,hb1⟩
 have hS1:Blk w1 w.heap.size 100 #[.int .i64 op,.int .i64 vs,.slice HA hn hc,.int .i64 pts,.slice GA gs.length gc,.slice (some ⟨b,off,none⟩) 3 pc,.slice QA qn qc]∧PtC w1 b off ps 0∧PtC w1 b off ps 1∧PtC w1 b off ps 2:=⟨hS.1.step hb1,(hS.2.1).step hb1,(hS.2.2.1).step hb1,(hS.2.2.2).step hb1⟩
 refine hK.out _ _ (fun _=>hS1) ?_
 clear hK K
 (try simp only [Act.put,getElem_toArray,getElem_cons_succ,getElem_cons_zero,setIfInBounds_toArray,set_cons_zero,set_cons_succ])
 refine' takeH (i:=13) (v:=_) (noDefer_of (by kernel_rfl)) rfl (by kernel_rfl) (by kernel_rfl) (by kernel_rfl) (fun _ _ _ h=>h) (by kernel_rfl) ⟨Or.inl ⟨by rfl,?hy13k13⟩,fun _=>rfl⟩ hS1 ?rest13k13
 case hy13k13 =>
  intro w' hSw
  go_simp
  rfl
 simp only [Act.put,getElem_toArray,getElem_cons_succ,getElem_cons_zero,setIfInBounds_toArray,set_cons_zero,set_cons_succ]
 refine' takeH (i:=14) (v:=_) (noDefer_of (by kernel_rfl)) rfl (by kernel_rfl) (by kernel_rfl) (by kernel_rfl) (fun _ _ _ h=>h) (by kernel_rfl) ⟨Or.inl ⟨by rfl,?hy14k14⟩,fun _=>rfl⟩ hS1 ?rest14k14
 case hy14k14 =>
  intro w' hSw
  go_simp
  rfl
 simp only [Act.put,getElem_toArray,getElem_cons_succ,getElem_cons_zero,setIfInBounds_toArray,set_cons_zero,set_cons_succ]
 refine doneH (by kernel_rfl) ?_ _
 gi_wp2
 go_ret
 exact ⟨rfl,bl_step (bl_drew hb0) hb1⟩
omit ht hl hg0 in
theorem op2_any (hlen:ps.length=4):Calls Tryz.prog 188 #[.pointer (tapeA t),.agg #[.int .i64 op,.int .i64 vs,.slice HA hn hc,.int .i64 pts,.slice GA gs.length gc,.slice PA ps.length pc,.slice QA qn qc]] w fun e w'=>e=.returned (.int .i64 ((circleD (ptAt ps 0) (ptAt ps 1) (ptAt ps 2) (ptAt ps 3)).sign+1))∧Below w.heap.size w w':=by
 obtain ⟨b,off,rfl,hb,hcs⟩:=slP_open hs (by omega)
 obtain ⟨w0,hw0⟩:∃ w0,w0=w.alloc (.cells #[.int .i64 op,.int .i64 vs,.slice HA hn hc,.int .i64 pts,.slice GA gs.length gc,.slice (some ⟨b,off,none⟩) 4 pc,.slice QA qn qc] 100):=⟨_,rfl⟩
 have hb0:Below w.heap.size w w0:=by rw [hw0];exact bA
 have B0:Blk w0 w.heap.size 100 #[.int .i64 op,.int .i64 vs,.slice HA hn hc,.int .i64 pts,.slice GA gs.length gc,.slice (some ⟨b,off,none⟩) 4 pc,.slice QA qn qc]:=by rw [hw0];exact Blk.new _ _ _
 have hk0:KeepP P w w0:=KeepP.of_below hb0 hP
 have Q0:=hcs w0 hk0 0 (by omega)
 have Q1:=hcs w0 hk0 1 (by omega)
 have Q2:=hcs w0 hk0 2 (by omega)
 have Q3:=hcs w0 hk0 3 (by omega)
 obtain ⟨os,hos⟩:∃ os,os=(circleD (ptAt ps 0) (ptAt ps 1) (ptAt ps 2) (ptAt ps 3)).sign:=⟨_,rfl⟩
 have hbo:os=-1∨os=0∨os=1:=by rw [hos];exact sign_bd _
 have HOS0:=fun w (hM:MW w)=>csign_any (ptAt ps 0) (ptAt ps 1) (ptAt ps 2) (ptAt ps 3) (hps.at_ 0) (hps.at_ 1) (hps.at_ 2) (hps.at_ 3) w hM
 rw [← hos] at HOS0
 have HOS:=hide (HOS0 w0.drew ((hw.step hb0).step (bl_drew (Below.refl _ _))))
 have hwr:IntKind.i64.wrap (os+1)=os+1:=by rw [IntKind.wrap_i64];omega
 have hmix:Tryz.prog.follows .mixedOrders=true:=by kernel_rfl
 rw [← hos,hlen]
 clear hos hbo HOS0 hcs hk0 hlen hs hps hw hP
 refine (callsIn_wide (n:=6)).1 ?_
 refine callsIn_of_wp Tryz.func188 rfl trivial ?_ rfl
 simp only [Tryz.ntmps188,List.size_toArray,List.length_cons,List.length_nil,Nat.reduceAdd,Nat.reduceSub,Array.replicate_succ,Array.replicate_zero,List.push_toArray,List.append_toArray,List.nil_append,List.cons_append]
 gi_wp2_with fail
 rw [← hw0]
 clear hw0
 refine startH 1000 (S:=fun w'=>Blk w' w.heap.size 100 #[.int .i64 op,.int .i64 vs,.slice HA hn hc,.int .i64 pts,.slice GA gs.length gc,.slice (some ⟨b,off,none⟩) 4 pc,.slice QA qn qc]∧PtC w' b off ps 0∧PtC w' b off ps 1∧PtC w' b off ps 2∧PtC w' b off ps 3) hmix ?_
 have hS:Blk w0.drew w.heap.size 100 #[.int .i64 op,.int .i64 vs,.slice HA hn hc,.int .i64 pts,.slice GA gs.length gc,.slice (some ⟨b,off,none⟩) 4 pc,.slice QA qn qc]∧PtC w0.drew b off ps 0∧PtC w0.drew b off ps 1∧PtC w0.drew b off ps 2∧PtC w0.drew b off ps 3:=⟨B0.drew,Q0,Q1,Q2,Q3⟩
 refine' takeH (i:=0) (v:=_) (noDefer_of (by kernel_rfl)) rfl (by kernel_rfl) (by kernel_rfl) (by kernel_rfl) (fun _ _ _ h=>h) (by kernel_rfl) ⟨Or.inl ⟨by rfl,?hy0k15⟩,fun _=>rfl⟩ hS ?rest0k15
 case hy0k15 =>
  intro w' hSw
  go_simp
  rfl
 simp only [Act.put,getElem_toArray,getElem_cons_zero,setIfInBounds_toArray,set_cons_zero,set_cons_succ]
 refine' takeH (i:=1) (v:=_) (noDefer_of (by kernel_rfl)) rfl (by kernel_rfl) (by kernel_rfl) (by kernel_rfl) (fun _ _ _ h=>h) (by kernel_rfl) ⟨Or.inl ⟨by rfl,?hy1k16⟩,fun _=>rfl⟩ hS ?rest1k16
 case hy1k16 =>
  intro w' hSw
  obtain ⟨r0,q0,q1,q2,q3⟩:=hSw
  have z5:=r0.cell (i:=5) rfl
  go_simp
  rfl
 simp only [Act.put,getElem_toArray,getElem_cons_succ,getElem_cons_zero,setIfInBounds_toArray,set_cons_zero,set_cons_succ]
 refine' takeH (i:=2) (v:=_) (noDefer_of (by kernel_rfl)) rfl (by kernel_rfl) (by kernel_rfl) (by kernel_rfl) (fun _ _ _ h=>h) (by kernel_rfl) ⟨Or.inl ⟨by rfl,?hy2k17⟩,fun _=>rfl⟩ hS ?rest2k17
 case hy2k17 =>
  intro w' hSw
  go_simp
  rfl
 simp only [Act.put,getElem_toArray,getElem_cons_succ,getElem_cons_zero,setIfInBounds_toArray,set_cons_zero,set_cons_succ]
 refine' takeH (i:=3) (v:=_) (noDefer_of (by kernel_rfl)) rfl (by kernel_rfl) (by kernel_rfl) (by kernel_rfl) (fun _ _ _ h=>h) (by kernel_rfl) ⟨Or.inl ⟨by rfl,?hy3k18⟩,fun _=>rfl⟩ hS ?rest3k18
 case hy3k18 =>
  intro w' hSw
  obtain ⟨r0,q0,q1,q2,q3⟩:=hSw
  have z0:w'.cell? ⟨b,off,none⟩=some (.int .i64 (ptAt ps 0).1):=by simpa using q0.1
  have z1:w'.cell? ⟨b,off+1,none⟩=some (.int .i64 (ptAt ps 0).2):=by simpa using q0.2
  go_simp
  rfl
 simp only [Act.put,getElem_toArray,getElem_cons_succ,getElem_cons_zero,setIfInBounds_toArray,set_cons_zero,set_cons_succ]
 refine' takeH (i:=4) (v:=_) (noDefer_of (by kernel_rfl)) rfl (by kernel_rfl) (by kernel_rfl) (by kernel_rfl) (fun _ _ _ h=>h) (by kernel_rfl) ⟨Or.inl ⟨by rfl,?hy4k19⟩,fun _=>rfl⟩ hS ?rest4k19
 case hy4k19 =>
  intro w' hSw
  go_simp
  rfl
 simp only [Act.put,getElem_toArray,getElem_cons_succ,getElem_cons_zero,setIfInBounds_toArray,set_cons_zero,set_cons_succ]
 refine' takeH (i:=5) (v:=_) (noDefer_of (by kernel_rfl)) rfl (by kernel_rfl) (by kernel_rfl) (by kernel_rfl) (fun _ _ _ h=>h) (by kernel_rfl) ⟨Or.inl ⟨by rfl,?hy5k20⟩,fun _=>rfl⟩ hS ?rest5k20
 case hy5k20 =>
  intro w' hSw
  obtain ⟨r0,q0,q1,q2,q3⟩:=hSw
  have z5:=r0.cell (i:=5) rfl
  go_simp
  rfl
 simp only [Act.put,getElem_toArray,getElem_cons_succ,getElem_cons_zero,setIfInBounds_toArray,set_cons_zero,set_cons_succ]
 refine' takeH (i:=6) (v:=_) (noDefer_of (by kernel_rfl)) rfl (by kernel_rfl) (by kernel_rfl) (by kernel_rfl) (fun _ _ _ h=>h) (by kernel_rfl) ⟨Or.inl ⟨by rfl,?hy6k21⟩,fun _=>rfl⟩ hS ?rest6k21
 case hy6k21 =>
  intro w' hSw
  go_simp
  rfl
 simp only [Act.put,getElem_toArray,getElem_cons_succ,getElem_cons_zero,setIfInBounds_toArray,set_cons_zero,set_cons_succ]
 refine' takeH (i:=7) (v:=_) (noDefer_of (by kernel_rfl)) rfl (by kernel_rfl) (by kernel_rfl) (by kernel_rfl) (fun _ _ _ h=>h) (by kernel_rfl) ⟨Or.inl ⟨by rfl,?hy7k22⟩,fun _=>rfl⟩ hS ?rest7k22
 case hy7k22 =>
  intro w' hSw
  obtain ⟨r0,q0,q1,q2,q3⟩:=hSw
  have z0:w'.cell? ⟨b,off+2,none⟩=some (.int .i64 (ptAt ps 1).1):=by simpa using q1.1
  have z1:w'.cell? ⟨b,off+2+1,none⟩=some (.int .i64 (ptAt ps 1).2):=by simpa using q1.2
  have z2:w'.cell? ⟨b,off+3,none⟩=some (.int .i64 (ptAt ps 1).2):=z1
  go_simp
  rfl
 simp only [Act.put,getElem_toArray,getElem_cons_succ,getElem_cons_zero,setIfInBounds_toArray,set_cons_zero,set_cons_succ]
 refine' takeH (i:=8) (v:=_) (noDefer_of (by kernel_rfl)) rfl (by kernel_rfl) (by kernel_rfl) (by kernel_rfl) (fun _ _ _ h=>h) (by kernel_rfl) ⟨Or.inl ⟨by rfl,?hy8k23⟩,fun _=>rfl⟩ hS ?rest8k23
 case hy8k23 =>
  intro w' hSw
  go_simp
  rfl
 simp only [Act.put,getElem_toArray,getElem_cons_succ,getElem_cons_zero,setIfInBounds_toArray,set_cons_zero,set_cons_succ]
 refine' takeH (i:=9) (v:=_) (noDefer_of (by kernel_rfl)) rfl (by kernel_rfl) (by kernel_rfl) (by kernel_rfl) (fun _ _ _ h=>h) (by kernel_rfl) ⟨Or.inl ⟨by rfl,?hy9k24⟩,fun _=>rfl⟩ hS ?rest9k24
 case hy9k24 =>
  intro w' hSw
  obtain ⟨r0,q0,q1,q2,q3⟩:=hSw
  have z5:=r0.cell (i:=5) rfl
  go_simp
  rfl
 simp only [Act.put,getElem_toArray,getElem_cons_succ,getElem_cons_zero,setIfInBounds_toArray,set_cons_zero,set_cons_succ]
 refine' takeH (i:=10) (v:=_) (noDefer_of (by kernel_rfl)) rfl (by kernel_rfl) (by kernel_rfl) (by kernel_rfl) (fun _ _ _ h=>h) (by kernel_rfl) ⟨Or.inl ⟨by rfl,?hy10k25⟩,fun _=>rfl⟩ hS ?rest10k25
 case hy10k25 =>
  intro w' hSw
  go_simp
  rfl
 simp only [Act.put,getElem_toArray,getElem_cons_succ,getElem_cons_zero,setIfInBounds_toArray,set_cons_zero,set_cons_succ]
 refine' takeH (i:=11) (v:=_) (noDefer_of (by kernel_rfl)) rfl (by kernel_rfl) (by kernel_rfl) (by kernel_rfl) (fun _ _ _ h=>h) (by kernel_rfl) ⟨Or.inl ⟨by rfl,?hy11k26⟩,fun _=>rfl⟩ hS ?rest11k26
 case hy11k26 =>
  intro w' hSw
  obtain ⟨r0,q0,q1,q2,q3⟩:=hSw
  have z0:w'.cell? ⟨b,off+4,none⟩=some (.int .i64 (ptAt ps 2).1):=by simpa using q2.1
  have z1:w'.cell? ⟨b,off+4+1,none⟩=some (.int .i64 (ptAt ps 2).2):=by simpa using q2.2
  have z2:w'.cell? ⟨b,off+5,none⟩=some (.int .i64 (ptAt ps 2).2):=z1
  go_simp
  rfl
 simp only [Act.put,getElem_toArray,getElem_cons_succ,getElem_cons_zero,setIfInBounds_toArray,set_cons_zero,set_cons_succ]
 refine' takeH (i:=12) (v:=_) (noDefer_of (by kernel_rfl)) rfl (by kernel_rfl) (by kernel_rfl) (by kernel_rfl) (fun _ _ _ h=>h) (by kernel_rfl) ⟨Or.inl ⟨by rfl,?hy12k27⟩,fun _=>rfl⟩ hS ?rest12k27
 case hy12k27 =>
  intro w' hSw
  go_simp
  rfl
 simp only [Act.put,getElem_toArray,getElem_cons_succ,getElem_cons_zero,setIfInBounds_toArray,set_cons_zero,set_cons_succ]
 refine' takeH (i:=13) (v:=_) (noDefer_of (by kernel_rfl)) rfl (by kernel_rfl) (by kernel_rfl) (by kernel_rfl) (fun _ _ _ h=>h) (by kernel_rfl) ⟨Or.inl ⟨by rfl,?hy13k28⟩,fun _=>rfl⟩ hS ?rest13k28
 case hy13k28 =>
  intro w' hSw
  obtain ⟨r0,q0,q1,q2,q3⟩:=hSw
  have z5:=r0.cell (i:=5) rfl
  go_simp
  rfl
 simp only [Act.put,getElem_toArray,getElem_cons_succ,getElem_cons_zero,setIfInBounds_toArray,set_cons_zero,set_cons_succ]
 refine' takeH (i:=14) (v:=_) (noDefer_of (by kernel_rfl)) rfl (by kernel_rfl) (by kernel_rfl) (by kernel_rfl) (fun _ _ _ h=>h) (by kernel_rfl) ⟨Or.inl ⟨by rfl,?hy14k29⟩,fun _=>rfl⟩ hS ?rest14k29
 case hy14k29 =>
  intro w' hSw
  go_simp
  rfl
 simp only [Act.put,getElem_toArray,getElem_cons_succ,getElem_cons_zero,setIfInBounds_toArray,set_cons_zero,set_cons_succ]
 refine' takeH (i:=15) (v:=_) (noDefer_of (by kernel_rfl)) rfl (by kernel_rfl) (by kernel_rfl) (by kernel_rfl) (fun _ _ _ h=>h) (by kernel_rfl) ⟨Or.inl ⟨by rfl,?hy15k30⟩,fun _=>rfl⟩ hS ?rest15k30
 case hy15k30 =>
  intro w' hSw
  obtain ⟨r0,q0,q1,q2,q3⟩:=hSw
  have z0:w'.cell? ⟨b,off+6,none⟩=some (.int .i64 (ptAt ps 3).1):=by simpa using q3.1
  have z1:w'.cell? ⟨b,off+6+1,none⟩=some (.int .i64 (ptAt ps 3).2):=by simpa using q3.2
  have z2:w'.cell? ⟨b,off+7,none⟩=some (.int .i64 (ptAt ps 3).2):=z1
  go_simp
  rfl
 simp only [Act.put,getElem_toArray,getElem_cons_succ,getElem_cons_zero,setIfInBounds_toArray,set_cons_zero,set_cons_succ]
 refine oneH (i:=16) (by kernel_rfl) rfl ?_
 intro K hK
 rw [if_pos (by rfl)]
 go_simp
 refine ⟨trivial,?_⟩
 refine (callsIn_wide.2 HOS.out).mono ?_
 rintro e w1 ⟨rfl,hb1⟩
 have hS1:Blk w1 w.heap.size 100 #[.int .i64 op,.int .i64 vs,.slice HA hn hc,.int .i64 pts,.slice GA gs.length gc,.slice (some ⟨b,off,none⟩) 4 pc,.slice QA qn qc]∧PtC w1 b off ps 0∧PtC w1 b off ps 1∧PtC w1 b off ps 2∧PtC w1 b off ps 3:=⟨hS.1.step hb1,(hS.2.1).step hb1,(hS.2.2.1).step hb1,(hS.2.2.2.1).step hb1,(hS.2.2.2.2).step hb1⟩
 refine hK.out _ _ (fun _=>hS1) ?_
 clear hK K
 (try simp only [Act.put,getElem_toArray,getElem_cons_succ,getElem_cons_zero,setIfInBounds_toArray,set_cons_zero,set_cons_succ])
 refine' takeH (i:=17) (v:=_) (noDefer_of (by kernel_rfl)) rfl (by kernel_rfl) (by kernel_rfl) (by kernel_rfl) (fun _ _ _ h=>h) (by kernel_rfl) ⟨Or.inl ⟨by rfl,?hy17k31⟩,fun _=>rfl⟩ hS1 ?rest17k31
 case hy17k31 =>
  intro w' hSw
  go_simp
  rfl
 simp only [Act.put,getElem_toArray,getElem_cons_succ,getElem_cons_zero,setIfInBounds_toArray,set_cons_zero,set_cons_succ]
 refine' takeH (i:=18) (v:=_) (noDefer_of (by kernel_rfl)) rfl (by kernel_rfl) (by kernel_rfl) (by kernel_rfl) (fun _ _ _ h=>h) (by kernel_rfl) ⟨Or.inl ⟨by rfl,?hy18k32⟩,fun _=>rfl⟩ hS1 ?rest18k32
 case hy18k32 =>
  intro w' hSw
  go_simp
  rfl
 simp only [Act.put,getElem_toArray,getElem_cons_succ,getElem_cons_zero,setIfInBounds_toArray,set_cons_zero,set_cons_succ]
 refine doneH (by kernel_rfl) ?_ _
 gi_wp2
 go_ret
 exact ⟨rfl,bl_step (bl_drew hb0) hb1⟩
end
theorem PtC.kept {w w':World} {P:Nat→Prop} {b off:Nat} {ps:List Pt} {j:Nat} (h:PtC w b off ps j) (hk:KeepP P w w') (hb:P b):PtC w' b off ps j:=⟨(hk.cell hb _).trans h.1,(hk.cell hb _).trans h.2⟩
theorem ptCs_take (ps:List Pt) (n j:Nat) (u:Value) (h:(ptCs (ps.take n))[j]?=some u):(ptCs ps)[j]?=some u:=by
 have e:ptCs ps=ptCs (ps.take n)++ptCs (ps.drop n):=by
  unfold ptCs
  rw [← List.flatMap_append,List.take_append_drop]
 rw [e,List.getElem?_append_left (List.getElem?_eq_some_iff.1 h).1]
 exact h
theorem SlP.takeP {w:World} {P:Nat→Prop} {A:Option Addr} {ps:List Pt} (h:SlP w P A (ptCs ps)) (n:Nat):SlP w P A (ptCs (ps.take n)):=by
 rcases h with h | ⟨b,off,hA,hb,hc⟩
 · left
   cases ps with
   | nil=>simp [ptCs]
   | cons p ps=>simp [ptCs] at h
 · exact .inr ⟨b,off,hA,hb,fun j u hu=>hc j u (ptCs_take ps n j u hu)⟩
theorem PsJ.takeJ {ps:List Pt} (h:PsJ ps) (n:Nat):PsJ (ps.take n):=fun p hp=>h p (List.mem_of_mem_take hp)
section
variable (P:Nat→Prop) (t:Option (Nat × Nat)) (es:List Ev) (op vs pts:Int) (HA:Option Addr) (hn hc:Nat) (gs:List Gr) (GA:Option Addr) (gc:Nat) (ps:List Pt) (PA:Option Addr) (pc:Nat) (QA:Option Addr) (qn qc:Nat) (w:World)
variable (hP:∀ k,P k→k<w.heap.size) (hg0:P 3) (hw:MW w) (ht:Tp w P t es) (hl:es.length≤600000) (hps:PsJ ps) (hs:SlP w P PA (ptCs ps))
include hP hg0 hw ht hl hps hs
theorem op3_any (n:Nat) (hlen:ps.length=n+1) (hn64:n≤64) (hcap:n+1≤pc):Calls Tryz.prog 190 #[.pointer (tapeA t),.agg #[.int .i64 op,.int .i64 vs,.slice HA hn hc,.int .i64 pts,.slice GA gs.length gc,.slice PA ps.length pc,.slice QA qn qc]] w fun e w'=>e=.returned (.int .i64 (convexA (ps.take n) (ptAt ps n)))∧KeepP P w w'∧Tp w' P t (es++convexEv n):=by
 obtain ⟨w0,hw0⟩:∃ w0,w0=w.alloc (.cells #[.int .i64 op,.int .i64 vs,.slice HA hn hc,.int .i64 pts,.slice GA gs.length gc,.slice PA (n+1) pc,.slice QA qn qc] 100):=⟨_,rfl⟩
 have hb0:Below w.heap.size w w0:=by rw [hw0];exact bA
 have B0:Blk w0 w.heap.size 100 #[.int .i64 op,.int .i64 vs,.slice HA hn hc,.int .i64 pts,.slice GA gs.length gc,.slice PA (n+1) pc,.slice QA qn qc]:=by rw [hw0];exact Blk.new _ _ _
 have hk0:KeepP P w w0.drew:=(KeepP.of_below hb0 hP).trans (KeepP.drew _ _)
 have hlt:(ps.take n).length=n:=by rw [List.length_take];omega
 have hbd:Below w.heap.size w w0.drew:=bl_drew hb0
 have HC0:=convex_any (More P w w0.drew) t es (ptAt ps n) (hps.at_ n) w0.drew (more_lt hP hbd) (.inl hg0) (hw.kept hk0 hg0) (ht.more hbd) hl (ps.take n) (hps.takeJ n) (by omega) PA pc (((hs.takeP n).kept hk0).mono fun k h=>.inl h)
 have HI:Hid (More P w w0.drew w.heap.size):=.inr ⟨Nat.le_refl _,B0.lt⟩
 rw [hlt] at HC0
 have HC:=hide HC0
 obtain ⟨b,off,rfl,hb,hcs⟩:=slP_open hs (by omega)
 have Q:=hcs w0.drew hk0 n (by omega)
 have hwr:IntKind.i64.wrap ((n:Nat):Int)=(n:Int):=by rw [IntKind.wrap_i64];omega
 have hni:((n:Nat):Int)<((n:Int)+1):=by omega
 have hci:((n:Nat):Int)≤((pc:Nat):Int):=by omega
 have hcn:n≤pc:=by omega
 have hmix:Tryz.prog.follows .mixedOrders=true:=by kernel_rfl
 obtain ⟨r,hr⟩:∃ r,r=convexA (ps.take n) (ptAt ps n):=⟨_,rfl⟩
 rw [← hr] at HC
 rw [← hr,hlen]
 have HK0:=hide hk0;have HP:=hide hP;have HBD:=hide hbd
 clear hbd hr HC0 hcs hk0 hlen hs hps hw hg0 hP ht hl hlt
 refine (callsIn_wide (n:=6)).1 ?_
 refine callsIn_of_wp Tryz.func190 rfl trivial ?_ rfl
 simp only [Tryz.ntmps190,List.size_toArray,List.length_cons,List.length_nil,Nat.reduceAdd,Nat.reduceSub,Array.replicate_succ,Array.replicate_zero,List.push_toArray,List.append_toArray,List.nil_append,List.cons_append]
 gi_wp2_with fail
 rw [← hw0]
 clear hw0
 refine startH 1000 (S:=fun w'=>Blk w' w.heap.size 100 #[.int .i64 op,.int .i64 vs,.slice HA hn hc,.int .i64 pts,.slice GA gs.length gc,.slice (some ⟨b,off,none⟩) (n+1) pc,.slice QA qn qc]∧PtC w' b off ps n) hmix ?_
 have hS:Blk w0.drew w.heap.size 100 #[.int .i64 op,.int .i64 vs,.slice HA hn hc,.int .i64 pts,.slice GA gs.length gc,.slice (some ⟨b,off,none⟩) (n+1) pc,.slice QA qn qc]∧PtC w0.drew b off ps n:=⟨B0.drew,Q⟩
 refine' takeH (i:=0) (v:=_) (noDefer_of (by kernel_rfl)) rfl (by kernel_rfl) (by kernel_rfl) (by kernel_rfl) (fun _ _ _ h=>h) (by kernel_rfl) ⟨Or.inl ⟨by rfl,?hy0k33⟩,fun _=>rfl⟩ hS ?rest0k33
 case hy0k33 =>
  intro w' hSw
  go_simp
  rfl
 simp only [Act.put,getElem_toArray,getElem_cons_zero,setIfInBounds_toArray,set_cons_zero,set_cons_succ]
 refine' takeH (i:=1) (v:=_) (noDefer_of (by kernel_rfl)) rfl (by kernel_rfl) (by kernel_rfl) (by kernel_rfl) (fun _ _ _ h=>h) (by kernel_rfl) ⟨Or.inl ⟨by rfl,?hy1k34⟩,fun _=>rfl⟩ hS ?rest1k34
 case hy1k34 =>
  intro w' hSw
  go_simp
  rfl
 simp only [Act.put,getElem_toArray,getElem_cons_succ,getElem_cons_zero,setIfInBounds_toArray,set_cons_zero,set_cons_succ]
 refine' takeH (i:=2) (v:=_) (noDefer_of (by kernel_rfl)) rfl (by kernel_rfl) (by kernel_rfl) (by kernel_rfl) (fun _ _ _ h=>h) (by kernel_rfl) ⟨Or.inl ⟨by rfl,?hy2k35⟩,fun _=>rfl⟩ hS ?rest2k35
 case hy2k35 =>
  intro w' hSw
  obtain ⟨r0,q⟩:=hSw
  have z5:=r0.cell (i:=5) rfl
  go_simp
  rfl
 simp only [Act.put,getElem_toArray,getElem_cons_succ,getElem_cons_zero,setIfInBounds_toArray,set_cons_zero,set_cons_succ]
 refine' takeH (i:=3) (v:=_) (noDefer_of (by kernel_rfl)) rfl (by kernel_rfl) (by kernel_rfl) (by kernel_rfl) (fun _ _ _ h=>h) (by kernel_rfl) ⟨Or.inl ⟨by rfl,?hy3k36⟩,fun _=>rfl⟩ hS ?rest3k36
 case hy3k36 =>
  intro w' hSw
  go_simp
  rfl
 simp only [Act.put,getElem_toArray,getElem_cons_succ,getElem_cons_zero,setIfInBounds_toArray,set_cons_zero,set_cons_succ]
 refine' takeH (i:=4) (v:=_) (noDefer_of (by kernel_rfl)) rfl (by kernel_rfl) (by kernel_rfl) (by kernel_rfl) (fun _ _ _ h=>h) (by kernel_rfl) ⟨Or.inl ⟨by rfl,?hy4k37⟩,fun _=>rfl⟩ hS ?rest4k37
 case hy4k37 =>
  intro w' hSw
  go_simp
  rfl
 simp only [Act.put,getElem_toArray,getElem_cons_succ,getElem_cons_zero,setIfInBounds_toArray,set_cons_zero,set_cons_succ]
 refine' takeH (i:=5) (v:=_) (noDefer_of (by kernel_rfl)) rfl (by kernel_rfl) (by kernel_rfl) (by kernel_rfl) (fun _ _ _ h=>h) (by kernel_rfl) ⟨Or.inl ⟨by rfl,?hy5k38⟩,fun _=>rfl⟩ hS ?rest5k38
 case hy5k38 =>
  intro w' hSw
  go_simp
  rfl
 simp only [Act.put,getElem_toArray,getElem_cons_succ,getElem_cons_zero,setIfInBounds_toArray,set_cons_zero,set_cons_succ]
 refine' takeH (i:=6) (v:=_) (noDefer_of (by kernel_rfl)) rfl (by kernel_rfl) (by kernel_rfl) (by kernel_rfl) (fun _ _ _ h=>h) (by kernel_rfl) ⟨Or.inl ⟨by rfl,?hy6k39⟩,fun _=>rfl⟩ hS ?rest6k39
 case hy6k39 =>
  intro w' hSw
  obtain ⟨r0,q⟩:=hSw
  have z5:=r0.cell (i:=5) rfl
  go_simp
  rfl
 simp only [Act.put,getElem_toArray,getElem_cons_succ,getElem_cons_zero,setIfInBounds_toArray,set_cons_zero,set_cons_succ]
 refine' takeH (i:=7) (v:=_) (noDefer_of (by kernel_rfl)) rfl (by kernel_rfl) (by kernel_rfl) (by kernel_rfl) (fun _ _ _ h=>h) (by kernel_rfl) ⟨Or.inl ⟨by rfl,?hy7k40⟩,fun _=>rfl⟩ hS ?rest7k40
 case hy7k40 =>
  intro w' hSw
  go_simp
  rfl
 simp only [Act.put,getElem_toArray,getElem_cons_succ,getElem_cons_zero,setIfInBounds_toArray,set_cons_zero,set_cons_succ]
 refine' takeH (i:=8) (v:=_) (noDefer_of (by kernel_rfl)) rfl (by kernel_rfl) (by kernel_rfl) (by kernel_rfl) (fun _ _ _ h=>h) (by kernel_rfl) ⟨Or.inl ⟨by rfl,?hy8k41⟩,fun _=>rfl⟩ hS ?rest8k41
 case hy8k41 =>
  intro w' hSw
  go_simp
  rfl
 simp only [Act.put,getElem_toArray,getElem_cons_succ,getElem_cons_zero,setIfInBounds_toArray,set_cons_zero,set_cons_succ]
 refine' takeH (i:=9) (v:=_) (noDefer_of (by kernel_rfl)) rfl (by kernel_rfl) (by kernel_rfl) (by kernel_rfl) (fun _ _ _ h=>h) (by kernel_rfl) ⟨Or.inl ⟨by rfl,?hy9k42⟩,fun _=>rfl⟩ hS ?rest9k42
 case hy9k42 =>
  intro w' hSw
  obtain ⟨r0,q⟩:=hSw
  have z0:=q.1
  have z1:=q.2
  go_simp
  rfl
 simp only [Act.put,getElem_toArray,getElem_cons_succ,getElem_cons_zero,setIfInBounds_toArray,set_cons_zero,set_cons_succ]
 refine oneH (i:=10) (by kernel_rfl) rfl ?_
 intro K hK
 rw [if_pos (by rfl)]
 go_simp
 refine ⟨trivial,?_⟩
 refine (callsIn_wide.2 HC.out).mono ?_
 rintro e w1 ⟨rfl,hk1,ht1⟩
 have hS1:Blk w1 w.heap.size 100 #[.int .i64 op,.int .i64 vs,.slice HA hn hc,.int .i64 pts,.slice GA gs.length gc,.slice (some ⟨b,off,none⟩) (n+1) pc,.slice QA qn qc]∧PtC w1 b off ps n:=⟨hS.1.kept hk1 HI.out,hS.2.kept hk1 (.inl hb)⟩
 refine hK.out _ _ (fun _=>hS1) ?_
 clear hK K
 (try simp only [Act.put,getElem_toArray,getElem_cons_succ,getElem_cons_zero,setIfInBounds_toArray,set_cons_zero,set_cons_succ])
 refine' takeH (i:=11) (v:=_) (noDefer_of (by kernel_rfl)) rfl (by kernel_rfl) (by kernel_rfl) (by kernel_rfl) (fun _ _ _ h=>h) (by kernel_rfl) ⟨Or.inl ⟨by rfl,?hy11k43⟩,fun _=>rfl⟩ hS1 ?rest11k43
 case hy11k43 =>
  intro w' hSw
  go_simp
  rfl
 simp only [Act.put,getElem_toArray,getElem_cons_succ,getElem_cons_zero,setIfInBounds_toArray,set_cons_zero,set_cons_succ]
 refine doneH (by kernel_rfl) ?_ _
 gi_wp2
 go_ret
 exact ⟨rfl,KeepP.more HBD.out HP.out hk1,ht1.mono fun k h=>.inl h⟩
theorem op4_any (hlen:ps.length=1) (hgc:SlP w P GA (rgCells (gs.map (·.1)))) (hgs:GsP w P gs):Calls Tryz.prog 192 #[.pointer (tapeA t),.agg #[.int .i64 op,.int .i64 vs,.slice HA hn hc,.int .i64 pts,.slice GA gs.length gc,.slice PA ps.length pc,.slice QA qn qc]] w fun e w'=>e=.returned (.int .i64 (fenceA gs (ptAt ps 0)))∧KeepP P w w'∧Tp w' P t (es++fenceEv gs):=by
 obtain ⟨w0,hw0⟩:∃ w0,w0=w.alloc (.cells #[.int .i64 op,.int .i64 vs,.slice HA hn hc,.int .i64 pts,.slice GA gs.length gc,.slice PA 1 pc,.slice QA qn qc] 100):=⟨_,rfl⟩
 have hb0:Below w.heap.size w w0:=by rw [hw0];exact bA
 have B0:Blk w0 w.heap.size 100 #[.int .i64 op,.int .i64 vs,.slice HA hn hc,.int .i64 pts,.slice GA gs.length gc,.slice PA 1 pc,.slice QA qn qc]:=by rw [hw0];exact Blk.new _ _ _
 have hk0:KeepP P w w0.drew:=(KeepP.of_below hb0 hP).trans (KeepP.drew _ _)
 have hbd:Below w.heap.size w w0.drew:=bl_drew hb0
 have HC0:=efence_any (More P w w0.drew) t es (ptAt ps 0) (hps.at_ 0) w0.drew (more_lt hP hbd) (.inl hg0) (hw.kept hk0 hg0) (ht.more hbd) hl gs GA gc ((hgc.kept hk0).mono fun k h=>.inl h) (fun g hg=>⟨(hgs g hg).1,((hgs g hg).2.1.kept hk0).mono fun k h=>.inl h,(hgs g hg).2.2⟩)
 have HI:Hid (More P w w0.drew w.heap.size):=.inr ⟨Nat.le_refl _,B0.lt⟩
 obtain ⟨b,off,rfl,hb,hcs⟩:=slP_open hs (by omega)
 have Q:=hcs w0.drew hk0 0 (by omega)
 have hmix:Tryz.prog.follows .mixedOrders=true:=by kernel_rfl
 obtain ⟨r,hr⟩:∃ r,r=fenceA gs (ptAt ps 0):=⟨_,rfl⟩
 rw [← hr] at HC0
 have HC:=hide HC0
 rw [← hr,hlen]
 have HK0:=hide hk0;have HP:=hide hP;have HBD:=hide hbd
 clear hbd hr HC0 hcs hk0 hlen hs hps hw hg0 hP ht hl hgc hgs
 refine (callsIn_wide (n:=6)).1 ?_
 refine callsIn_of_wp Tryz.func192 rfl trivial ?_ rfl
 simp only [Tryz.ntmps192,List.size_toArray,List.length_cons,List.length_nil,Nat.reduceAdd,Nat.reduceSub,Array.replicate_succ,Array.replicate_zero,List.push_toArray,List.append_toArray,List.nil_append,List.cons_append]
 gi_wp2_with fail
 rw [← hw0]
 clear hw0
 refine startH 1000 (S:=fun w'=>Blk w' w.heap.size 100 #[.int .i64 op,.int .i64 vs,.slice HA hn hc,.int .i64 pts,.slice GA gs.length gc,.slice (some ⟨b,off,none⟩) 1 pc,.slice QA qn qc]∧PtC w' b off ps 0) hmix ?_
 have hS:Blk w0.drew w.heap.size 100 #[.int .i64 op,.int .i64 vs,.slice HA hn hc,.int .i64 pts,.slice GA gs.length gc,.slice (some ⟨b,off,none⟩) 1 pc,.slice QA qn qc]∧PtC w0.drew b off ps 0:=⟨B0.drew,Q⟩
 refine' takeH (i:=0) (v:=_) (noDefer_of (by kernel_rfl)) rfl (by kernel_rfl) (by kernel_rfl) (by kernel_rfl) (fun _ _ _ h=>h) (by kernel_rfl) ⟨Or.inl ⟨by rfl,?hy0k44⟩,fun _=>rfl⟩ hS ?rest0k44
 case hy0k44 =>
  intro w' hSw
  go_simp
  rfl
 simp only [Act.put,getElem_toArray,getElem_cons_zero,setIfInBounds_toArray,set_cons_zero,set_cons_succ]
 refine' takeH (i:=1) (v:=_) (noDefer_of (by kernel_rfl)) rfl (by kernel_rfl) (by kernel_rfl) (by kernel_rfl) (fun _ _ _ h=>h) (by kernel_rfl) ⟨Or.inl ⟨by rfl,?hy1k45⟩,fun _=>rfl⟩ hS ?rest1k45
 case hy1k45 =>
  intro w' hSw
  go_simp
  rfl
 simp only [Act.put,getElem_toArray,getElem_cons_succ,getElem_cons_zero,setIfInBounds_toArray,set_cons_zero,set_cons_succ]
 refine' takeH (i:=2) (v:=_) (noDefer_of (by kernel_rfl)) rfl (by kernel_rfl) (by kernel_rfl) (by kernel_rfl) (fun _ _ _ h=>h) (by kernel_rfl) ⟨Or.inl ⟨by rfl,?hy2k46⟩,fun _=>rfl⟩ hS ?rest2k46
 case hy2k46 =>
  intro w' hSw
  obtain ⟨r0,q⟩:=hSw
  have z4:=r0.cell (i:=4) rfl
  go_simp
  rfl
 simp only [Act.put,getElem_toArray,getElem_cons_succ,getElem_cons_zero,setIfInBounds_toArray,set_cons_zero,set_cons_succ]
 refine' takeH (i:=3) (v:=_) (noDefer_of (by kernel_rfl)) rfl (by kernel_rfl) (by kernel_rfl) (by kernel_rfl) (fun _ _ _ h=>h) (by kernel_rfl) ⟨Or.inl ⟨by rfl,?hy3k47⟩,fun _=>rfl⟩ hS ?rest3k47
 case hy3k47 =>
  intro w' hSw
  go_simp
  rfl
 simp only [Act.put,getElem_toArray,getElem_cons_succ,getElem_cons_zero,setIfInBounds_toArray,set_cons_zero,set_cons_succ]
 refine' takeH (i:=4) (v:=_) (noDefer_of (by kernel_rfl)) rfl (by kernel_rfl) (by kernel_rfl) (by kernel_rfl) (fun _ _ _ h=>h) (by kernel_rfl) ⟨Or.inl ⟨by rfl,?hy4k48⟩,fun _=>rfl⟩ hS ?rest4k48
 case hy4k48 =>
  intro w' hSw
  obtain ⟨r0,q⟩:=hSw
  have z5:=r0.cell (i:=5) rfl
  go_simp
  rfl
 simp only [Act.put,getElem_toArray,getElem_cons_succ,getElem_cons_zero,setIfInBounds_toArray,set_cons_zero,set_cons_succ]
 refine' takeH (i:=5) (v:=_) (noDefer_of (by kernel_rfl)) rfl (by kernel_rfl) (by kernel_rfl) (by kernel_rfl) (fun _ _ _ h=>h) (by kernel_rfl) ⟨Or.inl ⟨by rfl,?hy5k49⟩,fun _=>rfl⟩ hS ?rest5k49
 case hy5k49 =>
  intro w' hSw
  go_simp
  rfl
 simp only [Act.put,getElem_toArray,getElem_cons_succ,getElem_cons_zero,setIfInBounds_toArray,set_cons_zero,set_cons_succ]
 refine' takeH (i:=6) (v:=_) (noDefer_of (by kernel_rfl)) rfl (by kernel_rfl) (by kernel_rfl) (by kernel_rfl) (fun _ _ _ h=>h) (by kernel_rfl) ⟨Or.inl ⟨by rfl,?hy6k50⟩,fun _=>rfl⟩ hS ?rest6k50
 case hy6k50 =>
  intro w' hSw
  obtain ⟨r0,q0⟩:=hSw
  have z0:w'.cell? ⟨b,off,none⟩=some (.int .i64 (ptAt ps 0).1):=by simpa using q0.1
  have z1:w'.cell? ⟨b,off+1,none⟩=some (.int .i64 (ptAt ps 0).2):=by simpa using q0.2
  go_simp
  rfl
 simp only [Act.put,getElem_toArray,getElem_cons_succ,getElem_cons_zero,setIfInBounds_toArray,set_cons_zero,set_cons_succ]
 refine oneH (i:=7) (by kernel_rfl) rfl ?_
 intro K hK
 rw [if_pos (by rfl)]
 go_simp
 refine ⟨trivial,?_⟩
 refine (callsIn_wide.2 HC.out).mono ?_
 rintro e w1 ⟨rfl,hk1,ht1⟩
 have hS1:Blk w1 w.heap.size 100 #[.int .i64 op,.int .i64 vs,.slice HA hn hc,.int .i64 pts,.slice GA gs.length gc,.slice (some ⟨b,off,none⟩) 1 pc,.slice QA qn qc]∧PtC w1 b off ps 0:=⟨hS.1.kept hk1 HI.out,hS.2.kept hk1 (.inl hb)⟩
 refine hK.out _ _ (fun _=>hS1) ?_
 clear hK K
 (try simp only [Act.put,getElem_toArray,getElem_cons_succ,getElem_cons_zero,setIfInBounds_toArray,set_cons_zero,set_cons_succ])
 refine' takeH (i:=8) (v:=_) (noDefer_of (by kernel_rfl)) rfl (by kernel_rfl) (by kernel_rfl) (by kernel_rfl) (fun _ _ _ h=>h) (by kernel_rfl) ⟨Or.inl ⟨by rfl,?hy8k51⟩,fun _=>rfl⟩ hS1 ?rest8k51
 case hy8k51 =>
  intro w' hSw
  go_simp
  rfl
 simp only [Act.put,getElem_toArray,getElem_cons_succ,getElem_cons_zero,setIfInBounds_toArray,set_cons_zero,set_cons_succ]
 refine doneH (by kernel_rfl) ?_ _
 gi_wp2
 go_ret
 exact ⟨rfl,KeepP.more HBD.out HP.out hk1,ht1.mono fun k h=>.inl h⟩
end
end
end Go.Proofs.YtfljlmleiggmjaaGreatDoor
