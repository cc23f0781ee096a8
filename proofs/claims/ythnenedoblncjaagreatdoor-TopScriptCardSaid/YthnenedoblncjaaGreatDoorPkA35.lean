/- Ops OpFns -/
import Derived.Maps.OwnSet
import Derived.Test.YthnenedoblncjaaGreatDoorPkA33
set_option maxRecDepth 1000000
set_option maxHeartbeats 8000000
namespace Go.Proofs.YthnenedoblncjaaGreatDoor
open Go.Proofs.Tryz
open List (getElem_toArray getElem_cons_succ getElem_cons_zero setIfInBounds_toArray set_cons_zero set_cons_succ)
section
open Go.RowKit Go.Shelf Go.Maps
def zh(v:Value):Option (DataW Unit × List MemPlace) :=
 match v with
 | .agg cs=>match cs.toList with
   | [.func (.func n) f c]=>if f.size=0/\c.size=0 then some (.lit (.int .i64 n),[]) else some (.lit (.int .i64 0),[])
   | _=>some (.lit (.int .i64 0),[])
 | _=>some (.lit (.int .i64 0),[])
theorem C9{n:Nat}{ps:List MemPlace}(hn:n≠0):¬ (some ((DataW.lit (.int .i64 0):DataW Unit),([]:List MemPlace))=some (.lit (.int .i64 (n:Int)),ps)):=fun h=>by
 injection h with h;injection h with h _;injection h with h;injection h with _ h;omega
theorem M7{v:Value}{n:Nat}{ps:List MemPlace}(hn:n≠0)(h:zh v=some (.lit (.int .i64 n),ps)):v=.agg #[.func (.func n) #[] #[]]:=by
 unfold zh at h;split at h
 · rename_i cs
   split at h
   · rename_i m f c he
     split at h
     · rename_i hz
       simp at h;obtain ⟨h,_⟩:=h;obtain rfl:m=n:=by first|exact h|exact Int.ofNat.inj h
       have:cs=#[.func (.func m) f c]:=(by rw [<- Array.toArray_toList (xs:=cs),he]);rw [this,Array.eq_empty_of_size_eq_zero hz.1,Array.eq_empty_of_size_eq_zero hz.2]
     · exact absurd h (C9 hn)
   · exact absurd h (C9 hn)
 · exact absurd h (C9 hn)
def zql:DataW Unit:=(((DataW.map []).put (.int .i64 1) (.lit (.int .i64 330))).put (.int .i64 2) (.lit (.int .i64 331))).put (.int .i64 3) (.lit (.int .i64 332)) |>.put (.int .i64 4) (.lit (.int .i64 333))
theorem Ph(n:Int)(h0:0<=n)(h1:n<=100):keyOf prog 3 (.int .i64 n)=some (.int .i64 n):=keyOf_int_mk underlying3 (WalkArith.wf_i64 (by omega))
def K7(w:World)(b:Nat):Prop:=w.ownsMap prog 3 zh b 4 zql
theorem SG(w:World):Calls prog 290 #[] w fun e w'=>e=.returned (.map (some w.heap.size))/\Below w.heap.size w w'/\K7 w' w.heap.size:=by
 have hmm:=@run_makeMap prog;have FH:=World.ownsMap_made w prog 3 zh;obtain ⟨w1,ztx,YN,hg1⟩:=FH.update Vw underlying344 (by unfold maxLen;omega) (Ph 1 (by omega) (by omega)) (show zh (.agg #[.func (.func 330) #[] #[]])=some (.lit (.int .i64 330),[]) from rfl);obtain ⟨w2,zty,V6,hg2⟩:=YN.update Vw underlying344 (by unfold maxLen;omega) (Ph 2 (by omega) (by omega)) (show zh (.agg #[.func (.func 331) #[] #[]])=some (.lit (.int .i64 331),[]) from rfl);obtain ⟨w3,ztz,Zw,hg3⟩:=V6.update Vw underlying344 (by unfold maxLen;omega) (Ph 3 (by omega) (by omega)) (show zh (.agg #[.func (.func 332) #[] #[]])=some (.lit (.int .i64 332),[]) from rfl);obtain ⟨w4,zua,YO,hg4⟩:=Zw.update Vw underlying344 (by unfold maxLen;omega) (Ph 4 (by omega) (by omega)) (show zh (.agg #[.func (.func 333) #[] #[]])=some (.lit (.int .i64 333),[]) from rfl);have hb:Below w.heap.size w w4:=((((Z7 (Below.refl w.heap.size w) (.map #[] 0)).grown hg1 (by simp) (fun k e=>by cases e;exact Nat.le_refl _)).grown hg2 (Nat.le_trans (by simp) hg1.size) (fun k e=>by cases e;exact Nat.le_refl _)).grown hg3 (Nat.le_trans (Nat.le_trans (by simp) hg1.size) hg2.size) (fun k e=>by cases e;exact Nat.le_refl _)).grown hg4 (Nat.le_trans (Nat.le_trans (Nat.le_trans (by simp) hg1.size) hg2.size) hg3.size) (fun k e=>by cases e;exact Nat.le_refl _);have HB:=hide hb;have HO:=hide (show K7 w4 w.heap.size from YO);clear FH YN V6 Zw YO hg1 hg2 hg3 hg4 hb;go_enter func290,ntmps290;go_wp2;go_ret;exact ⟨rfl,HB.out,HO.out⟩
theorem K7.step{w w':World}{b:Nat}(h:K7 w b)(hb:Below w.heap.size w w'):K7 w' b:=World.ownsMap.kept h (below_grown hb) (by simp)
theorem F3{w:World}{b:Nat}(h:K7 w b)(op:Int)(n:Nat)(hn:op=1/\n=330\/op=2/\n=331\/op=3/\n=332\/op=4/\n=333):
 (Instr.lookup 344 (.map (some b)) (.int .i64 op) true).run prog w=.ok (.tuple #[.agg #[.func (.func n) #[] #[]],.bool true]) w:=by
 have hz:(zeroValue 342).run prog w=.ok (.agg #[.nilFunc]) w:=by kernel_rfl
 have hk:keyOf prog 3 (.int .i64 op)=some (.int .i64 op):=Ph op (by omega) (by omega);obtain ⟨v,ps,hrun,hv⟩:=World.ownsMap.look_ok h Vw underlying344 hz (show zh (.agg #[.nilFunc])=some (.lit (.int .i64 0),[]) from rfl) hk;rcases hn with ⟨rfl,rfl⟩|⟨rfl,rfl⟩|⟨rfl,rfl⟩|⟨rfl,rfl⟩
 · have hv':zh v=some (.lit (.int .i64 ((330:Nat):Int)),ps):=hv;obtain rfl:=M7 (by decide) hv';rw [hrun];rfl
 · have hv':zh v=some (.lit (.int .i64 ((331:Nat):Int)),ps):=hv;obtain rfl:=M7 (by decide) hv';rw [hrun];rfl
 · have hv':zh v=some (.lit (.int .i64 ((332:Nat):Int)),ps):=hv;obtain rfl:=M7 (by decide) hv';rw [hrun];rfl
 · have hv':zh v=some (.lit (.int .i64 ((333:Nat):Int)),ps):=hv;obtain rfl:=M7 (by decide) hv';rw [hrun];rfl
theorem F4{w:World}{b:Nat}(h:K7 w b):
 (Instr.lookup 344 (.map (some b)) (.int .i64 5) true).run prog w=.ok (.tuple #[.agg #[.nilFunc],.bool false]) w:=by
 have hz:(zeroValue 342).run prog w=.ok (.agg #[.nilFunc]) w:=by kernel_rfl
 have hk:keyOf prog 3 (.int .i64 5)=some (.int .i64 5):=Ph 5 (by omega) (by omega);obtain ⟨es,clock,hb,F,_,hD⟩:=h;rcases Maps.fit_look true Vw underlying344 hz hb F hk with ⟨hrun,_,hat⟩|⟨e0,y,h1,h2,hrun,hRv,hat,h3⟩
 · exact hrun
 · exfalso
   rw [<- hD] at hat;have a:(DataW.lit (.int .i64 0):DataW Unit)=.lit (.int .i64 1):=(show _=_ from (hat (.lit (.int .i64 0)))).trans (show _=_ from (hat (.lit (.int .i64 1)))).symm;injection a with a;injection a with _ a;omega
end
section
open Go.RowKit Go.Shelf
def Ry(w:World)(b off:Nat)(ps:List Pt)(j:Nat):Prop:=w.cell? ⟨b,off+j*2,none⟩=some (.int .i64 (Z5 ps j).1)/\w.cell? ⟨b,off+j*2+1,none⟩=some (.int .i64 (Z5 ps j).2)
theorem Qr{w:World}{P:Nat->Prop}{A:Option Addr}{ps:List Pt}(h:UU w P A (Zg ps))(hn:0<ps.length):∃ b off,A=some ⟨b,off,none⟩/\P b/\∀ w',Z8 P w w'->∀ j,j<ps.length->Ry w' b off ps j:=by
 rcases h with h|⟨b,off,hA,hb,hc⟩
 · exfalso
   have h2:(Zg ps).length=ps.length*2:=YE (fun p:Int × Int=>[Value.int .i64 p.1,.int .i64 p.2]) 2 (fun _=>rfl) ps;rw [h] at h2;simp at h2;omega
 · subst hA;refine ⟨b,off,rfl,hb,fun w' hk j hj=>?_⟩;have hb':Sl w' (b+1) (some ⟨b,off,none⟩) (Zg ps):=.inr ⟨b,off,rfl,by omega,fun j u hu=>(hk.cell hb _).trans (hc j u hu)⟩;exact X8 hb' hj
theorem Ry.step{w w':World}{b off:Nat}{ps:List Pt}{j:Nat}(h:Ry w b off ps j)(hb:Below w.heap.size w w'):Ry w' b off ps j :=
 ⟨(hb.cell (p:=⟨b,off+j*2,none⟩) (Zv h.1)).trans h.1,(hb.cell (p:=⟨b,off+j*2+1,none⟩) (Zv h.2)).trans h.2⟩
section
variable (P:Nat->Prop)(t:Option (Nat × Nat))(es:List Ev)(op vs Z0:Int)(HA:Option Addr)(hn hc:Nat)(gs:List Gr)(GA:Option Addr)(gc:Nat)(ps:List Pt)(PA:Option Addr)(pc:Nat)(QA:Option Addr)(qn qc:Nat)(w:World)
variable (hP:∀ k,P k->k<w.heap.size)(hg0:P 8)(hw:MW w)(ht:Tp w P t es)(hl:es.length<=600000)(hps:Ub ps)(hs:UU w P PA (Zg ps))
include hP hg0 hw ht hl hps hs
omit ht hl hg0 in
theorem oL(hlen:ps.length=3):Calls prog 330 #[.pointer (Zz t),.agg #[.int .i64 op,.int .i64 vs,.slice HA hn hc,.int .i64 Z0,.slice GA gs.length gc,.slice PA ps.length pc,.slice QA qn qc]] w fun e w'=>e=.returned (.int .i64 ((ZM (Z5 ps 0) (Z5 ps 1) (Z5 ps 2)).sign+1))/\Below w.heap.size w w':=by
 obtain ⟨b,off,rfl,hb,hcs⟩:=Qr hs (by omega);obtain ⟨w0,hw0⟩:=eE (w.alloc (.cells #[.int .i64 op,.int .i64 vs,.slice HA hn hc,.int .i64 Z0,.slice GA gs.length gc,.slice (some ⟨b,off,none⟩) 3 pc,.slice QA qn qc] 182));have hb0:=bE hw0;have B0:Z6 w0 w.heap.size 182 #[.int .i64 op,.int .i64 vs,.slice HA hn hc,.int .i64 Z0,.slice GA gs.length gc,.slice (some ⟨b,off,none⟩) 3 pc,.slice QA qn qc]:=by rw [hw0];exact Z6.new _ _ _
 have hk0:Z8 P w w0:=Z8.of_below hb0 hP;have Q0:=hcs w0 hk0 0 (by omega);have Q1:=hcs w0 hk0 1 (by omega);have Q2:=hcs w0 hk0 2 (by omega);obtain ⟨os,hos⟩:=eE ((ZM (Z5 ps 0) (Z5 ps 1) (Z5 ps 2)).sign);have Eu:os=-1\/os=0\/os=1:=by rw [hos];exact Xq _
 have Ua:=fun w (hM:MW w)=>U9 (Z5 ps 0) (Z5 ps 1) (Z5 ps 2) (hps.at_ 0) (hps.at_ 1) (hps.at_ 2) w hM;rw [<- hos] at Ua;have zY:=hide (Ua w0.drew ((hw.step hb0).step (ZU (Below.refl _ _))));have hwr:IntKind.i64.wrap (os+1)=os+1:=by rw [IntKind.wrap_i64];omega
 have V5:prog.follows .mixedOrders=true:=by kernel_rfl
 rw [<- hos,hlen];clear hos Eu Ua hcs hk0 hlen hs hps hw hP;refine (callsIn_wide (n:=6)).1 ?_;refine callsIn_of_wp func330 rfl trivial ?_ rfl;simp only [ntmps330,List.size_toArray,List.length_cons,List.length_nil,Nat.reduceAdd,Nat.reduceSub,Array.replicate_succ,Array.replicate_zero,List.push_toArray,List.append_toArray,List.nil_append,List.cons_append];gi_wp2_with fail;rw [<- hw0];clear hw0;refine Xy 1000 (S:=fun w'=>Z6 w' w.heap.size 182 #[.int .i64 op,.int .i64 vs,.slice HA hn hc,.int .i64 Z0,.slice GA gs.length gc,.slice (some ⟨b,off,none⟩) 3 pc,.slice QA qn qc]/\Ry w' b off ps 0/\Ry w' b off ps 1/\Ry w' b off ps 2) V5 ?_;have hS:Z6 w0.drew w.heap.size 182 #[.int .i64 op,.int .i64 vs,.slice HA hn hc,.int .i64 Z0,.slice GA gs.length gc,.slice (some ⟨b,off,none⟩) 3 pc,.slice QA qn qc]/\Ry w0.drew b off ps 0/\Ry w0.drew b off ps 1/\Ry w0.drew b off ps 2:=⟨B0.drew,Q0,Q1,Q2⟩;refine' ZV (i:=0) rfl ?P8 hS ?M8
 case P8 =>
  intro w' hSw;go_simp;rfl
 simp only [Act.put,getElem_toArray,getElem_cons_zero,setIfInBounds_toArray,set_cons_zero,set_cons_succ];refine' ZV (i:=1) rfl ?Qa hS ?M9
 case Qa =>
  intro w' hSw;obtain ⟨r0,q0,q1,q2⟩:=hSw;have z5:=r0.q5 rfl;go_simp;rfl
 simp only [Act.put,ZW];refine' ZV (i:=2) rfl ?Qb hS ?Na
 case Qb =>
  intro w' hSw;go_simp;rfl
 simp only [Act.put,ZW];refine' ZV (i:=3) rfl ?Qc hS ?Nb
 case Qc =>
  intro w' hSw;obtain ⟨r0,q0,q1,q2⟩:=hSw;have z0:w'.cell? ⟨b,off,none⟩=some (.int .i64 (Z5 ps 0).1):=by simpa using q0.1
  have z1:w'.cell? ⟨b,off+1,none⟩=some (.int .i64 (Z5 ps 0).2):=by simpa using q0.2
  go_simp;rfl
 simp only [Act.put,ZW];refine' ZV (i:=4) rfl ?LW hS ?IJ
 case LW =>
  intro w' hSw;go_simp;rfl
 simp only [Act.put,ZW];refine' ZV (i:=5) rfl ?LX hS ?IK
 case LX =>
  intro w' hSw;obtain ⟨r0,q0,q1,q2⟩:=hSw;have z5:=r0.q5 rfl;go_simp;rfl
 simp only [Act.put,ZW];refine' ZV (i:=6) rfl ?zuq hS ?zqx
 case zuq =>
  intro w' hSw;go_simp;rfl
 simp only [Act.put,ZW];refine' ZV (i:=7) rfl ?zur hS ?zqy
 case zur =>
  intro w' hSw;obtain ⟨r0,q0,q1,q2⟩:=hSw;have z0:w'.cell? ⟨b,off+2,none⟩=some (.int .i64 (Z5 ps 1).1):=by simpa using q1.1
  have z1:w'.cell? ⟨b,off+2+1,none⟩=some (.int .i64 (Z5 ps 1).2):=by simpa using q1.2
  have z2:w'.cell? ⟨b,off+3,none⟩=some (.int .i64 (Z5 ps 1).2):=z1;go_simp;rfl
 simp only [Act.put,ZW];refine' ZV (i:=8) rfl ?zuv hS ?zrc
 case zuv =>
  intro w' hSw;go_simp;rfl
 simp only [Act.put,ZW];refine' ZV (i:=9) rfl ?gL hS ?zxo
 case gL =>
  intro w' hSw;obtain ⟨r0,q0,q1,q2⟩:=hSw;have z5:=r0.q5 rfl;go_simp;rfl
 simp only [Act.put,ZW];refine' ZV (i:=10) rfl ?mM hS ?zyn
 case mM =>
  intro w' hSw;go_simp;rfl
 simp only [Act.put,ZW];refine' ZV (i:=11) rfl ?mV hS ?zyt
 case mV =>
  intro w' hSw;obtain ⟨r0,q0,q1,q2⟩:=hSw;have z0:w'.cell? ⟨b,off+4,none⟩=some (.int .i64 (Z5 ps 2).1):=by simpa using q2.1
  have z1:w'.cell? ⟨b,off+4+1,none⟩=some (.int .i64 (Z5 ps 2).2):=by simpa using q2.2
  have z2:w'.cell? ⟨b,off+5,none⟩=some (.int .i64 (Z5 ps 2).2):=z1;go_simp;rfl
 simp only [Act.put,ZW];refine Yj (i:=12) (by kernel_rfl) rfl ?_;intro K hK;rw [if_pos (by rfl)];go_simp;refine ⟨trivial,?_⟩;refine (callsIn_wide.2 zY.out).mono ?_;rintro e w1 ⟨rfl,hb1⟩;have hS1:Z6 w1 w.heap.size 182 #[.int .i64 op,.int .i64 vs,.slice HA hn hc,.int .i64 Z0,.slice GA gs.length gc,.slice (some ⟨b,off,none⟩) 3 pc,.slice QA qn qc]/\Ry w1 b off ps 0/\Ry w1 b off ps 1/\Ry w1 b off ps 2:=⟨hS.1.step hb1,(hS.2.1).step hb1,(hS.2.2.1).step hb1,(hS.2.2.2).step hb1⟩;refine hK.out _ _ (fun _=>hS1) ?_;clear hK K
 (try simp only [Act.put,ZW])
 refine' ZV (i:=13) rfl ?nu hS1 ?zza
 case nu =>
  intro w' hSw;go_simp;rfl
 simp only [Act.put,ZW];refine' ZV (i:=14) rfl ?nA hS1 ?zzc
 case nA =>
  intro w' hSw;go_simp;rfl
 simp only [Act.put,ZW];refine WI (by kernel_rfl) ?_ _;gi_wp2;go_ret;exact ⟨rfl,Z9 (ZU hb0) hb1⟩
omit ht hl hg0 in
theorem oM(hlen:ps.length=4):Calls prog 331 #[.pointer (Zz t),.agg #[.int .i64 op,.int .i64 vs,.slice HA hn hc,.int .i64 Z0,.slice GA gs.length gc,.slice PA ps.length pc,.slice QA qn qc]] w fun e w'=>e=.returned (.int .i64 ((YI (Z5 ps 0) (Z5 ps 1) (Z5 ps 2) (Z5 ps 3)).sign+1))/\Below w.heap.size w w':=by
 obtain ⟨b,off,rfl,hb,hcs⟩:=Qr hs (by omega);obtain ⟨w0,hw0⟩:=eE (w.alloc (.cells #[.int .i64 op,.int .i64 vs,.slice HA hn hc,.int .i64 Z0,.slice GA gs.length gc,.slice (some ⟨b,off,none⟩) 4 pc,.slice QA qn qc] 182));have hb0:=bE hw0;have B0:Z6 w0 w.heap.size 182 #[.int .i64 op,.int .i64 vs,.slice HA hn hc,.int .i64 Z0,.slice GA gs.length gc,.slice (some ⟨b,off,none⟩) 4 pc,.slice QA qn qc]:=by rw [hw0];exact Z6.new _ _ _
 have hk0:Z8 P w w0:=Z8.of_below hb0 hP;have Q0:=hcs w0 hk0 0 (by omega);have Q1:=hcs w0 hk0 1 (by omega);have Q2:=hcs w0 hk0 2 (by omega);have Q3:=hcs w0 hk0 3 (by omega);obtain ⟨os,hos⟩:=eE ((YI (Z5 ps 0) (Z5 ps 1) (Z5 ps 2) (Z5 ps 3)).sign);have Eu:os=-1\/os=0\/os=1:=by rw [hos];exact Xq _
 have Ua:=fun w (hM:MW w)=>JD (Z5 ps 0) (Z5 ps 1) (Z5 ps 2) (Z5 ps 3) (hps.at_ 0) (hps.at_ 1) (hps.at_ 2) (hps.at_ 3) w hM;rw [<- hos] at Ua;have zY:=hide (Ua w0.drew ((hw.step hb0).step (ZU (Below.refl _ _))));have hwr:IntKind.i64.wrap (os+1)=os+1:=by rw [IntKind.wrap_i64];omega
 have V5:prog.follows .mixedOrders=true:=by kernel_rfl
 rw [<- hos,hlen];clear hos Eu Ua hcs hk0 hlen hs hps hw hP;refine (callsIn_wide (n:=6)).1 ?_;refine callsIn_of_wp func331 rfl trivial ?_ rfl;simp only [ntmps331,List.size_toArray,List.length_cons,List.length_nil,Nat.reduceAdd,Nat.reduceSub,Array.replicate_succ,Array.replicate_zero,List.push_toArray,List.append_toArray,List.nil_append,List.cons_append];gi_wp2_with fail;rw [<- hw0];clear hw0;refine Xy 1000 (S:=fun w'=>Z6 w' w.heap.size 182 #[.int .i64 op,.int .i64 vs,.slice HA hn hc,.int .i64 Z0,.slice GA gs.length gc,.slice (some ⟨b,off,none⟩) 4 pc,.slice QA qn qc]/\Ry w' b off ps 0/\Ry w' b off ps 1/\Ry w' b off ps 2/\Ry w' b off ps 3) V5 ?_;have hS:Z6 w0.drew w.heap.size 182 #[.int .i64 op,.int .i64 vs,.slice HA hn hc,.int .i64 Z0,.slice GA gs.length gc,.slice (some ⟨b,off,none⟩) 4 pc,.slice QA qn qc]/\Ry w0.drew b off ps 0/\Ry w0.drew b off ps 1/\Ry w0.drew b off ps 2/\Ry w0.drew b off ps 3:=⟨B0.drew,Q0,Q1,Q2,Q3⟩;refine' ZV (i:=0) rfl ?dI hS ?zvf
 case dI =>
  intro w' hSw;go_simp;rfl
 simp only [Act.put,getElem_toArray,getElem_cons_zero,setIfInBounds_toArray,set_cons_zero,set_cons_succ];refine' ZV (i:=1) rfl ?dU hS ?zvq
 case dU =>
  intro w' hSw;obtain ⟨r0,q0,q1,q2,q3⟩:=hSw;have z5:=r0.q5 rfl;go_simp;rfl
 simp only [Act.put,ZW];refine' ZV (i:=2) rfl ?eD hS ?zvz
 case eD =>
  intro w' hSw;go_simp;rfl
 simp only [Act.put,ZW];refine' ZV (i:=3) rfl ?eZ hS ?zwi
 case eZ =>
  intro w' hSw;obtain ⟨r0,q0,q1,q2,q3⟩:=hSw;have z0:w'.cell? ⟨b,off,none⟩=some (.int .i64 (Z5 ps 0).1):=by simpa using q0.1
  have z1:w'.cell? ⟨b,off+1,none⟩=some (.int .i64 (Z5 ps 0).2):=by simpa using q0.2
  go_simp;rfl
 simp only [Act.put,ZW];refine' ZV (i:=4) rfl ?fF hS ?zwq
 case fF =>
  intro w' hSw;go_simp;rfl
 simp only [Act.put,ZW];refine' ZV (i:=5) rfl ?fK hS ?zwv
 case fK =>
  intro w' hSw;obtain ⟨r0,q0,q1,q2,q3⟩:=hSw;have z5:=r0.q5 rfl;go_simp;rfl
 simp only [Act.put,ZW];refine' ZV (i:=6) rfl ?fV hS ?zxc
 case fV =>
  intro w' hSw;go_simp;rfl
 simp only [Act.put,ZW];refine' ZV (i:=7) rfl ?gF hS ?zxi
 case gF =>
  intro w' hSw;obtain ⟨r0,q0,q1,q2,q3⟩:=hSw;have z0:w'.cell? ⟨b,off+2,none⟩=some (.int .i64 (Z5 ps 1).1):=by simpa using q1.1
  have z1:w'.cell? ⟨b,off+2+1,none⟩=some (.int .i64 (Z5 ps 1).2):=by simpa using q1.2
  have z2:w'.cell? ⟨b,off+3,none⟩=some (.int .i64 (Z5 ps 1).2):=z1;go_simp;rfl
 simp only [Act.put,ZW];refine' ZV (i:=8) rfl ?gI hS ?zxl
 case gI =>
  intro w' hSw;go_simp;rfl
 simp only [Act.put,ZW];refine' ZV (i:=9) rfl ?gN hS ?zxq
 case gN =>
  intro w' hSw;obtain ⟨r0,q0,q1,q2,q3⟩:=hSw;have z5:=r0.q5 rfl;go_simp;rfl
 simp only [Act.put,ZW];refine' ZV (i:=10) rfl ?mP hS ?zyp
 case mP =>
  intro w' hSw;go_simp;rfl
 simp only [Act.put,ZW];refine' ZV (i:=11) rfl ?mX hS ?zyv
 case mX =>
  intro w' hSw;obtain ⟨r0,q0,q1,q2,q3⟩:=hSw;have z0:w'.cell? ⟨b,off+4,none⟩=some (.int .i64 (Z5 ps 2).1):=by simpa using q2.1
  have z1:w'.cell? ⟨b,off+4+1,none⟩=some (.int .i64 (Z5 ps 2).2):=by simpa using q2.2
  have z2:w'.cell? ⟨b,off+5,none⟩=some (.int .i64 (Z5 ps 2).2):=z1;go_simp;rfl
 simp only [Act.put,ZW];refine' ZV (i:=12) rfl ?nk hS ?zyz
 case nk =>
  intro w' hSw;go_simp;rfl
 simp only [Act.put,ZW];refine' ZV (i:=13) rfl ?ny hS ?zzb
 case ny =>
  intro w' hSw;obtain ⟨r0,q0,q1,q2,q3⟩:=hSw;have z5:=r0.q5 rfl;go_simp;rfl
 simp only [Act.put,ZW];refine' ZV (i:=14) rfl ?nC hS ?zzd
 case nC =>
  intro w' hSw;go_simp;rfl
 simp only [Act.put,ZW];refine' ZV (i:=15) rfl ?nD hS ?zze
 case nD =>
  intro w' hSw;obtain ⟨r0,q0,q1,q2,q3⟩:=hSw;have z0:w'.cell? ⟨b,off+6,none⟩=some (.int .i64 (Z5 ps 3).1):=by simpa using q3.1
  have z1:w'.cell? ⟨b,off+6+1,none⟩=some (.int .i64 (Z5 ps 3).2):=by simpa using q3.2
  have z2:w'.cell? ⟨b,off+7,none⟩=some (.int .i64 (Z5 ps 3).2):=z1;go_simp;rfl
 simp only [Act.put,ZW];refine Yj (i:=16) (by kernel_rfl) rfl ?_;intro K hK;rw [if_pos (by rfl)];go_simp;refine ⟨trivial,?_⟩;refine (callsIn_wide.2 zY.out).mono ?_;rintro e w1 ⟨rfl,hb1⟩;have hS1:Z6 w1 w.heap.size 182 #[.int .i64 op,.int .i64 vs,.slice HA hn hc,.int .i64 Z0,.slice GA gs.length gc,.slice (some ⟨b,off,none⟩) 4 pc,.slice QA qn qc]/\Ry w1 b off ps 0/\Ry w1 b off ps 1/\Ry w1 b off ps 2/\Ry w1 b off ps 3:=⟨hS.1.step hb1,(hS.2.1).step hb1,(hS.2.2.1).step hb1,(hS.2.2.2.1).step hb1,(hS.2.2.2.2).step hb1⟩;refine hK.out _ _ (fun _=>hS1) ?_;clear hK K
 (try simp only [Act.put,ZW])
 refine' ZV (i:=17) rfl ?nE hS1 ?zzf
 case nE =>
  intro w' hSw;go_simp;rfl
 simp only [Act.put,ZW];refine' ZV (i:=18) rfl ?nG hS1 ?zzg
 case nG =>
  intro w' hSw;go_simp;rfl
 simp only [Act.put,ZW];refine WI (by kernel_rfl) ?_ _;gi_wp2;go_ret;exact ⟨rfl,Z9 (ZU hb0) hb1⟩
end
theorem Ry.kept{w w':World}{P:Nat->Prop}{b off:Nat}{ps:List Pt}{j:Nat}(h:Ry w b off ps j)(hk:Z8 P w w')(hb:P b):Ry w' b off ps j:=⟨(hk.cell hb _).trans h.1,(hk.cell hb _).trans h.2⟩
theorem Kc(ps:List Pt)(n j:Nat)(u:Value)(h:(Zg (ps.take n))[j]?=some u):(Zg ps)[j]?=some u:=by
 have e:Zg ps=Zg (ps.take n)++Zg (ps.drop n):=by
  unfold Zg;rw [<- List.flatMap_append,List.take_append_drop]
 rw [e,List.getElem?_append_left (List.getElem?_eq_some_iff.1 h).1];exact h
theorem UU.zyk{w:World}{P:Nat->Prop}{A:Option Addr}{ps:List Pt}(h:UU w P A (Zg ps))(n:Nat):UU w P A (Zg (ps.take n)):=by
 rcases h with h|⟨b,off,hA,hb,hc⟩
 · left
   cases ps with
   | nil=>simp [Zg]
   | cons p ps=>simp [Zg] at h
 · exact .inr ⟨b,off,hA,hb,fun j u hu=>hc j u (Kc ps n j u hu)⟩
theorem Ub.zyj{ps:List Pt}(h:Ub ps)(n:Nat):Ub (ps.take n):=fun p hp=>h p (List.mem_of_mem_take hp)
section
variable (P:Nat->Prop)(t:Option (Nat × Nat))(es:List Ev)(op vs Z0:Int)(HA:Option Addr)(hn hc:Nat)(gs:List Gr)(GA:Option Addr)(gc:Nat)(ps:List Pt)(PA:Option Addr)(pc:Nat)(QA:Option Addr)(qn qc:Nat)(w:World)
variable (hP:∀ k,P k->k<w.heap.size)(hg0:P 8)(hw:MW w)(ht:Tp w P t es)(hl:es.length<=600000)(hps:Ub ps)(hs:UU w P PA (Zg ps))
include hP hg0 hw ht hl hps hs
theorem oN(n:Nat)(hlen:ps.length=n+1)(cB:n<=64)(hcap:n+1<=pc):Calls prog 332 #[.pointer (Zz t),.agg #[.int .i64 op,.int .i64 vs,.slice HA hn hc,.int .i64 Z0,.slice GA gs.length gc,.slice PA ps.length pc,.slice QA qn qc]] w fun e w'=>e=.returned (.int .i64 (WV (ps.take n) (Z5 ps n)))/\Z8 P w w'/\Tp w' P t (es++Ll n):=by
 obtain ⟨w0,hw0⟩:=eE (w.alloc (.cells #[.int .i64 op,.int .i64 vs,.slice HA hn hc,.int .i64 Z0,.slice GA gs.length gc,.slice PA (n+1) pc,.slice QA qn qc] 182));have hb0:=bE hw0;have B0:Z6 w0 w.heap.size 182 #[.int .i64 op,.int .i64 vs,.slice HA hn hc,.int .i64 Z0,.slice GA gs.length gc,.slice PA (n+1) pc,.slice QA qn qc]:=by rw [hw0];exact Z6.new _ _ _
 have hk0:Z8 P w w0.drew:=(Z8.of_below hb0 hP).trans (Z8.drew _ _);have hlt:(ps.take n).length=n:=by rw [List.length_take];omega
 have hbd:Below w.heap.size w w0.drew:=ZU hb0;have Qz:=BO (More P w w0.drew) t es (Z5 ps n) (hps.at_ n) w0.drew (Yw hP hbd) (.inl hg0) (hw.kept hk0 hg0) (ht.more hbd) hl (ps.take n) (hps.zyj n) (by omega) PA pc (((hs.zyk n).kept hk0).mono fun k h=>.inl h);have HI:Hid (More P w w0.drew w.heap.size):=.inr ⟨Nat.le_refl _,B0.lt⟩;rw [hlt] at Qz;have HC:=hide Qz;obtain ⟨b,off,rfl,hb,hcs⟩:=Qr hs (by omega);have Q:=hcs w0.drew hk0 n (by omega);have hwr:IntKind.i64.wrap ((n:Nat):Int)=(n:Int):=by rw [IntKind.wrap_i64];omega
 have hni:((n:Nat):Int)<((n:Int)+1):=by omega
 have hci:((n:Nat):Int)<=((pc:Nat):Int):=by omega
 have hcn:n<=pc:=by omega
 have V5:prog.follows .mixedOrders=true:=by kernel_rfl
 obtain ⟨r,hr⟩:=eE (WV (ps.take n) (Z5 ps n));rw [<- hr] at HC;rw [<- hr,hlen];have NI:=hide hk0;have HP:=hide hP;have Wp:=hide hbd;clear hbd hr Qz hcs hk0 hlen hs hps hw hg0 hP ht hl hlt;refine (callsIn_wide (n:=6)).1 ?_;refine callsIn_of_wp func332 rfl trivial ?_ rfl;simp only [ntmps332,List.size_toArray,List.length_cons,List.length_nil,Nat.reduceAdd,Nat.reduceSub,Array.replicate_succ,Array.replicate_zero,List.push_toArray,List.append_toArray,List.nil_append,List.cons_append];gi_wp2_with fail;rw [<- hw0];clear hw0;refine Xy 1000 (S:=fun w'=>Z6 w' w.heap.size 182 #[.int .i64 op,.int .i64 vs,.slice HA hn hc,.int .i64 Z0,.slice GA gs.length gc,.slice (some ⟨b,off,none⟩) (n+1) pc,.slice QA qn qc]/\Ry w' b off ps n) V5 ?_;have hS:Z6 w0.drew w.heap.size 182 #[.int .i64 op,.int .i64 vs,.slice HA hn hc,.int .i64 Z0,.slice GA gs.length gc,.slice (some ⟨b,off,none⟩) (n+1) pc,.slice QA qn qc]/\Ry w0.drew b off ps n:=⟨B0.drew,Q⟩;refine' ZV (i:=0) rfl ?dM hS ?zvj
 case dM =>
  intro w' hSw;go_simp;rfl
 simp only [Act.put,getElem_toArray,getElem_cons_zero,setIfInBounds_toArray,set_cons_zero,set_cons_succ];refine' ZV (i:=1) rfl ?dZ hS ?zvv
 case dZ =>
  intro w' hSw;go_simp;rfl
 simp only [Act.put,ZW];refine' ZV (i:=2) rfl ?eP hS ?zwd
 case eP =>
  intro w' hSw;obtain ⟨r0,q⟩:=hSw;have z5:=r0.q5 rfl;go_simp;rfl
 simp only [Act.put,ZW];refine' ZV (i:=3) rfl ?fA hS ?zwl
 case fA =>
  intro w' hSw;go_simp;rfl
 simp only [Act.put,ZW];refine' ZV (i:=4) rfl ?fG hS ?zwr
 case fG =>
  intro w' hSw;go_simp;rfl
 simp only [Act.put,ZW];refine' ZV (i:=5) rfl ?fP hS ?zwy
 case fP =>
  intro w' hSw;go_simp;rfl
 simp only [Act.put,ZW];refine' ZV (i:=6) rfl ?gu hS ?zxf
 case gu =>
  intro w' hSw;obtain ⟨r0,q⟩:=hSw;have z5:=r0.q5 rfl;go_simp;rfl
 simp only [Act.put,ZW];refine' ZV (i:=7) rfl ?gG hS ?zxj
 case gG =>
  intro w' hSw;go_simp;rfl
 simp only [Act.put,ZW];refine' ZV (i:=8) rfl ?gJ hS ?zxm
 case gJ =>
  intro w' hSw;go_simp;rfl
 simp only [Act.put,ZW];refine' ZV (i:=9) rfl ?gT hS ?zxt
 case gT =>
  intro w' hSw;obtain ⟨r0,q⟩:=hSw;have z0:=q.1;have z1:=q.2;go_simp;rfl
 simp only [Act.put,ZW];refine Yj (i:=10) (by kernel_rfl) rfl ?_;intro K hK;rw [if_pos (by rfl)];go_simp;refine ⟨trivial,?_⟩;refine (callsIn_wide.2 HC.out).mono ?_;rintro e w1 ⟨rfl,hk1,ht1⟩;have hS1:Z6 w1 w.heap.size 182 #[.int .i64 op,.int .i64 vs,.slice HA hn hc,.int .i64 Z0,.slice GA gs.length gc,.slice (some ⟨b,off,none⟩) (n+1) pc,.slice QA qn qc]/\Ry w1 b off ps n:=⟨hS.1.kept hk1 HI.out,hS.2.kept hk1 (.inl hb)⟩;refine hK.out _ _ (fun _=>hS1) ?_;clear hK K
 (try simp only [Act.put,ZW])
 refine' ZV (i:=11) rfl ?ng hS1 ?zyy
 case ng =>
  intro w' hSw;go_simp;rfl
 simp only [Act.put,ZW];refine WI (by kernel_rfl) ?_ _;gi_wp2;go_ret;exact ⟨rfl,Z8.more Wp.out HP.out hk1,ht1.mono fun k h=>.inl h⟩
theorem oO(hlen:ps.length=1)(hgc:UU w P GA (rgCells (gs.map (·.1))))(hgs:zW w P gs):Calls prog 333 #[.pointer (Zz t),.agg #[.int .i64 op,.int .i64 vs,.slice HA hn hc,.int .i64 Z0,.slice GA gs.length gc,.slice PA ps.length pc,.slice QA qn qc]] w fun e w'=>e=.returned (.int .i64 (VZ gs (Z5 ps 0)))/\Z8 P w w'/\Tp w' P t (es++MX gs):=by
 obtain ⟨w0,hw0⟩:=eE (w.alloc (.cells #[.int .i64 op,.int .i64 vs,.slice HA hn hc,.int .i64 Z0,.slice GA gs.length gc,.slice PA 1 pc,.slice QA qn qc] 182));have hb0:=bE hw0;have B0:Z6 w0 w.heap.size 182 #[.int .i64 op,.int .i64 vs,.slice HA hn hc,.int .i64 Z0,.slice GA gs.length gc,.slice PA 1 pc,.slice QA qn qc]:=by rw [hw0];exact Z6.new _ _ _
 have hk0:Z8 P w w0.drew:=(Z8.of_below hb0 hP).trans (Z8.drew _ _);have hbd:Below w.heap.size w w0.drew:=ZU hb0;have Qz:=Ca (More P w w0.drew) t es (Z5 ps 0) (hps.at_ 0) w0.drew (Yw hP hbd) (.inl hg0) (hw.kept hk0 hg0) (ht.more hbd) hl gs GA gc ((hgc.kept hk0).mono fun k h=>.inl h) (fun g hg=>⟨(hgs g hg).1,((hgs g hg).2.1.kept hk0).mono fun k h=>.inl h,(hgs g hg).2.2⟩);have HI:Hid (More P w w0.drew w.heap.size):=.inr ⟨Nat.le_refl _,B0.lt⟩;obtain ⟨b,off,rfl,hb,hcs⟩:=Qr hs (by omega);have Q:=hcs w0.drew hk0 0 (by omega);have V5:prog.follows .mixedOrders=true:=by kernel_rfl
 obtain ⟨r,hr⟩:=eE (VZ gs (Z5 ps 0));rw [<- hr] at Qz;have HC:=hide Qz;rw [<- hr,hlen];have NI:=hide hk0;have HP:=hide hP;have Wp:=hide hbd;clear hbd hr Qz hcs hk0 hlen hs hps hw hg0 hP ht hl hgc hgs;refine (callsIn_wide (n:=6)).1 ?_;refine callsIn_of_wp func333 rfl trivial ?_ rfl;simp only [ntmps333,List.size_toArray,List.length_cons,List.length_nil,Nat.reduceAdd,Nat.reduceSub,Array.replicate_succ,Array.replicate_zero,List.push_toArray,List.append_toArray,List.nil_append,List.cons_append];gi_wp2_with fail;rw [<- hw0];clear hw0;refine Xy 1000 (S:=fun w'=>Z6 w' w.heap.size 182 #[.int .i64 op,.int .i64 vs,.slice HA hn hc,.int .i64 Z0,.slice GA gs.length gc,.slice (some ⟨b,off,none⟩) 1 pc,.slice QA qn qc]/\Ry w' b off ps 0) V5 ?_;have hS:Z6 w0.drew w.heap.size 182 #[.int .i64 op,.int .i64 vs,.slice HA hn hc,.int .i64 Z0,.slice GA gs.length gc,.slice (some ⟨b,off,none⟩) 1 pc,.slice QA qn qc]/\Ry w0.drew b off ps 0:=⟨B0.drew,Q⟩;refine' ZV (i:=0) rfl ?dN hS ?zvk
 case dN =>
  intro w' hSw;go_simp;rfl
 simp only [Act.put,getElem_toArray,getElem_cons_zero,setIfInBounds_toArray,set_cons_zero,set_cons_succ];refine' ZV (i:=1) rfl ?d9 hS ?zvw
 case d9 =>
  intro w' hSw;go_simp;rfl
 simp only [Act.put,ZW];refine' ZV (i:=2) rfl ?eU hS ?zwf
 case eU =>
  intro w' hSw;obtain ⟨r0,q⟩:=hSw;have z4:=r0.q4 rfl;go_simp;rfl
 simp only [Act.put,ZW];refine' ZV (i:=3) rfl ?fC hS ?zwn
 case fC =>
  intro w' hSw;go_simp;rfl
 simp only [Act.put,ZW];refine' ZV (i:=4) rfl ?fH hS ?zws
 case fH =>
  intro w' hSw;obtain ⟨r0,q⟩:=hSw;have z5:=r0.q5 rfl;go_simp;rfl
 simp only [Act.put,ZW];refine' ZV (i:=5) rfl ?fQ hS ?zwz
 case fQ =>
  intro w' hSw;go_simp;rfl
 simp only [Act.put,ZW];refine' ZV (i:=6) rfl ?gB hS ?zxg
 case gB =>
  intro w' hSw;obtain ⟨r0,q0⟩:=hSw;have z0:w'.cell? ⟨b,off,none⟩=some (.int .i64 (Z5 ps 0).1):=by simpa using q0.1
  have z1:w'.cell? ⟨b,off+1,none⟩=some (.int .i64 (Z5 ps 0).2):=by simpa using q0.2
  go_simp;rfl
 simp only [Act.put,ZW];refine Yj (i:=7) (by kernel_rfl) rfl ?_;intro K hK;rw [if_pos (by rfl)];go_simp;refine ⟨trivial,?_⟩;refine (callsIn_wide.2 HC.out).mono ?_;rintro e w1 ⟨rfl,hk1,ht1⟩;have hS1:Z6 w1 w.heap.size 182 #[.int .i64 op,.int .i64 vs,.slice HA hn hc,.int .i64 Z0,.slice GA gs.length gc,.slice (some ⟨b,off,none⟩) 1 pc,.slice QA qn qc]/\Ry w1 b off ps 0:=⟨hS.1.kept hk1 HI.out,hS.2.kept hk1 (.inl hb)⟩;refine hK.out _ _ (fun _=>hS1) ?_;clear hK K
 (try simp only [Act.put,ZW])
 refine' ZV (i:=8) rfl ?gK hS1 ?zxn
 case gK =>
  intro w' hSw;go_simp;rfl
 simp only [Act.put,ZW];refine WI (by kernel_rfl) ?_ _;gi_wp2;go_ret;exact ⟨rfl,Z8.more Wp.out HP.out hk1,ht1.mono fun k h=>.inl h⟩
end
end
end Go.Proofs.YthnenedoblncjaaGreatDoor