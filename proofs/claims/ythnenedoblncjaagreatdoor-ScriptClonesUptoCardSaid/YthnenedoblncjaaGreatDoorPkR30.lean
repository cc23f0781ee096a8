/- Ops OpFns AnswerE -/
import Derived.Maps.OwnSet
import Derived.Test.YthnenedoblncjaaGreatDoorPkR24
set_option maxRecDepth 1000000
set_option maxHeartbeats 8000000
namespace Go.Proofs.YthnenedoblncjaaGreatDoor
open Go.Proofs.Tryz
open List (getElem_toArray getElem_cons_succ getElem_cons_zero setIfInBounds_toArray set_cons_zero set_cons_succ)
section
open Go.RowKit Go.Shelf Go.Maps
def qD(v:Value):Option (DataW Unit × List MemPlace) :=
 match v with
 | .agg cs=>match cs.toList with
   | [.func (.func n) f c]=>if f.size=0/\c.size=0 then some (.lit (.int .i64 n),[]) else some (.lit (.int .i64 0),[])
   | _=>some (.lit (.int .i64 0),[])
 | _=>some (.lit (.int .i64 0),[])
theorem yw{n:Nat}{ps:List MemPlace}(hn:n≠0):¬ (some ((DataW.lit (.int .i64 0):DataW Unit),([]:List MemPlace))=some (.lit (.int .i64 (n:Int)),ps)):=fun h=>by
 injection h with h;injection h with h _;injection h with h;injection h with _ h;omega
theorem LB{v:Value}{n:Nat}{ps:List MemPlace}(hn:n≠0)(h:qD v=some (.lit (.int .i64 n),ps)):v=.agg #[.func (.func n) #[] #[]]:=by
 unfold qD at h;split at h
 · rename_i cs
   split at h
   · rename_i m f c he
     split at h
     · rename_i hz
       simp at h;obtain ⟨h,_⟩:=h;obtain rfl:m=n:=by first|exact h|exact Int.ofNat.inj h
       have:cs=#[.func (.func m) f c]:=(by rw [<- Array.toArray_toList (xs:=cs),he]);rw [this,Array.eq_empty_of_size_eq_zero hz.1,Array.eq_empty_of_size_eq_zero hz.2]
     · exact absurd h (yw hn)
   · exact absurd h (yw hn)
 · exact absurd h (yw hn)
def zdu:DataW Unit:=(((DataW.map []).put (.int .i64 1) (.lit (.int .i64 330))).put (.int .i64 2) (.lit (.int .i64 331))).put (.int .i64 3) (.lit (.int .i64 332)) |>.put (.int .i64 4) (.lit (.int .i64 333))
theorem NC(n:Int)(h0:0<=n)(h1:n<=100):keyOf prog 3 (.int .i64 n)=some (.int .i64 n):=keyOf_int_mk underlying3 (WalkArith.wf_i64 (by omega))
def Js(w:World)(b:Nat):Prop:=w.ownsMap prog 3 qD b 4 zdu
theorem Rp(w:World):Calls prog 290 #[] w fun e w'=>e=.returned (.map (some w.heap.size))/\Below w.heap.size w w'/\Js w' w.heap.size:=by
 have hmm:=@run_makeMap prog;have BK:=World.ownsMap_made w prog 3 qD;obtain ⟨w1,zhx,YZ,hg1⟩:=BK.update VP underlying344 (by unfold maxLen;omega) (NC 1 (by omega) (by omega)) (show qD (.agg #[.func (.func 330) #[] #[]])=some (.lit (.int .i64 330),[]) from rfl);obtain ⟨w2,zhy,Yd,hg2⟩:=YZ.update VP underlying344 (by unfold maxLen;omega) (NC 2 (by omega) (by omega)) (show qD (.agg #[.func (.func 331) #[] #[]])=some (.lit (.int .i64 331),[]) from rfl);obtain ⟨w3,zhz,Zt,hg3⟩:=Yd.update VP underlying344 (by unfold maxLen;omega) (NC 3 (by omega) (by omega)) (show qD (.agg #[.func (.func 332) #[] #[]])=some (.lit (.int .i64 332),[]) from rfl);obtain ⟨w4,zia,Y1,hg4⟩:=Zt.update VP underlying344 (by unfold maxLen;omega) (NC 4 (by omega) (by omega)) (show qD (.agg #[.func (.func 333) #[] #[]])=some (.lit (.int .i64 333),[]) from rfl);have hb:Below w.heap.size w w4:=((((Z5 (Below.refl w.heap.size w) (.map #[] 0)).grown hg1 (by simp) (fun k e=>by cases e;exact Nat.le_refl _)).grown hg2 (Nat.le_trans (by simp) hg1.size) (fun k e=>by cases e;exact Nat.le_refl _)).grown hg3 (Nat.le_trans (Nat.le_trans (by simp) hg1.size) hg2.size) (fun k e=>by cases e;exact Nat.le_refl _)).grown hg4 (Nat.le_trans (Nat.le_trans (Nat.le_trans (by simp) hg1.size) hg2.size) hg3.size) (fun k e=>by cases e;exact Nat.le_refl _);have HB:=hide hb;have HO:=hide (show Js w4 w.heap.size from Y1);clear BK YZ Yd Zt Y1 hg1 hg2 hg3 hg4 hb;go_enter func290,ntmps290;go_wp2;go_ret;exact ⟨rfl,HB.out,HO.out⟩
theorem Js.step{w w':World}{b:Nat}(h:Js w b)(hb:Below w.heap.size w w'):Js w' b:=World.ownsMap.kept h (below_grown hb) (by simp)
theorem CG{w:World}{b:Nat}(h:Js w b)(op:Int)(n:Nat)(hn:op=1/\n=330\/op=2/\n=331\/op=3/\n=332\/op=4/\n=333):
 (Instr.lookup 344 (.map (some b)) (.int .i64 op) true).run prog w=.ok (.tuple #[.agg #[.func (.func n) #[] #[]],.bool true]) w:=by
 have hz:(zeroValue 342).run prog w=.ok (.agg #[.nilFunc]) w:=by kernel_rfl
 have hk:keyOf prog 3 (.int .i64 op)=some (.int .i64 op):=NC op (by omega) (by omega);obtain ⟨v,ps,hrun,hv⟩:=World.ownsMap.look_ok h VP underlying344 hz (show qD (.agg #[.nilFunc])=some (.lit (.int .i64 0),[]) from rfl) hk;rcases hn with ⟨rfl,rfl⟩|⟨rfl,rfl⟩|⟨rfl,rfl⟩|⟨rfl,rfl⟩
 · have hv':qD v=some (.lit (.int .i64 ((330:Nat):Int)),ps):=hv;obtain rfl:=LB (by decide) hv';rw [hrun];rfl
 · have hv':qD v=some (.lit (.int .i64 ((331:Nat):Int)),ps):=hv;obtain rfl:=LB (by decide) hv';rw [hrun];rfl
 · have hv':qD v=some (.lit (.int .i64 ((332:Nat):Int)),ps):=hv;obtain rfl:=LB (by decide) hv';rw [hrun];rfl
 · have hv':qD v=some (.lit (.int .i64 ((333:Nat):Int)),ps):=hv;obtain rfl:=LB (by decide) hv';rw [hrun];rfl
theorem CJ{w:World}{b:Nat}(h:Js w b):
 (Instr.lookup 344 (.map (some b)) (.int .i64 5) true).run prog w=.ok (.tuple #[.agg #[.nilFunc],.bool false]) w:=by
 have hz:(zeroValue 342).run prog w=.ok (.agg #[.nilFunc]) w:=by kernel_rfl
 have hk:keyOf prog 3 (.int .i64 5)=some (.int .i64 5):=NC 5 (by omega) (by omega);obtain ⟨es,clock,hb,F,_,hD⟩:=h;rcases Maps.fit_look true VP underlying344 hz hb F hk with ⟨hrun,_,hat⟩|⟨e0,y,h1,h2,hrun,hRv,hat,h3⟩
 · exact hrun
 · exfalso
   rw [<- hD] at hat;have a:(DataW.lit (.int .i64 0):DataW Unit)=.lit (.int .i64 1):=(show _=_ from (hat (.lit (.int .i64 0)))).trans (show _=_ from (hat (.lit (.int .i64 1)))).symm;injection a with a;injection a with _ a;omega
end
section
open Go.RowKit Go.Shelf
def Qy(w:World)(b off:Nat)(ps:List Pt)(j:Nat):Prop:=w.cell? ⟨b,off+j*2,none⟩=some (.int .i64 (ZX ps j).1)/\w.cell? ⟨b,off+j*2+1,none⟩=some (.int .i64 (ZX ps j).2)
theorem OY{w:World}{P:Nat->Prop}{A:Option Addr}{ps:List Pt}(h:Wp w P A (Zl ps))(hn:0<ps.length):∃ b off,A=some ⟨b,off,none⟩/\P b/\∀ w',Z9 P w w'->∀ j,j<ps.length->Qy w' b off ps j:=by
 rcases h with h|⟨b,off,hA,hb,hc⟩
 · exfalso
   have h2:(Zl ps).length=ps.length*2:=Y5 (fun p:Int × Int=>[Value.int .i64 p.1,.int .i64 p.2]) 2 (fun _=>rfl) ps;rw [h] at h2;simp at h2;omega
 · subst hA;refine ⟨b,off,rfl,hb,fun w' hk j hj=>?_⟩;have hb':Sl w' (b+1) (some ⟨b,off,none⟩) (Zl ps):=.inr ⟨b,off,rfl,by omega,fun j u hu=>(hk.cell hb _).trans (hc j u hu)⟩;exact M4 hb' hj
theorem Qy.step{w w':World}{b off:Nat}{ps:List Pt}{j:Nat}(h:Qy w b off ps j)(hb:Below w.heap.size w w'):Qy w' b off ps j :=
 ⟨(hb.cell (p:=⟨b,off+j*2,none⟩) (Zz h.1)).trans h.1,(hb.cell (p:=⟨b,off+j*2+1,none⟩) (Zz h.2)).trans h.2⟩
section
variable (P:Nat->Prop)(t:Option (Nat × Nat))(es:List Ev)(op vs ZY:Int)(HA:Option Addr)(hn hc:Nat)(gs:List Gr)(GA:Option Addr)(gc:Nat)(ps:List Pt)(PA:Option Addr)(pc:Nat)(QA:Option Addr)(qn qc:Nat)(w:World)
variable (hP:∀ k,P k->k<w.heap.size)(hg0:P 8)(hw:MW w)(ht:Tp w P t es)(hl:es.length<=600000)(hps:LW ps)(hs:Wp w P PA (Zl ps))
include hP hg0 hw ht hl hps hs
omit ht hl hg0 in
theorem aG(hlen:ps.length=3):Calls prog 330 #[.pointer (ZG t),.agg #[.int .i64 op,.int .i64 vs,.slice HA hn hc,.int .i64 ZY,.slice GA gs.length gc,.slice PA ps.length pc,.slice QA qn qc]] w fun e w'=>e=.returned (.int .i64 ((Zw (ZX ps 0) (ZX ps 1) (ZX ps 2)).sign+1))/\Below w.heap.size w w':=by
 obtain ⟨b,off,rfl,hb,hcs⟩:=OY hs (by omega);obtain ⟨w0,hw0⟩:=eE (w.alloc (.cells #[.int .i64 op,.int .i64 vs,.slice HA hn hc,.int .i64 ZY,.slice GA gs.length gc,.slice (some ⟨b,off,none⟩) 3 pc,.slice QA qn qc] 182));have hb0:=bE hw0;have B0:Z7 w0 w.heap.size 182 #[.int .i64 op,.int .i64 vs,.slice HA hn hc,.int .i64 ZY,.slice GA gs.length gc,.slice (some ⟨b,off,none⟩) 3 pc,.slice QA qn qc]:=by rw [hw0];exact Z7.new _ _ _
 have hk0:Z9 P w w0:=Z9.of_below hb0 hP;have Q0:=hcs w0 hk0 0 (by omega);have Q1:=hcs w0 hk0 1 (by omega);have Q2:=hcs w0 hk0 2 (by omega);obtain ⟨os,hos⟩:=eE ((Zw (ZX ps 0) (ZX ps 1) (ZX ps 2)).sign);have D9:os=-1\/os=0\/os=1:=by rw [hos];exact W9 _
 have TF:=fun w (hM:MW w)=>Wh (ZX ps 0) (ZX ps 1) (ZX ps 2) (hps.at_ 0) (hps.at_ 1) (hps.at_ 2) w hM;rw [<- hos] at TF;have sQ:=hide (TF w0.drew ((hw.step hb0).step (ZV (Below.refl _ _))));have hwr:IntKind.i64.wrap (os+1)=os+1:=by rw [IntKind.wrap_i64];omega
 have Yv:prog.follows .mixedOrders=true:=by kernel_rfl
 rw [<- hos,hlen];clear hos D9 TF hcs hk0 hlen hs hps hw hP;refine (callsIn_wide (n:=6)).1 ?_;refine callsIn_of_wp func330 rfl trivial ?_ rfl;simp only [ntmps330,List.size_toArray,List.length_cons,List.length_nil,Nat.reduceAdd,Nat.reduceSub,Array.replicate_succ,Array.replicate_zero,List.push_toArray,List.append_toArray,List.nil_append,List.cons_append];gi_wp2_with fail;rw [<- hw0];clear hw0;refine Yz 1000 (S:=fun w'=>Z7 w' w.heap.size 182 #[.int .i64 op,.int .i64 vs,.slice HA hn hc,.int .i64 ZY,.slice GA gs.length gc,.slice (some ⟨b,off,none⟩) 3 pc,.slice QA qn qc]/\Qy w' b off ps 0/\Qy w' b off ps 1/\Qy w' b off ps 2) Yv ?_;have hS:Z7 w0.drew w.heap.size 182 #[.int .i64 op,.int .i64 vs,.slice HA hn hc,.int .i64 ZY,.slice GA gs.length gc,.slice (some ⟨b,off,none⟩) 3 pc,.slice QA qn qc]/\Qy w0.drew b off ps 0/\Qy w0.drew b off ps 1/\Qy w0.drew b off ps 2:=⟨B0.drew,Q0,Q1,Q2⟩;refine' Z0 (i:=0) rfl ?VK hS ?Uz
 case VK =>
  intro w' hSw;go_simp;rfl
 simp only [Act.put,getElem_toArray,getElem_cons_zero,setIfInBounds_toArray,set_cons_zero,set_cons_succ];refine' Z0 (i:=1) rfl ?VL hS ?UA
 case VL =>
  intro w' hSw;obtain ⟨r0,q0,q1,q2⟩:=hSw;have z5:=r0.q5 rfl;go_simp;rfl
 simp only [Act.put,Z6];refine' Z0 (i:=2) rfl ?VN hS ?UC
 case VN =>
  intro w' hSw;go_simp;rfl
 simp only [Act.put,Z6];refine' Z0 (i:=3) rfl ?U1 hS ?Tm
 case U1 =>
  intro w' hSw;obtain ⟨r0,q0,q1,q2⟩:=hSw;have z0:w'.cell? ⟨b,off,none⟩=some (.int .i64 (ZX ps 0).1):=by simpa using q0.1
  have z1:w'.cell? ⟨b,off+1,none⟩=some (.int .i64 (ZX ps 0).2):=by simpa using q0.2
  go_simp;rfl
 simp only [Act.put,Z6];refine' Z0 (i:=4) rfl ?Oz hS ?LG
 case Oz =>
  intro w' hSw;go_simp;rfl
 simp only [Act.put,Z6];refine' Z0 (i:=5) rfl ?OB hS ?LH
 case OB =>
  intro w' hSw;obtain ⟨r0,q0,q1,q2⟩:=hSw;have z5:=r0.q5 rfl;go_simp;rfl
 simp only [Act.put,Z6];refine' Z0 (i:=6) rfl ?jB hS ?aY
 case jB =>
  intro w' hSw;go_simp;rfl
 simp only [Act.put,Z6];refine' Z0 (i:=7) rfl ?jF hS ?aZ
 case jF =>
  intro w' hSw;obtain ⟨r0,q0,q1,q2⟩:=hSw;have z0:w'.cell? ⟨b,off+2,none⟩=some (.int .i64 (ZX ps 1).1):=by simpa using q1.1
  have z1:w'.cell? ⟨b,off+2+1,none⟩=some (.int .i64 (ZX ps 1).2):=by simpa using q1.2
  have z2:w'.cell? ⟨b,off+3,none⟩=some (.int .i64 (ZX ps 1).2):=z1;go_simp;rfl
 simp only [Act.put,Z6];refine' Z0 (i:=8) rfl ?ziw hS ?zel
 case ziw =>
  intro w' hSw;go_simp;rfl
 simp only [Act.put,Z6];refine' Z0 (i:=9) rfl ?ztm hS ?zlw
 case ztm =>
  intro w' hSw;obtain ⟨r0,q0,q1,q2⟩:=hSw;have z5:=r0.q5 rfl;go_simp;rfl
 simp only [Act.put,Z6];refine' Z0 (i:=10) rfl ?zyb hS ?zmy
 case zyb =>
  intro w' hSw;go_simp;rfl
 simp only [Act.put,Z6];refine' Z0 (i:=11) rfl ?zyh hS ?zne
 case zyh =>
  intro w' hSw;obtain ⟨r0,q0,q1,q2⟩:=hSw;have z0:w'.cell? ⟨b,off+4,none⟩=some (.int .i64 (ZX ps 2).1):=by simpa using q2.1
  have z1:w'.cell? ⟨b,off+4+1,none⟩=some (.int .i64 (ZX ps 2).2):=by simpa using q2.2
  have z2:w'.cell? ⟨b,off+5,none⟩=some (.int .i64 (ZX ps 2).2):=z1;go_simp;rfl
 simp only [Act.put,Z6];refine Zc (i:=12) (by kernel_rfl) rfl ?_;intro K hK;rw [if_pos (by rfl)];go_simp;refine ⟨trivial,?_⟩;refine (callsIn_wide.2 sQ.out).mono ?_;rintro e w1 ⟨rfl,hb1⟩;have hS1:Z7 w1 w.heap.size 182 #[.int .i64 op,.int .i64 vs,.slice HA hn hc,.int .i64 ZY,.slice GA gs.length gc,.slice (some ⟨b,off,none⟩) 3 pc,.slice QA qn qc]/\Qy w1 b off ps 0/\Qy w1 b off ps 1/\Qy w1 b off ps 2:=⟨hS.1.step hb1,(hS.2.1).step hb1,(hS.2.2.1).step hb1,(hS.2.2.2).step hb1⟩;refine hK.out _ _ (fun _=>hS1) ?_;clear hK K
 (try simp only [Act.put,Z6])
 refine' Z0 (i:=13) rfl ?zyo hS1 ?znl
 case zyo =>
  intro w' hSw;go_simp;rfl
 simp only [Act.put,Z6];refine' Z0 (i:=14) rfl ?zyq hS1 ?znn
 case zyq =>
  intro w' hSw;go_simp;rfl
 simp only [Act.put,Z6];refine Yc (by kernel_rfl) ?_ _;gi_wp2;go_ret;exact ⟨rfl,Z8 (ZV hb0) hb1⟩
omit ht hl hg0 in
theorem aH(hlen:ps.length=4):Calls prog 331 #[.pointer (ZG t),.agg #[.int .i64 op,.int .i64 vs,.slice HA hn hc,.int .i64 ZY,.slice GA gs.length gc,.slice PA ps.length pc,.slice QA qn qc]] w fun e w'=>e=.returned (.int .i64 ((Yq (ZX ps 0) (ZX ps 1) (ZX ps 2) (ZX ps 3)).sign+1))/\Below w.heap.size w w':=by
 obtain ⟨b,off,rfl,hb,hcs⟩:=OY hs (by omega);obtain ⟨w0,hw0⟩:=eE (w.alloc (.cells #[.int .i64 op,.int .i64 vs,.slice HA hn hc,.int .i64 ZY,.slice GA gs.length gc,.slice (some ⟨b,off,none⟩) 4 pc,.slice QA qn qc] 182));have hb0:=bE hw0;have B0:Z7 w0 w.heap.size 182 #[.int .i64 op,.int .i64 vs,.slice HA hn hc,.int .i64 ZY,.slice GA gs.length gc,.slice (some ⟨b,off,none⟩) 4 pc,.slice QA qn qc]:=by rw [hw0];exact Z7.new _ _ _
 have hk0:Z9 P w w0:=Z9.of_below hb0 hP;have Q0:=hcs w0 hk0 0 (by omega);have Q1:=hcs w0 hk0 1 (by omega);have Q2:=hcs w0 hk0 2 (by omega);have Q3:=hcs w0 hk0 3 (by omega);obtain ⟨os,hos⟩:=eE ((Yq (ZX ps 0) (ZX ps 1) (ZX ps 2) (ZX ps 3)).sign);have D9:os=-1\/os=0\/os=1:=by rw [hos];exact W9 _
 have TF:=fun w (hM:MW w)=>Nq (ZX ps 0) (ZX ps 1) (ZX ps 2) (ZX ps 3) (hps.at_ 0) (hps.at_ 1) (hps.at_ 2) (hps.at_ 3) w hM;rw [<- hos] at TF;have sQ:=hide (TF w0.drew ((hw.step hb0).step (ZV (Below.refl _ _))));have hwr:IntKind.i64.wrap (os+1)=os+1:=by rw [IntKind.wrap_i64];omega
 have Yv:prog.follows .mixedOrders=true:=by kernel_rfl
 rw [<- hos,hlen];clear hos D9 TF hcs hk0 hlen hs hps hw hP;refine (callsIn_wide (n:=6)).1 ?_;refine callsIn_of_wp func331 rfl trivial ?_ rfl;simp only [ntmps331,List.size_toArray,List.length_cons,List.length_nil,Nat.reduceAdd,Nat.reduceSub,Array.replicate_succ,Array.replicate_zero,List.push_toArray,List.append_toArray,List.nil_append,List.cons_append];gi_wp2_with fail;rw [<- hw0];clear hw0;refine Yz 1000 (S:=fun w'=>Z7 w' w.heap.size 182 #[.int .i64 op,.int .i64 vs,.slice HA hn hc,.int .i64 ZY,.slice GA gs.length gc,.slice (some ⟨b,off,none⟩) 4 pc,.slice QA qn qc]/\Qy w' b off ps 0/\Qy w' b off ps 1/\Qy w' b off ps 2/\Qy w' b off ps 3) Yv ?_;have hS:Z7 w0.drew w.heap.size 182 #[.int .i64 op,.int .i64 vs,.slice HA hn hc,.int .i64 ZY,.slice GA gs.length gc,.slice (some ⟨b,off,none⟩) 4 pc,.slice QA qn qc]/\Qy w0.drew b off ps 0/\Qy w0.drew b off ps 1/\Qy w0.drew b off ps 2/\Qy w0.drew b off ps 3:=⟨B0.drew,Q0,Q1,Q2,Q3⟩;refine' Z0 (i:=0) rfl ?zqz hS ?zji
 case zqz =>
  intro w' hSw;go_simp;rfl
 simp only [Act.put,getElem_toArray,getElem_cons_zero,setIfInBounds_toArray,set_cons_zero,set_cons_succ];refine' Z0 (i:=1) rfl ?zrk hS ?zju
 case zrk =>
  intro w' hSw;obtain ⟨r0,q0,q1,q2,q3⟩:=hSw;have z5:=r0.q5 rfl;go_simp;rfl
 simp only [Act.put,Z6];refine' Z0 (i:=2) rfl ?zrt hS ?zkd
 case zrt =>
  intro w' hSw;go_simp;rfl
 simp only [Act.put,Z6];refine' Z0 (i:=3) rfl ?zsc hS ?zkm
 case zsc =>
  intro w' hSw;obtain ⟨r0,q0,q1,q2,q3⟩:=hSw;have z0:w'.cell? ⟨b,off,none⟩=some (.int .i64 (ZX ps 0).1):=by simpa using q0.1
  have z1:w'.cell? ⟨b,off+1,none⟩=some (.int .i64 (ZX ps 0).2):=by simpa using q0.2
  go_simp;rfl
 simp only [Act.put,Z6];refine' Z0 (i:=4) rfl ?zsk hS ?zku
 case zsk =>
  intro w' hSw;go_simp;rfl
 simp only [Act.put,Z6];refine' Z0 (i:=5) rfl ?zsq hS ?zla
 case zsq =>
  intro w' hSw;obtain ⟨r0,q0,q1,q2,q3⟩:=hSw;have z5:=r0.q5 rfl;go_simp;rfl
 simp only [Act.put,Z6];refine' Z0 (i:=6) rfl ?zsy hS ?zli
 case zsy =>
  intro w' hSw;go_simp;rfl
 simp only [Act.put,Z6];refine' Z0 (i:=7) rfl ?ztf hS ?zlp
 case ztf =>
  intro w' hSw;obtain ⟨r0,q0,q1,q2,q3⟩:=hSw;have z0:w'.cell? ⟨b,off+2,none⟩=some (.int .i64 (ZX ps 1).1):=by simpa using q1.1
  have z1:w'.cell? ⟨b,off+2+1,none⟩=some (.int .i64 (ZX ps 1).2):=by simpa using q1.2
  have z2:w'.cell? ⟨b,off+3,none⟩=some (.int .i64 (ZX ps 1).2):=z1;go_simp;rfl
 simp only [Act.put,Z6];refine' Z0 (i:=8) rfl ?ztj hS ?zlt
 case ztj =>
  intro w' hSw;go_simp;rfl
 simp only [Act.put,Z6];refine' Z0 (i:=9) rfl ?ztp hS ?zlz
 case ztp =>
  intro w' hSw;obtain ⟨r0,q0,q1,q2,q3⟩:=hSw;have z5:=r0.q5 rfl;go_simp;rfl
 simp only [Act.put,Z6];refine' Z0 (i:=10) rfl ?zyd hS ?zna
 case zyd =>
  intro w' hSw;go_simp;rfl
 simp only [Act.put,Z6];refine' Z0 (i:=11) rfl ?zyj hS ?zng
 case zyj =>
  intro w' hSw;obtain ⟨r0,q0,q1,q2,q3⟩:=hSw;have z0:w'.cell? ⟨b,off+4,none⟩=some (.int .i64 (ZX ps 2).1):=by simpa using q2.1
  have z1:w'.cell? ⟨b,off+4+1,none⟩=some (.int .i64 (ZX ps 2).2):=by simpa using q2.2
  have z2:w'.cell? ⟨b,off+5,none⟩=some (.int .i64 (ZX ps 2).2):=z1;go_simp;rfl
 simp only [Act.put,Z6];refine' Z0 (i:=12) rfl ?zyn hS ?znk
 case zyn =>
  intro w' hSw;go_simp;rfl
 simp only [Act.put,Z6];refine' Z0 (i:=13) rfl ?zyp hS ?znm
 case zyp =>
  intro w' hSw;obtain ⟨r0,q0,q1,q2,q3⟩:=hSw;have z5:=r0.q5 rfl;go_simp;rfl
 simp only [Act.put,Z6];refine' Z0 (i:=14) rfl ?zyr hS ?zno
 case zyr =>
  intro w' hSw;go_simp;rfl
 simp only [Act.put,Z6];refine' Z0 (i:=15) rfl ?zys hS ?znp
 case zys =>
  intro w' hSw;obtain ⟨r0,q0,q1,q2,q3⟩:=hSw;have z0:w'.cell? ⟨b,off+6,none⟩=some (.int .i64 (ZX ps 3).1):=by simpa using q3.1
  have z1:w'.cell? ⟨b,off+6+1,none⟩=some (.int .i64 (ZX ps 3).2):=by simpa using q3.2
  have z2:w'.cell? ⟨b,off+7,none⟩=some (.int .i64 (ZX ps 3).2):=z1;go_simp;rfl
 simp only [Act.put,Z6];refine Zc (i:=16) (by kernel_rfl) rfl ?_;intro K hK;rw [if_pos (by rfl)];go_simp;refine ⟨trivial,?_⟩;refine (callsIn_wide.2 sQ.out).mono ?_;rintro e w1 ⟨rfl,hb1⟩;have hS1:Z7 w1 w.heap.size 182 #[.int .i64 op,.int .i64 vs,.slice HA hn hc,.int .i64 ZY,.slice GA gs.length gc,.slice (some ⟨b,off,none⟩) 4 pc,.slice QA qn qc]/\Qy w1 b off ps 0/\Qy w1 b off ps 1/\Qy w1 b off ps 2/\Qy w1 b off ps 3:=⟨hS.1.step hb1,(hS.2.1).step hb1,(hS.2.2.1).step hb1,(hS.2.2.2.1).step hb1,(hS.2.2.2.2).step hb1⟩;refine hK.out _ _ (fun _=>hS1) ?_;clear hK K
 (try simp only [Act.put,Z6])
 refine' Z0 (i:=17) rfl ?zyt hS1 ?znq
 case zyt =>
  intro w' hSw;go_simp;rfl
 simp only [Act.put,Z6];refine' Z0 (i:=18) rfl ?zyu hS1 ?znr
 case zyu =>
  intro w' hSw;go_simp;rfl
 simp only [Act.put,Z6];refine Yc (by kernel_rfl) ?_ _;gi_wp2;go_ret;exact ⟨rfl,Z8 (ZV hb0) hb1⟩
end
theorem Qy.kept{w w':World}{P:Nat->Prop}{b off:Nat}{ps:List Pt}{j:Nat}(h:Qy w b off ps j)(hk:Z9 P w w')(hb:P b):Qy w' b off ps j:=⟨(hk.cell hb _).trans h.1,(hk.cell hb _).trans h.2⟩
theorem NJ(ps:List Pt)(n j:Nat)(u:Value)(h:(Zl (ps.take n))[j]?=some u):(Zl ps)[j]?=some u:=by
 have e:Zl ps=Zl (ps.take n)++Zl (ps.drop n):=by
  unfold Zl;rw [<- List.flatMap_append,List.take_append_drop]
 rw [e,List.getElem?_append_left (List.getElem?_eq_some_iff.1 h).1];exact h
theorem Wp.zmv{w:World}{P:Nat->Prop}{A:Option Addr}{ps:List Pt}(h:Wp w P A (Zl ps))(n:Nat):Wp w P A (Zl (ps.take n)):=by
 rcases h with h|⟨b,off,hA,hb,hc⟩
 · left
   cases ps with
   | nil=>simp [Zl]
   | cons p ps=>simp [Zl] at h
 · exact .inr ⟨b,off,hA,hb,fun j u hu=>hc j u (NJ ps n j u hu)⟩
theorem LW.zmu{ps:List Pt}(h:LW ps)(n:Nat):LW (ps.take n):=fun p hp=>h p (List.mem_of_mem_take hp)
section
variable (P:Nat->Prop)(t:Option (Nat × Nat))(es:List Ev)(op vs ZY:Int)(HA:Option Addr)(hn hc:Nat)(gs:List Gr)(GA:Option Addr)(gc:Nat)(ps:List Pt)(PA:Option Addr)(pc:Nat)(QA:Option Addr)(qn qc:Nat)(w:World)
variable (hP:∀ k,P k->k<w.heap.size)(hg0:P 8)(hw:MW w)(ht:Tp w P t es)(hl:es.length<=600000)(hps:LW ps)(hs:Wp w P PA (Zl ps))
include hP hg0 hw ht hl hps hs
theorem aI(n:Nat)(hlen:ps.length=n+1)(iR:n<=64)(hcap:n+1<=pc):Calls prog 332 #[.pointer (ZG t),.agg #[.int .i64 op,.int .i64 vs,.slice HA hn hc,.int .i64 ZY,.slice GA gs.length gc,.slice PA ps.length pc,.slice QA qn qc]] w fun e w'=>e=.returned (.int .i64 (XE (ps.take n) (ZX ps n)))/\Z9 P w w'/\Tp w' P t (es++JN n):=by
 obtain ⟨w0,hw0⟩:=eE (w.alloc (.cells #[.int .i64 op,.int .i64 vs,.slice HA hn hc,.int .i64 ZY,.slice GA gs.length gc,.slice PA (n+1) pc,.slice QA qn qc] 182));have hb0:=bE hw0;have B0:Z7 w0 w.heap.size 182 #[.int .i64 op,.int .i64 vs,.slice HA hn hc,.int .i64 ZY,.slice GA gs.length gc,.slice PA (n+1) pc,.slice QA qn qc]:=by rw [hw0];exact Z7.new _ _ _
 have hk0:Z9 P w w0.drew:=(Z9.of_below hb0 hP).trans (Z9.drew _ _);have hlt:(ps.take n).length=n:=by rw [List.length_take];omega
 have hbd:Below w.heap.size w w0.drew:=ZV hb0;have Jo:=JO (More P w w0.drew) t es (ZX ps n) (hps.at_ n) w0.drew (Yr hP hbd) (.inl hg0) (hw.kept hk0 hg0) (ht.more hbd) hl (ps.take n) (hps.zmu n) (by omega) PA pc (((hs.zmv n).kept hk0).mono fun k h=>.inl h);have HI:Hid (More P w w0.drew w.heap.size):=.inr ⟨Nat.le_refl _,B0.lt⟩;rw [hlt] at Jo;have HC:=hide Jo;obtain ⟨b,off,rfl,hb,hcs⟩:=OY hs (by omega);have Q:=hcs w0.drew hk0 n (by omega);have hwr:IntKind.i64.wrap ((n:Nat):Int)=(n:Int):=by rw [IntKind.wrap_i64];omega
 have hni:((n:Nat):Int)<((n:Int)+1):=by omega
 have hci:((n:Nat):Int)<=((pc:Nat):Int):=by omega
 have hcn:n<=pc:=by omega
 have Yv:prog.follows .mixedOrders=true:=by kernel_rfl
 obtain ⟨r,hr⟩:=eE (XE (ps.take n) (ZX ps n));rw [<- hr] at HC;rw [<- hr,hlen];have NV:=hide hk0;have HP:=hide hP;have Xe:=hide hbd;clear hbd hr Jo hcs hk0 hlen hs hps hw hg0 hP ht hl hlt;refine (callsIn_wide (n:=6)).1 ?_;refine callsIn_of_wp func332 rfl trivial ?_ rfl;simp only [ntmps332,List.size_toArray,List.length_cons,List.length_nil,Nat.reduceAdd,Nat.reduceSub,Array.replicate_succ,Array.replicate_zero,List.push_toArray,List.append_toArray,List.nil_append,List.cons_append];gi_wp2_with fail;rw [<- hw0];clear hw0;refine Yz 1000 (S:=fun w'=>Z7 w' w.heap.size 182 #[.int .i64 op,.int .i64 vs,.slice HA hn hc,.int .i64 ZY,.slice GA gs.length gc,.slice (some ⟨b,off,none⟩) (n+1) pc,.slice QA qn qc]/\Qy w' b off ps n) Yv ?_;have hS:Z7 w0.drew w.heap.size 182 #[.int .i64 op,.int .i64 vs,.slice HA hn hc,.int .i64 ZY,.slice GA gs.length gc,.slice (some ⟨b,off,none⟩) (n+1) pc,.slice QA qn qc]/\Qy w0.drew b off ps n:=⟨B0.drew,Q⟩;refine' Z0 (i:=0) rfl ?zrd hS ?zjm
 case zrd =>
  intro w' hSw;go_simp;rfl
 simp only [Act.put,getElem_toArray,getElem_cons_zero,setIfInBounds_toArray,set_cons_zero,set_cons_succ];refine' Z0 (i:=1) rfl ?zrp hS ?zjz
 case zrp =>
  intro w' hSw;go_simp;rfl
 simp only [Act.put,Z6];refine' Z0 (i:=2) rfl ?zrx hS ?zkh
 case zrx =>
  intro w' hSw;obtain ⟨r0,q⟩:=hSw;have z5:=r0.q5 rfl;go_simp;rfl
 simp only [Act.put,Z6];refine' Z0 (i:=3) rfl ?zsf hS ?zkp
 case zsf =>
  intro w' hSw;go_simp;rfl
 simp only [Act.put,Z6];refine' Z0 (i:=4) rfl ?zsl hS ?zkv
 case zsl =>
  intro w' hSw;go_simp;rfl
 simp only [Act.put,Z6];refine' Z0 (i:=5) rfl ?zst hS ?zld
 case zst =>
  intro w' hSw;go_simp;rfl
 simp only [Act.put,Z6];refine' Z0 (i:=6) rfl ?ztb hS ?zll
 case ztb =>
  intro w' hSw;obtain ⟨r0,q⟩:=hSw;have z5:=r0.q5 rfl;go_simp;rfl
 simp only [Act.put,Z6];refine' Z0 (i:=7) rfl ?ztg hS ?zlq
 case ztg =>
  intro w' hSw;go_simp;rfl
 simp only [Act.put,Z6];refine' Z0 (i:=8) rfl ?ztk hS ?zlu
 case ztk =>
  intro w' hSw;go_simp;rfl
 simp only [Act.put,Z6];refine' Z0 (i:=9) rfl ?zts hS ?zmc
 case zts =>
  intro w' hSw;obtain ⟨r0,q⟩:=hSw;have z0:=q.1;have z1:=q.2;go_simp;rfl
 simp only [Act.put,Z6];refine Zc (i:=10) (by kernel_rfl) rfl ?_;intro K hK;rw [if_pos (by rfl)];go_simp;refine ⟨trivial,?_⟩;refine (callsIn_wide.2 HC.out).mono ?_;rintro e w1 ⟨rfl,hk1,ht1⟩;have hS1:Z7 w1 w.heap.size 182 #[.int .i64 op,.int .i64 vs,.slice HA hn hc,.int .i64 ZY,.slice GA gs.length gc,.slice (some ⟨b,off,none⟩) (n+1) pc,.slice QA qn qc]/\Qy w1 b off ps n:=⟨hS.1.kept hk1 HI.out,hS.2.kept hk1 (.inl hb)⟩;refine hK.out _ _ (fun _=>hS1) ?_;clear hK K
 (try simp only [Act.put,Z6])
 refine' Z0 (i:=11) rfl ?zym hS1 ?znj
 case zym =>
  intro w' hSw;go_simp;rfl
 simp only [Act.put,Z6];refine Yc (by kernel_rfl) ?_ _;gi_wp2;go_ret;exact ⟨rfl,Z9.more Xe.out HP.out hk1,ht1.mono fun k h=>.inl h⟩
theorem aJ(hlen:ps.length=1)(hgc:Wp w P GA (rgCells (gs.map (·.1))))(hgs:vC w P gs):Calls prog 333 #[.pointer (ZG t),.agg #[.int .i64 op,.int .i64 vs,.slice HA hn hc,.int .i64 ZY,.slice GA gs.length gc,.slice PA ps.length pc,.slice QA qn qc]] w fun e w'=>e=.returned (.int .i64 (Xy gs (ZX ps 0)))/\Z9 P w w'/\Tp w' P t (es++Ll gs):=by
 obtain ⟨w0,hw0⟩:=eE (w.alloc (.cells #[.int .i64 op,.int .i64 vs,.slice HA hn hc,.int .i64 ZY,.slice GA gs.length gc,.slice PA 1 pc,.slice QA qn qc] 182));have hb0:=bE hw0;have B0:Z7 w0 w.heap.size 182 #[.int .i64 op,.int .i64 vs,.slice HA hn hc,.int .i64 ZY,.slice GA gs.length gc,.slice PA 1 pc,.slice QA qn qc]:=by rw [hw0];exact Z7.new _ _ _
 have hk0:Z9 P w w0.drew:=(Z9.of_below hb0 hP).trans (Z9.drew _ _);have hbd:Below w.heap.size w w0.drew:=ZV hb0;have Jo:=JW (More P w w0.drew) t es (ZX ps 0) (hps.at_ 0) w0.drew (Yr hP hbd) (.inl hg0) (hw.kept hk0 hg0) (ht.more hbd) hl gs GA gc ((hgc.kept hk0).mono fun k h=>.inl h) (fun g hg=>⟨(hgs g hg).1,((hgs g hg).2.1.kept hk0).mono fun k h=>.inl h,(hgs g hg).2.2⟩);have HI:Hid (More P w w0.drew w.heap.size):=.inr ⟨Nat.le_refl _,B0.lt⟩;obtain ⟨b,off,rfl,hb,hcs⟩:=OY hs (by omega);have Q:=hcs w0.drew hk0 0 (by omega);have Yv:prog.follows .mixedOrders=true:=by kernel_rfl
 obtain ⟨r,hr⟩:=eE (Xy gs (ZX ps 0));rw [<- hr] at Jo;have HC:=hide Jo;rw [<- hr,hlen];have NV:=hide hk0;have HP:=hide hP;have Xe:=hide hbd;clear hbd hr Jo hcs hk0 hlen hs hps hw hg0 hP ht hl hgc hgs;refine (callsIn_wide (n:=6)).1 ?_;refine callsIn_of_wp func333 rfl trivial ?_ rfl;simp only [ntmps333,List.size_toArray,List.length_cons,List.length_nil,Nat.reduceAdd,Nat.reduceSub,Array.replicate_succ,Array.replicate_zero,List.push_toArray,List.append_toArray,List.nil_append,List.cons_append];gi_wp2_with fail;rw [<- hw0];clear hw0;refine Yz 1000 (S:=fun w'=>Z7 w' w.heap.size 182 #[.int .i64 op,.int .i64 vs,.slice HA hn hc,.int .i64 ZY,.slice GA gs.length gc,.slice (some ⟨b,off,none⟩) 1 pc,.slice QA qn qc]/\Qy w' b off ps 0) Yv ?_;have hS:Z7 w0.drew w.heap.size 182 #[.int .i64 op,.int .i64 vs,.slice HA hn hc,.int .i64 ZY,.slice GA gs.length gc,.slice (some ⟨b,off,none⟩) 1 pc,.slice QA qn qc]/\Qy w0.drew b off ps 0:=⟨B0.drew,Q⟩;refine' Z0 (i:=0) rfl ?zre hS ?zjn
 case zre =>
  intro w' hSw;go_simp;rfl
 simp only [Act.put,getElem_toArray,getElem_cons_zero,setIfInBounds_toArray,set_cons_zero,set_cons_succ];refine' Z0 (i:=1) rfl ?zrq hS ?zka
 case zrq =>
  intro w' hSw;go_simp;rfl
 simp only [Act.put,Z6];refine' Z0 (i:=2) rfl ?zrz hS ?zkj
 case zrz =>
  intro w' hSw;obtain ⟨r0,q⟩:=hSw;have z4:=r0.q4 rfl;go_simp;rfl
 simp only [Act.put,Z6];refine' Z0 (i:=3) rfl ?zsh hS ?zkr
 case zsh =>
  intro w' hSw;go_simp;rfl
 simp only [Act.put,Z6];refine' Z0 (i:=4) rfl ?zsm hS ?zkw
 case zsm =>
  intro w' hSw;obtain ⟨r0,q⟩:=hSw;have z5:=r0.q5 rfl;go_simp;rfl
 simp only [Act.put,Z6];refine' Z0 (i:=5) rfl ?zsu hS ?zle
 case zsu =>
  intro w' hSw;go_simp;rfl
 simp only [Act.put,Z6];refine' Z0 (i:=6) rfl ?ztc hS ?zlm
 case ztc =>
  intro w' hSw;obtain ⟨r0,q0⟩:=hSw;have z0:w'.cell? ⟨b,off,none⟩=some (.int .i64 (ZX ps 0).1):=by simpa using q0.1
  have z1:w'.cell? ⟨b,off+1,none⟩=some (.int .i64 (ZX ps 0).2):=by simpa using q0.2
  go_simp;rfl
 simp only [Act.put,Z6];refine Zc (i:=7) (by kernel_rfl) rfl ?_;intro K hK;rw [if_pos (by rfl)];go_simp;refine ⟨trivial,?_⟩;refine (callsIn_wide.2 HC.out).mono ?_;rintro e w1 ⟨rfl,hk1,ht1⟩;have hS1:Z7 w1 w.heap.size 182 #[.int .i64 op,.int .i64 vs,.slice HA hn hc,.int .i64 ZY,.slice GA gs.length gc,.slice (some ⟨b,off,none⟩) 1 pc,.slice QA qn qc]/\Qy w1 b off ps 0:=⟨hS.1.kept hk1 HI.out,hS.2.kept hk1 (.inl hb)⟩;refine hK.out _ _ (fun _=>hS1) ?_;clear hK K
 (try simp only [Act.put,Z6])
 refine' Z0 (i:=8) rfl ?ztl hS1 ?zlv
 case ztl =>
  intro w' hSw;go_simp;rfl
 simp only [Act.put,Z6];refine Yc (by kernel_rfl) ?_ _;gi_wp2;go_ret;exact ⟨rfl,Z9.more Xe.out HP.out hk1,ht1.mono fun k h=>.inl h⟩
end
end
section
open Go.RowKit Go.Shelf
section
variable {F:Fence}{n:Nat}{P:Program}{ops:Array Oper}{Q:Exit->Act->World->Prop}{md:Region.Mode}{S S':World->Prop}
theorem zmw {i j sk:Nat} {oi oj:Oper} {fuel:Nat} {listed:Array Bool} {a:Act} {w:World} (hr:Region.ready md ops listed=[i,j]) (hi:ops[i]?=some oi) (hj:ops[j]?=some oj)
 (h1:∀ K:Act->World->Prop,Shut (∀ a w,(i≠sk->S w)->YV F n P md ops Q S sk fuel (listed.setIfInBounds i true) a w->K a w)->if Region.wanted oi (yielded ops a.tmps)=true then Oper.wpIn F n P oi a w K Q else (∀ f,oi.about P w a.eval=some f->F.fn f)/\K (a.put oi.dst undef) w)
 (h2:∀ K:Act->World->Prop,Shut (∀ a w,(j≠sk->S w)->YV F n P md ops Q S sk fuel (listed.setIfInBounds j true) a w->K a w)->if Region.wanted oj (yielded ops a.tmps)=true then Oper.wpIn F n P oj a w K Q else (∀ f,oj.about P w a.eval=some f->F.fn f)/\K (a.put oj.dst undef) w) :
 YV F n P md ops Q S sk (fuel+1) listed a w :=
 ⟨fun h0=>(by rw [hr] at h0;cases h0),fun l hl=>by
   rw [hr] at hl;rcases (by simpa using hl:l=i\/l=j) with rfl|rfl
   · exact wpOpIn_step hi (fun K' hK'=>h1 K' (fun a w hS hW=>hK' a w ⟨hS,hW⟩))
   · exact wpOpIn_step hj (fun K' hK'=>h2 K' (fun a w hS hW=>hK' a w ⟨hS,hW⟩))⟩
theorem XP{sk:Nat}(hSS:∀ w,S' w->S w):∀ (fuel:Nat) (listed:Array Bool) (a:Act) (w:World),YV F n P md ops Q S' sk fuel listed a w->YV F n P md ops Q S sk fuel listed a w
 | 0,_,_,_,h=>h
 | fuel+1,_,_,_,h=>⟨h.1,fun i hi=>wpOpIn_mono (fun a' w' h'=>⟨fun hs=>hSS _ (h'.1 hs),XP hSS fuel _ a' w' h'.2⟩) (h.2 i hi)⟩
def zvw(KP:Act->World->Prop)(Q:Exit->Act->World->Prop):Exit->Act->World->Prop
 | .normal,a,w=>KP a w
 | e,a,w=>Q e a w
theorem l8 (sk:Nat) (KP:Act->World->Prop) {id:Nat} {a:Act} {w:World} (hm:P.follows .mixedOrders=true) (hk:∀ a w,KP a w->Q .normal a w)
 (h:YV F n P .any ops (zvw KP Q) S sk ops.size (Array.replicate ops.size false) a w.drew):(Code.region id ops true).wpIn F n P Q a w:=by
 refine wpIn_mono (Yz sk (Q:=zvw KP Q) hm h) ?_;intro e a w he;cases e with
 | normal=>exact hk a w he
 | _=>exact he
end
def Xx(op:Int)(gs:List Gr)(ps:List Pt):Int :=
 if op=1 then (Zw (ZX ps 0) (ZX ps 1) (ZX ps 2)).sign+1
 else if op=2 then (Yq (ZX ps 0) (ZX ps 1) (ZX ps 2) (ZX ps 3)).sign+1
 else if op=3 then XE (ps.take (ps.length - 1)) (ZX ps (ps.length - 1))
 else Xy gs (ZX ps 0)
def Qw(op:Int)(gs:List Gr)(ps:List Pt):List Ev:=if op=3 then JN (ps.length - 1) else if op=4 then Ll gs else []
def Jy(op vs:Int)(hrs:List Rg)(ZY:Int)(gs:List Gr)(ps:List Pt)(qs:List ((Int × Int) × Int)):Int × Int :=
 if (ZE op vs hrs ZY gs ps qs).2≠0 then (0,(ZE op vs hrs ZY gs ps qs).2) else if op=5 then (0,2) else (Xx op gs ps,0)
def Ml(op vs:Int)(hrs:List Rg)(ZY:Int)(gs:List Gr)(ps:List Pt)(qs:List ((Int × Int) × Int)):List Ev :=
 if (ZE op vs hrs ZY gs ps qs).2≠0 then [] else Qw op gs ps
theorem Kh{op vs:Int}{hrs:List Rg}{ZY:Int}{gs:List Gr}{ps:List Pt}{qs:List ((Int × Int) × Int)}(h:(ZE op vs hrs ZY gs ps qs).2=0):
 ZM op vs hrs ZY=0/\gs.length=hrs.length/\(ps.length:Int)=XI op vs/\(qs.length:Int)=Xm op ZY/\(gs.zip hrs).any Vs=false/\(gs.zip hrs).any TM=false:=by
 unfold ZE at h;split at h
 · rename_i h1;exact absurd h h1
 · rename_i h1
   split at h
   · cases h
   · rename_i h2
     split at h
     · cases h
     · rename_i h3
       split at h
       · cases h
       · rename_i h4
         have a1:ZM op vs hrs ZY=0:=(by simpa using h1);have a2:gs.length=hrs.length:=Classical.byContradiction fun e=>h2 (.inl e);have a3:(ps.length:Int)=XI op vs:=Classical.byContradiction fun e=>h2 (.inr (.inl e));have a4:(qs.length:Int)=Xm op ZY:=Classical.byContradiction fun e=>h2 (.inr (.inr e));exact ⟨a1,a2,a3,a4,by simpa using h3,by simpa using h4⟩
theorem Rw {fn:Func} {tmps:Array Value} {w:World} {g:Nat} {v0 v1 v2:Value} (h:fn.results=#[.cell 4 175,.tmp 5])
 (hp:tmps.getD 4 undef=.pointer (some ⟨g,0,none⟩)) (hb:Z7 w g 175 #[v0,v1,v2]) :
 (results fn tmps).run prog w=.ok (.tuple #[.agg #[v0,v1,v2],tmps.getD 5 undef]) w:=by
 have c0:=hb.q0 rfl;have c1:=hb.q1 rfl;have c2:=hb.q2 rfl;have hp':tmps[4]?.getD undef=.pointer (some ⟨g,0,none⟩):=by rw [<- hp];simp
 simp [results,h,hp',go_sem,c0,c1,c2]
section
variable (P:Nat->Prop)(t:Option (Nat × Nat))(es:List Ev)(op vs ZY:Int)(hrs:List Rg)(HA:Option Addr)(hc:Nat)(gs:List Gr)(GA:Option Addr)(gc:Nat)(ps:List Pt)(PA:Option Addr)(pc:Nat)(qs:List ((Int × Int) × Int))(QA:Option Addr)(qc:Nat)(w:World)
variable (hP:∀ k,P k->k<w.heap.size)(hg0:P 8)(hw:MW w)(ht:Tp w P t es)(hl:es.length<=600000)(hps:LW ps)(hs:Wp w P PA (Zl ps))(hcap:ps.length<=pc)
variable (hgc:Wp w P GA (rgCells (gs.map (·.1))))(hgs:vC w P gs)
include hP hg0 hw ht hl hps hs hcap hgc hgs
theorem kC(n:Nat)(iJ:ZM op vs hrs ZY=0)(hlen:(ps.length:Int)=XI op vs)(hn:op=1/\n=330\/op=2/\n=331\/op=3/\n=332\/op=4/\n=333):
 Calls prog n #[.pointer (ZG t),.agg #[.int .i64 op,.int .i64 vs,.slice HA hrs.length hc,.int .i64 ZY,.slice GA gs.length gc,.slice PA ps.length pc,.slice QA qs.length qc]] w fun e w'=>e=.returned (.int .i64 (Xx op gs ps))/\Z9 P w w'/\Tp w' P t (es++Qw op gs ps):=by
 rcases hn with ⟨rfl,rfl⟩|⟨rfl,rfl⟩|⟨rfl,rfl⟩|⟨rfl,rfl⟩
 · have h3:ps.length=3:=(by have:XI 1 vs=3:=rfl;omega);refine (aG P t 1 vs ZY HA hrs.length hc gs GA gc ps PA pc QA qs.length qc w hP hw hps hs h3).mono ?_;rintro e w' ⟨rfl,hb⟩;exact ⟨rfl,Z9.of_below hb hP,by rw [show Qw 1 gs ps=[] from rfl,List.append_nil];exact ht.step hb⟩
 · have h4:ps.length=4:=(by have:XI 2 vs=4:=rfl;omega);refine (aH P t 2 vs ZY HA hrs.length hc gs GA gc ps PA pc QA qs.length qc w hP hw hps hs h4).mono ?_;rintro e w' ⟨rfl,hb⟩;exact ⟨rfl,Z9.of_below hb hP,by rw [show Qw 2 gs ps=[] from rfl,List.append_nil];exact ht.step hb⟩
 · have h3:3<=vs/\vs<=64:=(ZA iJ).2.2.1 rfl;have h4:(ps.length:Int)=vs+1:=hlen;have h5:ps.length=(ps.length - 1)+1:=(by omega);refine (aI P t es 3 vs ZY HA hrs.length hc gs GA gc ps PA pc QA qs.length qc w hP hg0 hw ht hl hps hs (ps.length - 1) h5 (by omega) (by omega)).mono ?_;rintro e w' ⟨rfl,hk,ht'⟩;exact ⟨rfl,hk,ht'⟩
 · have h1:ps.length=1:=(by have:XI 4 vs=1:=rfl;omega);refine (aJ P t es 4 vs ZY HA hrs.length hc gs GA gc ps PA pc QA qs.length qc w hP hg0 hw ht hl hps hs h1 hgc hgs).mono ?_;rintro e w' ⟨rfl,hk,ht'⟩;exact ⟨rfl,hk,ht'⟩
variable (hh:Wp w P HA (rgCells hrs))(hnm:hrs.length<=maxLen)(MF:Sl w w.heap.size QA (XC qs))
include hh hnm MF
theorem Jz:Calls prog 231 #[.pointer (ZG t),.agg #[.int .i64 op,.int .i64 vs,.slice HA hrs.length hc,.int .i64 ZY,.slice GA gs.length gc,.slice PA ps.length pc,.slice QA qs.length qc]] w fun e w'=>e=.returned (.tuple #[.agg #[.int .i64 (Jy op vs hrs ZY gs ps qs).1,.int .i64 0,.slice none 0 0],.int .i64 (Jy op vs hrs ZY gs ps qs).2])/\Z9 P w w'/\Tp w' P t (es++Ml op vs hrs ZY gs ps qs):=by
 obtain ⟨rb,hrb⟩:=eE w.heap.size;obtain ⟨w0,hw0⟩:=eE ((w.alloc (.cells #[.int .i64 op,.int .i64 vs,.slice HA hrs.length hc,.int .i64 ZY,.slice GA gs.length gc,.slice PA ps.length pc,.slice QA qs.length qc] 182)).alloc (.cells #[.int .i64 0,.int .i64 0,.slice none 0 0] 175));have hb0:=bF hw0;have B0:Z7 w0 rb 182 #[.int .i64 op,.int .i64 vs,.slice HA hrs.length hc,.int .i64 ZY,.slice GA gs.length gc,.slice PA ps.length pc,.slice QA qs.length qc]:=by rw [hw0,hrb];exact (Z7.new _ _ _).alloc _
 have C0:Z7 w0 (rb+1) 175 #[.int .i64 0,.int .i64 0,.slice none 0 0]:=by rw [hw0,hrb];exact Z7.new2 _ _ _ _
 have hk0:Z9 P w w0:=Z9.of_below hb0 hP;have vE:=Py op vs ZY hrs HA hc gs GA gc ps PA pc qs QA qc w0 (((hh.sl hP).below hb0).more hb0.size) (((hgc.sl hP).below hb0).more hb0.size) (fun g hg=>⟨(hgs g hg).1,(((hgs g hg).2.1.sl hP).below hb0).more hb0.size⟩) (((hs.sl hP).below hb0).more hb0.size) ((MF.below hb0).more hb0.size) hnm;have zN:Hid (Jy op vs hrs ZY gs ps qs=if (ZE op vs hrs ZY gs ps qs).2≠0 then (0,(ZE op vs hrs ZY gs ps qs).2) else if op=5 then (0,2) else (Xx op gs ps,0)):=rfl;have Qa:Hid (Ml op vs hrs ZY gs ps qs=if (ZE op vs hrs ZY gs ps qs).2≠0 then [] else Qw op gs ps):=rfl;have Ud:=hide (fun h=>Kh (op:=op) (vs:=vs) (hrs:=hrs) (ZY:=ZY) (gs:=gs) (ps:=ps) (qs:=qs) h);obtain ⟨⟨bs,err⟩,hE⟩:∃ E,E=ZE op vs hrs ZY gs ps qs:=⟨_,rfl⟩;rw [<- hE] at vE zN Qa Ud;have Qs:=hide vE;have HOP:=hide (fun (P':Nat->Prop) (w':World) (hP':∀ k,P' k->k<w'.heap.size) (hg':P' 8) (hk':Z9 P w w') (xu:∀ k,P k->P' k) (ht':Tp w' P' t es)=>kC P' t es op vs ZY hrs HA hc gs GA gc ps PA pc qs QA qc w' hP' hg' (hw.kept hk' hg0) ht' hl hps ((hs.kept hk').mono xu) hcap ((hgc.kept hk').mono xu) (fun g hg=>⟨(hgs g hg).1,((hgs g hg).2.1.kept hk').mono xu,(hgs g hg).2.2⟩));have HP:=hide hP;have HG:=hide hg0;have HT:=hide ht;have HB0:=hide hb0;have Yv:prog.follows .mixedOrders=true:=by kernel_rfl
 clear hE vE hk0 hP hg0 hw ht hps hs hcap hgc hgs hh MF hb0;refine (callsIn_wide (n:=6)).1 ?_;refine callsIn_of_wp func231 rfl trivial ?_ rfl;simp only [ntmps231,List.size_toArray,List.length_cons,List.length_nil,Nat.reduceAdd,Nat.reduceSub,Array.replicate_succ,Array.replicate_zero,List.push_toArray,List.append_toArray,List.nil_append,List.cons_append];gi_wp2_with fail;rw [<- hw0,<- hrb];have HW0:=hide hw0;have Gc:=hide hrb;clear hw0 hrb;refine ⟨trivial,?_⟩;refine (callsIn_wide.2 Qs.out).mono ?_;rintro e w1 ⟨v,rfl,hv1,hb1⟩;have B1:=B0.step hb1;have C1:=C0.step hb1;have HB1:=hide hb1;have c10:=C1.q0 rfl;have c11:=C1.q1 rfl;have c12:=C1.q2 rfl;dsimp at c10 c11 c12;have f10:=C1.frozen 0;have f11:=C1.frozen 1;have f12:=C1.frozen 2;dsimp only at *;obtain ⟨VA,UG,rfl,_⟩:=ZP hv1
 by_cases he:err=0
 · subst he;obtain ⟨iJ,hgl,hpl,cZ,_,_⟩:=Ud.out rfl;have hop:=ZA iJ;have hop1:=hop.1;have yzx:=hop.2.1;have nE:Hid (Jy op vs hrs ZY gs ps qs=if op=5 then (0,2) else (Xx op gs ps,0)):=hide (zN.out.trans (if_neg (by simp)));have dP:Hid (Ml op vs hrs ZY gs ps qs=Qw op gs ps):=hide (Qa.out.trans (if_neg (by simp)));have zba:=hide iJ;have mR:=hide hpl;clear hop zN Qa Ud iJ hgl hpl cZ hv1 Qs;gi_wp2_with fail;clear c10 c11 c12 f10 f11 f12
   by_cases h5:op=5
   · subst h5;have zoh:Hid (Jy 5 vs hrs ZY gs ps qs=(0,2)):=hide (nE.out.trans (if_pos rfl));have zbe:Hid (Ml 5 vs hrs ZY gs ps qs=[]):=dP;clear nE dP;have vI:=hide (fun w=>Rp w);have hS:Z7 w1.drew rb 182 #[.int .i64 5,.int .i64 vs,.slice HA hrs.length hc,.int .i64 ZY,.slice GA gs.length gc,.slice PA ps.length pc,.slice QA qs.length qc]/\Z7 w1.drew (rb+1) 175 #[.int .i64 0,.int .i64 0,.slice none 0 0]:=⟨B1.drew,C1.drew⟩;clear B0 C0;refine l8 1000 (S:=fun w'=>Z7 w' rb 182 #[.int .i64 5,.int .i64 vs,.slice HA hrs.length hc,.int .i64 ZY,.slice GA gs.length gc,.slice PA ps.length pc,.slice QA qs.length qc]/\Z7 w' (rb+1) 175 #[.int .i64 0,.int .i64 0,.slice none 0 0]) (fun a w'=>∃ ob mb:Nat,a={ tmps:=#[.pointer (ZG t),.agg #[.int .i64 5,.int .i64 vs,.slice HA hrs.length hc,.int .i64 ZY,.slice GA gs.length gc,.slice PA ps.length pc,.slice QA qs.length qc],undef,.pointer (some ⟨rb,0,none⟩),.pointer (some ⟨rb+1,0,none⟩),.int .i64 0,.slice VA bs.length UG,.int .i64 0,.pointer (some ⟨ob,0,none⟩),.bool false,.tuple #[.slice VA bs.length UG,.int .i64 0],.agg #[.int .i64 5,.int .i64 vs,.slice HA hrs.length hc,.int .i64 ZY,.slice GA gs.length gc,.slice PA ps.length pc,.slice QA qs.length qc],.tuple #[.slice VA bs.length UG,.int .i64 0],.slice VA bs.length UG,.int .i64 0,.int .i64 0,.bool false,undef,undef,.tuple #[.agg #[.nilFunc],.bool false],.map (some mb),.pointer (some ⟨rb,0,none⟩),.pointer (some ⟨rb,0,none⟩),.int .i64 5,.tuple #[.agg #[.nilFunc],.bool false],.agg #[.nilFunc],.bool false,undef,undef,undef,undef,undef,undef,undef,undef,undef],defers:=[] }/\(Z7 w' rb 182 #[.int .i64 5,.int .i64 vs,.slice HA hrs.length hc,.int .i64 ZY,.slice GA gs.length gc,.slice PA ps.length pc,.slice QA qs.length qc]/\Z7 w' (rb+1) 175 #[.int .i64 0,.int .i64 0,.slice none 0 0])/\Z7 w' ob 342 #[.nilFunc]/\Below w1.heap.size w1 w') Yv ?zan ?_
     rotate_left
     · skip
       refine' Z0 (i:=1) rfl ?zrl hS ?zjv
       case zrl =>
        intro w' hSw;go_simp;rfl
       simp only [Act.put,Z6];refine' Z0 (i:=2) rfl ?zrv hS ?zkf
       case zrv =>
        intro w' hSw;go_simp;rfl
       simp only [Act.put,Z6];refine' Z0 (i:=3) rfl ?zsg hS ?zkq
       case zsg =>
        intro w' hSw;have z0:=hSw.1.q0 rfl;go_simp;rfl
       simp only [Act.put,Z6];refine zmw (i:=0) (j:=8) (by kernel_rfl) rfl rfl ?_ ?_
       · intro K hK;rw [if_pos (by rfl)];go_simp;refine ⟨trivial,?_⟩;refine (callsIn_wide.2 (vI.out _)).mono ?_;rintro e w2 ⟨rfl,hb2,ho2⟩;have hS2:Z7 w2 rb 182 #[.int .i64 5,.int .i64 vs,.slice HA hrs.length hc,.int .i64 ZY,.slice GA gs.length gc,.slice PA ps.length pc,.slice QA qs.length qc]/\Z7 w2 (rb+1) 175 #[.int .i64 0,.int .i64 0,.slice none 0 0]:=⟨hS.1.step hb2,hS.2.step hb2⟩;refine hK.out _ _ (fun _=>hS2) ?_;clear hK K;have zqo:Js w2 w1.heap.size:=ho2;clear ho2;refine XP (S':=fun w'=>(Z7 w' rb 182 #[.int .i64 5,.int .i64 vs,.slice HA hrs.length hc,.int .i64 ZY,.slice GA gs.length gc,.slice PA ps.length pc,.slice QA qs.length qc]/\Z7 w' (rb+1) 175 #[.int .i64 0,.int .i64 0,.slice none 0 0])/\Js w' w1.heap.size) (fun _ h=>h.1) _ _ _ _ ?_;have hT:(Z7 w2 rb 182 #[.int .i64 5,.int .i64 vs,.slice HA hrs.length hc,.int .i64 ZY,.slice GA gs.length gc,.slice PA ps.length pc,.slice QA qs.length qc]/\Z7 w2 (rb+1) 175 #[.int .i64 0,.int .i64 0,.slice none 0 0])/\Js w2 w1.heap.size:=⟨hS2,zqo⟩
         (try simp only [Act.put,Z6])
         refine' Z0 (i:=4) rfl ?zyy hT ?znv
         case zyy =>
          intro w' hSw;have hlk:=CJ hSw.2;go_simp;rfl
         simp only [Act.put,Z6];refine' Z0 (i:=5) rfl ?zza hT ?znx
         case zza =>
          intro w' hSw;go_simp;rfl
         simp only [Act.put,Z6];refine' Z0 (i:=6) rfl ?zzb hT ?zny
         case zzb =>
          intro w' hSw;go_simp;rfl
         simp only [Act.put,Z6];refine' Z0 (i:=7) rfl ?zzc hT ?znz
         case zzc =>
          intro w' hSw;go_simp;rfl
         simp only [Act.put,Z6];refine Zc (i:=8) (by kernel_rfl) rfl ?_;intro K hK;rw [if_pos (by rfl)];go_simp;obtain ⟨w3,hw3⟩:=eE (w2.alloc (.cells #[.nilFunc] 342));obtain ⟨ob,Sq⟩:=eE w2.heap.size;have hb3:=bE hw3;have O3:Z7 w3 ob 342 #[.nilFunc]:=(by rw [hw3,Sq];exact Z7.new _ _ _);rw [<- hw3,<- Sq];have hno:rb≠ob/\rb+1≠ob:=(by have:=hT.1.1.lt;have:=hT.1.2.lt;omega);have D9:w1.heap.size<=ob:=(by have:=hb2.size;have e:w1.drew.heap.size=w1.heap.size:=rfl;omega);clear Sq hw3;have Ot:(Z7 w3 rb 182 #[.int .i64 5,.int .i64 vs,.slice HA hrs.length hc,.int .i64 ZY,.slice GA gs.length gc,.slice PA ps.length pc,.slice QA qs.length qc]/\Z7 w3 (rb+1) 175 #[.int .i64 0,.int .i64 0,.slice none 0 0])/\Js w3 w1.heap.size:=⟨⟨hT.1.1.step hb3,hT.1.2.step hb3⟩,hT.2.step hb3⟩;refine hK.out _ _ (fun _=>Ot) ?_;clear hK K
         (try simp only [Act.put,Z6])
         have c3:w3.cell? ⟨ob,0,none⟩=some .nilFunc:=O3.q0 rfl;have f3:=O3.frozen 0;have hst:(store ⟨ob,0,none⟩ (.nilFunc)).run prog w3=.ok () (w3.setCell ⟨ob,0,none⟩ (.nilFunc)):=by
          rw [run_store prog w3 ⟨ob,0,none⟩ (.nilFunc) _ (by rfl),c3];simp [f3]
         refine Zc (i:=9) (by kernel_rfl) rfl ?_;intro K hK;rw [if_pos (by rfl)];go_simp;have IW:(Z7 (w3.setCell ⟨ob,0,none⟩ (.nilFunc)) rb 182 #[.int .i64 5,.int .i64 vs,.slice HA hrs.length hc,.int .i64 ZY,.slice GA gs.length gc,.slice PA ps.length pc,.slice QA qs.length qc]/\Z7 (w3.setCell ⟨ob,0,none⟩ (.nilFunc)) (rb+1) 175 #[.int .i64 0,.int .i64 0,.slice none 0 0])/\Js (w3.setCell ⟨ob,0,none⟩ (.nilFunc)) w1.heap.size:=⟨⟨Ot.1.1.far (by dsimp only;omega) _,Ot.1.2.far (by dsimp only;omega) _⟩,World.ownsMap.kept Ot.2 (grownBy_setCell' w3 ob (.nilFunc)) (fun e=>by have e2:=Option.some.inj e;obtain ⟨_,_,hq,_⟩:=Ot.2;rw [e2,show w3.heap[ob]?=_ from O3] at hq;cases hq)⟩;refine hK.out _ _ (fun _=>IW) ?_;clear hK K
         (try simp only [Act.put,Z6])
         refine' Z0 (i:=10) rfl ?jf IW ?zuw
         case jf =>
          intro w' hSw;go_simp;rfl
         simp only [Act.put,Z6];refine Yc (by kernel_rfl) ?_ _;exact ⟨ob,w1.heap.size,rfl,IW.1,O3.set 0 (.nilFunc),((Z8 (Z8 (ZV (Below.refl _ _)) hb2) hb3).setCell (by dsimp only;omega) _)⟩
       · intro K hK;rw [if_pos (by rfl)];go_simp;obtain ⟨w3',hw3⟩:=eE ((w1.alloc (.cells #[.nilFunc] 342)).drew);obtain ⟨ob,Sq⟩:=eE w1.heap.size;have hb3:Below w1.heap.size w1 w3':=(by rw [hw3];exact ZV (bA));have O3':Z7 w3' ob 342 #[.nilFunc]:=(by rw [hw3,Sq];exact (Z7.new _ _ _).drew);have hno:rb≠ob/\rb+1≠ob:=(by have:=B1.lt;have:=C1.lt;omega);have D9:w1.heap.size<=ob:=(by omega);rw [<- hw3,<- Sq];clear hw3 Sq;have D7:Z7 w3' rb 182 #[.int .i64 5,.int .i64 vs,.slice HA hrs.length hc,.int .i64 ZY,.slice GA gs.length gc,.slice PA ps.length pc,.slice QA qs.length qc]/\Z7 w3' (rb+1) 175 #[.int .i64 0,.int .i64 0,.slice none 0 0]:=⟨B1.step hb3,C1.step hb3⟩;refine hK.out _ _ (fun _=>D7) ?_;clear hK K
         (try simp only [Act.put,Z6])
         refine Zc (i:=0) (by kernel_rfl) rfl ?_;intro K hK;rw [if_pos (by rfl)];go_simp;refine ⟨trivial,?_⟩;refine (callsIn_wide.2 (vI.out _)).mono ?_;rintro e w3 ⟨rfl,hb2,ho2⟩;obtain ⟨mb,hmb⟩:=eE w3'.heap.size;have hS2:Z7 w3 rb 182 #[.int .i64 5,.int .i64 vs,.slice HA hrs.length hc,.int .i64 ZY,.slice GA gs.length gc,.slice PA ps.length pc,.slice QA qs.length qc]/\Z7 w3 (rb+1) 175 #[.int .i64 0,.int .i64 0,.slice none 0 0]:=⟨D7.1.step hb2,D7.2.step hb2⟩;have O3:=O3'.step hb2;refine hK.out _ _ (fun _=>hS2) ?_;clear hK K;rw [<- hmb] at ho2;rw [<- hmb];clear hmb;refine XP (S':=fun w'=>(Z7 w' rb 182 #[.int .i64 5,.int .i64 vs,.slice HA hrs.length hc,.int .i64 ZY,.slice GA gs.length gc,.slice PA ps.length pc,.slice QA qs.length qc]/\Z7 w' (rb+1) 175 #[.int .i64 0,.int .i64 0,.slice none 0 0])/\Js w' mb) (fun _ h=>h.1) _ _ _ _ ?_;have Ot:(Z7 w3 rb 182 #[.int .i64 5,.int .i64 vs,.slice HA hrs.length hc,.int .i64 ZY,.slice GA gs.length gc,.slice PA ps.length pc,.slice QA qs.length qc]/\Z7 w3 (rb+1) 175 #[.int .i64 0,.int .i64 0,.slice none 0 0])/\Js w3 mb:=⟨hS2,ho2⟩
         (try simp only [Act.put,Z6])
         refine' Z0 (i:=4) rfl ?zyz Ot ?znw
         case zyz =>
          intro w' hSw;have hlk:=CJ hSw.2;go_simp;rfl
         simp only [Act.put,Z6];refine' Z0 (i:=5) rfl ?jo Ot ?zuz
         case jo =>
          intro w' hSw;go_simp;rfl
         simp only [Act.put,Z6];refine' Z0 (i:=6) rfl ?jw Ot ?zvc
         case jw =>
          intro w' hSw;go_simp;rfl
         simp only [Act.put,Z6];refine' Z0 (i:=7) rfl ?jC Ot ?zvf
         case jC =>
          intro w' hSw;go_simp;rfl
         simp only [Act.put,Z6];have c3:w3.cell? ⟨ob,0,none⟩=some .nilFunc:=O3.q0 rfl;have f3:=O3.frozen 0;have hst:(store ⟨ob,0,none⟩ (.nilFunc)).run prog w3=.ok () (w3.setCell ⟨ob,0,none⟩ (.nilFunc)):=by
          rw [run_store prog w3 ⟨ob,0,none⟩ (.nilFunc) _ (by rfl),c3];simp [f3]
         refine Zc (i:=9) (by kernel_rfl) rfl ?_;intro K hK;rw [if_pos (by rfl)];go_simp;have IW:(Z7 (w3.setCell ⟨ob,0,none⟩ (.nilFunc)) rb 182 #[.int .i64 5,.int .i64 vs,.slice HA hrs.length hc,.int .i64 ZY,.slice GA gs.length gc,.slice PA ps.length pc,.slice QA qs.length qc]/\Z7 (w3.setCell ⟨ob,0,none⟩ (.nilFunc)) (rb+1) 175 #[.int .i64 0,.int .i64 0,.slice none 0 0])/\Js (w3.setCell ⟨ob,0,none⟩ (.nilFunc)) mb:=⟨⟨Ot.1.1.far (by dsimp only;omega) _,Ot.1.2.far (by dsimp only;omega) _⟩,World.ownsMap.kept Ot.2 (grownBy_setCell' w3 ob (.nilFunc)) (fun e=>by have e2:=Option.some.inj e;obtain ⟨_,_,hq,_⟩:=Ot.2;rw [e2,show w3.heap[ob]?=_ from O3] at hq;cases hq)⟩;refine hK.out _ _ (fun _=>IW) ?_;clear hK K
         (try simp only [Act.put,Z6])
         refine' Z0 (i:=10) rfl ?pY IW ?zwm
         case pY =>
          intro w' hSw;go_simp;rfl
         simp only [Act.put,Z6];refine Yc (by kernel_rfl) ?_ _;exact ⟨ob,mb,rfl,IW.1,O3.set 0 (.nilFunc),((Z8 hb3 hb2).setCell (by dsimp only;omega) _)⟩
     · rintro a w2 ⟨ob,mb,rfl,⟨B2,C2⟩,O2,hb2⟩;clear hS vI;have c0:=C2.q0 rfl;have c1:=C2.q1 rfl;have c2:=C2.q2 rfl;dsimp at c0 c1 c2;have f0:=C2.frozen 0;have f1:=C2.frozen 1;have f2:=C2.frozen 2;have hbb:=Z8 (Z8 HB0.out HB1.out) hb2;gi_wp2;have hrw:w.heap.size<=rb+1:=(by rw [Gc.out];exact Nat.le_succ _);have E:Z7 _ (rb+1) 175 #[.int .i64 0,.int .i64 0,.slice none 0 0]:=((C2.set 0 (.int .i64 0)).set 1 (.int .i64 0)).set 2 (.slice none 0 0);have mZ:=((hbb.setCell (p:=⟨rb+1,0,none⟩) hrw (.int .i64 0)).setCell (p:=⟨rb+1,1,none⟩) hrw (.int .i64 0)).setCell (p:=⟨rb+1,2,none⟩) hrw (.slice none 0 0);refine bodyPost_ret (Rw rfl rfl E) rfl ⟨?_,Z9.of_below mZ HP.out,?_⟩
       · rw [zoh.out];rfl
       · rw [zbe.out,List.append_nil];exact HT.out.step mZ
   · have zoh:Hid (Jy op vs hrs ZY gs ps qs=(Xx op gs ps,0)):=hide (nE.out.trans (if_neg h5));obtain ⟨n,hn⟩:∃ n,op=1/\n=330\/op=2/\n=331\/op=3/\n=332\/op=4/\n=333:=by
      have h:op=1\/op=2\/op=3\/op=4:=(by omega);rcases h with h|h|h|h
      · exact ⟨_,.inl ⟨h,rfl⟩⟩
      · exact ⟨_,.inr (.inl ⟨h,rfl⟩)⟩
      · exact ⟨_,.inr (.inr (.inl ⟨h,rfl⟩))⟩
      · exact ⟨_,.inr (.inr (.inr ⟨h,rfl⟩))⟩
     have HN:=hide hn;clear hn nE h5;have vI:=hide (fun w=>Rp w);have hS:Z7 w1.drew rb 182 #[.int .i64 op,.int .i64 vs,.slice HA hrs.length hc,.int .i64 ZY,.slice GA gs.length gc,.slice PA ps.length pc,.slice QA qs.length qc]/\Z7 w1.drew (rb+1) 175 #[.int .i64 0,.int .i64 0,.slice none 0 0]:=⟨B1.drew,C1.drew⟩;clear B0 C0;refine l8 1000 (S:=fun w'=>Z7 w' rb 182 #[.int .i64 op,.int .i64 vs,.slice HA hrs.length hc,.int .i64 ZY,.slice GA gs.length gc,.slice PA ps.length pc,.slice QA qs.length qc]/\Z7 w' (rb+1) 175 #[.int .i64 0,.int .i64 0,.slice none 0 0]) (fun a w'=>∃ ob mb:Nat,a={ tmps:=#[.pointer (ZG t),.agg #[.int .i64 op,.int .i64 vs,.slice HA hrs.length hc,.int .i64 ZY,.slice GA gs.length gc,.slice PA ps.length pc,.slice QA qs.length qc],undef,.pointer (some ⟨rb,0,none⟩),.pointer (some ⟨rb+1,0,none⟩),.int .i64 0,.slice VA bs.length UG,.int .i64 0,.pointer (some ⟨ob,0,none⟩),.bool true,.tuple #[.slice VA bs.length UG,.int .i64 0],.agg #[.int .i64 op,.int .i64 vs,.slice HA hrs.length hc,.int .i64 ZY,.slice GA gs.length gc,.slice PA ps.length pc,.slice QA qs.length qc],.tuple #[.slice VA bs.length UG,.int .i64 0],.slice VA bs.length UG,.int .i64 0,.int .i64 0,.bool false,undef,undef,.tuple #[.agg #[.func (.func n) #[] #[]],.bool true],.map (some mb),.pointer (some ⟨rb,0,none⟩),.pointer (some ⟨rb,0,none⟩),.int .i64 op,.tuple #[.agg #[.func (.func n) #[] #[]],.bool true],.agg #[.func (.func n) #[] #[]],.bool true,undef,undef,undef,undef,undef,undef,undef,undef,undef],defers:=[] }/\(Z7 w' rb 182 #[.int .i64 op,.int .i64 vs,.slice HA hrs.length hc,.int .i64 ZY,.slice GA gs.length gc,.slice PA ps.length pc,.slice QA qs.length qc]/\Z7 w' (rb+1) 175 #[.int .i64 0,.int .i64 0,.slice none 0 0])/\Z7 w' ob 342 #[.func (.func n) #[] #[]]/\Below w1.heap.size w1 w') Yv ?zam ?_
     rotate_left
     · skip
       refine' Z0 (i:=1) rfl ?zyv hS ?zns
       case zyv =>
        intro w' hSw;go_simp;rfl
       simp only [Act.put,Z6];refine' Z0 (i:=2) rfl ?zyw hS ?znt
       case zyw =>
        intro w' hSw;go_simp;rfl
       simp only [Act.put,Z6];refine' Z0 (i:=3) rfl ?zyx hS ?znu
       case zyx =>
        intro w' hSw;have z0:=hSw.1.q0 rfl;go_simp;rfl
       simp only [Act.put,Z6];refine zmw (i:=0) (j:=8) (by kernel_rfl) rfl rfl ?_ ?_
       · intro K hK;rw [if_pos (by rfl)];go_simp;refine ⟨trivial,?_⟩;refine (callsIn_wide.2 (vI.out _)).mono ?_;rintro e w2 ⟨rfl,hb2,ho2⟩;have hS2:Z7 w2 rb 182 #[.int .i64 op,.int .i64 vs,.slice HA hrs.length hc,.int .i64 ZY,.slice GA gs.length gc,.slice PA ps.length pc,.slice QA qs.length qc]/\Z7 w2 (rb+1) 175 #[.int .i64 0,.int .i64 0,.slice none 0 0]:=⟨hS.1.step hb2,hS.2.step hb2⟩;refine hK.out _ _ (fun _=>hS2) ?_;clear hK K;have zqo:Js w2 w1.heap.size:=ho2;clear ho2;refine XP (S':=fun w'=>(Z7 w' rb 182 #[.int .i64 op,.int .i64 vs,.slice HA hrs.length hc,.int .i64 ZY,.slice GA gs.length gc,.slice PA ps.length pc,.slice QA qs.length qc]/\Z7 w' (rb+1) 175 #[.int .i64 0,.int .i64 0,.slice none 0 0])/\Js w' w1.heap.size) (fun _ h=>h.1) _ _ _ _ ?_;have hT:(Z7 w2 rb 182 #[.int .i64 op,.int .i64 vs,.slice HA hrs.length hc,.int .i64 ZY,.slice GA gs.length gc,.slice PA ps.length pc,.slice QA qs.length qc]/\Z7 w2 (rb+1) 175 #[.int .i64 0,.int .i64 0,.slice none 0 0])/\Js w2 w1.heap.size:=⟨hS2,zqo⟩
         (try simp only [Act.put,Z6])
         refine' Z0 (i:=4) rfl ?jk hT ?zux
         case jk =>
          intro w' hSw;have hlk:=CG hSw.2 op n HN.out;go_simp;rfl
         simp only [Act.put,Z6];refine' Z0 (i:=5) rfl ?jq hT ?zva
         case jq =>
          intro w' hSw;go_simp;rfl
         simp only [Act.put,Z6];refine' Z0 (i:=6) rfl ?jy hT ?zvd
         case jy =>
          intro w' hSw;go_simp;rfl
         simp only [Act.put,Z6];refine' Z0 (i:=7) rfl ?jD hT ?zvg
         case jD =>
          intro w' hSw;go_simp;rfl
         simp only [Act.put,Z6];refine Zc (i:=8) (by kernel_rfl) rfl ?_;intro K hK;rw [if_pos (by rfl)];go_simp;obtain ⟨w3,hw3⟩:=eE (w2.alloc (.cells #[.nilFunc] 342));obtain ⟨ob,Sq⟩:=eE w2.heap.size;have hb3:=bE hw3;have O3:Z7 w3 ob 342 #[.nilFunc]:=(by rw [hw3,Sq];exact Z7.new _ _ _);rw [<- hw3,<- Sq];have hno:rb≠ob/\rb+1≠ob:=(by have:=hT.1.1.lt;have:=hT.1.2.lt;omega);have D9:w1.heap.size<=ob:=(by have:=hb2.size;have e:w1.drew.heap.size=w1.heap.size:=rfl;omega);clear Sq hw3;have Ot:(Z7 w3 rb 182 #[.int .i64 op,.int .i64 vs,.slice HA hrs.length hc,.int .i64 ZY,.slice GA gs.length gc,.slice PA ps.length pc,.slice QA qs.length qc]/\Z7 w3 (rb+1) 175 #[.int .i64 0,.int .i64 0,.slice none 0 0])/\Js w3 w1.heap.size:=⟨⟨hT.1.1.step hb3,hT.1.2.step hb3⟩,hT.2.step hb3⟩;refine hK.out _ _ (fun _=>Ot) ?_;clear hK K
         (try simp only [Act.put,Z6])
         have c3:w3.cell? ⟨ob,0,none⟩=some .nilFunc:=O3.q0 rfl;have f3:=O3.frozen 0;have hst:(store ⟨ob,0,none⟩ (.func (.func n) #[] #[])).run prog w3=.ok () (w3.setCell ⟨ob,0,none⟩ (.func (.func n) #[] #[])):=by
          rw [run_store prog w3 ⟨ob,0,none⟩ (.func (.func n) #[] #[]) _ (by rfl),c3];simp [f3]
         refine Zc (i:=9) (by kernel_rfl) rfl ?_;intro K hK;rw [if_pos (by rfl)];go_simp;have IW:(Z7 (w3.setCell ⟨ob,0,none⟩ (.func (.func n) #[] #[])) rb 182 #[.int .i64 op,.int .i64 vs,.slice HA hrs.length hc,.int .i64 ZY,.slice GA gs.length gc,.slice PA ps.length pc,.slice QA qs.length qc]/\Z7 (w3.setCell ⟨ob,0,none⟩ (.func (.func n) #[] #[])) (rb+1) 175 #[.int .i64 0,.int .i64 0,.slice none 0 0])/\Js (w3.setCell ⟨ob,0,none⟩ (.func (.func n) #[] #[])) w1.heap.size:=⟨⟨Ot.1.1.far (by dsimp only;omega) _,Ot.1.2.far (by dsimp only;omega) _⟩,World.ownsMap.kept Ot.2 (grownBy_setCell' w3 ob (.func (.func n) #[] #[])) (fun e=>by have e2:=Option.some.inj e;obtain ⟨_,_,hq,_⟩:=Ot.2;rw [e2,show w3.heap[ob]?=_ from O3] at hq;cases hq)⟩;refine hK.out _ _ (fun _=>IW) ?_;clear hK K
         (try simp only [Act.put,Z6])
         refine' Z0 (i:=10) rfl ?p8 IW ?zwn
         case p8 =>
          intro w' hSw;go_simp;rfl
         simp only [Act.put,Z6];refine Yc (by kernel_rfl) ?_ _;exact ⟨ob,w1.heap.size,rfl,IW.1,O3.set 0 (.func (.func n) #[] #[]),((Z8 (Z8 (ZV (Below.refl _ _)) hb2) hb3).setCell (by dsimp only;omega) _)⟩
       · intro K hK;rw [if_pos (by rfl)];go_simp;obtain ⟨w3',hw3⟩:=eE ((w1.alloc (.cells #[.nilFunc] 342)).drew);obtain ⟨ob,Sq⟩:=eE w1.heap.size;have hb3:Below w1.heap.size w1 w3':=(by rw [hw3];exact ZV (bA));have O3':Z7 w3' ob 342 #[.nilFunc]:=(by rw [hw3,Sq];exact (Z7.new _ _ _).drew);have hno:rb≠ob/\rb+1≠ob:=(by have:=B1.lt;have:=C1.lt;omega);have D9:w1.heap.size<=ob:=(by omega);rw [<- hw3,<- Sq];clear hw3 Sq;have D7:Z7 w3' rb 182 #[.int .i64 op,.int .i64 vs,.slice HA hrs.length hc,.int .i64 ZY,.slice GA gs.length gc,.slice PA ps.length pc,.slice QA qs.length qc]/\Z7 w3' (rb+1) 175 #[.int .i64 0,.int .i64 0,.slice none 0 0]:=⟨B1.step hb3,C1.step hb3⟩;refine hK.out _ _ (fun _=>D7) ?_;clear hK K
         (try simp only [Act.put,Z6])
         refine Zc (i:=0) (by kernel_rfl) rfl ?_;intro K hK;rw [if_pos (by rfl)];go_simp;refine ⟨trivial,?_⟩;refine (callsIn_wide.2 (vI.out _)).mono ?_;rintro e w3 ⟨rfl,hb2,ho2⟩;obtain ⟨mb,hmb⟩:=eE w3'.heap.size;have hS2:Z7 w3 rb 182 #[.int .i64 op,.int .i64 vs,.slice HA hrs.length hc,.int .i64 ZY,.slice GA gs.length gc,.slice PA ps.length pc,.slice QA qs.length qc]/\Z7 w3 (rb+1) 175 #[.int .i64 0,.int .i64 0,.slice none 0 0]:=⟨D7.1.step hb2,D7.2.step hb2⟩;have O3:=O3'.step hb2;refine hK.out _ _ (fun _=>hS2) ?_;clear hK K;rw [<- hmb] at ho2;rw [<- hmb];clear hmb;refine XP (S':=fun w'=>(Z7 w' rb 182 #[.int .i64 op,.int .i64 vs,.slice HA hrs.length hc,.int .i64 ZY,.slice GA gs.length gc,.slice PA ps.length pc,.slice QA qs.length qc]/\Z7 w' (rb+1) 175 #[.int .i64 0,.int .i64 0,.slice none 0 0])/\Js w' mb) (fun _ h=>h.1) _ _ _ _ ?_;have Ot:(Z7 w3 rb 182 #[.int .i64 op,.int .i64 vs,.slice HA hrs.length hc,.int .i64 ZY,.slice GA gs.length gc,.slice PA ps.length pc,.slice QA qs.length qc]/\Z7 w3 (rb+1) 175 #[.int .i64 0,.int .i64 0,.slice none 0 0])/\Js w3 mb:=⟨hS2,ho2⟩
         (try simp only [Act.put,Z6])
         refine' Z0 (i:=4) rfl ?jl Ot ?zuy
         case jl =>
          intro w' hSw;have hlk:=CG hSw.2 op n HN.out;go_simp;rfl
         simp only [Act.put,Z6];refine' Z0 (i:=5) rfl ?jr Ot ?zvb
         case jr =>
          intro w' hSw;go_simp;rfl
         simp only [Act.put,Z6];refine' Z0 (i:=6) rfl ?jA Ot ?zve
         case jA =>
          intro w' hSw;go_simp;rfl
         simp only [Act.put,Z6];refine' Z0 (i:=7) rfl ?jE Ot ?zvh
         case jE =>
          intro w' hSw;go_simp;rfl
         simp only [Act.put,Z6];have c3:w3.cell? ⟨ob,0,none⟩=some .nilFunc:=O3.q0 rfl;have f3:=O3.frozen 0;have hst:(store ⟨ob,0,none⟩ (.func (.func n) #[] #[])).run prog w3=.ok () (w3.setCell ⟨ob,0,none⟩ (.func (.func n) #[] #[])):=by
          rw [run_store prog w3 ⟨ob,0,none⟩ (.func (.func n) #[] #[]) _ (by rfl),c3];simp [f3]
         refine Zc (i:=9) (by kernel_rfl) rfl ?_;intro K hK;rw [if_pos (by rfl)];go_simp;have IW:(Z7 (w3.setCell ⟨ob,0,none⟩ (.func (.func n) #[] #[])) rb 182 #[.int .i64 op,.int .i64 vs,.slice HA hrs.length hc,.int .i64 ZY,.slice GA gs.length gc,.slice PA ps.length pc,.slice QA qs.length qc]/\Z7 (w3.setCell ⟨ob,0,none⟩ (.func (.func n) #[] #[])) (rb+1) 175 #[.int .i64 0,.int .i64 0,.slice none 0 0])/\Js (w3.setCell ⟨ob,0,none⟩ (.func (.func n) #[] #[])) mb:=⟨⟨Ot.1.1.far (by dsimp only;omega) _,Ot.1.2.far (by dsimp only;omega) _⟩,World.ownsMap.kept Ot.2 (grownBy_setCell' w3 ob (.func (.func n) #[] #[])) (fun e=>by have e2:=Option.some.inj e;obtain ⟨_,_,hq,_⟩:=Ot.2;rw [e2,show w3.heap[ob]?=_ from O3] at hq;cases hq)⟩;refine hK.out _ _ (fun _=>IW) ?_;clear hK K
         (try simp only [Act.put,Z6])
         refine' Z0 (i:=10) rfl ?p9 IW ?zwo
         case p9 =>
          intro w' hSw;go_simp;rfl
         simp only [Act.put,Z6];refine Yc (by kernel_rfl) ?_ _;exact ⟨ob,mb,rfl,IW.1,O3.set 0 (.func (.func n) #[] #[]),((Z8 hb3 hb2).setCell (by dsimp only;omega) _)⟩
     · rintro a w2 ⟨ob,mb,rfl,⟨B2,C2⟩,O2,hb2⟩;clear hS vI B1 C1;have hbb:=Z8 (Z8 HB0.out HB1.out) hb2;have c0:=C2.q0 rfl;have c1:=C2.q1 rfl;have c2:=C2.q2 rfl;have d0:=O2.q0 rfl;have e0:=B2.q0 rfl;have e1:=B2.q1 rfl;have e2:=B2.q2 rfl;have e3:=B2.q3 rfl;have e4:=B2.q4 rfl;have e5:=B2.q5 rfl;have e6:=B2.q6 rfl;have HC:=hide (HOP.out (More P w w2) w2 (Yr HP.out hbb) (.inl HG.out) (Z9.of_below hbb HP.out) (fun k h=>.inl h) (HT.out.more hbb) n zba.out mR.out HN.out);have HI:Hid (More P w w2 (rb+1)):=.inr ⟨by rw [Gc.out];exact Nat.le_succ _,C2.lt⟩;have Sg:Hid (¬ P (rb+1)):=fun h=>by have h1:=HP.out _ h;have h2:=Gc.out;omega
       have bV:=hide hbb;have nK:=hide C2;have hent:∀ args w,(callFunc n args).run prog w=.ok (.enter n args) w:=by
        rcases HN.out with ⟨_,h⟩|⟨_,h⟩|⟨_,h⟩|⟨_,h⟩
        · rw [h];exact enters_of func330 (by kernel_rfl) rfl
        · rw [h];exact enters_of func331 (by kernel_rfl) rfl
        · rw [h];exact enters_of func332 (by kernel_rfl) rfl
        · rw [h];exact enters_of func333 (by kernel_rfl) rfl
       dsimp at c0 c1 c2 d0 e0 e1 e2 e3 e4 e5 e6;clear hbb hb2 B2 O2 C2;gi_wp2_with fail;refine ⟨trivial,?_⟩;refine (callsIn_wide.2 HC.out).mono ?_;rintro e w3 ⟨rfl,hk3,ht3⟩;have C3:=nK.out.kept hk3 HI.out;have g0:=C3.q0 rfl;have g1:=C3.q1 rfl;have g2:=C3.q2 rfl;have k0:=C3.frozen 0;have k1:=C3.frozen 1;have k2:=C3.frozen 2;dsimp at g0 g1 g2;clear c0 c1 c2 d0 e0 e1 e2 e3 e4 e5 e6;gi_wp2;have E:Z7 _ (rb+1) 175 #[.int .i64 (Xx op gs ps),.int .i64 0,.slice none 0 0]:=((C3.set 0 (.int .i64 (Xx op gs ps))).set 1 (.int .i64 0)).set 2 (.slice none 0 0);have k9:=((Z9.setCell Sg.out 0 (.int .i64 (Xx op gs ps)) w3).trans (Z9.setCell Sg.out 1 (.int .i64 0) _)).trans (Z9.setCell Sg.out 2 (.slice none 0 0) _);have t9:=(((ht3.set HI.out 0 (.int .i64 (Xx op gs ps))).set HI.out 1 (.int .i64 0)).set HI.out 2 (.slice none 0 0)).mono (R:=P) fun k h=>.inl h;refine bodyPost_ret (Rw rfl rfl E) rfl ⟨?_,(Z9.more bV.out HP.out hk3).trans k9,?_⟩
       · rw [zoh.out];rfl
       · rw [dP.out];exact t9
 · have nE:Hid (Jy op vs hrs ZY gs ps qs=(0,err)):=hide (zN.out.trans (if_pos he));have dP:Hid (Ml op vs hrs ZY gs ps qs=[]):=hide (Qa.out.trans (if_pos he));clear zN Qa Ud HOP;have hrw:w.heap.size<=rb+1:=(by rw [Gc.out];exact Nat.le_succ _);have HRW:=hide hrw;clear hrw;gi_wp2;have E:Z7 _ (rb+1) 175 #[.int .i64 0,.int .i64 0,.slice none 0 0]:=((C1.set 0 (.int .i64 0)).set 1 (.int .i64 0)).set 2 (.slice none 0 0);have mZ:=(((Z8 HB0.out HB1.out).setCell (p:=⟨rb+1,0,none⟩) HRW.out (.int .i64 0)).setCell (p:=⟨rb+1,1,none⟩) HRW.out (.int .i64 0)).setCell (p:=⟨rb+1,2,none⟩) HRW.out (.slice none 0 0);refine bodyPost_ret (Rw rfl rfl E) rfl ⟨?_,Z9.of_below mZ HP.out,?_⟩
   · rw [nE.out];rfl
   · rw [dP.out,List.append_nil];exact HT.out.step mZ
end
end
end Go.Proofs.YthnenedoblncjaaGreatDoor