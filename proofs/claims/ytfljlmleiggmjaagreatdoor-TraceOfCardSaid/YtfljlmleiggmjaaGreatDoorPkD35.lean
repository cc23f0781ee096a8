/- Ops OpFns -/
import Derived.Maps.OwnSet
import Derived.Test.YtfljlmleiggmjaaGreatDoorPkD28
set_option maxRecDepth 1000000
set_option maxHeartbeats 8000000
namespace Go.Proofs.YtfljlmleiggmjaaGreatDoor
open Go.Proofs.Tryz
open List (getElem_toArray getElem_cons_succ getElem_cons_zero setIfInBounds_toArray set_cons_zero set_cons_succ)
section
open Go.RowKit Go.Shelf Go.Maps
def wH(v:Value):Option (DataW Unit × List MemPlace) :=
 match v with
 | .agg cs=>match cs.toList with
   | [.func (.func n) f c]=>if f.size=0/\c.size=0 then some (.lit (.int .i64 n),[]) else some (.lit (.int .i64 0),[])
   | _=>some (.lit (.int .i64 0),[])
 | _=>some (.lit (.int .i64 0),[])
theorem AQ{n:Nat}{ps:List MemPlace}(hn:n≠0):¬ (some ((DataW.lit (.int .i64 0):DataW Unit),([]:List MemPlace))=some (.lit (.int .i64 (n:Int)),ps)):=fun h=>by
 injection h with h;injection h with h _;injection h with h;injection h with _ h;omega
theorem LQ{v:Value}{n:Nat}{ps:List MemPlace}(hn:n≠0)(h:wH v=some (.lit (.int .i64 n),ps)):v=.agg #[.func (.func n) #[] #[]]:=by
 unfold wH at h;split at h
 · rename_i cs
   split at h
   · rename_i m f c he
     split at h
     · rename_i hz
       simp at h;obtain ⟨h,_⟩:=h;obtain rfl:m=n:=by first|exact h|exact Int.ofNat.inj h
       have:cs=#[.func (.func m) f c]:=(by rw [<- Array.toArray_toList (xs:=cs),he]);rw [this,Array.eq_empty_of_size_eq_zero hz.1,Array.eq_empty_of_size_eq_zero hz.2]
     · exact absurd h (AQ hn)
   · exact absurd h (AQ hn)
 · exact absurd h (AQ hn)
def zlb:DataW Unit:=(((DataW.map []).put (.int .i64 1) (.lit (.int .i64 186))).put (.int .i64 2) (.lit (.int .i64 188))).put (.int .i64 3) (.lit (.int .i64 190)) |>.put (.int .i64 4) (.lit (.int .i64 192))
theorem NR(n:Int)(h0:0<=n)(h1:n<=100):keyOf prog 3 (.int .i64 n)=some (.int .i64 n):=keyOf_int_mk underlying3 (WalkArith.wf_i64 (by omega))
def JR(w:World)(b:Nat):Prop:=w.ownsMap prog 3 wH b 4 zlb
theorem Rp(w:World):Calls prog 156 #[] w fun e w'=>e=.returned (.map (some w.heap.size))/\Below w.heap.size w w'/\JR w' w.heap.size:=by
 have hmm:=@run_makeMap prog;have eD:=World.ownsMap_made w prog 3 wH;obtain ⟨w1,zhz,Zn,hg1⟩:=eD.update Va underlying208 (by unfold maxLen;omega) (NR 1 (by omega) (by omega)) (show wH (.agg #[.func (.func 186) #[] #[]])=some (.lit (.int .i64 186),[]) from rfl);obtain ⟨w2,zia,Zj,hg2⟩:=Zn.update Va underlying208 (by unfold maxLen;omega) (NR 2 (by omega) (by omega)) (show wH (.agg #[.func (.func 188) #[] #[]])=some (.lit (.int .i64 188),[]) from rfl);obtain ⟨w3,pR,ZM,hg3⟩:=Zj.update Va underlying208 (by unfold maxLen;omega) (NR 3 (by omega) (by omega)) (show wH (.agg #[.func (.func 190) #[] #[]])=some (.lit (.int .i64 190),[]) from rfl);obtain ⟨w4,zib,Y9,hg4⟩:=ZM.update Va underlying208 (by unfold maxLen;omega) (NR 4 (by omega) (by omega)) (show wH (.agg #[.func (.func 192) #[] #[]])=some (.lit (.int .i64 192),[]) from rfl);have hb:Below w.heap.size w w4:=((((Z7 (Below.refl w.heap.size w) (.map #[] 0)).grown hg1 (by simp) (fun k e=>by cases e;exact Nat.le_refl _)).grown hg2 (Nat.le_trans (by simp) hg1.size) (fun k e=>by cases e;exact Nat.le_refl _)).grown hg3 (Nat.le_trans (Nat.le_trans (by simp) hg1.size) hg2.size) (fun k e=>by cases e;exact Nat.le_refl _)).grown hg4 (Nat.le_trans (Nat.le_trans (Nat.le_trans (by simp) hg1.size) hg2.size) hg3.size) (fun k e=>by cases e;exact Nat.le_refl _);have HB:=hide hb;have HO:=hide (show JR w4 w.heap.size from Y9);clear eD Zn Zj ZM Y9 hg1 hg2 hg3 hg4 hb;go_enter func156,ntmps156;go_wp2;go_ret;exact ⟨rfl,HB.out,HO.out⟩
theorem JR.step{w w':World}{b:Nat}(h:JR w b)(hb:Below w.heap.size w w'):JR w' b:=World.ownsMap.kept h (below_grown hb) (by simp)
theorem D9{w:World}{b:Nat}(h:JR w b)(op:Int)(n:Nat)(hn:op=1/\n=186\/op=2/\n=188\/op=3/\n=190\/op=4/\n=192):
 (Instr.lookup 208 (.map (some b)) (.int .i64 op) true).run prog w=.ok (.tuple #[.agg #[.func (.func n) #[] #[]],.bool true]) w:=by
 have hz:(zeroValue 206).run prog w=.ok (.agg #[.nilFunc]) w:=by kernel_rfl
 have hk:keyOf prog 3 (.int .i64 op)=some (.int .i64 op):=NR op (by omega) (by omega);obtain ⟨v,ps,hrun,hv⟩:=World.ownsMap.look_ok h Va underlying208 hz (show wH (.agg #[.nilFunc])=some (.lit (.int .i64 0),[]) from rfl) hk;rcases hn with ⟨rfl,rfl⟩|⟨rfl,rfl⟩|⟨rfl,rfl⟩|⟨rfl,rfl⟩
 · have hv':wH v=some (.lit (.int .i64 ((186:Nat):Int)),ps):=hv;obtain rfl:=LQ (by decide) hv';rw [hrun];rfl
 · have hv':wH v=some (.lit (.int .i64 ((188:Nat):Int)),ps):=hv;obtain rfl:=LQ (by decide) hv';rw [hrun];rfl
 · have hv':wH v=some (.lit (.int .i64 ((190:Nat):Int)),ps):=hv;obtain rfl:=LQ (by decide) hv';rw [hrun];rfl
 · have hv':wH v=some (.lit (.int .i64 ((192:Nat):Int)),ps):=hv;obtain rfl:=LQ (by decide) hv';rw [hrun];rfl
theorem Ea{w:World}{b:Nat}(h:JR w b):
 (Instr.lookup 208 (.map (some b)) (.int .i64 5) true).run prog w=.ok (.tuple #[.agg #[.nilFunc],.bool false]) w:=by
 have hz:(zeroValue 206).run prog w=.ok (.agg #[.nilFunc]) w:=by kernel_rfl
 have hk:keyOf prog 3 (.int .i64 5)=some (.int .i64 5):=NR 5 (by omega) (by omega);obtain ⟨es,clock,hb,F,_,hD⟩:=h;rcases Maps.fit_look true Va underlying208 hz hb F hk with ⟨hrun,_,hat⟩|⟨e0,y,h1,h2,hrun,hRv,hat,h3⟩
 · exact hrun
 · exfalso
   rw [<- hD] at hat;have a:(DataW.lit (.int .i64 0):DataW Unit)=.lit (.int .i64 1):=(show _=_ from (hat (.lit (.int .i64 0)))).trans (show _=_ from (hat (.lit (.int .i64 1)))).symm;injection a with a;injection a with _ a;omega
end
section
open Go.RowKit Go.Shelf
def Qy(w:World)(b off:Nat)(ps:List Pt)(j:Nat):Prop:=w.cell? ⟨b,off+j*2,none⟩=some (.int .i64 (Z4 ps j).1)/\w.cell? ⟨b,off+j*2+1,none⟩=some (.int .i64 (Z4 ps j).2)
theorem Pj{w:World}{P:Nat->Prop}{A:Option Addr}{ps:List Pt}(h:U2 w P A (Zc ps))(hn:0<ps.length):∃ b off,A=some ⟨b,off,none⟩/\P b/\∀ w',Z8 P w w'->∀ j,j<ps.length->Qy w' b off ps j:=by
 rcases h with h|⟨b,off,hA,hb,hc⟩
 · exfalso
   have h2:(Zc ps).length=ps.length*2:=YK (fun p:Int × Int=>[Value.int .i64 p.1,.int .i64 p.2]) 2 (fun _=>rfl) ps;rw [h] at h2;simp at h2;omega
 · subst hA;refine ⟨b,off,rfl,hb,fun w' hk j hj=>?_⟩;have hb':Sl w' (b+1) (some ⟨b,off,none⟩) (Zc ps):=.inr ⟨b,off,rfl,by omega,fun j u hu=>(hk.cell hb _).trans (hc j u hu)⟩;exact XE hb' hj
theorem Qy.step{w w':World}{b off:Nat}{ps:List Pt}{j:Nat}(h:Qy w b off ps j)(hb:Below w.heap.size w w'):Qy w' b off ps j :=
 ⟨(hb.cell (p:=⟨b,off+j*2,none⟩) (Zv h.1)).trans h.1,(hb.cell (p:=⟨b,off+j*2+1,none⟩) (Zv h.2)).trans h.2⟩
section
variable (P:Nat->Prop)(t:Option (Nat × Nat))(es:List Ev)(op vs Z0:Int)(HA:Option Addr)(hn hc:Nat)(gs:List Gr)(GA:Option Addr)(gc:Nat)(ps:List Pt)(PA:Option Addr)(pc:Nat)(QA:Option Addr)(qn qc:Nat)(w:World)
variable (hP:∀ k,P k->k<w.heap.size)(hg0:P 3)(hw:MW w)(ht:Tp w P t es)(hl:es.length<=600000)(hps:Tq ps)(hs:U2 w P PA (Zc ps))
include hP hg0 hw ht hl hps hs
omit ht hl hg0 in
theorem kM(hlen:ps.length=3):Calls prog 186 #[.pointer (Zu t),.agg #[.int .i64 op,.int .i64 vs,.slice HA hn hc,.int .i64 Z0,.slice GA gs.length gc,.slice PA ps.length pc,.slice QA qn qc]] w fun e w'=>e=.returned (.int .i64 ((ZF (Z4 ps 0) (Z4 ps 1) (Z4 ps 2)).sign+1))/\Below w.heap.size w w':=by
 obtain ⟨b,off,rfl,hb,hcs⟩:=Pj hs (by omega);obtain ⟨w0,hw0⟩:=eE (w.alloc (.cells #[.int .i64 op,.int .i64 vs,.slice HA hn hc,.int .i64 Z0,.slice GA gs.length gc,.slice (some ⟨b,off,none⟩) 3 pc,.slice QA qn qc] 100));have hb0:=bE hw0;have B0:Z6 w0 w.heap.size 100 #[.int .i64 op,.int .i64 vs,.slice HA hn hc,.int .i64 Z0,.slice GA gs.length gc,.slice (some ⟨b,off,none⟩) 3 pc,.slice QA qn qc]:=by rw [hw0];exact Z6.new _ _ _
 have hk0:Z8 P w w0:=Z8.of_below hb0 hP;have Q0:=hcs w0 hk0 0 (by omega);have Q1:=hcs w0 hk0 1 (by omega);have Q2:=hcs w0 hk0 2 (by omega);obtain ⟨os,hos⟩:=eE ((ZF (Z4 ps 0) (Z4 ps 1) (Z4 ps 2)).sign);have CF:os=-1\/os=0\/os=1:=by rw [hos];exact WW _
 have Tv:=fun w (hM:MW w)=>UF (Z4 ps 0) (Z4 ps 1) (Z4 ps 2) (hps.at_ 0) (hps.at_ 1) (hps.at_ 2) w hM;rw [<- hos] at Tv;have xO:=hide (Tv w0.drew ((hw.step hb0).step (ZV (Below.refl _ _))));have hwr:IntKind.i64.wrap (os+1)=os+1:=by rw [IntKind.wrap_i64];omega
 have Wj:prog.follows .mixedOrders=true:=by kernel_rfl
 rw [<- hos,hlen];clear hos CF Tv hcs hk0 hlen hs hps hw hP;refine (callsIn_wide (n:=6)).1 ?_;refine callsIn_of_wp func186 rfl trivial ?_ rfl;simp only [ntmps186,List.size_toArray,List.length_cons,List.length_nil,Nat.reduceAdd,Nat.reduceSub,Array.replicate_succ,Array.replicate_zero,List.push_toArray,List.append_toArray,List.nil_append,List.cons_append];gi_wp2_with fail;rw [<- hw0];clear hw0;refine Xy 1000 (S:=fun w'=>Z6 w' w.heap.size 100 #[.int .i64 op,.int .i64 vs,.slice HA hn hc,.int .i64 Z0,.slice GA gs.length gc,.slice (some ⟨b,off,none⟩) 3 pc,.slice QA qn qc]/\Qy w' b off ps 0/\Qy w' b off ps 1/\Qy w' b off ps 2) Wj ?_;have hS:Z6 w0.drew w.heap.size 100 #[.int .i64 op,.int .i64 vs,.slice HA hn hc,.int .i64 Z0,.slice GA gs.length gc,.slice (some ⟨b,off,none⟩) 3 pc,.slice QA qn qc]/\Qy w0.drew b off ps 0/\Qy w0.drew b off ps 1/\Qy w0.drew b off ps 2:=⟨B0.drew,Q0,Q1,Q2⟩;refine' ZU (i:=0) rfl ?Rh hS ?OY
 case Rh =>
  intro w' hSw;go_simp;rfl
 simp only [Act.put,getElem_toArray,getElem_cons_zero,setIfInBounds_toArray,set_cons_zero,set_cons_succ];refine' ZU (i:=1) rfl ?Ri hS ?OZ
 case Ri =>
  intro w' hSw;obtain ⟨r0,q0,q1,q2⟩:=hSw;have z5:=r0.q5 rfl;go_simp;rfl
 simp only [Act.put,ZX];refine' ZU (i:=2) rfl ?OE hS ?LV
 case OE =>
  intro w' hSw;go_simp;rfl
 simp only [Act.put,ZX];refine' ZU (i:=3) rfl ?OG hS ?LW
 case OG =>
  intro w' hSw;obtain ⟨r0,q0,q1,q2⟩:=hSw;have z0:w'.cell? ⟨b,off,none⟩=some (.int .i64 (Z4 ps 0).1):=by simpa using q0.1
  have z1:w'.cell? ⟨b,off+1,none⟩=some (.int .i64 (Z4 ps 0).2):=by simpa using q0.2
  go_simp;rfl
 simp only [Act.put,ZX];refine' ZU (i:=4) rfl ?Kz hS ?F9
 case Kz =>
  intro w' hSw;go_simp;rfl
 simp only [Act.put,ZX];refine' ZU (i:=5) rfl ?KA hS ?Ga
 case KA =>
  intro w' hSw;obtain ⟨r0,q0,q1,q2⟩:=hSw;have z5:=r0.q5 rfl;go_simp;rfl
 simp only [Act.put,ZX];refine' ZU (i:=6) rfl ?zqb hS ?zlt
 case zqb =>
  intro w' hSw;go_simp;rfl
 simp only [Act.put,ZX];refine' ZU (i:=7) rfl ?zqd hS ?zlv
 case zqd =>
  intro w' hSw;obtain ⟨r0,q0,q1,q2⟩:=hSw;have z0:w'.cell? ⟨b,off+2,none⟩=some (.int .i64 (Z4 ps 1).1):=by simpa using q1.1
  have z1:w'.cell? ⟨b,off+2+1,none⟩=some (.int .i64 (Z4 ps 1).2):=by simpa using q1.2
  have z2:w'.cell? ⟨b,off+3,none⟩=some (.int .i64 (Z4 ps 1).2):=z1;go_simp;rfl
 simp only [Act.put,ZX];refine' ZU (i:=8) rfl ?zqh hS ?zlz
 case zqh =>
  intro w' hSw;go_simp;rfl
 simp only [Act.put,ZX];refine' ZU (i:=9) rfl ?zzy hS ?ztf
 case zzy =>
  intro w' hSw;obtain ⟨r0,q0,q1,q2⟩:=hSw;have z5:=r0.q5 rfl;go_simp;rfl
 simp only [Act.put,ZX];refine' ZU (i:=10) rfl ?je hS ?zuh
 case je =>
  intro w' hSw;go_simp;rfl
 simp only [Act.put,ZX];refine' ZU (i:=11) rfl ?jl hS ?zun
 case jl =>
  intro w' hSw;obtain ⟨r0,q0,q1,q2⟩:=hSw;have z0:w'.cell? ⟨b,off+4,none⟩=some (.int .i64 (Z4 ps 2).1):=by simpa using q2.1
  have z1:w'.cell? ⟨b,off+4+1,none⟩=some (.int .i64 (Z4 ps 2).2):=by simpa using q2.2
  have z2:w'.cell? ⟨b,off+5,none⟩=some (.int .i64 (Z4 ps 2).2):=z1;go_simp;rfl
 simp only [Act.put,ZX];refine Yi (i:=12) (by kernel_rfl) rfl ?_;intro K hK;rw [if_pos (by rfl)];go_simp;refine ⟨trivial,?_⟩;refine (callsIn_wide.2 xO.out).mono ?_;rintro e w1 ⟨rfl,hb1⟩;have hS1:Z6 w1 w.heap.size 100 #[.int .i64 op,.int .i64 vs,.slice HA hn hc,.int .i64 Z0,.slice GA gs.length gc,.slice (some ⟨b,off,none⟩) 3 pc,.slice QA qn qc]/\Qy w1 b off ps 0/\Qy w1 b off ps 1/\Qy w1 b off ps 2:=⟨hS.1.step hb1,(hS.2.1).step hb1,(hS.2.2.1).step hb1,(hS.2.2.2).step hb1⟩;refine hK.out _ _ (fun _=>hS1) ?_;clear hK K
 (try simp only [Act.put,ZX])
 refine' ZU (i:=13) rfl ?jA hS1 ?zuu
 case jA =>
  intro w' hSw;go_simp;rfl
 simp only [Act.put,ZX];refine' ZU (i:=14) rfl ?jC hS1 ?zuw
 case jC =>
  intro w' hSw;go_simp;rfl
 simp only [Act.put,ZX];refine WG (by kernel_rfl) ?_ _;gi_wp2;go_ret;exact ⟨rfl,Z9 (ZV hb0) hb1⟩
omit ht hl hg0 in
theorem kN(hlen:ps.length=4):Calls prog 188 #[.pointer (Zu t),.agg #[.int .i64 op,.int .i64 vs,.slice HA hn hc,.int .i64 Z0,.slice GA gs.length gc,.slice PA ps.length pc,.slice QA qn qc]] w fun e w'=>e=.returned (.int .i64 ((Yq (Z4 ps 0) (Z4 ps 1) (Z4 ps 2) (Z4 ps 3)).sign+1))/\Below w.heap.size w w':=by
 obtain ⟨b,off,rfl,hb,hcs⟩:=Pj hs (by omega);obtain ⟨w0,hw0⟩:=eE (w.alloc (.cells #[.int .i64 op,.int .i64 vs,.slice HA hn hc,.int .i64 Z0,.slice GA gs.length gc,.slice (some ⟨b,off,none⟩) 4 pc,.slice QA qn qc] 100));have hb0:=bE hw0;have B0:Z6 w0 w.heap.size 100 #[.int .i64 op,.int .i64 vs,.slice HA hn hc,.int .i64 Z0,.slice GA gs.length gc,.slice (some ⟨b,off,none⟩) 4 pc,.slice QA qn qc]:=by rw [hw0];exact Z6.new _ _ _
 have hk0:Z8 P w w0:=Z8.of_below hb0 hP;have Q0:=hcs w0 hk0 0 (by omega);have Q1:=hcs w0 hk0 1 (by omega);have Q2:=hcs w0 hk0 2 (by omega);have Q3:=hcs w0 hk0 3 (by omega);obtain ⟨os,hos⟩:=eE ((Yq (Z4 ps 0) (Z4 ps 1) (Z4 ps 2) (Z4 ps 3)).sign);have CF:os=-1\/os=0\/os=1:=by rw [hos];exact WW _
 have Tv:=fun w (hM:MW w)=>Hq (Z4 ps 0) (Z4 ps 1) (Z4 ps 2) (Z4 ps 3) (hps.at_ 0) (hps.at_ 1) (hps.at_ 2) (hps.at_ 3) w hM;rw [<- hos] at Tv;have xO:=hide (Tv w0.drew ((hw.step hb0).step (ZV (Below.refl _ _))));have hwr:IntKind.i64.wrap (os+1)=os+1:=by rw [IntKind.wrap_i64];omega
 have Wj:prog.follows .mixedOrders=true:=by kernel_rfl
 rw [<- hos,hlen];clear hos CF Tv hcs hk0 hlen hs hps hw hP;refine (callsIn_wide (n:=6)).1 ?_;refine callsIn_of_wp func188 rfl trivial ?_ rfl;simp only [ntmps188,List.size_toArray,List.length_cons,List.length_nil,Nat.reduceAdd,Nat.reduceSub,Array.replicate_succ,Array.replicate_zero,List.push_toArray,List.append_toArray,List.nil_append,List.cons_append];gi_wp2_with fail;rw [<- hw0];clear hw0;refine Xy 1000 (S:=fun w'=>Z6 w' w.heap.size 100 #[.int .i64 op,.int .i64 vs,.slice HA hn hc,.int .i64 Z0,.slice GA gs.length gc,.slice (some ⟨b,off,none⟩) 4 pc,.slice QA qn qc]/\Qy w' b off ps 0/\Qy w' b off ps 1/\Qy w' b off ps 2/\Qy w' b off ps 3) Wj ?_;have hS:Z6 w0.drew w.heap.size 100 #[.int .i64 op,.int .i64 vs,.slice HA hn hc,.int .i64 Z0,.slice GA gs.length gc,.slice (some ⟨b,off,none⟩) 4 pc,.slice QA qn qc]/\Qy w0.drew b off ps 0/\Qy w0.drew b off ps 1/\Qy w0.drew b off ps 2/\Qy w0.drew b off ps 3:=⟨B0.drew,Q0,Q1,Q2,Q3⟩;refine' ZU (i:=0) rfl ?zxo hS ?zqv
 case zxo =>
  intro w' hSw;go_simp;rfl
 simp only [Act.put,getElem_toArray,getElem_cons_zero,setIfInBounds_toArray,set_cons_zero,set_cons_succ];refine' ZU (i:=1) rfl ?zxz hS ?zrg
 case zxz =>
  intro w' hSw;obtain ⟨r0,q0,q1,q2,q3⟩:=hSw;have z5:=r0.q5 rfl;go_simp;rfl
 simp only [Act.put,ZX];refine' ZU (i:=2) rfl ?zyi hS ?zrp
 case zyi =>
  intro w' hSw;go_simp;rfl
 simp only [Act.put,ZX];refine' ZU (i:=3) rfl ?zyr hS ?zry
 case zyr =>
  intro w' hSw;obtain ⟨r0,q0,q1,q2,q3⟩:=hSw;have z0:w'.cell? ⟨b,off,none⟩=some (.int .i64 (Z4 ps 0).1):=by simpa using q0.1
  have z1:w'.cell? ⟨b,off+1,none⟩=some (.int .i64 (Z4 ps 0).2):=by simpa using q0.2
  go_simp;rfl
 simp only [Act.put,ZX];refine' ZU (i:=4) rfl ?zyz hS ?zsg
 case zyz =>
  intro w' hSw;go_simp;rfl
 simp only [Act.put,ZX];refine' ZU (i:=5) rfl ?zze hS ?zsl
 case zze =>
  intro w' hSw;obtain ⟨r0,q0,q1,q2,q3⟩:=hSw;have z5:=r0.q5 rfl;go_simp;rfl
 simp only [Act.put,ZX];refine' ZU (i:=6) rfl ?zzl hS ?zss
 case zzl =>
  intro w' hSw;go_simp;rfl
 simp only [Act.put,ZX];refine' ZU (i:=7) rfl ?zzs hS ?zsz
 case zzs =>
  intro w' hSw;obtain ⟨r0,q0,q1,q2,q3⟩:=hSw;have z0:w'.cell? ⟨b,off+2,none⟩=some (.int .i64 (Z4 ps 1).1):=by simpa using q1.1
  have z1:w'.cell? ⟨b,off+2+1,none⟩=some (.int .i64 (Z4 ps 1).2):=by simpa using q1.2
  have z2:w'.cell? ⟨b,off+3,none⟩=some (.int .i64 (Z4 ps 1).2):=z1;go_simp;rfl
 simp only [Act.put,ZX];refine' ZU (i:=8) rfl ?zzv hS ?ztc
 case zzv =>
  intro w' hSw;go_simp;rfl
 simp only [Act.put,ZX];refine' ZU (i:=9) rfl ?aj hS ?zth
 case aj =>
  intro w' hSw;obtain ⟨r0,q0,q1,q2,q3⟩:=hSw;have z5:=r0.q5 rfl;go_simp;rfl
 simp only [Act.put,ZX];refine' ZU (i:=10) rfl ?jg hS ?zuj
 case jg =>
  intro w' hSw;go_simp;rfl
 simp only [Act.put,ZX];refine' ZU (i:=11) rfl ?jo hS ?zup
 case jo =>
  intro w' hSw;obtain ⟨r0,q0,q1,q2,q3⟩:=hSw;have z0:w'.cell? ⟨b,off+4,none⟩=some (.int .i64 (Z4 ps 2).1):=by simpa using q2.1
  have z1:w'.cell? ⟨b,off+4+1,none⟩=some (.int .i64 (Z4 ps 2).2):=by simpa using q2.2
  have z2:w'.cell? ⟨b,off+5,none⟩=some (.int .i64 (Z4 ps 2).2):=z1;go_simp;rfl
 simp only [Act.put,ZX];refine' ZU (i:=12) rfl ?jy hS ?zut
 case jy =>
  intro w' hSw;go_simp;rfl
 simp only [Act.put,ZX];refine' ZU (i:=13) rfl ?jB hS ?zuv
 case jB =>
  intro w' hSw;obtain ⟨r0,q0,q1,q2,q3⟩:=hSw;have z5:=r0.q5 rfl;go_simp;rfl
 simp only [Act.put,ZX];refine' ZU (i:=14) rfl ?jD hS ?zux
 case jD =>
  intro w' hSw;go_simp;rfl
 simp only [Act.put,ZX];refine' ZU (i:=15) rfl ?jE hS ?zuy
 case jE =>
  intro w' hSw;obtain ⟨r0,q0,q1,q2,q3⟩:=hSw;have z0:w'.cell? ⟨b,off+6,none⟩=some (.int .i64 (Z4 ps 3).1):=by simpa using q3.1
  have z1:w'.cell? ⟨b,off+6+1,none⟩=some (.int .i64 (Z4 ps 3).2):=by simpa using q3.2
  have z2:w'.cell? ⟨b,off+7,none⟩=some (.int .i64 (Z4 ps 3).2):=z1;go_simp;rfl
 simp only [Act.put,ZX];refine Yi (i:=16) (by kernel_rfl) rfl ?_;intro K hK;rw [if_pos (by rfl)];go_simp;refine ⟨trivial,?_⟩;refine (callsIn_wide.2 xO.out).mono ?_;rintro e w1 ⟨rfl,hb1⟩;have hS1:Z6 w1 w.heap.size 100 #[.int .i64 op,.int .i64 vs,.slice HA hn hc,.int .i64 Z0,.slice GA gs.length gc,.slice (some ⟨b,off,none⟩) 4 pc,.slice QA qn qc]/\Qy w1 b off ps 0/\Qy w1 b off ps 1/\Qy w1 b off ps 2/\Qy w1 b off ps 3:=⟨hS.1.step hb1,(hS.2.1).step hb1,(hS.2.2.1).step hb1,(hS.2.2.2.1).step hb1,(hS.2.2.2.2).step hb1⟩;refine hK.out _ _ (fun _=>hS1) ?_;clear hK K
 (try simp only [Act.put,ZX])
 refine' ZU (i:=17) rfl ?jF hS1 ?zuz
 case jF =>
  intro w' hSw;go_simp;rfl
 simp only [Act.put,ZX];refine' ZU (i:=18) rfl ?jG hS1 ?zva
 case jG =>
  intro w' hSw;go_simp;rfl
 simp only [Act.put,ZX];refine WG (by kernel_rfl) ?_ _;gi_wp2;go_ret;exact ⟨rfl,Z9 (ZV hb0) hb1⟩
end
theorem Qy.kept{w w':World}{P:Nat->Prop}{b off:Nat}{ps:List Pt}{j:Nat}(h:Qy w b off ps j)(hk:Z8 P w w')(hb:P b):Qy w' b off ps j:=⟨(hk.cell hb _).trans h.1,(hk.cell hb _).trans h.2⟩
theorem IV(ps:List Pt)(n j:Nat)(u:Value)(h:(Zc (ps.take n))[j]?=some u):(Zc ps)[j]?=some u:=by
 have e:Zc ps=Zc (ps.take n)++Zc (ps.drop n):=by
  unfold Zc;rw [<- List.flatMap_append,List.take_append_drop]
 rw [e,List.getElem?_append_left (List.getElem?_eq_some_iff.1 h).1];exact h
theorem U2.zue{w:World}{P:Nat->Prop}{A:Option Addr}{ps:List Pt}(h:U2 w P A (Zc ps))(n:Nat):U2 w P A (Zc (ps.take n)):=by
 rcases h with h|⟨b,off,hA,hb,hc⟩
 · left
   cases ps with
   | nil=>simp [Zc]
   | cons p ps=>simp [Zc] at h
 · exact .inr ⟨b,off,hA,hb,fun j u hu=>hc j u (IV ps n j u hu)⟩
theorem Tq.zua{ps:List Pt}(h:Tq ps)(n:Nat):Tq (ps.take n):=fun p hp=>h p (List.mem_of_mem_take hp)
section
variable (P:Nat->Prop)(t:Option (Nat × Nat))(es:List Ev)(op vs Z0:Int)(HA:Option Addr)(hn hc:Nat)(gs:List Gr)(GA:Option Addr)(gc:Nat)(ps:List Pt)(PA:Option Addr)(pc:Nat)(QA:Option Addr)(qn qc:Nat)(w:World)
variable (hP:∀ k,P k->k<w.heap.size)(hg0:P 3)(hw:MW w)(ht:Tp w P t es)(hl:es.length<=600000)(hps:Tq ps)(hs:U2 w P PA (Zc ps))
include hP hg0 hw ht hl hps hs
theorem kP(n:Nat)(hlen:ps.length=n+1)(Aj:n<=64)(hcap:n+1<=pc):Calls prog 190 #[.pointer (Zu t),.agg #[.int .i64 op,.int .i64 vs,.slice HA hn hc,.int .i64 Z0,.slice GA gs.length gc,.slice PA ps.length pc,.slice QA qn qc]] w fun e w'=>e=.returned (.int .i64 (Wt (ps.take n) (Z4 ps n)))/\Z8 P w w'/\Tp w' P t (es++J7 n):=by
 obtain ⟨w0,hw0⟩:=eE (w.alloc (.cells #[.int .i64 op,.int .i64 vs,.slice HA hn hc,.int .i64 Z0,.slice GA gs.length gc,.slice PA (n+1) pc,.slice QA qn qc] 100));have hb0:=bE hw0;have B0:Z6 w0 w.heap.size 100 #[.int .i64 op,.int .i64 vs,.slice HA hn hc,.int .i64 Z0,.slice GA gs.length gc,.slice PA (n+1) pc,.slice QA qn qc]:=by rw [hw0];exact Z6.new _ _ _
 have hk0:Z8 P w w0.drew:=(Z8.of_below hb0 hP).trans (Z8.drew _ _);have hlt:(ps.take n).length=n:=by rw [List.length_take];omega
 have hbd:Below w.heap.size w w0.drew:=ZV hb0;have Qo:=zF (More P w w0.drew) t es (Z4 ps n) (hps.at_ n) w0.drew (Yg hP hbd) (.inl hg0) (hw.kept hk0 hg0) (ht.more hbd) hl (ps.take n) (hps.zua n) (by omega) PA pc (((hs.zue n).kept hk0).mono fun k h=>.inl h);have HI:Hid (More P w w0.drew w.heap.size):=.inr ⟨Nat.le_refl _,B0.lt⟩;rw [hlt] at Qo;have HC:=hide Qo;obtain ⟨b,off,rfl,hb,hcs⟩:=Pj hs (by omega);have Q:=hcs w0.drew hk0 n (by omega);have hwr:IntKind.i64.wrap ((n:Nat):Int)=(n:Int):=by rw [IntKind.wrap_i64];omega
 have hni:((n:Nat):Int)<((n:Int)+1):=by omega
 have hci:((n:Nat):Int)<=((pc:Nat):Int):=by omega
 have hcn:n<=pc:=by omega
 have Wj:prog.follows .mixedOrders=true:=by kernel_rfl
 obtain ⟨r,hr⟩:=eE (Wt (ps.take n) (Z4 ps n));rw [<- hr] at HC;rw [<- hr,hlen];have Mv:=hide hk0;have HP:=hide hP;have U1:=hide hbd;clear hbd hr Qo hcs hk0 hlen hs hps hw hg0 hP ht hl hlt;refine (callsIn_wide (n:=6)).1 ?_;refine callsIn_of_wp func190 rfl trivial ?_ rfl;simp only [ntmps190,List.size_toArray,List.length_cons,List.length_nil,Nat.reduceAdd,Nat.reduceSub,Array.replicate_succ,Array.replicate_zero,List.push_toArray,List.append_toArray,List.nil_append,List.cons_append];gi_wp2_with fail;rw [<- hw0];clear hw0;refine Xy 1000 (S:=fun w'=>Z6 w' w.heap.size 100 #[.int .i64 op,.int .i64 vs,.slice HA hn hc,.int .i64 Z0,.slice GA gs.length gc,.slice (some ⟨b,off,none⟩) (n+1) pc,.slice QA qn qc]/\Qy w' b off ps n) Wj ?_;have hS:Z6 w0.drew w.heap.size 100 #[.int .i64 op,.int .i64 vs,.slice HA hn hc,.int .i64 Z0,.slice GA gs.length gc,.slice (some ⟨b,off,none⟩) (n+1) pc,.slice QA qn qc]/\Qy w0.drew b off ps n:=⟨B0.drew,Q⟩;refine' ZU (i:=0) rfl ?zxs hS ?zqz
 case zxs =>
  intro w' hSw;go_simp;rfl
 simp only [Act.put,getElem_toArray,getElem_cons_zero,setIfInBounds_toArray,set_cons_zero,set_cons_succ];refine' ZU (i:=1) rfl ?zye hS ?zrl
 case zye =>
  intro w' hSw;go_simp;rfl
 simp only [Act.put,ZX];refine' ZU (i:=2) rfl ?zym hS ?zrt
 case zym =>
  intro w' hSw;obtain ⟨r0,q⟩:=hSw;have z5:=r0.q5 rfl;go_simp;rfl
 simp only [Act.put,ZX];refine' ZU (i:=3) rfl ?zyu hS ?zsb
 case zyu =>
  intro w' hSw;go_simp;rfl
 simp only [Act.put,ZX];refine' ZU (i:=4) rfl ?zza hS ?zsh
 case zza =>
  intro w' hSw;go_simp;rfl
 simp only [Act.put,ZX];refine' ZU (i:=5) rfl ?zzh hS ?zso
 case zzh =>
  intro w' hSw;go_simp;rfl
 simp only [Act.put,ZX];refine' ZU (i:=6) rfl ?zzo hS ?zsv
 case zzo =>
  intro w' hSw;obtain ⟨r0,q⟩:=hSw;have z5:=r0.q5 rfl;go_simp;rfl
 simp only [Act.put,ZX];refine' ZU (i:=7) rfl ?zzt hS ?zta
 case zzt =>
  intro w' hSw;go_simp;rfl
 simp only [Act.put,ZX];refine' ZU (i:=8) rfl ?zzw hS ?ztd
 case zzw =>
  intro w' hSw;go_simp;rfl
 simp only [Act.put,ZX];refine' ZU (i:=9) rfl ?aA hS ?ztk
 case aA =>
  intro w' hSw;obtain ⟨r0,q⟩:=hSw;have z0:=q.1;have z1:=q.2;go_simp;rfl
 simp only [Act.put,ZX];refine Yi (i:=10) (by kernel_rfl) rfl ?_;intro K hK;rw [if_pos (by rfl)];go_simp;refine ⟨trivial,?_⟩;refine (callsIn_wide.2 HC.out).mono ?_;rintro e w1 ⟨rfl,hk1,ht1⟩;have hS1:Z6 w1 w.heap.size 100 #[.int .i64 op,.int .i64 vs,.slice HA hn hc,.int .i64 Z0,.slice GA gs.length gc,.slice (some ⟨b,off,none⟩) (n+1) pc,.slice QA qn qc]/\Qy w1 b off ps n:=⟨hS.1.kept hk1 HI.out,hS.2.kept hk1 (.inl hb)⟩;refine hK.out _ _ (fun _=>hS1) ?_;clear hK K
 (try simp only [Act.put,ZX])
 refine' ZU (i:=11) rfl ?jw hS1 ?zus
 case jw =>
  intro w' hSw;go_simp;rfl
 simp only [Act.put,ZX];refine WG (by kernel_rfl) ?_ _;gi_wp2;go_ret;exact ⟨rfl,Z8.more U1.out HP.out hk1,ht1.mono fun k h=>.inl h⟩
theorem kQ(hlen:ps.length=1)(hgc:U2 w P GA (rgCells (gs.map (·.1))))(hgs:xK w P gs):Calls prog 192 #[.pointer (Zu t),.agg #[.int .i64 op,.int .i64 vs,.slice HA hn hc,.int .i64 Z0,.slice GA gs.length gc,.slice PA ps.length pc,.slice QA qn qc]] w fun e w'=>e=.returned (.int .i64 (Vy gs (Z4 ps 0)))/\Z8 P w w'/\Tp w' P t (es++Oy gs):=by
 obtain ⟨w0,hw0⟩:=eE (w.alloc (.cells #[.int .i64 op,.int .i64 vs,.slice HA hn hc,.int .i64 Z0,.slice GA gs.length gc,.slice PA 1 pc,.slice QA qn qc] 100));have hb0:=bE hw0;have B0:Z6 w0 w.heap.size 100 #[.int .i64 op,.int .i64 vs,.slice HA hn hc,.int .i64 Z0,.slice GA gs.length gc,.slice PA 1 pc,.slice QA qn qc]:=by rw [hw0];exact Z6.new _ _ _
 have hk0:Z8 P w w0.drew:=(Z8.of_below hb0 hP).trans (Z8.drew _ _);have hbd:Below w.heap.size w w0.drew:=ZV hb0;have Qo:=zJ (More P w w0.drew) t es (Z4 ps 0) (hps.at_ 0) w0.drew (Yg hP hbd) (.inl hg0) (hw.kept hk0 hg0) (ht.more hbd) hl gs GA gc ((hgc.kept hk0).mono fun k h=>.inl h) (fun g hg=>⟨(hgs g hg).1,((hgs g hg).2.1.kept hk0).mono fun k h=>.inl h,(hgs g hg).2.2⟩);have HI:Hid (More P w w0.drew w.heap.size):=.inr ⟨Nat.le_refl _,B0.lt⟩;obtain ⟨b,off,rfl,hb,hcs⟩:=Pj hs (by omega);have Q:=hcs w0.drew hk0 0 (by omega);have Wj:prog.follows .mixedOrders=true:=by kernel_rfl
 obtain ⟨r,hr⟩:=eE (Vy gs (Z4 ps 0));rw [<- hr] at Qo;have HC:=hide Qo;rw [<- hr,hlen];have Mv:=hide hk0;have HP:=hide hP;have U1:=hide hbd;clear hbd hr Qo hcs hk0 hlen hs hps hw hg0 hP ht hl hgc hgs;refine (callsIn_wide (n:=6)).1 ?_;refine callsIn_of_wp func192 rfl trivial ?_ rfl;simp only [ntmps192,List.size_toArray,List.length_cons,List.length_nil,Nat.reduceAdd,Nat.reduceSub,Array.replicate_succ,Array.replicate_zero,List.push_toArray,List.append_toArray,List.nil_append,List.cons_append];gi_wp2_with fail;rw [<- hw0];clear hw0;refine Xy 1000 (S:=fun w'=>Z6 w' w.heap.size 100 #[.int .i64 op,.int .i64 vs,.slice HA hn hc,.int .i64 Z0,.slice GA gs.length gc,.slice (some ⟨b,off,none⟩) 1 pc,.slice QA qn qc]/\Qy w' b off ps 0) Wj ?_;have hS:Z6 w0.drew w.heap.size 100 #[.int .i64 op,.int .i64 vs,.slice HA hn hc,.int .i64 Z0,.slice GA gs.length gc,.slice (some ⟨b,off,none⟩) 1 pc,.slice QA qn qc]/\Qy w0.drew b off ps 0:=⟨B0.drew,Q⟩;refine' ZU (i:=0) rfl ?zxt hS ?zra
 case zxt =>
  intro w' hSw;go_simp;rfl
 simp only [Act.put,getElem_toArray,getElem_cons_zero,setIfInBounds_toArray,set_cons_zero,set_cons_succ];refine' ZU (i:=1) rfl ?zyf hS ?zrm
 case zyf =>
  intro w' hSw;go_simp;rfl
 simp only [Act.put,ZX];refine' ZU (i:=2) rfl ?zyo hS ?zrv
 case zyo =>
  intro w' hSw;obtain ⟨r0,q⟩:=hSw;have z4:=r0.q4 rfl;go_simp;rfl
 simp only [Act.put,ZX];refine' ZU (i:=3) rfl ?zyw hS ?zsd
 case zyw =>
  intro w' hSw;go_simp;rfl
 simp only [Act.put,ZX];refine' ZU (i:=4) rfl ?zzb hS ?zsi
 case zzb =>
  intro w' hSw;obtain ⟨r0,q⟩:=hSw;have z5:=r0.q5 rfl;go_simp;rfl
 simp only [Act.put,ZX];refine' ZU (i:=5) rfl ?zzi hS ?zsp
 case zzi =>
  intro w' hSw;go_simp;rfl
 simp only [Act.put,ZX];refine' ZU (i:=6) rfl ?zzp hS ?zsw
 case zzp =>
  intro w' hSw;obtain ⟨r0,q0⟩:=hSw;have z0:w'.cell? ⟨b,off,none⟩=some (.int .i64 (Z4 ps 0).1):=by simpa using q0.1
  have z1:w'.cell? ⟨b,off+1,none⟩=some (.int .i64 (Z4 ps 0).2):=by simpa using q0.2
  go_simp;rfl
 simp only [Act.put,ZX];refine Yi (i:=7) (by kernel_rfl) rfl ?_;intro K hK;rw [if_pos (by rfl)];go_simp;refine ⟨trivial,?_⟩;refine (callsIn_wide.2 HC.out).mono ?_;rintro e w1 ⟨rfl,hk1,ht1⟩;have hS1:Z6 w1 w.heap.size 100 #[.int .i64 op,.int .i64 vs,.slice HA hn hc,.int .i64 Z0,.slice GA gs.length gc,.slice (some ⟨b,off,none⟩) 1 pc,.slice QA qn qc]/\Qy w1 b off ps 0:=⟨hS.1.kept hk1 HI.out,hS.2.kept hk1 (.inl hb)⟩;refine hK.out _ _ (fun _=>hS1) ?_;clear hK K
 (try simp only [Act.put,ZX])
 refine' ZU (i:=8) rfl ?zzx hS1 ?zte
 case zzx =>
  intro w' hSw;go_simp;rfl
 simp only [Act.put,ZX];refine WG (by kernel_rfl) ?_ _;gi_wp2;go_ret;exact ⟨rfl,Z8.more U1.out HP.out hk1,ht1.mono fun k h=>.inl h⟩
end
end
end Go.Proofs.YtfljlmleiggmjaaGreatDoor