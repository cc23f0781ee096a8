/- ScrRunA ScrRunB -/
import Derived.BigQuiet
import Derived.ChangeAlike
import Derived.Deep.AppendLies
import Derived.Deep.QuietTactic
import Derived.Deep.RegionLaw
import Derived.Laws.BytesArg
import Derived.Lib.SliceRun
import Derived.Test.YthnenedoblncjaaGreatDoorPkN35
import Derived.Test.YthnenedoblncjaaGreatDoorPkN38
import Derived.Test.YthnenedoblncjaaGreatDoorPkN40
set_option maxRecDepth 1000000
set_option maxHeartbeats 8000000
namespace Go.Proofs.YthnenedoblncjaaGreatDoor
section
open Go.RowKit Go.Shelf
def Yb(σ:St):xL:=(Yi (σ.1.map cg) σ.2).1
def runT(σ:St):List UInt8 :=
 if (Yb σ).val=0 then [105,110,118,97,108,105,100] else Lib.join (txt (Yb σ).cnt::((Yb σ).recs.take (Yb σ).cnt.toNat).map fun r=>Un r.2.toNat) [32]
theorem Fx{σ:St}{sb:Nat}{gs:List Gr}{RA QA:Option Addr}{n rc m qc:Nat}{Wr Rd:Nat->Prop}{X:World}(h:TY σ sb gs (.slice RA n rc) (.slice QA m qc) Wr Rd X)(hn:n=gs.length)(hm:m=σ.2.length)(hw:MW X):
 Calls Tryz.prog 147 #[.pointer none,.slice RA n rc,.slice QA m qc] X fun e w'=>∃ A c er,(Yb σ).recs.length<=c/\e=.returned (.tuple #[.agg #[.int .i64 (Yb σ).val,.int .i64 (Yb σ).cnt,.slice A (Yb σ).recs.length c],.int .i64 er])/\Below X.heap.size X w'/\Sl w' w'.heap.size A (ZE (Yb σ).recs):=by
 subst hn;subst hm;have hh:∀ g∈gs,g.1.n=g.2.length:=fun g hg=>(h.XQ g hg).1;have e1:Yi (σ.1.map cg) σ.2=Yi gs σ.2:=by rw [<- h.data,CP,Mt hh]
 unfold Yb;rw [e1];refine (I9 (fun k=>k<X.heap.size) none [] gs RA rc σ.2 QA qc (fun q hq=>(h.small.2.1 q hq).1) (fun q hq=>(h.small.2.1 q hq).2) X (fun k h=>h) hw.2 ((Sl.XO h.rows).pF fun _ h=>h) (fun g hg=>⟨hh g hg,(h.XQ g hg).2.mono h.JI,(h.small.1 g hg).1,by have:=(h.small.1 g hg).2;omega⟩) ((Sl.XO h.VD).pF fun _ h=>h) hw trivial (.inl rfl)).mono ?_;rintro e w' ⟨A,c,hc,rfl,hk,-,hs⟩;exact ⟨A,c,_,hc,rfl,⟨hk.os,hk.tape,hk.output,hk.size,hk.block⟩,hs⟩
theorem I5{X:World}{g A0:Nat}{rs:List (Int × Int)}{A:Option Addr}(hb:Z6 X g 175 #[.int .i64 0,.int .i64 0,.slice none 0 0])(hs:Sl X A0 A (ZE rs)):ZE rs=[]\/∃ b off,A=some ⟨b,off,none⟩/\b≠g/\b<A0/\∀ j u,(ZE rs)[j]?=some u->X.cell? ⟨b,off+j,none⟩=some u:=by
 rcases hs with h0|⟨b,off,hA,hlt,hc⟩
 · exact .inl h0
 · cases rs with
   | nil=>exact .inl rfl
   | cons r rs =>
     refine .inr ⟨b,off,hA,fun e=>?_,hlt,hc⟩;subst e;have h1:=hc 0 (.int .u64 r.1) rfl;rw [Nat.add_zero] at h1
     match off,h1 with
     | 0,h1=>rw [hb.cell (i:=0) (v:=.int .i64 0) rfl] at h1;cases h1
     | 1,h1=>rw [hb.cell (i:=1) (v:=.int .i64 0) rfl] at h1;cases h1
     | 2,h1=>rw [hb.cell (i:=2) (v:=.slice none 0 0) rfl] at h1;cases h1
     | k+3,h1 =>
       have h2:X.cell? ⟨b,k+3,none⟩=none:=by
        unfold Z6 at hb;simp [World.cell?,hb]
       rw [h2] at h1;cases h1
theorem KS{X:World}{g:Nat}{rs:List (Int × Int)}{A:Option Addr}(hb:Z6 X g 175 #[.int .i64 0,.int .i64 0,.slice none 0 0])(hs:Sl X X.heap.size A (ZE rs))(x y z:Value):
 Sl (((X.setCell ⟨g,0,none⟩ x).setCell ⟨g,1,none⟩ y).setCell ⟨g,2,none⟩ z) (((X.setCell ⟨g,0,none⟩ x).setCell ⟨g,1,none⟩ y).setCell ⟨g,2,none⟩ z).heap.size A (ZE rs):=by
 rcases I5 hb hs with h0|⟨b,off,rfl,hne,hlt,hc⟩
 · exact .inl h0
 · refine Sl.mk (by simp;omega) fun j u hu=>?_;rw [World.cell?_setCell_other _ _ _ _ (fun e=>by injection e with e;exact hne e.symm),World.cell?_setCell_other _ _ _ _ (fun e=>by injection e with e;exact hne e.symm),World.cell?_setCell_other _ _ _ _ (fun e=>by injection e with e;exact hne e.symm)];exact hc j u hu
theorem Fw(σ:St)(hq:∀ q∈σ.2,Uk q.2):(∃ k:Nat,(Yb σ).cnt=(k:Int)/\k<=(Yb σ).recs.length)/\(∀ r∈(Yb σ).recs,Uk r.2)/\(Yb σ).recs.length<=σ.2.length/\((Yb σ).val≠0->(Yb σ).recs≠[]):=by
 unfold Yb Yi;split
 · exact ⟨⟨0,rfl,Nat.zero_le _⟩,fun r hr=>(by cases hr),Nat.zero_le _,fun h=>absurd rfl h⟩
 · rename_i hb
   have hc:=Rm (σ.1.map cg) hq;have hp:=WX ZC (ZB (σ.1.map cg) σ.2);have hl:(ZB (σ.1.map cg) σ.2).length=σ.2.length:=(by unfold ZB;rw [List.length_map]);refine ⟨⟨_,rfl,?_⟩,fun r hr=>?_,?_,fun _ h=>?_⟩
   · dsimp only;rw [hp.length_eq];exact TH _ hc
   · have:=hc r (hp.mem_iff.1 hr);unfold Sb at this;unfold Uk;rcases this with h|h
     · exact h.2
     · rw [h];decide
   · dsimp only;rw [hp.length_eq,hl];exact Nat.le_refl _
   · dsimp only at h;have h2:=hp.length_eq;rw [h,hl] at h2;have h3:σ.2.length=0:=h2.symm;apply hb;rw [h3];unfold Y3;intro h4;split at h4
     · rename_i h5;exact h5 h4
     · rw [if_pos (by omega)] at h4;cases h4
theorem vD{n:Nat}(sep:List UInt8)(hs:sep.length=1):∀ {xs:List (List UInt8)},(∀ x∈xs,x.length<=n)->(Lib.join xs sep).length<=(n+1)*xs.length
 | [],_=>Nat.zero_le _
 | x::r,h=>by
   have h1:=h x (List.mem_cons_self ..);have h2:∀ l:List (List UInt8),(∀ x∈l,x.length<=n)->(Lib.joinTail sep l).length<=(n+1)*l.length:=by
    intro l
    induction l with
    | nil=>intro _;exact Nat.zero_le _
    | cons y l ih =>
      intro hl;have a:=hl y (List.mem_cons_self ..);have b:=ih fun y hy=>hl y (List.mem_cons_of_mem _ hy);unfold Lib.joinTail at b ⊢;rw [List.map_cons,List.flatten_cons,List.length_append,List.length_append,hs,List.length_cons,Nat.mul_add];omega
   have h3:=h2 r fun y hy=>h y (List.mem_cons_of_mem _ hy);rw [Lib.join_cons,List.length_append,List.length_cons,Nat.mul_add];omega
theorem DZ{u:Nat}(h:u<18446744073709551616):(Un u).length<=30:=by
 have h1:(dr u).length<=19+1:=MJ (Nat.lt_of_lt_of_le h (by decide));unfold Un;rw [List.length_map,List.length_reverse];omega
end
end Go.Proofs.YthnenedoblncjaaGreatDoor