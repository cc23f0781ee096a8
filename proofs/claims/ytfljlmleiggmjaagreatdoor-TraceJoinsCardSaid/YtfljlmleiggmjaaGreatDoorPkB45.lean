/- Sort Batch Handle Serve EvMath21 TraceMath -/
import Derived.BigQuiet
import Derived.Deep.AppendLies
import Derived.Deep.QuietTactic
import Derived.Deep.RegionHeld
import Derived.Deep.RegionHeld3
import Derived.Deep.RegionLaw
import Derived.Defers
import Derived.Laws.Externs
import Derived.OrdersHeld
import Derived.OrdersIn
import Derived.OwnWalkIn
import Derived.Shelf.Bits.Mul64
import Derived.Shelf.Spec.BitsCarry
import Derived.Test.YtfljlmleiggmjaaGreatDoorPkB05
import Derived.Test.YtfljlmleiggmjaaGreatDoorPkB40
set_option maxRecDepth 1000000
set_option maxHeartbeats 8000000
namespace Go.Proofs.YtfljlmleiggmjaaGreatDoor
section
open Go.RowKit Go.Shelf
attribute [local go_sem] Oper.semAt_some
section
variable {F:Fence} {n:Nat} {P:Program} {ops:Array Oper} {Q:Exit→Act→World→Prop} {S:World→Prop}
def OnlyN (K:Act→World→Prop):Exit→Act→World→Prop
 | .normal,a,w=>K a w
 | _,_,_=>False
theorem OnlyN.intro {K:Act→World→Prop} {a:Act} {w:World} (h:K a w):OnlyN K .normal a w:=h
end
end
section
open Go.RowKit Go.Shelf
abbrev ItS (b1 b2 b3 b4 b o:Nat) (ta:Option Addr) (V:Bool) (GA QA:Option Addr) (gn gc qn qc:Nat) (q1 q2 q3:Int) (w:World):Prop :=
 w.cell? ⟨b1,0,none⟩=some (.pointer ta)∧w.cell? ⟨b2,0,none⟩=some (.int .u64 (msk V))∧w.cell? ⟨b3,0,none⟩=some (.slice GA gn gc)∧w.cell? ⟨b4,0,none⟩=some (.slice QA qn qc) ∧
  w.cell? ⟨b,o,none⟩=some (.int .i64 q1)∧w.cell? ⟨b,o+1,none⟩=some (.int .i64 q2)∧w.cell? ⟨b,o+2,none⟩=some (.int .u64 q3)
theorem ItS.keep {b1 b2 b3 b4 b o:Nat} {ta:Option Addr} {V:Bool} {GA QA:Option Addr} {gn gc qn qc:Nat} {q1 q2 q3:Int} {P:Nat→Prop} {w w':World} (h:ItS b1 b2 b3 b4 b o ta V GA QA gn gc qn qc q1 q2 q3 w) (hk:KeepP P w w') (hb:P b1∧P b2∧P b3∧P b4∧P b):ItS b1 b2 b3 b4 b o ta V GA QA gn gc qn qc q1 q2 q3 w':=by
 obtain ⟨h1,h2,h3,h4,h5,h6,h7⟩:=h
 exact ⟨(hk.cell hb.1 _).trans h1,(hk.cell hb.2.1 _).trans h2,(hk.cell hb.2.2.1 _).trans h3,(hk.cell hb.2.2.2.1 _).trans h4,(hk.cell hb.2.2.2.2 _).trans h5,(hk.cell hb.2.2.2.2 _).trans h6,(hk.cell hb.2.2.2.2 _).trans h7⟩
end
section
open Go.RowKit Go.Shelf
structure ReqP (w:World) (P:Nat→Prop) (hrs:List Rg) (HA:Option Addr) (gs:List Gr) (GA:Option Addr) (ps:List Pt) (PA:Option Addr) (pc:Nat) (qs:List ((Int × Int) × Int)) (QA:Option Addr):Prop where
 hh:SlP w P HA (rgCells hrs)
 hn:hrs.length≤maxLen
 hg:SlP w P GA (rgCells (gs.map (·.1)))
 gk:GsP w P gs
 hp:SlP w P PA (ptCs ps)
 pj:PsJ ps
 cap:ps.length≤pc
 hq:SlP w P QA (quCs qs)
 qj:∀ q∈qs,PJ q.1
 qu:∀ q∈qs,U64 q.2
theorem ReqP.kept {w w':World} {P R:Nat→Prop} {hrs:List Rg} {HA:Option Addr} {gs:List Gr} {GA:Option Addr} {ps:List Pt} {PA:Option Addr} {pc:Nat} {qs:List ((Int × Int) × Int)} {QA:Option Addr} (h:ReqP w P hrs HA gs GA ps PA pc qs QA) (hk:KeepP P w w') (hR:∀ k,P k→R k):ReqP w' R hrs HA gs GA ps PA pc qs QA :=
 ⟨(h.hh.kept hk).mono hR,h.hn,(h.hg.kept hk).mono hR,fun g hg=>⟨(h.gk g hg).1,((h.gk g hg).2.1.kept hk).mono hR,(h.gk g hg).2.2⟩,(h.hp.kept hk).mono hR,h.pj,h.cap,(h.hq.kept hk).mono hR,h.qj,h.qu⟩
end
section
open Go.RowKit Go.Shelf Go.Maps
def FreshT (w:World):Option (Nat × Nat)→Prop
 | none=>True
 | some u=>Blk w u.1 99 #[.slice none 0 0,.map (some u.2)]∧w.ownsMap (H:=Unit) Tryz.prog 3 (plainElem Tryz.prog 3) u.2 0 (.map [])
def NT (t:Option (Nat × Nat)) (n:Nat) (k:Nat):Prop:=k<n∧∀ u,t=some u→k≠u.1∧k≠u.2
theorem FreshT.step {w w':World} {t:Option (Nat × Nat)} (h:FreshT w t) (hb:Below w.heap.size w w'):FreshT w' t:=by
 cases t with
 | none=>trivial
 | some u=>exact ⟨h.1.step hb,h.2.kept (below_grown hb) (by simp)⟩
theorem FreshT.off {w:World} {t:Option (Nat × Nat)} (h:FreshT w t) {b o:Nat} {v:Value} (hc:w.cell? ⟨b,o,none⟩=some v) (hv:(∀ A n c,v≠.slice A n c)∧∀ m,v≠.map m):NT t w.heap.size b:=by
 refine ⟨cell_lt hc,?_⟩
 rintro u rfl
 refine ⟨fun e=>?_,fun e=>?_⟩
 · have hb:=h.1
   rw [← e] at hb
   rw [cell_of_row w b o _ _ (0,0) hb] at hc
   rcases o with _ | _ | o
   · simp at hc;exact hv.1 _ _ _ hc.symm
   · simp at hc;exact hv.2 _ hc.symm
   · simp at hc
 · have hm:=h.2
   rw [← e] at hm
   obtain ⟨es,clock,hh,_⟩:=hm
   simp [World.cell?,hh] at hc
theorem FreshT.slP {w:World} {t:Option (Nat × Nat)} (h:FreshT w t) {B:Nat} {A:Option Addr} {xs:List Value} (hs:Sl w B A xs) (hx:∀ v,xs[0]?=some v→(∀ A n c,v≠.slice A n c)∧∀ m,v≠.map m):SlP w (NT t w.heap.size) A xs:=by
 rcases hs with h0 | ⟨b,off,hA,hb,hc⟩
 · exact .inl h0
 · cases xs with
   | nil=>exact .inl rfl
   | cons x xs=>exact .inr ⟨b,off,hA,h.off (hc 0 x rfl) (hx x rfl),hc⟩
end
section
open Go.RowKit
def hitemEv (rs:List Rg) (n:Nat):List Ev:=(List.range n).flatMap fun (i:Nat)=>(8,(i:Int),0)::hmEv 0 rs
def evB (rs:List Rg) (n:Nat):List Ev:=hvEv 0 rs++hitemEv rs n++cntEv n++pairEv (netw (lg n))
def evH21 (op vs:Int) (rs:List Rg) (pts:Int):List Ev:=if op=5 then evB rs pts.toNat else evH op vs rs
theorem rg_sizes {rs:List Rg} (h:rs.any wrongRg=false):∀ r∈rs,r.v=0∨3≤r.v∧r.v≤64:=fun r hr=>by
 have hw:wrongRg r=false:=by
  rw [List.any_eq_false] at h
  simpa using h r hr
 unfold wrongRg at hw
 have hs0:sizeOfReg r.v≠0:=by simpa using hw
 unfold sizeOfReg at hs0
 by_cases h0:r.v=0
 · exact .inl h0
 · rw [if_neg h0] at hs0
   by_cases hb:3≤r.v∧r.v≤64
   · exact .inr hb
   · rw [if_neg hb] at hs0;exact absurd rfl hs0
end
section
open Go.RowKit
theorem hitemEv_count (rs:List Rg):∀ n,(hitemEv rs n).length=n*(1+(hmEv 0 rs).length)
 | 0=>by simp [hitemEv]
 | n+1=>by
   have h:=hitemEv_count rs n
   have e:hitemEv rs (n+1)=hitemEv rs n++((8,(n:Int),0)::hmEv 0 rs):=by
    unfold hitemEv
    rw [List.range_succ,List.flatMap_append]
    simp
   rw [e,List.length_append,h,List.length_cons,Nat.add_mul,Nat.one_mul]
   omega
theorem evB_len (rs:List Rg) (n:Nat):(evB rs n).length=(hvEv 0 rs).length+n*(1+(hmEv 0 rs).length)+n+(netw (lg n)).length:=by
 unfold evB
 rw [List.length_append,List.length_append,List.length_append,hitemEv_count,cntEv_len,pairEv_len]
theorem netw_124:(netw (lg 1)).length=0∧(netw (lg 2)).length=1∧(netw (lg 4)).length=6:=by decide +kernel
end
end Go.Proofs.YtfljlmleiggmjaaGreatDoor
