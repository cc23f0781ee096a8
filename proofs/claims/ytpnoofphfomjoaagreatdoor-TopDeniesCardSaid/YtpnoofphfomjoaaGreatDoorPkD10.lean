/- RefNum5 RefNum7 RefVal -/
import Derived.BigQuiet
import Derived.Deep.AppendLies
import Derived.Deep.RegionHeld3
import Derived.Test.YtpnoofphfomjoaaGreatDoorPkM24
import Derived.Test.YtpnoofphfomjoaaGreatDoorPkD09
set_option maxRecDepth 1000000
set_option maxHeartbeats 8000000
namespace Go.Proofs.YtpnoofphfomjoaaGreatDoor
section
open Go.RowKit
theorem Sl.dg {w:World} {B:Nat} {A:Option Addr} {l:List Nat} (h:Sl w B A (dCs l)) {k d:Nat} (hk:l[k]?=some d) :
 ∃ b off,A=some ⟨b,off,none⟩∧b<B∧w.cell? ⟨b,off+k,none⟩=some (.int .i64 (d:Int)):=by
 have hlt:k<l.length:=(List.getElem?_eq_some_iff.1 hk).1
 obtain ⟨b,off,rfl,hB,hc⟩:=h.open_ (by rw [dCs_length];omega)
 exact ⟨b,off,rfl,hB,hc k _ (dCs_get hk)⟩
theorem results_num {fn:Func} {tmps:Array Value} {w:World} {g k:Nat} {v0 v1:Value} (h:fn.results=#[.cell k 197])
 (hp:tmps.getD k undef=.pointer (some ⟨g,0,none⟩)) (hb:Blk w g 197 #[v0,v1]) :
 (results fn tmps).run Tryz.prog w=.ok (.agg #[v0,v1]) w:=by
 have c0:=hb.cell (i:=0) rfl
 have c1:=hb.cell (i:=1) rfl
 have hp':tmps[k]?.getD undef=.pointer (some ⟨g,0,none⟩):=by rw [← hp];simp
 simp [results,h,hp',go_sem,c0,c1]
def NumAt (w:World) (P:Nat→Prop) (n:Int) (A:Option Addr) (c:Nat):Prop:=SlN w P A (dCs (digs n.natAbs))∧(digs n.natAbs).length≤c∧c≤maxLen
def Up (w:World) (P:Nat→Prop):Prop:=∀ k,w.heap.size≤k→P k
theorem Up.of {w w':World} {P:Nat→Prop} (h:Up w P) (hs:w.heap.size≤w'.heap.size):Up w' P:=fun k hk=>h k (by omega)
section
variable {w w':World} {P R:Nat→Prop} {n:Int} {A:Option Addr} {c:Nat}
theorem NumAt.step (h:NumAt w P n A c) (hb:Below w.heap.size w w'):NumAt w' P n A c:=⟨h.1.below hb,h.2⟩
theorem NumAt.at_ (h:NumAt w P n A c) (hk:∀ b,P b→b<w.heap.size→w'.heap[b]?=w.heap[b]?):NumAt w' P n A c:=⟨h.1.at_ hk,h.2⟩
theorem NumAt.mono (h:NumAt w P n A c) (hR:∀ k,P k→R k):NumAt w R n A c:=⟨h.1.mono hR,h.2⟩
theorem NumAt.set {g i:Nat} (h:NumAt w (fun k=>P k∧k≠g) n A c) (u:Value):NumAt (w.setCell ⟨g,i,none⟩ u) (fun k=>P k∧k≠g) n A c :=
 h.at_ fun b hb _=>Below.heap_setCell _ _ _ _ (by exact hb.2)
end
end
section
open Go.RowKit
end
section
open Go.RowKit
end
section
open Go.RowKit
def IntD (m k y:Nat) (o:List Nat):Prop:=o.length=k∧dOk o∧k≤4∧y<65536 ^ (4 - k)∧dval o+65536 ^ k*y=m
theorem IntD.start {m:Nat} (h:m<18446744073709551616):IntD m 0 m []:=⟨rfl,fun d hd=>by simp at hd,by omega,by simpa using h,by simp [dval]⟩
theorem IntD.step {m k y:Nat} {o:List Nat} (h:IntD m k y o) (hy:0<y):k<4∧IntD m (k+1) (y / 65536) (o++[y % 65536]):=by
 obtain ⟨h1,h2,h3,h4,h5⟩:=h
 have hk:k<4:=by
  rcases Nat.lt_or_ge k 4 with h | h
  · exact h
  · rw [show 4 - k=0 by omega,Nat.pow_zero] at h4;omega
 refine ⟨hk,by simp [h1],h2.snoc (by omega),by omega,?_,?_⟩
 · rw [show 4 - k=(4 - (k+1))+1 by omega,Nat.pow_succ] at h4
   omega
 · rw [dval_snoc,h1,Nat.pow_succ,Nat.mul_assoc]
   have e:65536 ^ k*(y % 65536)+65536 ^ k*(65536*(y / 65536))=65536 ^ k*y:=by
    rw [← Nat.mul_add,Nat.mod_add_div]
   omega
theorem IntD.done {m k:Nat} {o:List Nat} (h:IntD m k 0 o):dOk o∧dval o=m:=⟨h.2.1,by simpa using h.2.2.2.2⟩
end
section
open Go.RowKit
end
section
open Go.RowKit
def Cw (w:World) (a:Addr):Value:=(w.cell? a).getD undef
theorem Cw.of {w:World} {a:Addr} {v:Value} (h:w.cell? a=some v):w.cell? a=some (Cw w a):=by unfold Cw;rw [h];rfl
def R2 (w:World) (g:Nat):Prop:=∃ u v,Blk w g 197 #[u,v]
abbrev HeldB (w:World) (n0 g1 g2 g:Nat) (v0 v1 u0 u1:Value) (w':World):Prop :=
 (Below w.heap.size w w'∧n0≤w'.heap.size∧R2 w' g)∧w'.cell? ⟨g1,0,none⟩=some v0∧w'.cell? ⟨g1,1,none⟩=some v1∧w'.cell? ⟨g2,0,none⟩=some u0∧w'.cell? ⟨g2,1,none⟩=some u1 ∧
 w'.cell? ⟨g,0,none⟩=some (Cw w' ⟨g,0,none⟩)∧w'.cell? ⟨g,1,none⟩=some (Cw w' ⟨g,1,none⟩)∧w'.frozen? ⟨g,0,none⟩=false∧w'.frozen? ⟨g,1,none⟩=false
section
variable {w wk w':World} {n0 g1 g2 g:Nat} {v0 v1 u0 u1:Value}
theorem HeldB.mk' (hb:Below w.heap.size w w') (hn:n0≤w'.heap.size) (hr:R2 w' g) (h1:w'.cell? ⟨g1,0,none⟩=some v0) (h2:w'.cell? ⟨g1,1,none⟩=some v1) (h3:w'.cell? ⟨g2,0,none⟩=some u0) (h4:w'.cell? ⟨g2,1,none⟩=some u1) :
 HeldB w n0 g1 g2 g v0 v1 u0 u1 w':=by
 have hr':=hr
 obtain ⟨u,v,hB⟩:=hr'
 exact ⟨⟨hb,hn,hr⟩,h1,h2,h3,h4,Cw.of (hB.cell (i:=0) rfl),Cw.of (hB.cell (i:=1) rfl),hB.frozen 0,hB.frozen 1⟩
theorem HeldB.keep (h:HeldB w n0 g1 g2 g v0 v1 u0 u1 wk) (hb:Below wk.heap.size wk w'):HeldB w n0 g1 g2 g v0 v1 u0 u1 w':=by
 have on:∀ {b o:Nat} {v:Value},wk.cell? ⟨b,o,none⟩=some v→w'.cell? ⟨b,o,none⟩=some v:=fun h=>(hb.cell (p:=⟨_,_,none⟩) (cell_lt h)).trans h
 obtain ⟨⟨h0,hn,u,v,hB⟩,h1,h2,h3,h4,_⟩:=h
 exact HeldB.mk' (bl_step h0 hb) (Nat.le_trans hn hb.size) ⟨u,v,hB.step hb⟩ (on h1) (on h2) (on h3) (on h4)
theorem HeldB.set2 (h:HeldB w n0 g1 g2 g v0 v1 u0 u1 wk) (h1:g1≠g) (h2:g2≠g) (hg:w.heap.size≤g) (x y:Value):HeldB w n0 g1 g2 g v0 v1 u0 u1 ((wk.setCell ⟨g,0,none⟩ x).setCell ⟨g,1,none⟩ y):=by
 have on:∀ {b o:Nat} {v:Value},b≠g→wk.cell? ⟨b,o,none⟩=some v→((wk.setCell ⟨g,0,none⟩ x).setCell ⟨g,1,none⟩ y).cell? ⟨b,o,none⟩=some v:=fun hb h=>by
  rw [World.cell?_of_block (Below.heap_setCell _ _ _ _ (by exact hb)),World.cell?_of_block (Below.heap_setCell _ _ _ _ (by exact hb))]
  exact h
 obtain ⟨⟨h0,hn,u,v,hB⟩,c1,c2,c3,c4,_⟩:=h
 exact HeldB.mk' ((h0.setCell (by exact hg) _).setCell (by exact hg) _) (by simpa [World.size_setCell] using hn) ⟨_,_,(hB.set 0 x).set 1 y⟩ (on h1 c1) (on h1 c2) (on h2 c3) (on h2 c4)
theorem HeldB.row (h:HeldB w n0 g1 g2 g v0 v1 u0 u1 wk):R2 wk g:=h.1.2.2
theorem R2.run {fn:Func} {tmps:Array Value} {w5:World} {k g:Nat} {v0 v1:Value} (h:R2 w5 g) (hr:fn.results=#[.cell k 197]) (hp:tmps.getD k undef=.pointer (some ⟨g,0,none⟩)) :
 (results fn tmps).run Tryz.prog ((w5.setCell ⟨g,0,none⟩ v0).setCell ⟨g,1,none⟩ v1)=.ok (.agg #[v0,v1]) ((w5.setCell ⟨g,0,none⟩ v0).setCell ⟨g,1,none⟩ v1):=by
 obtain ⟨u,v,hB⟩:=h
 exact results_num hr hp ((hB.set 0 v0).set 1 v1)
theorem HeldB.below (h:HeldB w n0 g1 g2 g v0 v1 u0 u1 wk):Below w.heap.size w wk:=h.1.1
end
theorem add_zero (s2:Int) (m n:Nat) (A B:Option Addr) (c d:Nat) (w:World) :
 Calls Tryz.prog 170 #[.agg #[.int .i64 0,.slice A m c],.agg #[.int .i64 s2,.slice B n d]] w fun e w'=>e=.returned (.agg #[.int .i64 s2,.slice B n d])∧Below w.heap.size w w':=by
 go_enter Tryz.func170,Tryz.ntmps170
 go_wp2
 have h:=Blk.new ((w.alloc (.cells #[.int .i64 0,.slice A m c] 197)).alloc (.cells #[.int .i64 s2,.slice B n d] 197)) 197 #[.int .i64 s2,.slice B n d]
 refine bodyPost_ret (results_num rfl rfl (by simpa using h)) rfl ?_
 exact ⟨rfl,bl_alloc (bl_alloc (bA) _) _⟩
end
section
open Go.RowKit
end
section
open Go.RowKit
end
section
open Go.RowKit
abbrev Held3B (w:World) (n0 g1 g2 g3 g:Nat) (v1 u1 v2 u2 v3 u3:Value) (w':World):Prop :=
 (Below w.heap.size w w'∧n0≤w'.heap.size∧R2 w' g)∧w'.cell? ⟨g1,0,none⟩=some v1∧w'.cell? ⟨g1,1,none⟩=some u1∧w'.cell? ⟨g2,0,none⟩=some v2∧w'.cell? ⟨g2,1,none⟩=some u2∧w'.cell? ⟨g3,0,none⟩=some v3∧w'.cell? ⟨g3,1,none⟩=some u3 ∧
 w'.cell? ⟨g,0,none⟩=some (Cw w' ⟨g,0,none⟩)∧w'.cell? ⟨g,1,none⟩=some (Cw w' ⟨g,1,none⟩)∧w'.frozen? ⟨g,0,none⟩=false∧w'.frozen? ⟨g,1,none⟩=false
section
variable {w wk w':World} {n0 g1 g2 g3 g:Nat} {v1 u1 v2 u2 v3 u3:Value}
theorem Held3B.mk' (hb:Below w.heap.size w w') (hn:n0≤w'.heap.size) (hr:R2 w' g) (h1:w'.cell? ⟨g1,0,none⟩=some v1) (k1:w'.cell? ⟨g1,1,none⟩=some u1) (h2:w'.cell? ⟨g2,0,none⟩=some v2) (k2:w'.cell? ⟨g2,1,none⟩=some u2) (h3:w'.cell? ⟨g3,0,none⟩=some v3) (k3:w'.cell? ⟨g3,1,none⟩=some u3):Held3B w n0 g1 g2 g3 g v1 u1 v2 u2 v3 u3 w':=by
 have hr':=hr
 obtain ⟨u,v,hB⟩:=hr'
 exact ⟨⟨hb,hn,hr⟩,h1,k1,h2,k2,h3,k3,Cw.of (hB.cell (i:=0) rfl),Cw.of (hB.cell (i:=1) rfl),hB.frozen 0,hB.frozen 1⟩
theorem Held3B.keep (h:Held3B w n0 g1 g2 g3 g v1 u1 v2 u2 v3 u3 wk) (hb:Below wk.heap.size wk w'):Held3B w n0 g1 g2 g3 g v1 u1 v2 u2 v3 u3 w':=by
 have on:∀ {b o:Nat} {v:Value},wk.cell? ⟨b,o,none⟩=some v→w'.cell? ⟨b,o,none⟩=some v:=fun h=>(hb.cell (p:=⟨_,_,none⟩) (cell_lt h)).trans h
 obtain ⟨⟨h0,hn,u,v,hB⟩,h1,k1,h2,k2,h3,k3,_⟩:=h
 exact Held3B.mk' (bl_step h0 hb) (Nat.le_trans hn hb.size) ⟨u,v,hB.step hb⟩ (on h1) (on k1) (on h2) (on k2) (on h3) (on k3)
theorem Held3B.set2 (h:Held3B w n0 g1 g2 g3 g v1 u1 v2 u2 v3 u3 wk) (hne:g1≠g∧g2≠g∧g3≠g) (hg:w.heap.size≤g) (x y:Value):Held3B w n0 g1 g2 g3 g v1 u1 v2 u2 v3 u3 ((wk.setCell ⟨g,0,none⟩ x).setCell ⟨g,1,none⟩ y):=by
 have on:∀ {b o:Nat} {v:Value},b≠g→wk.cell? ⟨b,o,none⟩=some v→((wk.setCell ⟨g,0,none⟩ x).setCell ⟨g,1,none⟩ y).cell? ⟨b,o,none⟩=some v:=fun hb h=>by
  rw [World.cell?_of_block (Below.heap_setCell _ _ _ _ (by exact hb)),World.cell?_of_block (Below.heap_setCell _ _ _ _ (by exact hb))]
  exact h
 obtain ⟨⟨h0,hn,u,v,hB⟩,h1,k1,h2,k2,h3,k3,_⟩:=h
 exact Held3B.mk' ((h0.setCell (by exact hg) _).setCell (by exact hg) _) (by simpa [World.size_setCell] using hn) ⟨_,_,(hB.set 0 x).set 1 y⟩ (on (by omega) h1) (on (by omega) k1) (on (by omega) h2) (on (by omega) k2) (on (by omega) h3) (on (by omega) k3)
theorem Held3B.below (h:Held3B w n0 g1 g2 g3 g v1 u1 v2 u2 v3 u3 wk):Below w.heap.size w wk:=h.1.1
theorem Held3B.row (h:Held3B w n0 g1 g2 g3 g v1 u1 v2 u2 v3 u3 wk):R2 wk g:=h.1.2.2
end
end
end Go.Proofs.YtpnoofphfomjoaaGreatDoor
