/- RefCirc -/
import Derived.Test.YtpnoofphfomjoaaGreatDoorPkM26
import Derived.Test.YtpnoofphfomjoaaGreatDoorPkD10
set_option maxRecDepth 1000000
set_option maxHeartbeats 8000000
namespace Go.Proofs.YtpnoofphfomjoaaGreatDoor
section
open Go.RowKit
abbrev HeldQ2 (w:World) (n0 g1 g2 g:Nat) (P:Nat→Prop) (x1:Int) (A1:Option Addr) (c1:Nat) (x2:Int) (A2:Option Addr) (c2:Nat) (w':World):Prop :=
 (Below w.heap.size w w'∧n0≤w'.heap.size∧R2 w' g∧NumAt w' (fun k=>P k∧k≠g) x1 A1 c1∧NumAt w' (fun k=>P k∧k≠g) x2 A2 c2)∧w'.cell? ⟨g1,0,none⟩=some (.int .i64 x1.sign)∧w'.cell? ⟨g1,1,none⟩=some (.slice A1 (digs x1.natAbs).length c1)∧w'.cell? ⟨g2,0,none⟩=some (.int .i64 x2.sign)∧w'.cell? ⟨g2,1,none⟩=some (.slice A2 (digs x2.natAbs).length c2) ∧
 w'.cell? ⟨g,0,none⟩=some (Cw w' ⟨g,0,none⟩)∧w'.cell? ⟨g,1,none⟩=some (Cw w' ⟨g,1,none⟩)∧w'.frozen? ⟨g,0,none⟩=false∧w'.frozen? ⟨g,1,none⟩=false
section
variable {w wk w':World} {n0 g1 g2 g:Nat} {P:Nat→Prop} {x1:Int} {A1:Option Addr} {c1:Nat} {x2:Int} {A2:Option Addr} {c2:Nat}
theorem HeldQ2.mk' (hb:Below w.heap.size w w') (hn:n0≤w'.heap.size) (hr:R2 w' g) (n1:NumAt w' (fun k=>P k∧k≠g) x1 A1 c1) (n2:NumAt w' (fun k=>P k∧k≠g) x2 A2 c2) (h1:w'.cell? ⟨g1,0,none⟩=some (.int .i64 x1.sign)) (k1:w'.cell? ⟨g1,1,none⟩=some (.slice A1 (digs x1.natAbs).length c1)) (h2:w'.cell? ⟨g2,0,none⟩=some (.int .i64 x2.sign)) (k2:w'.cell? ⟨g2,1,none⟩=some (.slice A2 (digs x2.natAbs).length c2)):HeldQ2 w n0 g1 g2 g P x1 A1 c1 x2 A2 c2 w':=by
 have hr':=hr
 obtain ⟨u,v,hB⟩:=hr'
 exact ⟨⟨hb,hn,hr,n1,n2⟩,h1,k1,h2,k2,Cw.of (hB.cell (i:=0) rfl),Cw.of (hB.cell (i:=1) rfl),hB.frozen 0,hB.frozen 1⟩
theorem HeldQ2.keep (h:HeldQ2 w n0 g1 g2 g P x1 A1 c1 x2 A2 c2 wk) (hb:Below wk.heap.size wk w'):HeldQ2 w n0 g1 g2 g P x1 A1 c1 x2 A2 c2 w':=by
 have on:∀ {b o:Nat} {v:Value},wk.cell? ⟨b,o,none⟩=some v→w'.cell? ⟨b,o,none⟩=some v:=fun h=>(hb.cell (p:=⟨_,_,none⟩) (cell_lt h)).trans h
 obtain ⟨⟨h0,hn,⟨u,v,hB⟩,n1,n2⟩,h1,k1,h2,k2,_⟩:=h
 exact HeldQ2.mk' (bl_step h0 hb) (Nat.le_trans hn hb.size) ⟨u,v,hB.step hb⟩ (n1.step hb) (n2.step hb) (on h1) (on k1) (on h2) (on k2)
theorem HeldQ2.set2 (h:HeldQ2 w n0 g1 g2 g P x1 A1 c1 x2 A2 c2 wk) (hne:g1≠g∧g2≠g) (hg:w.heap.size≤g) (x y:Value):HeldQ2 w n0 g1 g2 g P x1 A1 c1 x2 A2 c2 ((wk.setCell ⟨g,0,none⟩ x).setCell ⟨g,1,none⟩ y):=by
 have on:∀ {b o:Nat} {v:Value},b≠g→wk.cell? ⟨b,o,none⟩=some v→((wk.setCell ⟨g,0,none⟩ x).setCell ⟨g,1,none⟩ y).cell? ⟨b,o,none⟩=some v:=fun hb h=>by
  rw [World.cell?_of_block (Below.heap_setCell _ _ _ _ (by exact hb)),World.cell?_of_block (Below.heap_setCell _ _ _ _ (by exact hb))]
  exact h
 obtain ⟨⟨h0,hn,⟨u,v,hB⟩,n1,n2⟩,h1,k1,h2,k2,_⟩:=h
 exact HeldQ2.mk' ((h0.setCell (by exact hg) _).setCell (by exact hg) _) (by simpa [World.size_setCell] using hn) ⟨_,_,(hB.set 0 x).set 1 y⟩ ((n1.set x).set y) ((n2.set x).set y) (on (by omega) h1) (on (by omega) k1) (on (by omega) h2) (on (by omega) k2)
theorem HeldQ2.below (h:HeldQ2 w n0 g1 g2 g P x1 A1 c1 x2 A2 c2 wk):Below w.heap.size w wk:=h.1.1
theorem HeldQ2.row (h:HeldQ2 w n0 g1 g2 g P x1 A1 c1 x2 A2 c2 wk):R2 wk g:=h.1.2.2.1
end
abbrev HeldQ4 (w:World) (n0 g1 g2 g3 g4 g:Nat) (P:Nat→Prop) (x1:Int) (A1:Option Addr) (c1:Nat) (x2:Int) (A2:Option Addr) (c2:Nat) (x3:Int) (A3:Option Addr) (c3:Nat) (x4:Int) (A4:Option Addr) (c4:Nat) (w':World):Prop :=
 (Below w.heap.size w w'∧n0≤w'.heap.size∧R2 w' g∧NumAt w' (fun k=>P k∧k≠g) x1 A1 c1∧NumAt w' (fun k=>P k∧k≠g) x2 A2 c2∧NumAt w' (fun k=>P k∧k≠g) x3 A3 c3∧NumAt w' (fun k=>P k∧k≠g) x4 A4 c4)∧w'.cell? ⟨g1,0,none⟩=some (.int .i64 x1.sign)∧w'.cell? ⟨g1,1,none⟩=some (.slice A1 (digs x1.natAbs).length c1)∧w'.cell? ⟨g2,0,none⟩=some (.int .i64 x2.sign)∧w'.cell? ⟨g2,1,none⟩=some (.slice A2 (digs x2.natAbs).length c2)∧w'.cell? ⟨g3,0,none⟩=some (.int .i64 x3.sign)∧w'.cell? ⟨g3,1,none⟩=some (.slice A3 (digs x3.natAbs).length c3)∧w'.cell? ⟨g4,0,none⟩=some (.int .i64 x4.sign)∧w'.cell? ⟨g4,1,none⟩=some (.slice A4 (digs x4.natAbs).length c4) ∧
 w'.cell? ⟨g,0,none⟩=some (Cw w' ⟨g,0,none⟩)∧w'.cell? ⟨g,1,none⟩=some (Cw w' ⟨g,1,none⟩)∧w'.frozen? ⟨g,0,none⟩=false∧w'.frozen? ⟨g,1,none⟩=false
section
variable {w wk w':World} {n0 g1 g2 g3 g4 g:Nat} {P:Nat→Prop} {x1:Int} {A1:Option Addr} {c1:Nat} {x2:Int} {A2:Option Addr} {c2:Nat} {x3:Int} {A3:Option Addr} {c3:Nat} {x4:Int} {A4:Option Addr} {c4:Nat}
theorem HeldQ4.mk' (hb:Below w.heap.size w w') (hn:n0≤w'.heap.size) (hr:R2 w' g) (n1:NumAt w' (fun k=>P k∧k≠g) x1 A1 c1) (n2:NumAt w' (fun k=>P k∧k≠g) x2 A2 c2) (n3:NumAt w' (fun k=>P k∧k≠g) x3 A3 c3) (n4:NumAt w' (fun k=>P k∧k≠g) x4 A4 c4) (h1:w'.cell? ⟨g1,0,none⟩=some (.int .i64 x1.sign)) (k1:w'.cell? ⟨g1,1,none⟩=some (.slice A1 (digs x1.natAbs).length c1)) (h2:w'.cell? ⟨g2,0,none⟩=some (.int .i64 x2.sign)) (k2:w'.cell? ⟨g2,1,none⟩=some (.slice A2 (digs x2.natAbs).length c2)) (h3:w'.cell? ⟨g3,0,none⟩=some (.int .i64 x3.sign)) (k3:w'.cell? ⟨g3,1,none⟩=some (.slice A3 (digs x3.natAbs).length c3)) (h4:w'.cell? ⟨g4,0,none⟩=some (.int .i64 x4.sign)) (k4:w'.cell? ⟨g4,1,none⟩=some (.slice A4 (digs x4.natAbs).length c4)):HeldQ4 w n0 g1 g2 g3 g4 g P x1 A1 c1 x2 A2 c2 x3 A3 c3 x4 A4 c4 w':=by
 have hr':=hr
 obtain ⟨u,v,hB⟩:=hr'
 exact ⟨⟨hb,hn,hr,n1,n2,n3,n4⟩,h1,k1,h2,k2,h3,k3,h4,k4,Cw.of (hB.cell (i:=0) rfl),Cw.of (hB.cell (i:=1) rfl),hB.frozen 0,hB.frozen 1⟩
theorem HeldQ4.keep (h:HeldQ4 w n0 g1 g2 g3 g4 g P x1 A1 c1 x2 A2 c2 x3 A3 c3 x4 A4 c4 wk) (hb:Below wk.heap.size wk w'):HeldQ4 w n0 g1 g2 g3 g4 g P x1 A1 c1 x2 A2 c2 x3 A3 c3 x4 A4 c4 w':=by
 have on:∀ {b o:Nat} {v:Value},wk.cell? ⟨b,o,none⟩=some v→w'.cell? ⟨b,o,none⟩=some v:=fun h=>(hb.cell (p:=⟨_,_,none⟩) (cell_lt h)).trans h
 obtain ⟨⟨h0,hn,⟨u,v,hB⟩,n1,n2,n3,n4⟩,h1,k1,h2,k2,h3,k3,h4,k4,_⟩:=h
 exact HeldQ4.mk' (bl_step h0 hb) (Nat.le_trans hn hb.size) ⟨u,v,hB.step hb⟩ (n1.step hb) (n2.step hb) (n3.step hb) (n4.step hb) (on h1) (on k1) (on h2) (on k2) (on h3) (on k3) (on h4) (on k4)
theorem HeldQ4.set2 (h:HeldQ4 w n0 g1 g2 g3 g4 g P x1 A1 c1 x2 A2 c2 x3 A3 c3 x4 A4 c4 wk) (hne:g1≠g∧g2≠g∧g3≠g∧g4≠g) (hg:w.heap.size≤g) (x y:Value):HeldQ4 w n0 g1 g2 g3 g4 g P x1 A1 c1 x2 A2 c2 x3 A3 c3 x4 A4 c4 ((wk.setCell ⟨g,0,none⟩ x).setCell ⟨g,1,none⟩ y):=by
 have on:∀ {b o:Nat} {v:Value},b≠g→wk.cell? ⟨b,o,none⟩=some v→((wk.setCell ⟨g,0,none⟩ x).setCell ⟨g,1,none⟩ y).cell? ⟨b,o,none⟩=some v:=fun hb h=>by
  rw [World.cell?_of_block (Below.heap_setCell _ _ _ _ (by exact hb)),World.cell?_of_block (Below.heap_setCell _ _ _ _ (by exact hb))]
  exact h
 obtain ⟨⟨h0,hn,⟨u,v,hB⟩,n1,n2,n3,n4⟩,h1,k1,h2,k2,h3,k3,h4,k4,_⟩:=h
 exact HeldQ4.mk' ((h0.setCell (by exact hg) _).setCell (by exact hg) _) (by simpa [World.size_setCell] using hn) ⟨_,_,(hB.set 0 x).set 1 y⟩ ((n1.set x).set y) ((n2.set x).set y) ((n3.set x).set y) ((n4.set x).set y) (on (by omega) h1) (on (by omega) k1) (on (by omega) h2) (on (by omega) k2) (on (by omega) h3) (on (by omega) k3) (on (by omega) h4) (on (by omega) k4)
theorem HeldQ4.below (h:HeldQ4 w n0 g1 g2 g3 g4 g P x1 A1 c1 x2 A2 c2 x3 A3 c3 x4 A4 c4 wk):Below w.heap.size w wk:=h.1.1
theorem HeldQ4.row (h:HeldQ4 w n0 g1 g2 g3 g4 g P x1 A1 c1 x2 A2 c2 x3 A3 c3 x4 A4 c4 wk):R2 wk g:=h.1.2.2.1
end
end
section
open Go.RowKit
theorem NumAt.stepA {wk w':World} {P:Nat→Prop} {n:Int} {A:Option Addr} {c:Nat} {X:Obj} (h:NumAt wk P n A c) (hb:Below (wk.alloc X).heap.size (wk.alloc X) w'):NumAt w' P n A c:=(h.step (bA)).step hb
theorem NumAt.al {wk:World} {P:Nat→Prop} {n:Int} {A:Option Addr} {c:Nat} {X:Obj} (h:NumAt wk P n A c):NumAt (wk.alloc X) P n A c:=h.step (bA)
end
end Go.Proofs.YtpnoofphfomjoaaGreatDoor
