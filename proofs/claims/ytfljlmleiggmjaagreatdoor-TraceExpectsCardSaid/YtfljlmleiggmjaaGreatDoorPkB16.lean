/- Num2 RefNum5 -/
import Derived.BigQuiet
import Derived.Deep.AppendLies
import Derived.Test.YtfljlmleiggmjaaGreatDoorPkB00
set_option maxRecDepth 1000000
set_option maxHeartbeats 8000000
namespace Go.Proofs.YtfljlmleiggmjaaGreatDoor
section
open Go.RowKit
def dCs (l:List Nat):List Value:=l.map fun (d:Nat)=>Value.int .i64 (d:Int)
def digs (n:Nat):List Nat:=if h:n=0 then [] else n % 65536::digs (n / 65536)
 termination_by n
 decreasing_by omega
end
section
open Go.RowKit
section
variable {w w':World} {P R:Nat→Prop} {A:Option Addr} {xs:List Value}
end
end
section
open Go.RowKit
def NumAt (w:World) (P:Nat→Prop) (n:Int) (A:Option Addr) (c:Nat):Prop:=SlN w P A (dCs (digs n.natAbs))∧(digs n.natAbs).length≤c∧c≤maxLen
def Up (w:World) (P:Nat→Prop):Prop:=∀ k,w.heap.size≤k→P k
theorem Up.of {w w':World} {P:Nat→Prop} (h:Up w P) (hs:w.heap.size≤w'.heap.size):Up w' P:=fun k hk=>h k (by omega)
section
variable {w w':World} {P R:Nat→Prop} {n:Int} {A:Option Addr} {c:Nat}
theorem NumAt.step (h:NumAt w P n A c) (hb:Below w.heap.size w w'):NumAt w' P n A c:=⟨h.1.below hb,h.2⟩
theorem NumAt.at_ (h:NumAt w P n A c) (hk:∀ b,P b→b<w.heap.size→w'.heap[b]?=w.heap[b]?):NumAt w' P n A c:=⟨h.1.at_ hk,h.2⟩
theorem NumAt.mono (h:NumAt w P n A c) (hR:∀ k,P k→R k):NumAt w R n A c:=⟨h.1.mono hR,h.2⟩
theorem NumAt.set {g i:Nat} (h:NumAt w (fun k=>P k∧k≠g) n A c) (u:Value):NumAt (w.setCell ⟨g,i,none⟩ u) (fun k=>P k∧k≠g) n A c :=
 h.at_ fun b hb _=>Below.heap_setCell _ _ _ _ (by exact hb.2)
end
end
section
open Go.RowKit
end
section
open Go.RowKit
end
section
open Go.RowKit
def IntD (m k y:Nat) (o:List Nat):Prop:=o.length=k∧dOk o∧k≤4∧y<65536 ^ (4 - k)∧dval o+65536 ^ k*y=m
theorem IntD.step {m k y:Nat} {o:List Nat} (h:IntD m k y o) (hy:0<y):k<4∧IntD m (k+1) (y / 65536) (o++[y % 65536]):=by
 obtain ⟨h1,h2,h3,h4,h5⟩:=h
 have hk:k<4:=by
  rcases Nat.lt_or_ge k 4 with h | h
  · exact h
  · rw [show 4 - k=0 by omega,Nat.pow_zero] at h4;omega
 refine ⟨hk,by simp [h1],h2.snoc (by omega),by omega,?_,?_⟩
 · rw [show 4 - k=(4 - (k+1))+1 by omega,Nat.pow_succ] at h4
   omega
 · rw [dval_snoc,h1,Nat.pow_succ,Nat.mul_assoc]
   have e:65536 ^ k*(y % 65536)+65536 ^ k*(65536*(y / 65536))=65536 ^ k*y:=by
    rw [← Nat.mul_add,Nat.mod_add_div]
   omega
theorem IntD.done {m k:Nat} {o:List Nat} (h:IntD m k 0 o):dOk o∧dval o=m:=⟨h.2.1,by simpa using h.2.2.2.2⟩
end
section
open Go.RowKit
end
end Go.Proofs.YtfljlmleiggmjaaGreatDoor
