/- Words FenceSize IndexFunc Check Same Mask FenceCheck OpenBase -/
import Derived.BigQuiet
import Derived.Deep.DeepHandedRow
import Derived.Deep.Draws
import Derived.Deep.QuietTactic
import Derived.Deep.RegionWith
import Derived.Deep.Slices
import Derived.Deep.Strs
import Derived.Laws.BitsAllLaws
import Derived.Lib.LaidTab
import Derived.Lib.SmallJoins
import Derived.OpenShut
import Derived.ProofKit
import Derived.Test.YtpnoofphfomjoaaGreatDoorRows
import Derived.WalkKit
import Derived.WalkLawsBesides
import Derived.WalkSpells
set_option maxRecDepth 1000000
set_option maxHeartbeats 8000000
namespace Go.Proofs.YtpnoofphfomjoaaGreatDoor
section
open Go.RowKit
def Sl (w:World) (B:Nat) (A:Option Addr) (xs:List Value):Prop :=
 xs=[]∨∃ b off,A=some ⟨b,off,none⟩∧b<B∧∀ j u,xs[j]?=some u→w.cell? ⟨b,off+j,none⟩=some u
theorem Sl.nil (w:World) (B:Nat) (A:Option Addr):Sl w B A []:=.inl rfl
theorem Sl.below {w w':World} {B:Nat} {A:Option Addr} {xs:List Value} (h:Sl w B A xs) (hb:Below B w w'):Sl w' B A xs:=by
 rcases h with h | ⟨b,off,hA,hlt,hc⟩
 · exact .inl h
 · exact .inr ⟨b,off,hA,hlt,fun j u hu=>(hb.cell (p:=⟨b,off+j,none⟩) hlt).trans (hc j u hu)⟩
theorem Sl.more {w:World} {B B':Nat} {A:Option Addr} {xs:List Value} (h:Sl w B A xs) (hB:B≤B'):Sl w B' A xs:=by
 rcases h with h | ⟨b,off,hA,hlt,hc⟩
 · exact .inl h
 · exact .inr ⟨b,off,hA,Nat.lt_of_lt_of_le hlt hB,hc⟩
theorem Sl.drewN {w:World} {B:Nat} {A:Option Addr} {xs:List Value} (h:Sl w B A xs) (k:Nat):Sl (w.drewN k) B A xs:=h
theorem Sl.drew {w:World} {B:Nat} {A:Option Addr} {xs:List Value} (h:Sl w B A xs):Sl w.drew B A xs:=h
theorem Sl.open_ {w:World} {B:Nat} {A:Option Addr} {xs:List Value} (h:Sl w B A xs) (hn:0<xs.length) :
 ∃ b off,A=some ⟨b,off,none⟩∧b<B∧∀ j u,xs[j]?=some u→w.cell? ⟨b,off+j,none⟩=some u:=by
 rcases h with h | h
 · subst h;simp at hn
 · exact h
theorem Sl.mk {w:World} {B b off:Nat} {xs:List Value} (hb:b<B) (hc:∀ j u,xs[j]?=some u→w.cell? ⟨b,off+j,none⟩=some u):Sl w B (some ⟨b,off,none⟩) xs :=
 .inr ⟨b,off,rfl,hb,hc⟩
theorem Sl.of_own {w:World} {base:Nat} {e:TypeId} {size n m c:Nat} {A:Option Addr} {xs:List Value} (h:w.ownsRow base e size (.slice A n c) m xs):Sl w w.heap.size A xs:=by
 obtain ⟨hl,h⟩:=h
 rcases h with ⟨_,h0⟩ | ⟨g,cap,cur,hv,_,hh,hn,_,hcs,ht⟩
 · left;subst h0;exact List.eq_nil_of_length_eq_zero (by simpa using hl)
 · right
   injection hv with hA
   have hlt:g<w.heap.size:=by
    rcases Nat.lt_or_ge g w.heap.size with h | h
    · exact h
    · rw [Array.getElem?_eq_none h] at hh;cases hh
   refine ⟨g,0,hA,hlt,fun j u hu=>?_⟩
   rw [← ht] at hu
   rw [List.getElem?_take] at hu
   have hcell:=cell_of_row w g (0+j) cur e (0,0) hh
   rw [hcell]
   split at hu
   · simpa using hu
   · cases hu
theorem below_drewN {B:Nat} {a w:World} (h:Below B a w) (k:Nat):Below B a (w.drewN k):=⟨h.os,h.tape,h.output,h.size,h.block⟩
theorem below_of_drew {B:Nat} {a w:World} (h:Below B a.drew w):Below B a w:=⟨h.os,h.tape,h.output,h.size,h.block⟩
theorem bl_alloc {a w:World} (h:Below a.heap.size a w) (o:Obj):Below a.heap.size a (w.alloc o):=h.alloc h.size o
theorem bA {w : World} {o : Obj} : Below w.heap.size w (w.alloc o) := bl_alloc (Below.refl _ _) _
theorem bl_drewN {B:Nat} {a w:World} (h:Below B a w) (k:Nat):Below B a (w.drewN k):=⟨h.os,h.tape,h.output,h.size,h.block⟩
theorem bl_drew {B:Nat} {a w:World} (h:Below B a w):Below B a w.drew:=⟨h.os,h.tape,h.output,h.size,h.block⟩
theorem bl_step {a w w':World} (h:Below a.heap.size a w) (hb:Below w.heap.size w w'):Below a.heap.size a w':=h.trans (hb.mono h.size)
theorem bcell {a w:World} (h:Below a.heap.size a w):(∀ b o,b<a.heap.size→w.cell? ⟨b,o,none⟩=a.cell? ⟨b,o,none⟩)∧(∀ b o,b<a.heap.size→w.frozen? ⟨b,o,none⟩=a.frozen? ⟨b,o,none⟩) :=
 ⟨fun b o hb=>h.cell (p:=⟨b,o,none⟩) hb,fun b o hb=>h.frozen (p:=⟨b,o,none⟩) hb⟩
theorem hide {p:Prop} (h:p):Hid p:=h
theorem ret_int {k:IntKind} {a b:Int} (h:a=b):Ending.returned (.int k a)=.returned (.int k b):=by rw [h]
theorem ret_bool {a b:Bool} (h:a=b):Ending.returned (.bool a)=.returned (.bool b):=by rw [h]
def Blk (w:World) (g:Nat) (t:TypeId) (cs:Array Value):Prop:=w.heap[g]?=some (.cells cs t (0,0))
section
variable {w w':World} {g:Nat} {t:TypeId} {cs:Array Value}
theorem Blk.lt (h:Blk w g t cs):g<w.heap.size:=by
 rcases Nat.lt_or_ge g w.heap.size with h1 | h1
 · exact h1
 · unfold Blk at h;rw [Array.getElem?_eq_none h1] at h;cases h
theorem Blk.cell (h:Blk w g t cs) {i:Nat} {v:Value} (hi:cs[i]?=some v):w.cell? ⟨g,i,none⟩=some v:=(cell_of_row w g i cs t (0,0) h).trans hi
theorem Blk.frozen (h:Blk w g t cs) (i:Nat):w.frozen? ⟨g,i,none⟩=false:=by unfold Blk at h;simp [World.frozen?,h]
theorem Blk.new (w:World) (t:TypeId) (cs:Array Value):Blk (w.alloc (.cells cs t)) w.heap.size t cs:=by
 show (w.heap.push _)[w.heap.size]?=_
 simp
theorem Blk.alloc (h:Blk w g t cs) (o:Obj):Blk (w.alloc o) g t cs:=(Below.heap_alloc w o g h.lt).trans h
theorem Blk.drewN (h:Blk w g t cs) (k:Nat):Blk (w.drewN k) g t cs:=h
theorem Blk.drew (h:Blk w g t cs):Blk w.drew g t cs:=h
theorem Blk.set (h:Blk w g t cs) (i:Nat) (u:Value):Blk (w.setCell ⟨g,i,none⟩ u) g t (cs.setIfInBounds i u):=by
 unfold Blk at h ⊢
 simp [World.setCell,Array.getElem?_modify,h]
theorem Blk.far (h:Blk w g t cs) {p:Addr} (hp:g≠p.block) (u:Value):Blk (w.setCell p u) g t cs:=(Below.heap_setCell w p u g hp).trans h
theorem Blk.below {B:Nat} (h:Blk w g t cs) (hb:Below B w w') (hg:g<B):Blk w' g t cs:=(hb.block g hg).trans h
theorem Blk.step (h:Blk w g t cs) (hb:Below w.heap.size w w'):Blk w' g t cs:=h.below hb h.lt
theorem Blk.grown {row:Option Nat} (h:Blk w g t cs) (hb:w.grownBy w' row) (hg:some g≠row):Blk w' g t cs:=(hb.block g h.lt hg).trans h
theorem own_base {base:Nat} {e:TypeId} {size n:Nat} {v:Value} {xs:List Value} (h:w.ownsRow base e size v n xs) {k:Nat} (hk:v.ownBlock=some k):base≤k:=by
 rcases h.2 with ⟨rfl,_⟩ | ⟨g',cap,cur,rfl,hb,_⟩
 · simp [Value.ownBlock] at hk
 · have:g'=k:=by simpa [Value.ownBlock] using hk
   omega
theorem own_form {base:Nat} {e:TypeId} {size n:Nat} {v:Value} {xs:List Value} (h:w.ownsRow base e size v n xs) (hn:0<n) :
 ∃ k cap,v=.slice (some ⟨k,0,none⟩) n cap∧base≤k∧k<w.heap.size∧n≤cap:=by
 rcases h.2 with ⟨_,h0⟩ | ⟨g',cap,cur,rfl,hb,hh,hc,_⟩
 · omega
 · exact ⟨g',cap,rfl,hb,Blk.lt hh,hc⟩
theorem own_slice {base:Nat} {e:TypeId} {size n:Nat} {v:Value} {xs:List Value} (h:w.ownsRow base e size v n xs):∃ A cap,v=.slice A n cap∧n≤cap:=by
 rcases h.2 with ⟨rfl,rfl⟩ | ⟨g',cap,cur,rfl,hb,hh,hc,_⟩
 · exact ⟨none,0,rfl,Nat.le_refl _⟩
 · exact ⟨_,cap,rfl,hc⟩
theorem own_step {base:Nat} {e:TypeId} {size n:Nat} {v:Value} {xs:List Value} (h:w.ownsRow base e size v n xs) (hb:Below w.heap.size w w'):w'.ownsRow base e size v n xs:=by
 refine ⟨h.1,?_⟩
 rcases h.2 with h0 | ⟨g',cap,cur,hv,hb1,hh,r⟩
 · exact .inl h0
 · exact .inr ⟨g',cap,cur,hv,hb1,(hb.block g' (Blk.lt hh)).trans hh,r⟩
theorem own_ne {base:Nat} {e:TypeId} {size n:Nat} {v:Value} {xs:List Value} (h:w.ownsRow base e size v n xs) (hg:g<base):some g≠v.ownBlock:=by
 intro e1
 have:=own_base h e1.symm
 omega
end
structure Rg where
 d:Bool
 v:Int
 A:Option Addr
 n:Nat
 c:Nat
def Rg.cells (r:Rg):List Value:=[.bool r.d,.int .i64 r.v,.slice r.A r.n r.c]
def rgCells (rs:List Rg):List Value:=rs.flatMap Rg.cells
theorem rgCells_length (rs:List Rg):(rgCells rs).length=3*rs.length:=by
 induction rs with
 | nil=>rfl
 | cons r rs ih=>simp only [rgCells,List.flatMap_cons,List.length_append,List.length_cons] at *;rw [ih];simp [Rg.cells];omega
theorem rgCells_get (rs:List Rg) (i:Nat) (r:Rg) (h:rs[i]?=some r) :
 (rgCells rs)[i*3]?=some (.bool r.d)∧(rgCells rs)[i*3+1]?=some (.int .i64 r.v)∧(rgCells rs)[i*3+2]?=some (.slice r.A r.n r.c):=by
 induction rs generalizing i with
 | nil=>simp at h
 | cons q rs ih =>
   have hq:∀ j,(rgCells (q::rs))[j+3]?=(rgCells rs)[j]?:=by
    intro j
    show (Rg.cells q++rgCells rs)[j+3]?=_
    rw [List.getElem?_append_right (by simp [Rg.cells])]
    simp [Rg.cells]
   cases i with
   | zero =>
     simp only [List.getElem?_cons_zero,Option.some.injEq] at h
     subst h
     exact ⟨rfl,rfl,rfl⟩
   | succ i =>
     have h':rs[i]?=some r:=by simpa using h
     have:=ih i h'
     have e:(i+1)*3=i*3+3:=by omega
     rw [e]
     refine ⟨by rw [hq];exact this.1,?_,?_⟩
     · rw [show i*3+3+1=i*3+1+3 by omega,hq];exact this.2.1
     · rw [show i*3+3+2=i*3+2+3 by omega,hq];exact this.2.2
theorem Sl.rg {w:World} {B:Nat} {A:Option Addr} {rs:List Rg} (h:Sl w B A (rgCells rs)) {k:Nat} {r:Rg} (hk:rs[k]?=some r) :
 ∃ b off,A=some ⟨b,off,none⟩∧b<B∧w.cell? ⟨b,off+k*3,none⟩=some (.bool r.d)∧w.cell? ⟨b,off+k*3+1,none⟩=some (.int .i64 r.v)∧w.cell? ⟨b,off+k*3+2,none⟩=some (.slice r.A r.n r.c):=by
 have hlt:k<rs.length:=(List.getElem?_eq_some_iff.1 hk).1
 obtain ⟨b,off,rfl,hB,hc⟩:=h.open_ (by rw [rgCells_length];omega)
 obtain ⟨h0,h1,h2⟩:=rgCells_get rs k r hk
 exact ⟨b,off,rfl,hB,hc _ _ h0,hc _ _ h1,hc _ _ h2⟩
theorem any_take_succ {α:Type} (l:List α) (p:α→Bool) (k:Nat) (r:α) (h:l[k]?=some r):(l.take (k+1)).any p=((l.take k).any p || p r):=by
 rw [List.take_add_one,h];simp
theorem any_of_get {α:Type} (l:List α) (p:α→Bool) (k:Nat) (r:α) (h:l[k]?=some r) (hp:p r=true):l.any p=true :=
 List.any_eq_true.2 ⟨r,List.mem_of_getElem? h,hp⟩
theorem Blk.new2 (w:World) (o:Obj) (t:TypeId) (cs:Array Value):Blk ((w.alloc o).alloc (.cells cs t)) (w.heap.size+1) t cs:=by
 have h:=Blk.new (w.alloc o) t cs
 simpa using h
theorem own_mono {w:World} {base base':Nat} {e:TypeId} {size n:Nat} {v:Value} {xs:List Value} (h:w.ownsRow base e size v n xs) (hb:base'≤base):w.ownsRow base' e size v n xs:=by
 refine ⟨h.1,?_⟩
 rcases h.2 with h0 | ⟨g',cap,cur,hv,hb1,r⟩
 · exact .inl h0
 · exact .inr ⟨g',cap,cur,hv,by omega,r⟩
theorem own_of_blk {w:World} {base g:Nat} {e:TypeId} {size n:Nat} {xs:List Value} (h:Blk w g e xs.toArray) (hg:base≤g) (hl:xs.length=n*size) (hn:n≤maxLen) :
 w.ownsRow base e size (.slice (some ⟨g,0,none⟩) n n) n xs :=
 ⟨hl,.inr ⟨g,n,xs.toArray,rfl,hg,h,Nat.le_refl _,hn,by simpa using hl,by rw [← hl];simp⟩⟩
theorem blk_cells {w:World} {g:Nat} {t:TypeId} {xs:List Value} (h:Blk w g t xs.toArray):∀ j u,xs[j]?=some u→w.cell? ((⟨g,0,none⟩:Addr).add j)=some u:=by
 intro j u hu
 have e:(⟨g,0,none⟩:Addr).add j=⟨g,j,none⟩:=by unfold Addr.add;split <;> simp_all
 rw [e]
 exact h.cell (by simpa using hu)
theorem own_set {w:World} {base:Nat} {e:TypeId} {size n:Nat} {v:Value} {xs:List Value} (h:w.ownsRow base e size v n xs) {p:Addr} (hp:v.ownBlock≠some p.block) (u:Value):(w.setCell p u).ownsRow base e size v n xs:=by
 refine ⟨h.1,?_⟩
 rcases h.2 with h0 | ⟨g',cap,cur,rfl,hb1,hh,r⟩
 · exact .inl h0
 · refine .inr ⟨g',cap,cur,rfl,hb1,(Below.heap_setCell w p u g' ?_).trans hh,r⟩
   intro e1;apply hp;rw [← e1];rfl
theorem cell_lt {w:World} {b o:Nat} {v:Value} (h:w.cell? ⟨b,o,none⟩=some v):b<w.heap.size:=by
 rcases Nat.lt_or_ge b w.heap.size with h1 | h1
 · exact h1
 · simp [World.cell?,Array.getElem?_eq_none h1] at h
theorem own_lt {w:World} {base:Nat} {e:TypeId} {size n:Nat} {v:Value} {xs:List Value} (h:w.ownsRow base e size v n xs) {k:Nat} (hk:v.ownBlock=some k):k<w.heap.size:=by
 rcases h.2 with ⟨rfl,_⟩ | ⟨g',cap,cur,rfl,hb,hh,_⟩
 · simp [Value.ownBlock] at hk
 · have:g'=k:=by simpa [Value.ownBlock] using hk
   subst this
   exact Blk.lt hh
theorem Sl.at_ {w w':World} {B:Nat} {A:Option Addr} {xs:List Value} (h:Sl w B A xs) (hb:∀ b,b<B→(xs≠[]→∀ x,A=some x→x.block=b→w'.heap[b]?=w.heap[b]?)):Sl w' B A xs:=by
 rcases h with h | ⟨b,off,hA,hlt,hc⟩
 · exact .inl h
 · refine .inr ⟨b,off,hA,hlt,fun j u hu=>?_⟩
   have hx:xs≠[]:=fun e=>by rw [e] at hu;simp at hu
   rw [World.cell?_of_block (hb b hlt hx _ hA rfl)]
   exact hc j u hu
theorem Sl.blk_lt {w:World} {B:Nat} {A:Option Addr} {xs:List Value} (h:Sl w B A xs) (hx:xs≠[]) {x:Addr} (hA:A=some x):x.block<B:=by
 rcases h with h | ⟨b,off,hA',hlt,hc⟩
 · exact absurd h hx
 · rw [hA] at hA';cases hA';exact hlt
theorem Sl.far {w:World} {B:Nat} {A:Option Addr} {xs:List Value} (h:Sl w B A xs) {p:Addr} (hp:xs≠[]→∀ x,A=some x→x.block≠p.block) (u:Value):Sl (w.setCell p u) B A xs :=
 h.at_ fun b _ hx x hA hxb=>Below.heap_setCell w p u b (by rw [← hxb];exact hp hx x hA)
theorem own_blk {w w':World} {xs:List Value} {base:Nat} {e:TypeId} {size n:Nat} {v:Value} (h:w.ownsRow base e size v n xs) (hk:∀ k,v.ownBlock=some k→w'.heap[k]?=w.heap[k]?):w'.ownsRow base e size v n xs:=by
 refine ⟨h.1,?_⟩
 rcases h.2 with h0 | ⟨g',cap,cur,rfl,hb1,hh,r⟩
 · exact .inl h0
 · exact .inr ⟨g',cap,cur,rfl,hb1,(hk g' rfl).trans hh,r⟩
end
section
open Go.RowKit
def sizeOfReg (v:Int):Int:=if v=0 then 3 else if 3≤v∧v≤64 then v else 0
theorem shapeOf_zero (d:Bool) (A:Option Addr) (n c:Nat) (w:World) :
 Calls Tryz.prog 101 #[.agg #[.bool d,.int .i64 0,.slice A n c]] w fun e w'=>e=.returned (.iface 203 (.agg #[.bool d,.int .i64 0,.slice A n c]))∧Below w.heap.size w w':=by
 go_enter Tryz.func101,Tryz.ntmps101
 go_wp2
 go_ret
 exact ⟨rfl,(Below.refl _ _).alloc (Nat.le_refl _) _⟩
theorem shapeOf_other (d:Bool) (v:Int) (hv:(v == 0)=false) (A:Option Addr) (n c:Nat) (w:World) :
 Calls Tryz.prog 101 #[.agg #[.bool d,.int .i64 v,.slice A n c]] w fun e w'=>e=.returned (.iface 204 (.agg #[.bool d,.int .i64 v,.slice A n c]))∧Below w.heap.size w w':=by
 go_enter Tryz.func101,Tryz.ntmps101
 go_wp2
 go_ret
 exact ⟨rfl,(Below.refl _ _).alloc (Nat.le_refl _) _⟩
theorem refSize_any (v:Int) (w:World) :
 Calls Tryz.prog 73 #[.int .i64 v] w fun e w'=>e=.returned (.int .i64 (sizeOfReg v))∧w=w':=by
 go_enter Tryz.func73,Tryz.ntmps73
 go_wp2
 all_goals go_ret
 · have h:(v == 0)=true:=by assumption
   have h0:v=0:=by simpa using h
   exact ⟨ret_int (by simp [sizeOfReg,h0]),rfl⟩
 all_goals
  have h:(v == 0)=false:=by assumption
  have h0:v≠0:=by simpa using h
  exact ⟨ret_int (by unfold sizeOfReg;rw [if_neg h0];first | rw [if_pos ⟨by assumption,by assumption⟩] | rw [if_neg (by omega)]),rfl⟩
theorem roundSize (d:Bool) (v:Int) (A:Option Addr) (n c:Nat) (w:World) :
 Calls Tryz.prog 243 #[.agg #[.bool d,.int .i64 v,.slice A n c]] w fun e w'=>e=.returned (.int .i64 3)∧Below w.heap.size w w':=by
 go_enter Tryz.func243,Tryz.ntmps243
 go_wp2
 go_ret
 exact ⟨rfl,(Below.refl _ _).alloc (Nat.le_refl _) _⟩
theorem convexSize (d:Bool) (v:Int) (A:Option Addr) (n c:Nat) (w:World) (hv:v≠0) :
 Calls Tryz.prog 250 #[.agg #[.bool d,.int .i64 v,.slice A n c]] w fun e w'=>e=.returned (.int .i64 (sizeOfReg v))∧Below w.heap.size w w':=by
 go_enter Tryz.func250,Tryz.ntmps250
 go_wp2
 all_goals go_ret
 all_goals exact ⟨ret_int (by unfold sizeOfReg;rw [if_neg hv];first | rw [if_pos ⟨by omega,by omega⟩] | rw [if_neg (by omega)]),(Below.refl _ _).alloc (Nat.le_refl _) _⟩
theorem meth_round (d : Bool) (v : Int) (A : Option Addr) (n c : Nat) (w : World) : (method 399 203 (.agg #[.bool d, .int .i64 v, .slice A n c]) "geofence/fence.size").run Tryz.prog w = .ok (243, .agg #[.bool d, .int .i64 v, .slice A n c]) w := by kernel_rfl
theorem meth_convex (d : Bool) (v : Int) (A : Option Addr) (n c : Nat) (w : World) : (method 399 204 (.agg #[.bool d, .int .i64 v, .slice A n c]) "geofence/fence.size").run Tryz.prog w = .ok (250, .agg #[.bool d, .int .i64 v, .slice A n c]) w := by kernel_rfl
theorem size_any (d:Bool) (v:Int) (A:Option Addr) (n c:Nat) (w:World) :
 Calls Tryz.prog 57 #[.agg #[.bool d,.int .i64 v,.slice A n c]] w fun e w'=>e=.returned (.int .i64 (sizeOfReg v))∧Below w.heap.size w w':=by
 have hmr:=meth_round
 have hmc:=meth_convex
 go_enter Tryz.func57,Tryz.ntmps57
 by_cases h0:v=0
 · subst h0
   go_wp2_with fail
   refine (shapeOf_zero _ _ _ _ _).mono ?_
   rintro e w1 ⟨rfl,hb⟩
   go_wp2_with fail
   refine (roundSize _ _ _ _ _ _).mono ?_
   rintro e w2 ⟨rfl,hb2⟩
   go_wp2
   go_ret
   exact ⟨rfl,((Below.refl _ _).alloc (Nat.le_refl _) _).trans ((hb.mono (by simp)).trans (hb2.mono (by have:=hb.size;simp at this;omega)))⟩
 · have hv:(v == 0)=false:=by simpa using h0
   go_wp2_with fail
   refine (shapeOf_other _ _ hv _ _ _ _).mono ?_
   rintro e w1 ⟨rfl,hb⟩
   go_wp2_with fail
   refine (convexSize _ _ _ _ _ _ h0).mono ?_
   rintro e w2 ⟨rfl,hb2⟩
   go_wp2
   go_ret
   exact ⟨rfl,((Below.refl _ _).alloc (Nat.le_refl _) _).trans ((hb.mono (by simp)).trans (hb2.mono (by have:=hb.size;simp at this;omega)))⟩
end
section
open Go.RowKit
def RgPred (K:FuncId) (p:Rg→Bool):Prop:=∀ (r:Rg) (w:World),Calls Tryz.prog K #[.agg #[.bool r.d,.int .i64 r.v,.slice r.A r.n r.c]] w fun e w'=>e=.returned (.bool (p r))∧Below w.heap.size w w'
def Enters (K:FuncId):Prop:=∀ (a:Array Value) (w:World),(callFunc K a).run Tryz.prog w=.ok (.enter K a) w
def FoundAt (rs:List Rg) (p:Rg→Bool) (w:World) (e:Ending) (w':World):Prop:=∃ k:Int,e=.returned (.int .i64 k)∧decide (0≤k)=rs.any p∧Below w.heap.size w w'
theorem indexFunc_any (K:FuncId) (hK:Enters K) (p:Rg→Bool) (hp:RgPred K p) (A:Option Addr) (c:Nat) (rs:List Rg) (w:World) (hs:Sl w w.heap.size A (rgCells rs)) (hn:rs.length≤maxLen) :
 Calls Tryz.prog 172 #[.slice A rs.length c,.func (.func K) #[] #[]] w (FoundAt rs p w):=by
 unfold maxLen at hn
 unfold Enters at hK
 go_enter Tryz.func172,Tryz.ntmps172
 go_wp2
 go_loopw [5,8] (fun _ i wr=>∃ k:Nat,k≤rs.length∧i=.int .i64 k∧Below w.heap.size w wr∧(rs.take k).any p=false)
  (fun _ i _=>rs.length - (intOf i).toNat)
 case atStart=>exact ⟨0,by omega,rfl,Below.refl _ _,by simp⟩
 case round =>
  obtain ⟨k,hk,rfl,hb,hany⟩:=hrel
  by_cases hlt:k<rs.length
  · obtain ⟨r,hr⟩:∃ r,rs[k]?=some r:=⟨_,List.getElem?_eq_getElem hlt⟩
    obtain ⟨b,off,rfl,hB,c0,c1,c2⟩:=(hs.below hb).rg hr
    have HR:=hide hr;clear hr
    have HA:=hide hany;clear hany
    go_wp2_with fail
    refine (hp r _).mono ?_
    rintro e w1 ⟨rfl,hb1⟩
    obtain ⟨q,hq⟩:∃ q,q=p r:=⟨_,rfl⟩
    rw [← hq]
    have HQ:=hide hq;clear hq
    cases q
    · go_wp2
      go_roundw
      case rel=>exact ⟨k+1,by omega,by go_num,hb.trans (hb1.mono hb.size),by rw [any_take_succ _ _ _ _ HR.out,HA.out,← HQ.out];rfl⟩
      case measure=>simp [intOf];omega
    · go_wp2
      go_ret
      exact ⟨k,rfl,by rw [any_of_get _ _ _ _ HR.out HQ.out.symm];simp,hb.trans (hb1.mono hb.size)⟩
  · have hk':k=rs.length:=by omega
    go_wp2
    go_ret
    exact ⟨-1,rfl,by rw [hk',List.take_length] at hany;rw [hany];rfl,hb⟩
theorem containsFunc_any (K:FuncId) (hK:Enters K) (p:Rg→Bool) (hp:RgPred K p) (A:Option Addr) (c:Nat) (rs:List Rg) (w:World) (hs:Sl w w.heap.size A (rgCells rs)) (hn:rs.length≤maxLen) :
 Calls Tryz.prog 142 #[.slice A rs.length c,.func (.func K) #[] #[]] w fun e w'=>e=.returned (.bool (rs.any p))∧Below w.heap.size w w':=by
 have HP:=hide hp;clear hp
 go_enter Tryz.func142,Tryz.ntmps142
 go_wp2_with fail
 refine (indexFunc_any K hK p HP.out A c rs w hs hn).mono ?_
 rintro e w1 ⟨k,rfl,hk,hb⟩
 have HK:=hide hk;clear hk
 go_wp2
 go_ret
 exact ⟨ret_bool HK.out,hb⟩
theorem containsFunc_n (K:FuncId) (hK:Enters K) (p:Rg→Bool) (hp:RgPred K p) (A:Option Addr) (c n:Nat) (rs:List Rg) (hnl:n=rs.length) (w:World) (hs:Sl w w.heap.size A (rgCells rs)) (hn:rs.length≤maxLen) :
 Calls Tryz.prog 142 #[.slice A n c,.func (.func K) #[] #[]] w fun e w'=>e=.returned (.bool (rs.any p))∧Below w.heap.size w w':=by
 subst hnl;exact containsFunc_any K hK p hp A c rs w hs hn
end
section
open Go.RowKit
def wrongRg (r:Rg):Bool:=sizeOfReg r.v == 0
def fullRg (r:Rg):Bool:=decide (0<r.n)
theorem check1_pred:RgPred 141 wrongRg:=by
 intro r w
 go_enter Tryz.func141,Tryz.ntmps141
 go_wp2_with fail
 refine (size_any _ _ _ _ _ _).mono ?_
 rintro e w1 ⟨rfl,hb⟩
 go_wp2
 go_ret
 exact ⟨rfl,((Below.refl _ _).alloc (Nat.le_refl _) _).trans (hb.mono (by simp))⟩
theorem check2_pred:RgPred 143 fullRg:=by
 intro r w
 go_enter Tryz.func143,Tryz.ntmps143
 go_wp2
 go_ret
 exact ⟨rfl,((Below.refl _ _).alloc (Nat.le_refl _) _)⟩
theorem check1_enters:Enters 141:=fun _ _=>by kernel_rfl
theorem check2_enters:Enters 143:=fun _ _=>by kernel_rfl
def hcheckB (op vs n pts:Int) (q1 q2:Bool):Int :=
 if op<1∨5<op then 5
 else if op=3∧(vs<3∨64<vs) then 6
 else if (op=4∨op=5)∧(n<1∨64<n) then 6
 else bif decide (op=4∨op=5) && q1 then 7
 else if op=5∧(pts<1∨4096<pts) then 6
 else if (op≠3∧vs≠0)∨(op<4∧0<n)∨(op≠5∧pts≠0) then 2
 else bif q2 then 2 else 0
def hcheck (op vs:Int) (rs:List Rg) (pts:Int):Int:=hcheckB op vs rs.length pts (rs.any wrongRg) (rs.any fullRg)
theorem hcheckB_zero {op vs n pts:Int} {q1 q2:Bool} (h:hcheckB op vs n pts q1 q2=0) (h0:0≤n) :
 1≤op∧op≤5∧(op=3→3≤vs∧vs≤64)∧(op≠3→vs=0)∧(4≤op→1≤n∧n≤64∧q1=false)∧(op<4→n=0)∧(op=5→1≤pts∧pts≤4096)∧(op≠5→pts=0)∧q2=false:=by
 unfold hcheckB at h
 by_cases h1:op<1∨5<op
 · rw [if_pos h1] at h;omega
 rw [if_neg h1] at h
 by_cases h2:op=3∧(vs<3∨64<vs)
 · rw [if_pos h2] at h;omega
 rw [if_neg h2] at h
 by_cases h3:(op=4∨op=5)∧(n<1∨64<n)
 · rw [if_pos h3] at h;omega
 rw [if_neg h3] at h
 by_cases h4:(decide (op=4∨op=5) && q1)=true
 · rw [h4,cond_true] at h;omega
 rw [Bool.not_eq_true] at h4
 rw [h4,cond_false] at h
 by_cases h5:op=5∧(pts<1∨4096<pts)
 · rw [if_pos h5] at h;omega
 rw [if_neg h5] at h
 by_cases h6:(op≠3∧vs≠0)∨(op<4∧0<n)∨(op≠5∧pts≠0)
 · rw [if_pos h6] at h;omega
 rw [if_neg h6] at h
 cases q2
 · refine ⟨by omega,by omega,by omega,by omega,fun h7=>⟨by omega,by omega,?_⟩,by omega,by omega,by omega,rfl⟩
   have:decide (op=4∨op=5)=true:=by rw [decide_eq_true_eq];omega
   rw [this] at h4;simpa using h4
 · rw [cond_true] at h;omega
section
variable (vs:Int) (rs:List Rg) (A:Option Addr) (c:Nat) (pts:Int) (w:World)
theorem check_bad (op:Int) (hop:op<1∨5<op) :
 Calls Tryz.prog 100 #[.agg #[.int .i64 op,.int .i64 vs,.slice A rs.length c,.int .i64 pts]] w fun e w'=>e=.returned (.int .i64 (hcheck op vs rs pts))∧Below w.heap.size w w':=by
 have h3:(op == 3)=false:=by simp;omega
 have h4:(op == 4)=false:=by simp;omega
 have h5:(op == 5)=false:=by simp;omega
 have hsp:hcheck op vs rs pts=5:=by unfold hcheck hcheckB;rw [if_pos hop]
 rw [hsp]
 rcases hop with hop | hop
 all_goals
  go_enter Tryz.func100,Tryz.ntmps100
  go_wp2
  go_quiet (fail)
  go_wp2
  go_ret
  exact ⟨rfl,bl_drewN (bl_alloc (Below.refl _ _) _) _⟩
variable (hs:Sl w w.heap.size A (rgCells rs)) (hn:rs.length≤maxLen)
include hs hn
theorem contains1 (w1:World) (hb:Below w.heap.size w w1):Calls Tryz.prog 142 #[.slice A rs.length c,.func (.func 141) #[] #[]] w1 fun e w'=>e=.returned (.bool (rs.any wrongRg))∧Below w1.heap.size w1 w' :=
 containsFunc_any _ check1_enters _ check1_pred A c rs w1 ((hs.below hb).more hb.size) hn
theorem contains2 (w1:World) (hb:Below w.heap.size w w1):Calls Tryz.prog 142 #[.slice A rs.length c,.func (.func 143) #[] #[]] w1 fun e w'=>e=.returned (.bool (rs.any fullRg))∧Below w1.heap.size w1 w' :=
 containsFunc_any _ check2_enters _ check2_pred A c rs w1 ((hs.below hb).more hb.size) hn
theorem check_12 (op:Int) (hop:op=1∨op=2) :
 Calls Tryz.prog 100 #[.agg #[.int .i64 op,.int .i64 vs,.slice A rs.length c,.int .i64 pts]] w fun e w'=>e=.returned (.int .i64 (hcheck op vs rs pts))∧Below w.heap.size w w':=by
 rcases hop with rfl | rfl
 all_goals
  go_enter Tryz.func100,Tryz.ntmps100
  go_wp2
  go_quiet (fail)
  go_wp2_with fail
  all_goals first
   | done
   | (refine (contains2 rs A c w hs hn _ (bl_drewN (bl_alloc (Below.refl _ _) _) _)).mono ?_
      rintro e w1 ⟨rfl,hb1⟩
      generalize hq:rs.any fullRg=q
      have HQ:=hide hq;clear hq
      cases q <;> go_wp2)
   | skip
  all_goals
   go_ret
   first | (have h:(vs != 0)=true:=by assumption
            have hv:vs≠0:=by simpa using h) | (have h:(vs != 0)=false:=by assumption
                                               have hv:vs=0:=by simpa using h) | skip
   first | (have h:(pts != 0)=true:=by assumption
            have hpt:pts≠0:=by simpa using h) | (have h:(pts != 0)=false:=by assumption
                                                 have hpt:pts=0:=by simpa using h) | skip
   refine ⟨ret_int ?_,?_⟩
   · unfold hcheck hcheckB
     try rw [HQ1.out]
     try rw [HQ.out]
     repeat first | rw [if_neg (by omega)] | rw [if_pos (by omega)] | rw [cond_true] | rw [cond_false] | rw [decide_eq_true (by omega),Bool.true_and] | rw [decide_eq_false (by omega),Bool.false_and]
   · repeat first | exact Below.refl _ _ | exact bl_step (bl_drewN (bl_alloc (Below.refl _ _) _) _) hb1 | refine bl_drewN ?_ _ | refine bl_alloc ?_ _
theorem check_3 :
 Calls Tryz.prog 100 #[.agg #[.int .i64 3,.int .i64 vs,.slice A rs.length c,.int .i64 pts]] w fun e w'=>e=.returned (.int .i64 (hcheck 3 vs rs pts))∧Below w.heap.size w w':=by
 go_enter Tryz.func100,Tryz.ntmps100
 go_wp2
 go_quiet (fail)
 all_goals
  go_wp2_with fail
  all_goals first
   | done
   | (refine (contains2 rs A c w hs hn _ (bl_drewN (bl_alloc (Below.refl _ _) _) _)).mono ?_
      rintro e w1 ⟨rfl,hb1⟩
      generalize hq:rs.any fullRg=q
      have HQ:=hide hq;clear hq
      cases q <;> go_wp2)
   | skip
  all_goals
   go_ret
   first | (have h:(vs != 0)=true:=by assumption
            have hv:vs≠0:=by simpa using h) | (have h:(vs != 0)=false:=by assumption
                                               have hv:vs=0:=by simpa using h) | skip
   first | (have h:(pts != 0)=true:=by assumption
            have hpt:pts≠0:=by simpa using h) | (have h:(pts != 0)=false:=by assumption
                                                 have hpt:pts=0:=by simpa using h) | skip
   refine ⟨ret_int ?_,?_⟩
   · unfold hcheck hcheckB
     try rw [HQ1.out]
     try rw [HQ.out]
     repeat first | rw [if_neg (by omega)] | rw [if_pos (by omega)] | rw [cond_true] | rw [cond_false] | rw [decide_eq_true (by omega),Bool.true_and] | rw [decide_eq_false (by omega),Bool.false_and]
   · repeat first | exact Below.refl _ _ | exact bl_step (bl_drewN (bl_alloc (Below.refl _ _) _) _) hb1 | refine bl_drewN ?_ _ | refine bl_alloc ?_ _
theorem check_45 (op:Int) (hop:op=4∨op=5) :
 Calls Tryz.prog 100 #[.agg #[.int .i64 op,.int .i64 vs,.slice A rs.length c,.int .i64 pts]] w fun e w'=>e=.returned (.int .i64 (hcheck op vs rs pts))∧Below w.heap.size w w':=by
 rcases hop with rfl | rfl
 all_goals
  go_enter Tryz.func100,Tryz.ntmps100
  go_wp2
  go_quiet (fail)
 all_goals
  go_wp2_with fail
  all_goals first
   | done
   | (refine (contains1 rs A c w hs hn _ (bl_drewN (bl_alloc (Below.refl _ _) _) _)).mono ?_
      rintro e w1 ⟨rfl,hb1⟩
      obtain ⟨hcl,hfr⟩:=bcell hb1
      generalize hq1:rs.any wrongRg=q1
      have HQ1:=hide hq1;clear hq1
      cases q1 <;> go_wp2_with fail)
   | skip
  all_goals first
   | done
   | (refine (contains2 rs A c w hs hn _ (bl_step (bl_drewN (bl_alloc (Below.refl _ _) _) _) hb1)).mono ?_
      rintro e w2 ⟨rfl,hb2⟩
      generalize hq:rs.any fullRg=q
      have HQ:=hide hq;clear hq
      cases q <;> go_wp2)
   | skip
  all_goals
   go_ret
   first | (have h:(vs != 0)=true:=by assumption
            have hv:vs≠0:=by simpa using h) | (have h:(vs != 0)=false:=by assumption
                                               have hv:vs=0:=by simpa using h) | skip
   first | (have h:(pts != 0)=true:=by assumption
            have hpt:pts≠0:=by simpa using h) | (have h:(pts != 0)=false:=by assumption
                                                 have hpt:pts=0:=by simpa using h) | skip
   refine ⟨ret_int ?_,?_⟩
   · unfold hcheck hcheckB
     try rw [HQ1.out]
     try rw [HQ.out]
     repeat first | rw [if_neg (by omega)] | rw [if_pos (by omega)] | rw [cond_true] | rw [cond_false] | rw [decide_eq_true (by omega),Bool.true_and] | rw [decide_eq_false (by omega),Bool.false_and]
   · repeat first | exact Below.refl _ _ | exact bl_step (bl_step (bl_drewN (bl_alloc (Below.refl _ _) _) _) hb1) hb2 | exact bl_step (bl_drewN (bl_alloc (Below.refl _ _) _) _) hb1 | refine bl_drewN ?_ _ | refine bl_alloc ?_ _
theorem check_any (op:Int) :
 Calls Tryz.prog 100 #[.agg #[.int .i64 op,.int .i64 vs,.slice A rs.length c,.int .i64 pts]] w fun e w'=>e=.returned (.int .i64 (hcheck op vs rs pts))∧Below w.heap.size w w':=by
 by_cases h0:op<1∨5<op
 · exact check_bad vs rs A c pts w op h0
 by_cases h1:op=1∨op=2
 · exact check_12 vs rs A c pts w hs hn op h1
 by_cases h3:op=3
 · subst h3;exact check_3 vs rs A c pts w hs hn
 · exact check_45 vs rs A c pts w hs hn op (by omega)
end
theorem hcheck_zero {op vs:Int} {rs:List Rg} {pts:Int} (h:hcheck op vs rs pts=0) :
 1≤op∧op≤5∧(op=3→3≤vs∧vs≤64)∧(op≠3→vs=0)∧(4≤op→1≤rs.length∧rs.length≤64∧rs.any wrongRg=false)∧(op<4→rs=[])∧(op=5→1≤pts∧pts≤4096)∧(op≠5→pts=0)∧rs.any fullRg=false:=by
 obtain ⟨a,b,c,d,e,f,g,i,j⟩:=hcheckB_zero h (by omega)
 exact ⟨a,b,c,d,fun h=>⟨by have:=e h;omega,by have:=e h;omega,(e h).2.2⟩,fun h=>List.eq_nil_of_length_eq_zero (by have:=f h;omega),g,i,j⟩
end
section
open Go.RowKit
def Rg.key (r:Rg):Bool × Int × Nat:=(r.d,r.v,r.n)
end
section
open Go.RowKit
def msk (c:Bool):Int:=bif c then 18446744073709551615 else 0
theorem msk_bd (c:Bool):0≤msk c∧msk c<18446744073709551616:=by cases c <;> decide
theorem not_nat (y:Nat) (h:y<18446744073709551616):18446744073709551615 ^^^ y=18446744073709551615 - y:=by
 have h1:=congrArg BitVec.toNat (BitVec.allOnes_xor (x:=BitVec.ofNat 64 y))
 rw [BitVec.toNat_xor,BitVec.toNat_not,BitVec.toNat_allOnes,BitVec.toNat_ofNat,Nat.mod_eq_of_lt (show y<2 ^ 64 by simpa using h)] at h1
 exact h1
theorem bnot (y:Int) (h0:0≤y) (h1:y<18446744073709551616):bits BinOp.xor IntKind.u64 IntKind.u64.max y=18446744073709551615 - y:=by
 have e:IntKind.u64.max=18446744073709551615:=rfl
 rw [e,u64_xor _ y (by omega) (by omega) h0 h1]
 have:=not_nat y.toNat (by omega)
 rw [show (18446744073709551615:Int).toNat=18446744073709551615 from rfl,this]
 omega
theorem band1 (x:Int) (h0:0≤x) (h1:x<18446744073709551616):bits BinOp.and IntKind.u64 x 1=x % 2:=by
 rw [u64_and x 1 h0 h1 (by omega) (by omega),show (1:Int).toNat=1 from rfl,Nat.and_one_is_mod]
 omega
theorem of_bits (x:Int) (h0:0≤x) (h1:x<18446744073709551616):IntKind.u64.wrap (-bits BinOp.and IntKind.u64 x 1)=msk (decide (x % 2=1)):=by
 rw [band1 x h0 h1,IntKind.wrap_u64]
 have:x % 2=0∨x % 2=1:=by omega
 rcases this with h | h <;> rw [h] <;> decide
theorem zero_bits (x:Int) (h0:0≤x) (h1:x<18446744073709551616):bits BinOp.xor IntKind.u64 IntKind.u64.max (bits BinOp.or IntKind.u64 x (IntKind.u64.wrap (-x))) / 9223372036854775808=if x=0 then 1 else 0:=by
 rw [IntKind.wrap_u64]
 by_cases hx:x=0
 · subst hx;rw [if_pos rfl];decide +kernel
 · rw [if_neg hx,show (-x) % 18446744073709551616=18446744073709551616 - x by omega,u64_or x _ h0 h1 (by omega) (by omega)]
   have hl:x.toNat≤x.toNat ||| (18446744073709551616 - x).toNat:=Nat.left_le_or
   have hr:(18446744073709551616 - x).toNat≤x.toNat ||| (18446744073709551616 - x).toNat:=Nat.right_le_or
   have hb:x.toNat ||| (18446744073709551616 - x).toNat<2 ^ 64:=Nat.or_lt_two_pow (by omega) (by omega)
   generalize x.toNat ||| (18446744073709551616 - x).toNat=y at hl hr hb ⊢
   rw [bnot y (by omega) (by omega)]
   omega
theorem select_bits (c:Bool) (a b:Int) (h0:0≤a) (h1:a<18446744073709551616) (h2:0≤b) (h3:b<18446744073709551616):bits BinOp.xor IntKind.u64 b (bits BinOp.and IntKind.u64 (msk c) (bits BinOp.xor IntKind.u64 a b))=bif c then a else b:=by
 rw [u64_xor a b h0 h1 h2 h3]
 have hx:a.toNat ^^^ b.toNat<2 ^ 64:=Nat.xor_lt_two_pow (by omega) (by omega)
 obtain ⟨A,rfl⟩:=Int.eq_ofNat_of_zero_le h0
 obtain ⟨B,rfl⟩:=Int.eq_ofNat_of_zero_le h2
 simp only [Int.toNat_natCast] at hx ⊢
 cases c
 · rw [u64_and _ _ (msk_bd _).1 (msk_bd _).2 (by omega) (by omega)]
   show bits _ _ _ (((0:Nat) &&& _:Nat):Int)=(B:Int)
   rw [Nat.zero_and,u64_xor _ _ (by omega) (by omega) (by omega) (by omega)]
   simp
 · rw [u64_and _ _ (msk_bd _).1 (msk_bd _).2 (by omega) (by omega)]
   have e:(msk true).toNat &&& ((A ^^^ B:Nat):Int).toNat=A ^^^ B:=by
    rw [Int.toNat_natCast,show (msk true).toNat=2 ^ 64 - 1 from rfl,Nat.and_comm,Nat.and_two_pow_sub_one_eq_mod,Nat.mod_eq_of_lt hx]
   rw [e,u64_xor _ _ (by omega) (by omega) (by omega) (by omega),Int.toNat_natCast,Int.toNat_natCast,Nat.xor_comm A B,← Nat.xor_assoc,Nat.xor_self,Nat.zero_xor]
   rfl
theorem of_any (x:Int) (h0:0≤x) (h1:x<18446744073709551616) (w:World):Calls Tryz.prog 153 #[.int .u64 x] w fun e w'=>e=.returned (.int .u64 (msk (decide (x % 2=1))))∧w=w':=by
 have h:=of_bits x h0 h1
 go_enter Tryz.func153,Tryz.ntmps153
 go_wp2
 go_ret
 exact ⟨by simp,rfl⟩
theorem msk_odd (c:Bool):decide (msk c % 2=1)=c:=by cases c <;> decide
theorem of_msk (c:Bool) (w:World):Calls Tryz.prog 153 #[.int .u64 (msk c)] w fun e w'=>e=.returned (.int .u64 (msk c))∧w=w':=by
 have h:=of_any (msk c) (msk_bd c).1 (msk_bd c).2 w
 rw [msk_odd] at h
 exact h
theorem zero_any (x:Int) (h0:0≤x) (h1:x<18446744073709551616) (w:World):Calls Tryz.prog 182 #[.int .u64 x] w fun e w'=>e=.returned (.int .u64 (msk (decide (x=0))))∧w=w':=by
 have h:=zero_bits x h0 h1
 have HO:=of_any (if x=0 then 1 else 0) (by split <;> omega) (by split <;> omega) w
 have e:decide ((if x=0 then (1:Int) else 0) % 2=1)=decide (x=0):=by by_cases hx:x=0 <;> simp [hx]
 rw [e] at HO
 obtain ⟨z,hz⟩:∃ z,z=(if x=0 then (1:Int) else 0):=⟨_,rfl⟩
 rw [← hz] at h HO
 have H:=hide h
 clear hz e h
 go_enter Tryz.func182,Tryz.ntmps182
 go_wp2_with fail
 rw [H.out]
 refine HO.mono ?_
 rintro e w' ⟨rfl,rfl⟩
 go_wp2
 go_ret
 exact ⟨rfl,rfl⟩
theorem negative_any (x:Int) (h0:-9223372036854775808≤x) (h1:x<9223372036854775808) (w:World):Calls Tryz.prog 154 #[.int .i64 x] w fun e w'=>e=.returned (.int .u64 (msk (decide (x<0))))∧w=w':=by
 have h:IntKind.u64.wrap (x / 9223372036854775808)=msk (decide (x<0)):=by
  rw [IntKind.wrap_u64]
  by_cases hx:x<0
  · rw [show x / 9223372036854775808=-1 by omega,decide_eq_true hx];decide
  · rw [show x / 9223372036854775808=0 by omega,decide_eq_false hx];decide
 go_enter Tryz.func154,Tryz.ntmps154
 go_wp2
 go_ret
 exact ⟨by simp,rfl⟩
theorem fill_any (x:Int) (h0:0≤x) (h1:x<18446744073709551616) (w:World):Calls Tryz.prog 181 #[.int .u64 x] w fun e w'=>e=.returned (.int .u64 (msk (decide (9223372036854775808≤x))))∧w=w':=by
 have HO:=of_any (x / 9223372036854775808) (by omega) (by omega) w
 have e:decide (x / 9223372036854775808 % 2=1)=decide (9223372036854775808≤x):=by
  by_cases hx:9223372036854775808≤x
  · rw [decide_eq_true hx,decide_eq_true (by omega)]
  · rw [decide_eq_false hx,decide_eq_false (by omega)]
 rw [e] at HO
 go_enter Tryz.func181,Tryz.ntmps181
 go_wp2_with fail
 refine HO.mono ?_
 rintro e w' ⟨rfl,rfl⟩
 go_wp2
 go_ret
 exact ⟨rfl,rfl⟩
theorem select_any (c:Bool) (a b:Int) (h0:0≤a) (h1:a<18446744073709551616) (h2:0≤b) (h3:b<18446744073709551616) (w:World):Calls Tryz.prog 192 #[.int .u64 (msk c),.int .u64 a,.int .u64 b] w fun e w'=>e=.returned (.int .u64 (bif c then a else b))∧w=w':=by
 have h:=select_bits c a b h0 h1 h2 h3
 go_enter Tryz.func192,Tryz.ntmps192
 go_wp2
 go_ret
 exact ⟨by simp,rfl⟩
def MWords (w:World):Prop:=w.cell? ⟨1,0,none⟩=some (.int .u64 9223372036854775808)∧w.cell? ⟨1,1,none⟩=some (.int .u64 18446744073709551615)
def sgnM (n z:Bool):Int:=bif n then -1 else bif z then 0 else 1
theorem msign_any (n z:Bool) (w:World) (hw:MWords w):Calls Tryz.prog 180 #[.int .u64 (msk n),.int .u64 (msk z)] w fun e w'=>e=.returned (.int .i64 (sgnM n z))∧∃ m,w'=w.drewN m:=by
 obtain ⟨_,hw1⟩:=hw
 have h1:bits BinOp.and IntKind.u64 (bits BinOp.xor IntKind.u64 IntKind.u64.max (msk z)) 1=bif z then 0 else 1:=by
  rw [bnot _ (msk_bd z).1 (msk_bd z).2,band1 _ (by have:=msk_bd z;omega) (by have:=msk_bd z;omega)]
  cases z <;> decide
 have h2:wrap64 (bif n then 18446744073709551615 else (bif z then 0 else 1))=sgnM n z:=by cases n <;> cases z <;> decide +kernel
 obtain ⟨y,hy⟩:∃ y:Int,y=bif z then 0 else 1:=⟨_,rfl⟩
 have hyb:0≤y∧y≤1:=by rw [hy];cases z <;> decide
 rw [← hy] at h1 h2
 have HS:∀ k,Calls Tryz.prog 192 #[.int .u64 (msk n),.int .u64 18446744073709551615,.int .u64 (bits BinOp.and IntKind.u64 (bits BinOp.xor IntKind.u64 (if IntKind.u64.signed=true then -1 else IntKind.u64.max) (msk z)) 1)] (w.drewN k) fun e w'=>e=.returned (.int .u64 (bif n then 18446744073709551615 else y))∧w.drewN k=w':=fun k=>by
  have h1':bits BinOp.and IntKind.u64 (bits BinOp.xor IntKind.u64 (if IntKind.u64.signed=true then -1 else IntKind.u64.max) (msk z)) 1=y:=h1
  rw [h1']
  exact select_any n _ y (by omega) (by omega) hyb.1 (by omega) _
 have HSH:=hide HS
 have HY:=hide hy
 have H2:=hide h2
 clear HS hy h1 h2 hyb
 go_enter Tryz.func180,Tryz.ntmps180
 go_wp2
 go_quiet ((first | (go_at_call 153;exact Calls.quiet_of_same ((of_msk _ _).mono fun _ _ ⟨a,b⟩=>⟨a,b.symm⟩)) | (go_at_call 192;exact Calls.quiet_of_same ((HSH.out _).mono fun _ _ ⟨a,b⟩=>⟨a,b.symm⟩))))
 go_wp2
 go_ret
 exact ⟨ret_int H2.out,_,rfl⟩
end
section
open Go.RowKit
def fcheckL:List Rg→Int
 | []=>0
 | r::rs=>if sizeOfReg r.v=0 then 7 else if sizeOfReg r.v=(r.n:Int) then fcheckL rs else 8
def fcheck (rs:List Rg):Int:=if rs.length<1∨64<rs.length then 6 else fcheckL rs
theorem fcheckL_drop (rs:List Rg) (k:Nat) (r:Rg) (h:rs[k]?=some r):fcheckL (rs.drop k)=if sizeOfReg r.v=0 then 7 else if sizeOfReg r.v=(r.n:Int) then fcheckL (rs.drop (k+1)) else 8:=by
 obtain ⟨hlt,he⟩:=List.getElem?_eq_some_iff.1 h
 rw [List.drop_eq_getElem_cons hlt,he]
 rfl
theorem fcheck_any (rs:List Rg) (A:Option Addr) (c:Nat) (w:World) (hs:Sl w w.heap.size A (rgCells rs)) :
 Calls Tryz.prog 117 #[.slice A rs.length c] w fun e w'=>e=.returned (.int .i64 (fcheck rs))∧Below w.heap.size w w':=by
 have HS:=hide hs;clear hs
 by_cases hc:rs.length<1∨64<rs.length
 · have hf:fcheck rs=6:=by unfold fcheck;rw [if_pos hc]
   rw [hf]
   have hci:((rs.length:Nat):Int)<1∨(¬ ((rs.length:Nat):Int)<1∧(64:Int)<((rs.length:Nat):Int)):=by omega
   clear hf hc
   rcases hci with h | ⟨h,h2⟩
   · go_enter Tryz.func117,Tryz.ntmps117
     go_wp2
     go_ret
     exact ⟨rfl,Below.refl _ _⟩
   · go_enter Tryz.func117,Tryz.ntmps117
     go_wp2
     go_ret
     exact ⟨rfl,Below.refl _ _⟩
 · have hf:fcheck rs=fcheckL rs:=by unfold fcheck;rw [if_neg hc]
   rw [hf]
   have h1:¬ ((rs.length:Nat):Int)<1:=by omega
   have h2:¬ (64:Int)<((rs.length:Nat):Int):=by omega
   clear hf hc
   go_enter Tryz.func117,Tryz.ntmps117
   go_wp2
   go_loopw [15] (fun i wr=>∃ k:Nat,k≤rs.length∧i=.int .i64 k∧Hid (fcheckL rs=fcheckL (rs.drop k))∧Below w.heap.size w wr)
    (fun i _=>rs.length - (intOf i).toNat)
   case atStart=>exact ⟨0,Nat.zero_le _,rfl,hide (by simp),Below.refl _ _⟩
   case round =>
    obtain ⟨k,hk,rfl,hF,hb⟩:=hrel
    by_cases hlt:k<rs.length
    · obtain ⟨r,hr⟩:∃ r,rs[k]?=some r:=⟨_,List.getElem?_eq_getElem hlt⟩
      obtain ⟨b,off,rfl,hB,c0,c1,c2⟩:=(HS.out.below hb).rg hr
      have hD:=hide (hF.out.trans (fcheckL_drop rs k r hr))
      have hlti:((k:Nat):Int)<((rs.length:Nat):Int):=by omega
      obtain ⟨d,v,A,n,c⟩:=r
      dsimp only at *
      clear hr hF
      obtain ⟨w1,hw1⟩:∃ w1,w1=wr.alloc (.cells #[.bool d,.int .i64 v,.slice A n c] 87):=⟨_,rfl⟩
      have hb1:Below wr.heap.size wr w1:=by rw [hw1];exact bl_alloc (Below.refl _ _) _
      have B1:Blk w1 wr.heap.size 87 #[.bool d,.int .i64 v,.slice A n c]:=by rw [hw1];exact Blk.new _ _ _
      go_wp2_with fail
      rw [← hw1]
      clear hw1
      refine (size_any d v A n c w1).mono ?_
      rintro e w2 ⟨rfl,hb2⟩
      have B2:=B1.step hb2
      have z2:w2.cell? ⟨wr.heap.size,2,none⟩=some (.slice A n c):=B2.cell (i:=2) rfl
      have hbb:Below w.heap.size w w2:=bl_step (bl_step hb hb1) hb2
      clear B1 B2 hb1 hb2 c0 c1 c2
      obtain ⟨z,hz⟩:∃ z,z=sizeOfReg v:=⟨_,rfl⟩
      rw [← hz] at hD
      rw [← hz]
      clear hz
      by_cases h0:z=0
      · have hD':Hid (fcheckL rs=7):=hide (hD.out.trans (if_pos h0))
        clear hD
        subst h0
        go_wp2
        go_ret
        exact ⟨ret_int hD'.out.symm,hbb⟩
      · by_cases h3:z=(n:Int)
        · have hD':Hid (fcheckL rs=fcheckL (rs.drop (k+1))):=hide (hD.out.trans ((if_neg h0).trans (if_pos h3)))
          clear hD
          go_wp2
          go_roundw
          case rel=>exact ⟨k+1,by omega,by go_num,hD',hbb⟩
          case measure=>simp [intOf];omega
        · have hD':Hid (fcheckL rs=8):=hide (hD.out.trans ((if_neg h0).trans (if_neg h3)))
          clear hD
          go_wp2
          go_ret
          exact ⟨ret_int hD'.out.symm,hbb⟩
    · obtain rfl:k=rs.length:=by omega
      have hD':Hid (fcheckL rs=0):=hide (hF.out.trans (by rw [List.drop_length];rfl))
      go_wp2
      go_ret
      exact ⟨ret_int hD'.out.symm,hb⟩
end
section
open Go.ChangeShapes Go.WideShapes Go.ChangeAt Go.RowKit
theorem frOwn:ownKnob Tryz.prog.godebug=none:=by kernel_rfl
theorem frLaidOut:laidOutB Tryz.prog=true:=by kernel_rfl
theorem trodAll_below {H:Type} {enc:TypeId × Value→H} {W W':World} (hb:Below W.heap.size W W') :
 ∀ (ts:List TypeId) (vs:List Value) (ds:List (DataW H)) (ps:List MemPlace),(∀ t∈ts,Tryz.prog.readableRec t=true∧t<Tryz.prog.types.size)→(∀ x∈ps,x.block<W.heap.size) →
   DataW.TrodAll enc Tryz.prog W 0 (fun _=>true) true ts vs ds ps→DataW.TrodAll enc Tryz.prog W' 0 (fun b=>decide (b<W.heap.size)) true ts vs ds ps
 | [],vs,ds,ps,_,_,h=>by
   obtain ⟨rfl,rfl,rfl⟩:=trodAll_nil h
   exact trodAll_mk0
 | t::ts,vs,ds,ps,ht,hlt,h=>by
   obtain ⟨v,vs',d,ds',p,q,rfl,rfl,rfl,h0,hr⟩:=trodAll_cons h
   exact trodAll_cons_mk (Below.trod frLaidOut (ht t (by simp)).1 (ht t (by simp)).2 h0 hb (fun x hx=>hlt x (by simp [hx])))
    (trodAll_below hb ts vs' ds' q (fun u hu=>ht u (by simp [hu])) (fun x hx=>hlt x (by simp [hx])) hr)
theorem law_post {H:Type} {enc:TypeId × Value→H} {f:Func} {s:ChangeSpec} {W W':World} {args:Array Value} {ds gs:List (DataW H)} {before:List MemPlace}
 (hvars:s.vars=[]) (hres:f.resultTypes=#[4]) (hread:∀ t∈f.params.toList,Tryz.prog.readableRec t=true∧t<Tryz.prog.types.size)
 (hspec:s.fn H (ds++gs)={ results:=[.lit (.bool true)],args:=ds,vars:=[] })
 (hW:DataW.Whole enc Tryz.prog f.params.toList s.vars false W args.toList ds gs before) (hb:Below W.heap.size W W') :
 s.post enc Tryz.prog f false true false false W args (.bool true) W':=by
 have hlt:∀ p∈before,p.block<W.heap.size:=fun p hp=>hW.lt p hp
 have hW':=hW
 obtain ⟨p,q,hA,hV,rfl,hfz,hnd⟩:=hW
 refine ⟨ds,gs,p++q,[],p,[],hW',?_,?_,?_,hb.frame _,fun h=>by cases h⟩
 · rw [hspec,hres]
   exact trodAll_mk1 (shut_bool Tryz.underlying4 true)
 · rw [hspec]
   exact trodAll_below hb _ _ _ _ hread (fun x hx=>hlt x (by simp [hx])) hA
 · rw [hspec,hvars]
   rfl
theorem block_lt {w:World} {b o:Nat} {v:Value} (h:w.cell? ⟨b,o,none⟩=some v):b<w.heap.size:=by
 rcases Nat.lt_or_ge b w.heap.size with h1 | h1
 · exact h1
 · simp [World.cell?,Array.getElem?_eq_none h1] at h
section
variable {H:Type} {enc:TypeId × Value→H} {W:World} {base:Nat}
end
end
end Go.Proofs.YtpnoofphfomjoaaGreatDoor
