/- Words FenceSize Check ScopeB HdBase Payload Same Num2 Conv Mask FenceCheck ScrNew OpenBase Open OpenArr4 -/
import Derived.BigQuiet
import Derived.Deep.DeepHandedRow
import Derived.Deep.Draws
import Derived.Deep.QuietTactic
import Derived.Deep.RegionWith
import Derived.Deep.Slices
import Derived.Deep.Strs
import Derived.Laws.BitsAllLaws
import Derived.Laws.BytesArg
import Derived.Lib.LaidTab
import Derived.Lib.SmallJoins
import Derived.OpenShut
import Derived.ProofKit
import Derived.RegionTactic
import Derived.ScopeJumps
import Derived.Test.YthnenedoblncjaaGreatDoorRows
import Derived.WalkKit
import Derived.WalkLawsBesides
import Derived.WalkMore
import Derived.WalkSpells
set_option maxRecDepth 1000000
set_option maxHeartbeats 8000000
namespace Go.Proofs.YthnenedoblncjaaGreatDoor
section
open Go.RowKit
def Sl (w:World) (B:Nat) (A:Option Addr) (xs:List Value):Prop :=
 xs=[]∨∃ b off,A=some ⟨b,off,none⟩∧b<B∧∀ j u,xs[j]?=some u→w.cell? ⟨b,off+j,none⟩=some u
theorem Sl.nil (w:World) (B:Nat) (A:Option Addr):Sl w B A []:=.inl rfl
theorem Sl.below {w w':World} {B:Nat} {A:Option Addr} {xs:List Value} (h:Sl w B A xs) (hb:Below B w w'):Sl w' B A xs:=by
 rcases h with h | ⟨b,off,hA,hlt,hc⟩
 · exact .inl h
 · exact .inr ⟨b,off,hA,hlt,fun j u hu=>(hb.cell (p:=⟨b,off+j,none⟩) hlt).trans (hc j u hu)⟩
theorem Sl.more {w:World} {B B':Nat} {A:Option Addr} {xs:List Value} (h:Sl w B A xs) (hB:B≤B'):Sl w B' A xs:=by
 rcases h with h | ⟨b,off,hA,hlt,hc⟩
 · exact .inl h
 · exact .inr ⟨b,off,hA,Nat.lt_of_lt_of_le hlt hB,hc⟩
theorem Sl.drewN {w:World} {B:Nat} {A:Option Addr} {xs:List Value} (h:Sl w B A xs) (k:Nat):Sl (w.drewN k) B A xs:=h
theorem Sl.drew {w:World} {B:Nat} {A:Option Addr} {xs:List Value} (h:Sl w B A xs):Sl w.drew B A xs:=h
theorem Sl.open_ {w:World} {B:Nat} {A:Option Addr} {xs:List Value} (h:Sl w B A xs) (hn:0<xs.length) :
 ∃ b off,A=some ⟨b,off,none⟩∧b<B∧∀ j u,xs[j]?=some u→w.cell? ⟨b,off+j,none⟩=some u:=by
 rcases h with h | h
 · subst h;simp at hn
 · exact h
theorem Sl.mk {w:World} {B b off:Nat} {xs:List Value} (hb:b<B) (hc:∀ j u,xs[j]?=some u→w.cell? ⟨b,off+j,none⟩=some u):Sl w B (some ⟨b,off,none⟩) xs :=
 .inr ⟨b,off,rfl,hb,hc⟩
theorem Sl.of_own {w:World} {base:Nat} {e:TypeId} {size n m c:Nat} {A:Option Addr} {xs:List Value} (h:w.ownsRow base e size (.slice A n c) m xs):Sl w w.heap.size A xs:=by
 obtain ⟨hl,h⟩:=h
 rcases h with ⟨_,h0⟩ | ⟨g,cap,cur,hv,_,hh,hn,_,hcs,ht⟩
 · left;subst h0;exact List.eq_nil_of_length_eq_zero (by simpa using hl)
 · right
   injection hv with hA
   have hlt:g<w.heap.size:=by
    rcases Nat.lt_or_ge g w.heap.size with h | h
    · exact h
    · rw [Array.getElem?_eq_none h] at hh;cases hh
   refine ⟨g,0,hA,hlt,fun j u hu=>?_⟩
   rw [← ht] at hu
   rw [List.getElem?_take] at hu
   have hcell:=cell_of_row w g (0+j) cur e (0,0) hh
   rw [hcell]
   split at hu
   · simpa using hu
   · cases hu
theorem below_drewN {B:Nat} {a w:World} (h:Below B a w) (k:Nat):Below B a (w.drewN k):=⟨h.os,h.tape,h.output,h.size,h.block⟩
theorem below_of_drew {B:Nat} {a w:World} (h:Below B a.drew w):Below B a w:=⟨h.os,h.tape,h.output,h.size,h.block⟩
theorem bl_alloc {a w:World} (h:Below a.heap.size a w) (o:Obj):Below a.heap.size a (w.alloc o):=h.alloc h.size o
theorem bA {w : World} {o : Obj} : Below w.heap.size w (w.alloc o) := bl_alloc (Below.refl _ _) _
theorem bl_drewN {B:Nat} {a w:World} (h:Below B a w) (k:Nat):Below B a (w.drewN k):=⟨h.os,h.tape,h.output,h.size,h.block⟩
theorem bl_drew {B:Nat} {a w:World} (h:Below B a w):Below B a w.drew:=⟨h.os,h.tape,h.output,h.size,h.block⟩
theorem bl_step {a w w':World} (h:Below a.heap.size a w) (hb:Below w.heap.size w w'):Below a.heap.size a w':=h.trans (hb.mono h.size)
theorem hide {p:Prop} (h:p):Hid p:=h
theorem ret_int {k:IntKind} {a b:Int} (h:a=b):Ending.returned (.int k a)=.returned (.int k b):=by rw [h]
theorem ret_bool {a b:Bool} (h:a=b):Ending.returned (.bool a)=.returned (.bool b):=by rw [h]
def Blk (w:World) (g:Nat) (t:TypeId) (cs:Array Value):Prop:=w.heap[g]?=some (.cells cs t (0,0))
section
variable {w w':World} {g:Nat} {t:TypeId} {cs:Array Value}
theorem Blk.lt (h:Blk w g t cs):g<w.heap.size:=by
 rcases Nat.lt_or_ge g w.heap.size with h1 | h1
 · exact h1
 · unfold Blk at h;rw [Array.getElem?_eq_none h1] at h;cases h
theorem Blk.cell (h:Blk w g t cs) {i:Nat} {v:Value} (hi:cs[i]?=some v):w.cell? ⟨g,i,none⟩=some v:=(cell_of_row w g i cs t (0,0) h).trans hi
theorem Blk.frozen (h:Blk w g t cs) (i:Nat):w.frozen? ⟨g,i,none⟩=false:=by unfold Blk at h;simp [World.frozen?,h]
theorem Blk.new (w:World) (t:TypeId) (cs:Array Value):Blk (w.alloc (.cells cs t)) w.heap.size t cs:=by
 show (w.heap.push _)[w.heap.size]?=_
 simp
theorem Blk.alloc (h:Blk w g t cs) (o:Obj):Blk (w.alloc o) g t cs:=(Below.heap_alloc w o g h.lt).trans h
theorem Blk.drewN (h:Blk w g t cs) (k:Nat):Blk (w.drewN k) g t cs:=h
theorem Blk.drew (h:Blk w g t cs):Blk w.drew g t cs:=h
theorem Blk.set (h:Blk w g t cs) (i:Nat) (u:Value):Blk (w.setCell ⟨g,i,none⟩ u) g t (cs.setIfInBounds i u):=by
 unfold Blk at h ⊢
 simp [World.setCell,Array.getElem?_modify,h]
theorem Blk.far (h:Blk w g t cs) {p:Addr} (hp:g≠p.block) (u:Value):Blk (w.setCell p u) g t cs:=(Below.heap_setCell w p u g hp).trans h
theorem Blk.below {B:Nat} (h:Blk w g t cs) (hb:Below B w w') (hg:g<B):Blk w' g t cs:=(hb.block g hg).trans h
theorem Blk.step (h:Blk w g t cs) (hb:Below w.heap.size w w'):Blk w' g t cs:=h.below hb h.lt
theorem Blk.grown {row:Option Nat} (h:Blk w g t cs) (hb:w.grownBy w' row) (hg:some g≠row):Blk w' g t cs:=(hb.block g h.lt hg).trans h
theorem own_base {base:Nat} {e:TypeId} {size n:Nat} {v:Value} {xs:List Value} (h:w.ownsRow base e size v n xs) {k:Nat} (hk:v.ownBlock=some k):base≤k:=by
 rcases h.2 with ⟨rfl,_⟩ | ⟨g',cap,cur,rfl,hb,_⟩
 · simp [Value.ownBlock] at hk
 · have:g'=k:=by simpa [Value.ownBlock] using hk
   omega
theorem own_form {base:Nat} {e:TypeId} {size n:Nat} {v:Value} {xs:List Value} (h:w.ownsRow base e size v n xs) (hn:0<n) :
 ∃ k cap,v=.slice (some ⟨k,0,none⟩) n cap∧base≤k∧k<w.heap.size∧n≤cap:=by
 rcases h.2 with ⟨_,h0⟩ | ⟨g',cap,cur,rfl,hb,hh,hc,_⟩
 · omega
 · exact ⟨g',cap,rfl,hb,Blk.lt hh,hc⟩
theorem own_slice {base:Nat} {e:TypeId} {size n:Nat} {v:Value} {xs:List Value} (h:w.ownsRow base e size v n xs):∃ A cap,v=.slice A n cap∧n≤cap:=by
 rcases h.2 with ⟨rfl,rfl⟩ | ⟨g',cap,cur,rfl,hb,hh,hc,_⟩
 · exact ⟨none,0,rfl,Nat.le_refl _⟩
 · exact ⟨_,cap,rfl,hc⟩
theorem own_step {base:Nat} {e:TypeId} {size n:Nat} {v:Value} {xs:List Value} (h:w.ownsRow base e size v n xs) (hb:Below w.heap.size w w'):w'.ownsRow base e size v n xs:=by
 refine ⟨h.1,?_⟩
 rcases h.2 with h0 | ⟨g',cap,cur,hv,hb1,hh,r⟩
 · exact .inl h0
 · exact .inr ⟨g',cap,cur,hv,hb1,(hb.block g' (Blk.lt hh)).trans hh,r⟩
end
structure Rg where
 d:Bool
 v:Int
 A:Option Addr
 n:Nat
 c:Nat
def Rg.cells (r:Rg):List Value:=[.bool r.d,.int .i64 r.v,.slice r.A r.n r.c]
def rgCells (rs:List Rg):List Value:=rs.flatMap Rg.cells
theorem rgCells_length (rs:List Rg):(rgCells rs).length=3*rs.length:=by
 induction rs with
 | nil=>rfl
 | cons r rs ih=>simp only [rgCells,List.flatMap_cons,List.length_append,List.length_cons] at *;rw [ih];simp [Rg.cells];omega
theorem rgCells_get (rs:List Rg) (i:Nat) (r:Rg) (h:rs[i]?=some r) :
 (rgCells rs)[i*3]?=some (.bool r.d)∧(rgCells rs)[i*3+1]?=some (.int .i64 r.v)∧(rgCells rs)[i*3+2]?=some (.slice r.A r.n r.c):=by
 induction rs generalizing i with
 | nil=>simp at h
 | cons q rs ih =>
   have hq:∀ j,(rgCells (q::rs))[j+3]?=(rgCells rs)[j]?:=by
    intro j
    show (Rg.cells q++rgCells rs)[j+3]?=_
    rw [List.getElem?_append_right (by simp [Rg.cells])]
    simp [Rg.cells]
   cases i with
   | zero =>
     simp only [List.getElem?_cons_zero,Option.some.injEq] at h
     subst h
     exact ⟨rfl,rfl,rfl⟩
   | succ i =>
     have h':rs[i]?=some r:=by simpa using h
     have:=ih i h'
     have e:(i+1)*3=i*3+3:=by omega
     rw [e]
     refine ⟨by rw [hq];exact this.1,?_,?_⟩
     · rw [show i*3+3+1=i*3+1+3 by omega,hq];exact this.2.1
     · rw [show i*3+3+2=i*3+2+3 by omega,hq];exact this.2.2
theorem Sl.rg {w:World} {B:Nat} {A:Option Addr} {rs:List Rg} (h:Sl w B A (rgCells rs)) {k:Nat} {r:Rg} (hk:rs[k]?=some r) :
 ∃ b off,A=some ⟨b,off,none⟩∧b<B∧w.cell? ⟨b,off+k*3,none⟩=some (.bool r.d)∧w.cell? ⟨b,off+k*3+1,none⟩=some (.int .i64 r.v)∧w.cell? ⟨b,off+k*3+2,none⟩=some (.slice r.A r.n r.c):=by
 have hlt:k<rs.length:=(List.getElem?_eq_some_iff.1 hk).1
 obtain ⟨b,off,rfl,hB,hc⟩:=h.open_ (by rw [rgCells_length];omega)
 obtain ⟨h0,h1,h2⟩:=rgCells_get rs k r hk
 exact ⟨b,off,rfl,hB,hc _ _ h0,hc _ _ h1,hc _ _ h2⟩
theorem any_take_succ {α:Type} (l:List α) (p:α→Bool) (k:Nat) (r:α) (h:l[k]?=some r):(l.take (k+1)).any p=((l.take k).any p || p r):=by
 rw [List.take_add_one,h];simp
theorem any_of_get {α:Type} (l:List α) (p:α→Bool) (k:Nat) (r:α) (h:l[k]?=some r) (hp:p r=true):l.any p=true :=
 List.any_eq_true.2 ⟨r,List.mem_of_getElem? h,hp⟩
theorem Blk.new2 (w:World) (o:Obj) (t:TypeId) (cs:Array Value):Blk ((w.alloc o).alloc (.cells cs t)) (w.heap.size+1) t cs:=by
 have h:=Blk.new (w.alloc o) t cs
 simpa using h
theorem own_mono {w:World} {base base':Nat} {e:TypeId} {size n:Nat} {v:Value} {xs:List Value} (h:w.ownsRow base e size v n xs) (hb:base'≤base):w.ownsRow base' e size v n xs:=by
 refine ⟨h.1,?_⟩
 rcases h.2 with h0 | ⟨g',cap,cur,hv,hb1,r⟩
 · exact .inl h0
 · exact .inr ⟨g',cap,cur,hv,by omega,r⟩
theorem own_of_blk {w:World} {base g:Nat} {e:TypeId} {size n:Nat} {xs:List Value} (h:Blk w g e xs.toArray) (hg:base≤g) (hl:xs.length=n*size) (hn:n≤maxLen) :
 w.ownsRow base e size (.slice (some ⟨g,0,none⟩) n n) n xs :=
 ⟨hl,.inr ⟨g,n,xs.toArray,rfl,hg,h,Nat.le_refl _,hn,by simpa using hl,by rw [← hl];simp⟩⟩
theorem blk_cells {w:World} {g:Nat} {t:TypeId} {xs:List Value} (h:Blk w g t xs.toArray):∀ j u,xs[j]?=some u→w.cell? ((⟨g,0,none⟩:Addr).add j)=some u:=by
 intro j u hu
 have e:(⟨g,0,none⟩:Addr).add j=⟨g,j,none⟩:=by unfold Addr.add;split <;> simp_all
 rw [e]
 exact h.cell (by simpa using hu)
theorem own_set {w:World} {base:Nat} {e:TypeId} {size n:Nat} {v:Value} {xs:List Value} (h:w.ownsRow base e size v n xs) {p:Addr} (hp:v.ownBlock≠some p.block) (u:Value):(w.setCell p u).ownsRow base e size v n xs:=by
 refine ⟨h.1,?_⟩
 rcases h.2 with h0 | ⟨g',cap,cur,rfl,hb1,hh,r⟩
 · exact .inl h0
 · refine .inr ⟨g',cap,cur,rfl,hb1,(Below.heap_setCell w p u g' ?_).trans hh,r⟩
   intro e1;apply hp;rw [← e1];rfl
theorem cell_lt {w:World} {b o:Nat} {v:Value} (h:w.cell? ⟨b,o,none⟩=some v):b<w.heap.size:=by
 rcases Nat.lt_or_ge b w.heap.size with h1 | h1
 · exact h1
 · simp [World.cell?,Array.getElem?_eq_none h1] at h
theorem own_lt {w:World} {base:Nat} {e:TypeId} {size n:Nat} {v:Value} {xs:List Value} (h:w.ownsRow base e size v n xs) {k:Nat} (hk:v.ownBlock=some k):k<w.heap.size:=by
 rcases h.2 with ⟨rfl,_⟩ | ⟨g',cap,cur,rfl,hb,hh,_⟩
 · simp [Value.ownBlock] at hk
 · have:g'=k:=by simpa [Value.ownBlock] using hk
   subst this
   exact Blk.lt hh
theorem Sl.at_ {w w':World} {B:Nat} {A:Option Addr} {xs:List Value} (h:Sl w B A xs) (hb:∀ b,b<B→(xs≠[]→∀ x,A=some x→x.block=b→w'.heap[b]?=w.heap[b]?)):Sl w' B A xs:=by
 rcases h with h | ⟨b,off,hA,hlt,hc⟩
 · exact .inl h
 · refine .inr ⟨b,off,hA,hlt,fun j u hu=>?_⟩
   have hx:xs≠[]:=fun e=>by rw [e] at hu;simp at hu
   rw [World.cell?_of_block (hb b hlt hx _ hA rfl)]
   exact hc j u hu
theorem Sl.far {w:World} {B:Nat} {A:Option Addr} {xs:List Value} (h:Sl w B A xs) {p:Addr} (hp:xs≠[]→∀ x,A=some x→x.block≠p.block) (u:Value):Sl (w.setCell p u) B A xs :=
 h.at_ fun b _ hx x hA hxb=>Below.heap_setCell w p u b (by rw [← hxb];exact hp hx x hA)
theorem own_blk {w w':World} {xs:List Value} {base:Nat} {e:TypeId} {size n:Nat} {v:Value} (h:w.ownsRow base e size v n xs) (hk:∀ k,v.ownBlock=some k→w'.heap[k]?=w.heap[k]?):w'.ownsRow base e size v n xs:=by
 refine ⟨h.1,?_⟩
 rcases h.2 with h0 | ⟨g',cap,cur,rfl,hb1,hh,r⟩
 · exact .inl h0
 · exact .inr ⟨g',cap,cur,rfl,hb1,(hk g' rfl).trans hh,r⟩
end
section
open Go.RowKit
def sizeOfReg (v:Int):Int:=if v=0 then 3 else if 3≤v∧v≤64 then v else 0
theorem shapeOf_zero (d:Bool) (A:Option Addr) (n c:Nat) (w:World) :
 Calls Tryz.prog 265 #[.agg #[.bool d,.int .i64 0,.slice A n c]] w fun e w'=>e=.returned (.iface 379 (.agg #[.bool d,.int .i64 0,.slice A n c]))∧Below w.heap.size w w':=by
 go_enter Tryz.func265,Tryz.ntmps265
 go_wp2
 go_ret
 exact ⟨rfl,(Below.refl _ _).alloc (Nat.le_refl _) _⟩
theorem shapeOf_other (d:Bool) (v:Int) (hv:(v == 0)=false) (A:Option Addr) (n c:Nat) (w:World) :
 Calls Tryz.prog 265 #[.agg #[.bool d,.int .i64 v,.slice A n c]] w fun e w'=>e=.returned (.iface 380 (.agg #[.bool d,.int .i64 v,.slice A n c]))∧Below w.heap.size w w':=by
 go_enter Tryz.func265,Tryz.ntmps265
 go_wp2
 go_ret
 exact ⟨rfl,(Below.refl _ _).alloc (Nat.le_refl _) _⟩
theorem refSize_any (v:Int) (w:World) :
 Calls Tryz.prog 47 #[.int .i64 v] w fun e w'=>e=.returned (.int .i64 (sizeOfReg v))∧w=w':=by
 go_enter Tryz.func47,Tryz.ntmps47
 go_wp2
 all_goals go_ret
 · have h:(v == 0)=true:=by assumption
   have h0:v=0:=by simpa using h
   exact ⟨ret_int (by simp [sizeOfReg,h0]),rfl⟩
 all_goals
  have h:(v == 0)=false:=by assumption
  have h0:v≠0:=by simpa using h
  exact ⟨ret_int (by unfold sizeOfReg;rw [if_neg h0];first | rw [if_pos ⟨by assumption,by assumption⟩] | rw [if_neg (by omega)]),rfl⟩
theorem roundSize (d:Bool) (v:Int) (A:Option Addr) (n c:Nat) (w:World) :
 Calls Tryz.prog 371 #[.agg #[.bool d,.int .i64 v,.slice A n c]] w fun e w'=>e=.returned (.int .i64 3)∧Below w.heap.size w w':=by
 go_enter Tryz.func371,Tryz.ntmps371
 go_wp2
 go_ret
 exact ⟨rfl,(Below.refl _ _).alloc (Nat.le_refl _) _⟩
theorem convexSize (d:Bool) (v:Int) (A:Option Addr) (n c:Nat) (w:World) (hv:v≠0) :
 Calls Tryz.prog 378 #[.agg #[.bool d,.int .i64 v,.slice A n c]] w fun e w'=>e=.returned (.int .i64 (sizeOfReg v))∧Below w.heap.size w w':=by
 go_enter Tryz.func378,Tryz.ntmps378
 go_wp2
 all_goals go_ret
 all_goals exact ⟨ret_int (by unfold sizeOfReg;rw [if_neg hv];first | rw [if_pos ⟨by omega,by omega⟩] | rw [if_neg (by omega)]),(Below.refl _ _).alloc (Nat.le_refl _) _⟩
theorem meth_round (d : Bool) (v : Int) (A : Option Addr) (n c : Nat) (w : World) : (method 519 379 (.agg #[.bool d, .int .i64 v, .slice A n c]) "geofence/fence.size").run Tryz.prog w = .ok (371, .agg #[.bool d, .int .i64 v, .slice A n c]) w := by kernel_rfl
theorem meth_convex (d : Bool) (v : Int) (A : Option Addr) (n c : Nat) (w : World) : (method 519 380 (.agg #[.bool d, .int .i64 v, .slice A n c]) "geofence/fence.size").run Tryz.prog w = .ok (378, .agg #[.bool d, .int .i64 v, .slice A n c]) w := by kernel_rfl
theorem size_any (d:Bool) (v:Int) (A:Option Addr) (n c:Nat) (w:World) :
 Calls Tryz.prog 215 #[.agg #[.bool d,.int .i64 v,.slice A n c]] w fun e w'=>e=.returned (.int .i64 (sizeOfReg v))∧Below w.heap.size w w':=by
 have hmr:=meth_round
 have hmc:=meth_convex
 go_enter Tryz.func215,Tryz.ntmps215
 by_cases h0:v=0
 · subst h0
   go_wp2_with fail
   refine (shapeOf_zero _ _ _ _ _).mono ?_
   rintro e w1 ⟨rfl,hb⟩
   go_wp2_with fail
   refine (roundSize _ _ _ _ _ _).mono ?_
   rintro e w2 ⟨rfl,hb2⟩
   go_wp2
   go_ret
   exact ⟨rfl,((Below.refl _ _).alloc (Nat.le_refl _) _).trans ((hb.mono (by simp)).trans (hb2.mono (by have:=hb.size;simp at this;omega)))⟩
 · have hv:(v == 0)=false:=by simpa using h0
   go_wp2_with fail
   refine (shapeOf_other _ _ hv _ _ _ _).mono ?_
   rintro e w1 ⟨rfl,hb⟩
   go_wp2_with fail
   refine (convexSize _ _ _ _ _ _ h0).mono ?_
   rintro e w2 ⟨rfl,hb2⟩
   go_wp2
   go_ret
   exact ⟨rfl,((Below.refl _ _).alloc (Nat.le_refl _) _).trans ((hb.mono (by simp)).trans (hb2.mono (by have:=hb.size;simp at this;omega)))⟩
end
section
open Go.RowKit
def wrongRg (r:Rg):Bool:=sizeOfReg r.v == 0
def fullRg (r:Rg):Bool:=decide (0<r.n)
def hcheckB (op vs n pts:Int) (q1 q2:Bool):Int :=
 if op<1∨5<op then 5
 else if op=3∧(vs<3∨64<vs) then 6
 else if (op=4∨op=5)∧(n<1∨64<n) then 6
 else bif decide (op=4∨op=5) && q1 then 7
 else if op=5∧(pts<1∨4096<pts) then 6
 else if (op≠3∧vs≠0)∨(op<4∧0<n)∨(op≠5∧pts≠0) then 2
 else bif q2 then 2 else 0
def hcheck (op vs:Int) (rs:List Rg) (pts:Int):Int:=hcheckB op vs rs.length pts (rs.any wrongRg) (rs.any fullRg)
section
variable (vs:Int) (rs:List Rg) (A:Option Addr) (c:Nat) (pts:Int) (w:World)
variable (hs:Sl w w.heap.size A (rgCells rs)) (hn:rs.length≤maxLen)
include hs hn
end
end
section
open Go.RowKit
theorem jump_ret {l:Nat} {J:Act→World→Prop} {Q:Exit→Act→World→Prop} {a:Act} {w:World}:Exit.jump l J Q .ret a w=Q .ret a w:=rfl
theorem jump_normal {l:Nat} {J:Act→World→Prop} {Q:Exit→Act→World→Prop} {a:Act} {w:World}:Exit.jump l J Q .normal a w=Q .normal a w:=rfl
theorem jump_exit {l i:Nat} {J:Act→World→Prop} {Q:Exit→Act→World→Prop} {a:Act} {w:World}:Exit.jump l J Q (.exit i) a w=Q (.exit i) a w:=rfl
theorem jump_panic {l:Nat} {ch:List PanicEntry} {J:Act→World→Prop} {Q:Exit→Act→World→Prop} {a:Act} {w:World}:Exit.jump l J Q (.panic ch) a w=Q (.panic ch) a w:=rfl
attribute [go_sem] jump_ret jump_normal jump_exit jump_panic
def byCells (bs:List Int):List Value:=bs.map (Value.int .u8)
theorem byCells_length (bs:List Int):(byCells bs).length=bs.length:=by simp [byCells]
theorem Sl.by_ {w:World} {B:Nat} {A:Option Addr} {bs:List Int} (h:Sl w B A (byCells bs)) (hn:0<bs.length) :
 ∃ b off,A=some ⟨b,off,none⟩∧b<B∧∀ j x,bs[j]?=some x→w.cell? ⟨b,off+j,none⟩=some (.int .u8 x):=by
 obtain ⟨b,off,hA,hB,hc⟩:=h.open_ (by rw [byCells_length];exact hn)
 exact ⟨b,off,hA,hB,fun j x hx=>hc j _ (by simp [byCells,hx])⟩
end
section
open Go.RowKit
def hresp (op vs:Int) (rs:List Rg) (pts:Int):Int:=if hcheck op vs rs pts=0 then (if op=5 then 4+pts*9 else 2) else 0
structure PH where
 op:Int
 vs:Int
 rs:List Rg
 pts:Int
def phZero:PH:=⟨0,0,[],0⟩
end
section
open Go.RowKit
def Fixed (w:World):Prop:=∀ j:Nat,j<6→w.cell? ⟨9,j,none⟩=some (.int .i64 ([0,3,4,1,1,0].getD j 0))
theorem Fixed.below {w w':World} (h:Fixed w) (hb:Below w.heap.size w w') (hg:9<w.heap.size):Fixed w':=fun j hj=>(hb.cell (p:=⟨9,j,none⟩) hg).trans (h j hj)
section
variable (vs:Int) (rs:List Rg) (A:Option Addr) (c:Nat) (pts:Int) (w:World)
variable (hs:Sl w w.heap.size A (rgCells rs)) (hn:rs.length≤maxLen)
include hs hn
variable (hfix:Fixed w) (hg:9<w.heap.size)
include hfix hg
end
end
section
open Go.RowKit
def Rg.key (r:Rg):Bool × Int × Nat:=(r.d,r.v,r.n)
end
section
open Go.RowKit
def dval:List Nat→Nat
 | []=>0
 | d::l=>d+65536*dval l
def dOk (l:List Nat):Prop:=∀ d∈l,d<65536
def dCs (l:List Nat):List Value:=l.map fun (d:Nat)=>Value.int .i64 (d:Int)
def digs (n:Nat):List Nat:=if h:n=0 then [] else n % 65536::digs (n / 65536)
 termination_by n
 decreasing_by omega
theorem dCs_length (l:List Nat):(dCs l).length=l.length:=by simp [dCs]
theorem dCs_app (a b:List Nat):dCs (a++b)=dCs a++dCs b:=by simp [dCs]
theorem dCs_get {l:List Nat} {i d:Nat} (h:l[i]?=some d):(dCs l)[i]?=some (.int .i64 (d:Int)):=by unfold dCs;rw [List.getElem?_map,h];rfl
theorem dOk.at_ {l:List Nat} (h:dOk l) {i d:Nat} (hi:l[i]?=some d):d<65536:=h d (List.mem_of_getElem? hi)
theorem dOk.take {l:List Nat} (h:dOk l) (n:Nat):dOk (l.take n):=fun d hd=>h d (List.mem_of_mem_take hd)
theorem dOk.snoc {l:List Nat} (h:dOk l) {d:Nat} (hd:d<65536):dOk (l++[d]):=fun x hx=>by
 rcases List.mem_append.1 hx with h1 | h1
 · exact h x h1
 · rw [List.mem_singleton.1 h1];exact hd
theorem dval_app:∀ (a b:List Nat),dval (a++b)=dval a+65536 ^ a.length*dval b
 | [],b=>by simp [dval]
 | d::a,b=>by
   rw [List.cons_append,dval,dval,dval_app a b,List.length_cons,Nat.pow_succ,Nat.mul_add,Nat.add_assoc,Nat.mul_comm (65536 ^ a.length) 65536,Nat.mul_assoc]
theorem dval_snoc (a:List Nat) (d:Nat):dval (a++[d])=dval a+65536 ^ a.length*d:=by rw [dval_app];simp [dval]
theorem dval_take {l:List Nat} {i d:Nat} (h:l[i]?=some d):dval (l.take (i+1))=dval (l.take i)+65536 ^ i*d:=by
 have hi:i<l.length:=(List.getElem?_eq_some_iff.1 h).1
 rw [List.take_add_one,h,Option.toList_some,dval_snoc,List.length_take,Nat.min_eq_left (Nat.le_of_lt hi)]
theorem dval_lt:∀ {l:List Nat},dOk l→dval l<65536 ^ l.length
 | [],_=>by simp [dval]
 | d::l,h=>by
   have h1:=dval_lt (l:=l) fun x hx=>h x (List.mem_cons_of_mem _ hx)
   have h2:=h d (List.mem_cons_self ..)
   rw [dval,List.length_cons,Nat.pow_succ]
   omega
theorem dval_split {l:List Nat} (n:Nat):dval l=dval (l.take n)+65536 ^ (l.take n).length*dval (l.drop n):=by
 rw [← dval_app,List.take_append_drop]
theorem digs_zero:digs 0=[]:=by rw [digs];rfl
theorem digs_pos {n:Nat} (h:n≠0):digs n=n % 65536::digs (n / 65536):=by rw [digs,dif_neg h]
theorem dval_digs:∀ n:Nat,dval (digs n)=n:=by
 intro n
 induction n using Nat.strongRecOn with
 | _ n ih =>
   by_cases h:n=0
   · rw [h,digs_zero];rfl
   · rw [digs_pos h,dval,ih _ (by omega)];omega
theorem digs_ok:∀ n:Nat,dOk (digs n):=by
 intro n
 induction n using Nat.strongRecOn with
 | _ n ih =>
   by_cases h:n=0
   · rw [h,digs_zero];exact fun d hd=>by simp at hd
   · rw [digs_pos h]
     intro d hd
     rcases List.mem_cons.1 hd with rfl | hd
     · omega
     · exact ih _ (by omega) d hd
theorem digs_nil {n:Nat}:digs n=[] ↔ n=0:=by
 constructor
 · intro h
   have:=dval_digs n
   rw [h] at this
   exact this.symm
 · rintro rfl;exact digs_zero
def noLead (l:List Nat):Prop:=l.getLast?≠some 0
theorem noLead_digs:∀ {l:List Nat},dOk l→noLead l→l=digs (dval l)
 | [],_,_=>by simp [dval,digs_zero]
 | d::l,h,hn=>by
   have hd:=h d (List.mem_cons_self ..)
   have hl:dOk l:=fun x hx=>h x (List.mem_cons_of_mem _ hx)
   by_cases he:l=[]
   · subst he
     have h0:d≠0:=by intro e;subst e;exact hn rfl
     rw [show dval [d]=d by simp [dval],digs_pos h0,show d % 65536=d by omega,show d / 65536=0 by omega,digs_zero]
   · have hn':noLead l:=by
      unfold noLead at hn ⊢
      obtain ⟨x,l',rfl⟩:=List.exists_cons_of_ne_nil he
      rwa [List.getLast?_cons_cons] at hn
     have ih:=noLead_digs hl hn'
     have hv:dval l≠0:=by
      intro e
      rw [e,digs_zero] at ih
      exact he ih
     rw [dval,digs_pos (by omega),show (d+65536*dval l) % 65536=d by omega,show (d+65536*dval l) / 65536=dval l by omega,← ih]
theorem digs_len {n k:Nat} (h:n<65536 ^ k):(digs n).length≤k:=by
 induction k generalizing n with
 | zero=>have:n=0:=by simpa using h
         rw [this,digs_zero];simp
 | succ k ih =>
   by_cases h0:n=0
   · rw [h0,digs_zero];simp
   · rw [digs_pos h0,List.length_cons]
     have:n / 65536<65536 ^ k:=by rw [Nat.pow_succ] at h;omega
     have:=ih this
     omega
theorem digs_lt (n:Nat):n<65536 ^ (digs n).length:=by have:=dval_lt (digs_ok n);rwa [dval_digs] at this
theorem dval_drop_zero {l:List Nat} {m:Nat} (hl:l.length=m+1) (h:l[m]?=some 0):dval (l.take m)=dval l:=by
 have h1:=dval_take h
 rw [List.take_of_length_le (by omega)] at h1
 rw [h1];simp
theorem noLead_of {l:List Nat} {m d:Nat} (hl:l.length=m+1) (h:l[m]?=some d) (hd:d≠0):noLead l:=by
 unfold noLead
 rw [List.getLast?_eq_getElem?,show l.length - 1=m by omega,h]
 intro e
 cases e
 exact hd rfl
theorem dval_cmp {a b:List Nat} (ha:dOk a) {i x y:Nat} (hl:a.length=b.length) (hx:a[i]?=some x) (hy:b[i]?=some y) (htop:a.drop (i+1)=b.drop (i+1)) (h:x<y):dval a<dval b:=by
 have hia:i<a.length:=(List.getElem?_eq_some_iff.1 hx).1
 have hib:i<b.length:=(List.getElem?_eq_some_iff.1 hy).1
 have e1:=dval_split (l:=a) (i+1)
 have e2:=dval_split (l:=b) (i+1)
 rw [htop,List.length_take,Nat.min_eq_left (by omega)] at e1
 rw [List.length_take,Nat.min_eq_left (by omega)] at e2
 have t1:=dval_take hx
 have t2:=dval_take hy
 have l1:=dval_lt (ha.take i)
 rw [List.length_take,Nat.min_eq_left (by omega)] at l1
 have l2:65536 ^ i*x+65536 ^ i≤65536 ^ i*y:=by
  have:=Nat.mul_le_mul_left (65536 ^ i) (show x+1≤y from h)
  rw [Nat.mul_add,Nat.mul_one] at this
  exact this
 omega
theorem digs_len_lt {m n:Nat} (h:(digs m).length<(digs n).length):m<n:=by
 have h1:=digs_lt m
 rcases Nat.lt_or_ge m n with h2 | h2
 · exact h2
 · have h3:=digs_len (n:=n) (k:=(digs m).length) (by omega)
   omega
end
section
open Go.RowKit
def dig (l:List Nat) (k:Nat):Nat:=l[k]?.getD 0
theorem dig_lt {l:List Nat} (h:dOk l) (k:Nat):dig l k<65536:=by
 unfold dig
 cases hk:l[k]? with
 | none=>simp
 | some d=>exact h.at_ hk
theorem dval_takeD (l:List Nat) (k:Nat):dval (l.take (k+1))=dval (l.take k)+65536 ^ k*dig l k:=by
 unfold dig
 cases hk:l[k]? with
 | none =>
   have:=List.getElem?_eq_none_iff.1 hk
   rw [List.take_of_length_le (by omega),List.take_of_length_le (by omega)];simp
 | some d=>exact dval_take hk
def AddD (a b:List Nat) (k c:Nat) (o:List Nat):Prop :=
 o.length=k∧dOk o∧c≤1∧dval o+65536 ^ k*c=dval (a.take k)+dval (b.take k)∧k≤max a.length b.length+1∧(k=max a.length b.length+1→c=0)
theorem AddD.start (a b:List Nat):AddD a b 0 0 []:=⟨rfl,fun d hd=>by simp at hd,by omega,by simp [dval],by omega,fun _=>rfl⟩
theorem AddD.step {a b o:List Nat} {k c:Nat} (ha:dOk a) (hb:dOk b) (h:AddD a b k c o) (hk:k<a.length∨k<b.length∨0<c) :
 AddD a b (k+1) ((dig a k+dig b k+c) / 65536) (o++[(dig a k+dig b k+c) % 65536]):=by
 obtain ⟨h1,h2,h3,h4,h5,h6⟩:=h
 have x1:=dig_lt ha k
 have x2:=dig_lt hb k
 have hk':k≤max a.length b.length:=by
  rcases Nat.lt_or_ge k (max a.length b.length+1) with h | h
  · omega
  · have:k=max a.length b.length+1:=by omega
    have:=h6 this
    omega
 refine ⟨by simp [h1],h2.snoc (by omega),by omega,?_,by omega,fun he=>?_⟩
 · rw [dval_snoc,h1,dval_takeD,dval_takeD,Nat.pow_succ]
   have e:=Nat.div_add_mod (dig a k+dig b k+c) 65536
   have e2:65536 ^ k*((dig a k+dig b k+c) % 65536)+65536 ^ k*65536*((dig a k+dig b k+c) / 65536)=65536 ^ k*dig a k+65536 ^ k*dig b k+65536 ^ k*c:=by
    rw [Nat.mul_assoc,← Nat.mul_add,Nat.add_comm ((dig a k+dig b k+c) % 65536),e,Nat.mul_add,Nat.mul_add]
   omega
 · have ea:dig a k=0:=by unfold dig;rw [List.getElem?_eq_none (by omega)];rfl
   have eb:dig b k=0:=by unfold dig;rw [List.getElem?_eq_none (by omega)];rfl
   rw [ea,eb];omega
theorem AddD.done {a b o:List Nat} {k c:Nat} (h:AddD a b k c o) (hk:¬ (k<a.length∨k<b.length∨0<c)):dOk o∧dval o=dval a+dval b∧o.length≤max a.length b.length+1:=by
 obtain ⟨h1,h2,h3,h4,h5,h6⟩:=h
 rw [List.take_of_length_le (by omega),List.take_of_length_le (by omega),show c=0 by omega] at h4
 exact ⟨h2,by simpa using h4,by omega⟩
def SubD (a b:List Nat) (k c:Nat) (o:List Nat):Prop :=
 o.length=k∧dOk o∧c≤1∧dval o+dval (b.take k)=dval (a.take k)+65536 ^ k*c
theorem SubD.start (a b:List Nat):SubD a b 0 0 []:=⟨rfl,fun d hd=>by simp at hd,by omega,by simp [dval]⟩
theorem SubD.lend {a b o:List Nat} {k c x:Nat} (h:SubD a b k c o) (ha:dOk a) (hb:dOk b) (hx:a[k]?=some x) (hs:x<dig b k+c) :
 SubD a b (k+1) 1 (o++[x+65536 - dig b k - c]):=by
 obtain ⟨h1,h2,h3,h4⟩:=h
 have x1:=ha.at_ hx
 have x2:=dig_lt hb k
 refine ⟨by simp [h1],h2.snoc (by omega),by omega,?_⟩
 rw [dval_snoc,h1,dval_takeD,dval_take hx,Nat.pow_succ]
 have e:65536 ^ k*(x+65536 - dig b k - c)+65536 ^ k*dig b k+65536 ^ k*c=65536 ^ k*x+65536 ^ k*65536:=by
  rw [← Nat.mul_add,← Nat.mul_add,← Nat.mul_add,show x+65536 - dig b k - c+dig b k+c=x+65536 by omega]
 omega
theorem SubD.keep {a b o:List Nat} {k c x:Nat} (h:SubD a b k c o) (ha:dOk a) (hx:a[k]?=some x) (hs:dig b k+c≤x) :
 SubD a b (k+1) 0 (o++[x - dig b k - c]):=by
 obtain ⟨h1,h2,h3,h4⟩:=h
 have x1:=ha.at_ hx
 refine ⟨by simp [h1],h2.snoc (by omega),by omega,?_⟩
 rw [dval_snoc,h1,dval_takeD,dval_take hx]
 have e:65536 ^ k*(x - dig b k - c)+65536 ^ k*dig b k+65536 ^ k*c=65536 ^ k*x:=by
  rw [← Nat.mul_add,← Nat.mul_add,show x - dig b k - c+dig b k+c=x by omega]
 omega
theorem SubD.done {a b o:List Nat} {c:Nat} (h:SubD a b a.length c o) (hl:b.length≤a.length) (hv:dval b≤dval a):dOk o∧dval o=dval a - dval b∧o.length=a.length:=by
 obtain ⟨h1,h2,h3,h4⟩:=h
 rw [List.take_length,List.take_of_length_le hl] at h4
 have hlt:=dval_lt h2
 rw [h1] at hlt
 have hc:c=0:=by
  rcases Nat.lt_or_ge 0 c with h | h
  · have:c=1:=by omega
    subst this
    omega
  · omega
 subst hc
 exact ⟨h2,by omega,h1⟩
theorem dval_set {l:List Nat} {i x y:Nat} (h:l[i]?=some x):dval (l.set i y)+65536 ^ i*x=dval l+65536 ^ i*y:=by
 induction l generalizing i with
 | nil=>simp at h
 | cons d l ih =>
   cases i with
   | zero=>simp at h;subst h;simp [dval];omega
   | succ i =>
     have h':=ih (i:=i) (by simpa using h)
     rw [List.set_cons_succ,dval,dval,Nat.pow_succ]
     have e1:65536 ^ i*65536*x=65536*(65536 ^ i*x):=by rw [Nat.mul_comm (65536 ^ i) 65536,Nat.mul_assoc]
     have e2:65536 ^ i*65536*y=65536*(65536 ^ i*y):=by rw [Nat.mul_comm (65536 ^ i) 65536,Nat.mul_assoc]
     omega
theorem dOk_set {l:List Nat} (h:dOk l) (i:Nat) {y:Nat} (hy:y<65536):dOk (l.set i y):=fun d hd=>by
 rcases List.mem_or_eq_of_mem_set hd with h1 | h1
 · exact h d h1
 · omega
def zeroFrom (l:List Nat) (k:Nat):Prop:=∀ i,k≤i→i<l.length→l[i]?=some 0
def MulO (a b:List Nat) (k:Nat) (o:List Nat):Prop :=
 o.length=a.length+b.length∧dOk o∧dval o=dval (a.take k)*dval b∧zeroFrom o (k+b.length)
def MulI (o0 b:List Nat) (x k j c:Nat) (o:List Nat):Prop :=
 o.length=o0.length∧dOk o∧c<65536∧dval o+65536 ^ (k+j)*c=dval o0+65536 ^ k*(x*dval (b.take j))∧(∀ i,k+j≤i→o[i]?=o0[i]?)
theorem MulI.start {o0 b:List Nat} (x k:Nat) (h:dOk o0):MulI o0 b x k 0 0 o0:=⟨rfl,h,by omega,by simp [dval],fun _ _=>rfl⟩
theorem MulI.step {o0 b o:List Nat} {x k j c y z:Nat} (h:MulI o0 b x k j c o) (hx:x<65536) (hy:y<65536) (hb:b[j]?=some y) (ho:o[k+j]?=some z) :
 MulI o0 b x k (j+1) ((z+x*y+c) / 65536) (o.set (k+j) ((z+x*y+c) % 65536)):=by
 obtain ⟨h1,h2,h3,h4,h5⟩:=h
 have hz:=h2.at_ ho
 have hxy:x*y≤65535*65535:=Nat.mul_le_mul (by omega) (by omega)
 refine ⟨by simp [h1],dOk_set h2 _ (by omega),by omega,?_,fun i hi=>?_⟩
 · have e:=dval_set (y:=(z+x*y+c) % 65536) ho
   rw [dval_take hb,Nat.mul_add,Nat.mul_add,show k+(j+1)=(k+j)+1 by omega,Nat.pow_succ]
   have e2:=Nat.div_add_mod (z+x*y+c) 65536
   have e3:65536 ^ (k+j)*((z+x*y+c) % 65536)+65536 ^ (k+j)*65536*((z+x*y+c) / 65536)=65536 ^ (k+j)*z+65536 ^ (k+j)*(x*y)+65536 ^ (k+j)*c:=by
    rw [Nat.mul_assoc,← Nat.mul_add,Nat.add_comm ((z+x*y+c) % 65536),e2,Nat.mul_add,Nat.mul_add]
   have e4:65536 ^ k*(x*(65536 ^ j*y))=65536 ^ (k+j)*(x*y):=by
    rw [Nat.pow_add,Nat.mul_assoc,← Nat.mul_assoc x,Nat.mul_comm x,Nat.mul_assoc]
   omega
 · rw [List.getElem?_set_ne (by omega)]
   exact h5 i (by omega)
theorem MulO.start (a b:List Nat):MulO a b 0 (List.replicate (a.length+b.length) 0):=by
 refine ⟨by simp,fun d hd=>by rw [(List.mem_replicate.1 hd).2];omega,?_,fun i _ hi=>?_⟩
 · have:∀ n,dval (List.replicate n 0)=0:=fun n=>by induction n with
    | zero=>rfl
    | succ n ih=>rw [List.replicate_succ,dval,ih]
   rw [this];simp [dval]
 · rw [List.getElem?_replicate,if_pos (by simpa using hi)]
theorem MulO.step {a b o o2:List Nat} {x k c:Nat} (h:MulO a b k o) (ha:a[k]?=some x) (h2:MulI o b x k b.length c o2) :
 o2[k+b.length]?=some 0∧MulO a b (k+1) (o2.set (k+b.length) c):=by
 obtain ⟨h1,h3,h4,h5⟩:=h
 obtain ⟨i1,i2,i3,i4,i5⟩:=h2
 have hk:k<a.length:=(List.getElem?_eq_some_iff.1 ha).1
 have hz:o2[k+b.length]?=some 0:=by rw [i5 _ (Nat.le_refl _)];exact h5 _ (Nat.le_refl _) (by omega)
 refine ⟨hz,by simp [i1,h1],dOk_set i2 _ i3,?_,fun i hi hl=>?_⟩
 · have e:=dval_set (y:=c) hz
   rw [List.take_length] at i4
   rw [dval_take ha,Nat.add_mul,← h4,Nat.mul_assoc]
   omega
 · rw [List.getElem?_set_ne (by omega),i5 i (by omega)]
   exact h5 i (by omega) (by simp at hl;omega)
theorem MulO.done {a b o:List Nat} (h:MulO a b a.length o):dOk o∧dval o=dval a*dval b∧o.length=a.length+b.length:=by
 obtain ⟨h1,h3,h4,h5⟩:=h
 rw [List.take_length] at h4
 exact ⟨h3,h4,h1⟩
def SlN (w:World) (P:Nat→Prop) (A:Option Addr) (xs:List Value):Prop :=
 xs=[]∨∃ b off,A=some ⟨b,off,none⟩∧P b∧∀ j u,xs[j]?=some u→w.cell? ⟨b,off+j,none⟩=some u
section
variable {w w':World} {P R:Nat→Prop} {A:Option Addr} {xs:List Value}
theorem SlN.sl {B:Nat} (h:SlN w P A xs) (hP:∀ k,P k→k<B):Sl w B A xs:=by
 rcases h with h | ⟨b,off,hA,hb,hc⟩
 · exact .inl h
 · exact .inr ⟨b,off,hA,hP _ hb,hc⟩
theorem SlN.mono (h:SlN w P A xs) (hR:∀ k,P k→R k):SlN w R A xs:=by
 rcases h with h | ⟨b,off,hA,hb,hc⟩
 · exact .inl h
 · exact .inr ⟨b,off,hA,hR _ hb,hc⟩
theorem SlN.at_ (h:SlN w P A xs) (hk:∀ b,P b→b<w.heap.size→w'.heap[b]?=w.heap[b]?):SlN w' P A xs:=by
 rcases h with h | ⟨b,off,hA,hb,hc⟩
 · exact .inl h
 · by_cases hx:xs=[]
   · exact .inl hx
   · refine .inr ⟨b,off,hA,hb,fun j u hu=>?_⟩
     obtain ⟨x,xs',rfl⟩:=List.exists_cons_of_ne_nil hx
     have h0:=hc 0 x rfl
     exact (World.cell?_of_block (hk b hb (cell_lt h0))).trans (hc j u hu)
theorem SlN.below (h:SlN w P A xs) (hb:Below w.heap.size w w'):SlN w' P A xs:=h.at_ fun b _ hl=>hb.block b hl
theorem SlN.lt (h:SlN w P A xs):SlN w (fun k=>P k∧k<w.heap.size) A xs:=by
 rcases h with h | ⟨b,off,hA,hb,hc⟩
 · exact .inl h
 · by_cases hx:xs=[]
   · exact .inl hx
   · obtain ⟨x,xs',rfl⟩:=List.exists_cons_of_ne_nil hx
     exact .inr ⟨b,off,hA,⟨hb,cell_lt (hc 0 x rfl)⟩,hc⟩
theorem SlN.any (h:SlN w P A xs):Sl w w.heap.size A xs:=h.lt.sl fun _ hk=>hk.2
theorem SlN.take (h:SlN w P A xs) (k:Nat):SlN w P A (xs.take k):=by
 rcases h with h | ⟨b,off,hA,hB,hc⟩
 · exact .inl (by simp [h])
 · exact .inr ⟨b,off,hA,hB,fun j u hu=>by
    rw [List.getElem?_take] at hu
    split at hu
    · exact hc j u hu
    · cases hu⟩
end
theorem own_slN {w:World} {base:Nat} {e:TypeId} {size n m c:Nat} {A:Option Addr} {xs:List Value} (h:w.ownsRow base e size (.slice A n c) m xs):SlN w (fun k=>base≤k) A xs:=by
 rcases Sl.of_own h with h1 | ⟨b,off,hA,hb,hc⟩
 · exact .inl h1
 · exact .inr ⟨b,off,hA,own_base h (by rw [hA];rfl),hc⟩
theorem own_put {w:World} {base:Nat} {e:TypeId} {n g cap:Nat} {xs:List Value} (h:w.ownsRow base e 1 (.slice (some ⟨g,0,none⟩) n cap) n xs) (i:Nat) (u:Value) :
 (w.setCell ⟨g,i,none⟩ u).ownsRow base e 1 (.slice (some ⟨g,0,none⟩) n cap) n (xs.set i u):=by
 refine ⟨by rw [List.length_set];exact h.1,?_⟩
 rcases h.2 with ⟨h0,_⟩ | ⟨g',cap',cur,hv,hb,hh,hc,hm,hs,ht⟩
 · cases h0
 · cases hv
   refine .inr ⟨g,cap,cur.setIfInBounds i u,rfl,hb,?_,hc,hm,by simpa using hs,?_⟩
   · simp [World.setCell,Array.getElem?_modify,hh]
   · rw [← ht]
     simp [List.take_set]
theorem own_cell {w:World} {base:Nat} {e:TypeId} {n g cap:Nat} {xs:List Value} (h:w.ownsRow base e 1 (.slice (some ⟨g,0,none⟩) n cap) n xs) {i:Nat} {u:Value} (hi:xs[i]?=some u):w.cell? ⟨g,i,none⟩=some u∧w.frozen? ⟨g,i,none⟩=false:=by
 rcases h.2 with ⟨h0,_⟩ | ⟨g',cap',cur,hv,hb,hh,hc,hm,hs,ht⟩
 · cases h0
 · cases hv
   have hi':cur[i]?=some u:=by
    rw [← ht] at hi
    rw [List.getElem?_take] at hi
    split at hi
    · rw [← Array.getElem?_toList];exact hi
    · cases hi
   exact ⟨Blk.cell (show Blk w g e cur from hh) hi',by simp [World.frozen?,hh]⟩
end
section
open Go.RowKit
theorem conv_bytes (w:World) (B:Nat) (A:Option Addr) (bs:List Int) (c:Nat) (hs:Sl w B A (byCells bs)) :
 (convert 49 9 (.slice A bs.length c)).run Tryz.prog w=.ok (.string (strOfNums bs)) w:=by
 rcases hs with hs | ⟨b,off,rfl,_,hc⟩
 · have h0:bs=[]:=by simpa [byCells] using hs
   subst h0
   cases A with
   | none=>exact run_convert_bytes_nil w _ _ Tryz.underlying49 Tryz.underlying5 0 c _ Tryz.underlying9
   | some a =>
     rw [run_convert_bytes_string w _ _ _ _ _ c Tryz.underlying49 Tryz.underlying5 Tryz.underlying9,run_bytesToString w a _ c [] rfl]
     rfl
 · refine run_convert_bytes_arg w _ _ Tryz.underlying49 Tryz.underlying5 b off _ c bs rfl (fun i hi=>?_) _ Tryz.underlying9
   have h:bs[i]?=some bs[i]:=List.getElem?_eq_getElem hi
   refine hc i _ ?_
   simp [byCells,h]
end
section
open Go.RowKit
def msk (c:Bool):Int:=bif c then 18446744073709551615 else 0
theorem msk_bd (c:Bool):0≤msk c∧msk c<18446744073709551616:=by cases c <;> decide
theorem not_nat (y:Nat) (h:y<18446744073709551616):18446744073709551615 ^^^ y=18446744073709551615 - y:=by
 have h1:=congrArg BitVec.toNat (BitVec.allOnes_xor (x:=BitVec.ofNat 64 y))
 rw [BitVec.toNat_xor,BitVec.toNat_not,BitVec.toNat_allOnes,BitVec.toNat_ofNat,Nat.mod_eq_of_lt (show y<2 ^ 64 by simpa using h)] at h1
 exact h1
theorem bnot (y:Int) (h0:0≤y) (h1:y<18446744073709551616):bits BinOp.xor IntKind.u64 IntKind.u64.max y=18446744073709551615 - y:=by
 have e:IntKind.u64.max=18446744073709551615:=rfl
 rw [e,u64_xor _ y (by omega) (by omega) h0 h1]
 have:=not_nat y.toNat (by omega)
 rw [show (18446744073709551615:Int).toNat=18446744073709551615 from rfl,this]
 omega
theorem band1 (x:Int) (h0:0≤x) (h1:x<18446744073709551616):bits BinOp.and IntKind.u64 x 1=x % 2:=by
 rw [u64_and x 1 h0 h1 (by omega) (by omega),show (1:Int).toNat=1 from rfl,Nat.and_one_is_mod]
 omega
theorem of_bits (x:Int) (h0:0≤x) (h1:x<18446744073709551616):IntKind.u64.wrap (-bits BinOp.and IntKind.u64 x 1)=msk (decide (x % 2=1)):=by
 rw [band1 x h0 h1,IntKind.wrap_u64]
 have:x % 2=0∨x % 2=1:=by omega
 rcases this with h | h <;> rw [h] <;> decide
theorem zero_bits (x:Int) (h0:0≤x) (h1:x<18446744073709551616):bits BinOp.xor IntKind.u64 IntKind.u64.max (bits BinOp.or IntKind.u64 x (IntKind.u64.wrap (-x))) / 9223372036854775808=if x=0 then 1 else 0:=by
 rw [IntKind.wrap_u64]
 by_cases hx:x=0
 · subst hx;rw [if_pos rfl];decide +kernel
 · rw [if_neg hx,show (-x) % 18446744073709551616=18446744073709551616 - x by omega,u64_or x _ h0 h1 (by omega) (by omega)]
   have hl:x.toNat≤x.toNat ||| (18446744073709551616 - x).toNat:=Nat.left_le_or
   have hr:(18446744073709551616 - x).toNat≤x.toNat ||| (18446744073709551616 - x).toNat:=Nat.right_le_or
   have hb:x.toNat ||| (18446744073709551616 - x).toNat<2 ^ 64:=Nat.or_lt_two_pow (by omega) (by omega)
   generalize x.toNat ||| (18446744073709551616 - x).toNat=y at hl hr hb ⊢
   rw [bnot y (by omega) (by omega)]
   omega
theorem select_bits (c:Bool) (a b:Int) (h0:0≤a) (h1:a<18446744073709551616) (h2:0≤b) (h3:b<18446744073709551616):bits BinOp.xor IntKind.u64 b (bits BinOp.and IntKind.u64 (msk c) (bits BinOp.xor IntKind.u64 a b))=bif c then a else b:=by
 rw [u64_xor a b h0 h1 h2 h3]
 have hx:a.toNat ^^^ b.toNat<2 ^ 64:=Nat.xor_lt_two_pow (by omega) (by omega)
 obtain ⟨A,rfl⟩:=Int.eq_ofNat_of_zero_le h0
 obtain ⟨B,rfl⟩:=Int.eq_ofNat_of_zero_le h2
 simp only [Int.toNat_natCast] at hx ⊢
 cases c
 · rw [u64_and _ _ (msk_bd _).1 (msk_bd _).2 (by omega) (by omega)]
   show bits _ _ _ (((0:Nat) &&& _:Nat):Int)=(B:Int)
   rw [Nat.zero_and,u64_xor _ _ (by omega) (by omega) (by omega) (by omega)]
   simp
 · rw [u64_and _ _ (msk_bd _).1 (msk_bd _).2 (by omega) (by omega)]
   have e:(msk true).toNat &&& ((A ^^^ B:Nat):Int).toNat=A ^^^ B:=by
    rw [Int.toNat_natCast,show (msk true).toNat=2 ^ 64 - 1 from rfl,Nat.and_comm,Nat.and_two_pow_sub_one_eq_mod,Nat.mod_eq_of_lt hx]
   rw [e,u64_xor _ _ (by omega) (by omega) (by omega) (by omega),Int.toNat_natCast,Int.toNat_natCast,Nat.xor_comm A B,← Nat.xor_assoc,Nat.xor_self,Nat.zero_xor]
   rfl
theorem of_any (x:Int) (h0:0≤x) (h1:x<18446744073709551616) (w:World):Calls Tryz.prog 262 #[.int .u64 x] w fun e w'=>e=.returned (.int .u64 (msk (decide (x % 2=1))))∧w=w':=by
 have h:=of_bits x h0 h1
 go_enter Tryz.func262,Tryz.ntmps262
 go_wp2
 go_ret
 exact ⟨by simp,rfl⟩
theorem msk_odd (c:Bool):decide (msk c % 2=1)=c:=by cases c <;> decide
theorem of_msk (c:Bool) (w:World):Calls Tryz.prog 262 #[.int .u64 (msk c)] w fun e w'=>e=.returned (.int .u64 (msk c))∧w=w':=by
 have h:=of_any (msk c) (msk_bd c).1 (msk_bd c).2 w
 rw [msk_odd] at h
 exact h
theorem zero_any (x:Int) (h0:0≤x) (h1:x<18446744073709551616) (w:World):Calls Tryz.prog 247 #[.int .u64 x] w fun e w'=>e=.returned (.int .u64 (msk (decide (x=0))))∧w=w':=by
 have h:=zero_bits x h0 h1
 have HO:=of_any (if x=0 then 1 else 0) (by split <;> omega) (by split <;> omega) w
 have e:decide ((if x=0 then (1:Int) else 0) % 2=1)=decide (x=0):=by by_cases hx:x=0 <;> simp [hx]
 rw [e] at HO
 obtain ⟨z,hz⟩:∃ z,z=(if x=0 then (1:Int) else 0):=⟨_,rfl⟩
 rw [← hz] at h HO
 have H:=hide h
 clear hz e h
 go_enter Tryz.func247,Tryz.ntmps247
 go_wp2_with fail
 rw [H.out]
 refine HO.mono ?_
 rintro e w' ⟨rfl,rfl⟩
 go_wp2
 go_ret
 exact ⟨rfl,rfl⟩
theorem negative_any (x:Int) (h0:-9223372036854775808≤x) (h1:x<9223372036854775808) (w:World):Calls Tryz.prog 263 #[.int .i64 x] w fun e w'=>e=.returned (.int .u64 (msk (decide (x<0))))∧w=w':=by
 have h:IntKind.u64.wrap (x / 9223372036854775808)=msk (decide (x<0)):=by
  rw [IntKind.wrap_u64]
  by_cases hx:x<0
  · rw [show x / 9223372036854775808=-1 by omega,decide_eq_true hx];decide
  · rw [show x / 9223372036854775808=0 by omega,decide_eq_false hx];decide
 go_enter Tryz.func263,Tryz.ntmps263
 go_wp2
 go_ret
 exact ⟨by simp,rfl⟩
theorem fill_any (x:Int) (h0:0≤x) (h1:x<18446744073709551616) (w:World):Calls Tryz.prog 246 #[.int .u64 x] w fun e w'=>e=.returned (.int .u64 (msk (decide (9223372036854775808≤x))))∧w=w':=by
 have HO:=of_any (x / 9223372036854775808) (by omega) (by omega) w
 have e:decide (x / 9223372036854775808 % 2=1)=decide (9223372036854775808≤x):=by
  by_cases hx:9223372036854775808≤x
  · rw [decide_eq_true hx,decide_eq_true (by omega)]
  · rw [decide_eq_false hx,decide_eq_false (by omega)]
 rw [e] at HO
 go_enter Tryz.func246,Tryz.ntmps246
 go_wp2_with fail
 refine HO.mono ?_
 rintro e w' ⟨rfl,rfl⟩
 go_wp2
 go_ret
 exact ⟨rfl,rfl⟩
theorem select_any (c:Bool) (a b:Int) (h0:0≤a) (h1:a<18446744073709551616) (h2:0≤b) (h3:b<18446744073709551616) (w:World):Calls Tryz.prog 261 #[.int .u64 (msk c),.int .u64 a,.int .u64 b] w fun e w'=>e=.returned (.int .u64 (bif c then a else b))∧w=w':=by
 have h:=select_bits c a b h0 h1 h2 h3
 go_enter Tryz.func261,Tryz.ntmps261
 go_wp2
 go_ret
 exact ⟨by simp,rfl⟩
def MWords (w:World):Prop:=w.cell? ⟨8,0,none⟩=some (.int .u64 9223372036854775808)∧w.cell? ⟨8,1,none⟩=some (.int .u64 18446744073709551615)
def sgnM (n z:Bool):Int:=bif n then -1 else bif z then 0 else 1
theorem msign_any (n z:Bool) (w:World) (hw:MWords w):Calls Tryz.prog 245 #[.int .u64 (msk n),.int .u64 (msk z)] w fun e w'=>e=.returned (.int .i64 (sgnM n z))∧∃ m,w'=w.drewN m:=by
 obtain ⟨_,hw1⟩:=hw
 have h1:bits BinOp.and IntKind.u64 (bits BinOp.xor IntKind.u64 IntKind.u64.max (msk z)) 1=bif z then 0 else 1:=by
  rw [bnot _ (msk_bd z).1 (msk_bd z).2,band1 _ (by have:=msk_bd z;omega) (by have:=msk_bd z;omega)]
  cases z <;> decide
 have h2:wrap64 (bif n then 18446744073709551615 else (bif z then 0 else 1))=sgnM n z:=by cases n <;> cases z <;> decide +kernel
 obtain ⟨y,hy⟩:∃ y:Int,y=bif z then 0 else 1:=⟨_,rfl⟩
 have hyb:0≤y∧y≤1:=by rw [hy];cases z <;> decide
 rw [← hy] at h1 h2
 have HS:∀ k,Calls Tryz.prog 261 #[.int .u64 (msk n),.int .u64 18446744073709551615,.int .u64 (bits BinOp.and IntKind.u64 (bits BinOp.xor IntKind.u64 (if IntKind.u64.signed=true then -1 else IntKind.u64.max) (msk z)) 1)] (w.drewN k) fun e w'=>e=.returned (.int .u64 (bif n then 18446744073709551615 else y))∧w.drewN k=w':=fun k=>by
  have h1':bits BinOp.and IntKind.u64 (bits BinOp.xor IntKind.u64 (if IntKind.u64.signed=true then -1 else IntKind.u64.max) (msk z)) 1=y:=h1
  rw [h1']
  exact select_any n _ y (by omega) (by omega) hyb.1 (by omega) _
 have HSH:=hide HS
 have HY:=hide hy
 have H2:=hide h2
 clear HS hy h1 h2 hyb
 go_enter Tryz.func245,Tryz.ntmps245
 go_wp2
 go_quiet ((first | (go_at_call 262;exact Calls.quiet_of_same ((of_msk _ _).mono fun _ _ ⟨a,b⟩=>⟨a,b.symm⟩)) | (go_at_call 261;exact Calls.quiet_of_same ((HSH.out _).mono fun _ _ ⟨a,b⟩=>⟨a,b.symm⟩))))
 go_wp2
 go_ret
 exact ⟨ret_int H2.out,_,rfl⟩
end
section
open Go.RowKit
def fcheckL:List Rg→Int
 | []=>0
 | r::rs=>if sizeOfReg r.v=0 then 7 else if sizeOfReg r.v=(r.n:Int) then fcheckL rs else 8
def fcheck (rs:List Rg):Int:=if rs.length<1∨64<rs.length then 6 else fcheckL rs
theorem fcheckL_drop (rs:List Rg) (k:Nat) (r:Rg) (h:rs[k]?=some r):fcheckL (rs.drop k)=if sizeOfReg r.v=0 then 7 else if sizeOfReg r.v=(r.n:Int) then fcheckL (rs.drop (k+1)) else 8:=by
 obtain ⟨hlt,he⟩:=List.getElem?_eq_some_iff.1 h
 rw [List.drop_eq_getElem_cons hlt,he]
 rfl
theorem fcheck_any (rs:List Rg) (A:Option Addr) (c:Nat) (w:World) (hs:Sl w w.heap.size A (rgCells rs)) :
 Calls Tryz.prog 264 #[.slice A rs.length c] w fun e w'=>e=.returned (.int .i64 (fcheck rs))∧Below w.heap.size w w':=by
 have HS:=hide hs;clear hs
 by_cases hc:rs.length<1∨64<rs.length
 · have hf:fcheck rs=6:=by unfold fcheck;rw [if_pos hc]
   rw [hf]
   have hci:((rs.length:Nat):Int)<1∨(¬ ((rs.length:Nat):Int)<1∧(64:Int)<((rs.length:Nat):Int)):=by omega
   clear hf hc
   rcases hci with h | ⟨h,h2⟩
   · go_enter Tryz.func264,Tryz.ntmps264
     go_wp2
     go_ret
     exact ⟨rfl,Below.refl _ _⟩
   · go_enter Tryz.func264,Tryz.ntmps264
     go_wp2
     go_ret
     exact ⟨rfl,Below.refl _ _⟩
 · have hf:fcheck rs=fcheckL rs:=by unfold fcheck;rw [if_neg hc]
   rw [hf]
   have h1:¬ ((rs.length:Nat):Int)<1:=by omega
   have h2:¬ (64:Int)<((rs.length:Nat):Int):=by omega
   clear hf hc
   go_enter Tryz.func264,Tryz.ntmps264
   go_wp2
   go_loopw [15] (fun i wr=>∃ k:Nat,k≤rs.length∧i=.int .i64 k∧Hid (fcheckL rs=fcheckL (rs.drop k))∧Below w.heap.size w wr)
    (fun i _=>rs.length - (intOf i).toNat)
   case atStart=>exact ⟨0,Nat.zero_le _,rfl,hide (by simp),Below.refl _ _⟩
   case round =>
    obtain ⟨k,hk,rfl,hF,hb⟩:=hrel
    by_cases hlt:k<rs.length
    · obtain ⟨r,hr⟩:∃ r,rs[k]?=some r:=⟨_,List.getElem?_eq_getElem hlt⟩
      obtain ⟨b,off,rfl,hB,c0,c1,c2⟩:=(HS.out.below hb).rg hr
      have hD:=hide (hF.out.trans (fcheckL_drop rs k r hr))
      have hlti:((k:Nat):Int)<((rs.length:Nat):Int):=by omega
      obtain ⟨d,v,A,n,c⟩:=r
      dsimp only at *
      clear hr hF
      obtain ⟨w1,hw1⟩:∃ w1,w1=wr.alloc (.cells #[.bool d,.int .i64 v,.slice A n c] 38):=⟨_,rfl⟩
      have hb1:Below wr.heap.size wr w1:=by rw [hw1];exact bl_alloc (Below.refl _ _) _
      have B1:Blk w1 wr.heap.size 38 #[.bool d,.int .i64 v,.slice A n c]:=by rw [hw1];exact Blk.new _ _ _
      go_wp2_with fail
      rw [← hw1]
      clear hw1
      refine (size_any d v A n c w1).mono ?_
      rintro e w2 ⟨rfl,hb2⟩
      have B2:=B1.step hb2
      have z2:w2.cell? ⟨wr.heap.size,2,none⟩=some (.slice A n c):=B2.cell (i:=2) rfl
      have hbb:Below w.heap.size w w2:=bl_step (bl_step hb hb1) hb2
      clear B1 B2 hb1 hb2 c0 c1 c2
      obtain ⟨z,hz⟩:∃ z,z=sizeOfReg v:=⟨_,rfl⟩
      rw [← hz] at hD
      rw [← hz]
      clear hz
      by_cases h0:z=0
      · have hD':Hid (fcheckL rs=7):=hide (hD.out.trans (if_pos h0))
        clear hD
        subst h0
        go_wp2
        go_ret
        exact ⟨ret_int hD'.out.symm,hbb⟩
      · by_cases h3:z=(n:Int)
        · have hD':Hid (fcheckL rs=fcheckL (rs.drop (k+1))):=hide (hD.out.trans ((if_neg h0).trans (if_pos h3)))
          clear hD
          go_wp2
          go_roundw
          case rel=>exact ⟨k+1,by omega,by go_num,hD',hbb⟩
          case measure=>simp [intOf];omega
        · have hD':Hid (fcheckL rs=8):=hide (hD.out.trans ((if_neg h0).trans (if_neg h3)))
          clear hD
          go_wp2
          go_ret
          exact ⟨ret_int hD'.out.symm,hbb⟩
    · obtain rfl:k=rs.length:=by omega
      have hD':Hid (fcheckL rs=0):=hide (hF.out.trans (by rw [List.drop_length];rfl))
      go_wp2
      go_ret
      exact ⟨ret_int hD'.out.symm,hb⟩
end
section
open Go.RowKit
theorem snew_any (w:World):Calls Tryz.prog 12 #[] w fun e w'=>e=.returned (.pointer (some ⟨w.heap.size,0,none⟩))∧w'=w.alloc (.cells #[.slice none 0 0,.slice none 0 0] 70):=by
 go_enter Tryz.func12,Tryz.ntmps12
 go_wp2
 go_ret
 exact ⟨rfl,rfl⟩
end
section
open Go.ChangeShapes Go.WideShapes Go.ChangeAt Go.RowKit
theorem frOwn:ownKnob Tryz.prog.godebug=none:=by kernel_rfl
theorem frLaidOut:laidOutB Tryz.prog=true:=by kernel_rfl
theorem trodAll_below {H:Type} {enc:TypeId × Value→H} {W W':World} (hb:Below W.heap.size W W') :
 ∀ (ts:List TypeId) (vs:List Value) (ds:List (DataW H)) (ps:List MemPlace),(∀ t∈ts,Tryz.prog.readableRec t=true∧t<Tryz.prog.types.size)→(∀ x∈ps,x.block<W.heap.size) →
   DataW.TrodAll enc Tryz.prog W 0 (fun _=>true) true ts vs ds ps→DataW.TrodAll enc Tryz.prog W' 0 (fun b=>decide (b<W.heap.size)) true ts vs ds ps
 | [],vs,ds,ps,_,_,h=>by
   obtain ⟨rfl,rfl,rfl⟩:=trodAll_nil h
   exact trodAll_mk0
 | t::ts,vs,ds,ps,ht,hlt,h=>by
   obtain ⟨v,vs',d,ds',p,q,rfl,rfl,rfl,h0,hr⟩:=trodAll_cons h
   exact trodAll_cons_mk (Below.trod frLaidOut (ht t (by simp)).1 (ht t (by simp)).2 h0 hb (fun x hx=>hlt x (by simp [hx])))
    (trodAll_below hb ts vs' ds' q (fun u hu=>ht u (by simp [hu])) (fun x hx=>hlt x (by simp [hx])) hr)
theorem law_post {H:Type} {enc:TypeId × Value→H} {f:Func} {s:ChangeSpec} {W W':World} {args:Array Value} {ds gs:List (DataW H)} {before:List MemPlace}
 (hvars:s.vars=[]) (hres:f.resultTypes=#[4]) (hread:∀ t∈f.params.toList,Tryz.prog.readableRec t=true∧t<Tryz.prog.types.size)
 (hspec:s.fn H (ds++gs)={ results:=[.lit (.bool true)],args:=ds,vars:=[] })
 (hW:DataW.Whole enc Tryz.prog f.params.toList s.vars false W args.toList ds gs before) (hb:Below W.heap.size W W') :
 s.post enc Tryz.prog f false true false false W args (.bool true) W':=by
 have hlt:∀ p∈before,p.block<W.heap.size:=fun p hp=>hW.lt p hp
 have hW':=hW
 obtain ⟨p,q,hA,hV,rfl,hfz,hnd⟩:=hW
 refine ⟨ds,gs,p++q,[],p,[],hW',?_,?_,?_,hb.frame _,fun h=>by cases h⟩
 · rw [hspec,hres]
   exact trodAll_mk1 (shut_bool Tryz.underlying4 true)
 · rw [hspec]
   exact trodAll_below hb _ _ _ _ hread (fun x hx=>hlt x (by simp [hx])) hA
 · rw [hspec,hvars]
   rfl
theorem block_lt {w:World} {b o:Nat} {v:Value} (h:w.cell? ⟨b,o,none⟩=some v):b<w.heap.size:=by
 rcases Nat.lt_or_ge b w.heap.size with h1 | h1
 · exact h1
 · simp [World.cell?,Array.getElem?_eq_none h1] at h
section
variable {H:Type} {enc:TypeId × Value→H} {W:World} {base:Nat}
end
end
section
open Go.ChangeShapes Go.WideShapes Go.ChangeAt Go.RowKit
theorem bounds_i64 {n:Int} (h:(Lit.int .i64 n).wf=true):-9223372036854775808≤n∧n≤9223372036854775807:=by
 simp [Lit.wf,IntKind.min,IntKind.max,IntKind.signed,IntKind.bits] at h
 omega
section
variable {H:Type} {enc:TypeId × Value→H} {W:World}
def I64 (n:Int):Prop:=-9223372036854775808≤n∧n≤9223372036854775807
theorem trod_point {fuel:Nat} {cs:List Value} {x:DataW H × List MemPlace} (h:DataW.trod enc Tryz.prog W 0 (fun _=>true) true fuel 41 cs=some x) :
 ∃ p:Int × Int,cs=[.int .i64 p.1,.int .i64 p.2]∧I64 p.1∧I64 p.2:=by
 have hC:Tryz.prog.cellsOf 41=2:=by kernel_rfl
 have hI:Tryz.prog.cellsOf 2=1:=by kernel_rfl
 obtain ⟨y0,y1,n,_,hlen,h0,h1⟩:=trod_struct2 Tryz.underlying41 h
 rw [hC] at hlen
 match cs,hlen with
 | [c0,c1],_ =>
   dsimp only at h0 h1
   rw [hI] at h0 h1
   obtain ⟨a,e0,_,wa⟩:=DataW.trod_int Tryz.underlying2 h0
   obtain ⟨b,e1,_,wb⟩:=DataW.trod_int Tryz.underlying2 h1
   simp at e0 e1
   subst e0 e1
   exact ⟨(a,b),rfl,bounds_i64 wa,bounds_i64 wb⟩
end
end
section
open Go.ChangeShapes Go.WideShapes Go.ChangeAt Go.RowKit
section
variable {H:Type} {enc:TypeId × Value→H} {W:World}
theorem open_arr4 {base:Nat} {v:Value} {d:DataW H} {ps:List MemPlace} (hv:Value.okWide Tryz.prog W .any base 60 v) (h:DataW.Trod enc Tryz.prog W 0 (fun _=>true) true 60 v d ps) :
 ∃ a b c d:Int × Int,v=.agg #[.int .i64 a.1,.int .i64 a.2,.int .i64 b.1,.int .i64 b.2,.int .i64 c.1,.int .i64 c.2,.int .i64 d.1,.int .i64 d.2]∧(I64 a.1∧I64 a.2)∧(I64 b.1∧I64 b.2)∧(I64 c.1∧I64 c.2)∧(I64 d.1∧I64 d.2):=by
 simp only [Value.okWide,Tryz.underlying60] at hv
 obtain ⟨cs,rfl,h2,_⟩:=hv
 obtain ⟨fuel,hf⟩:=h
 obtain ⟨xs,m,_,_,hl,hlen,hx⟩:=DataW.trod_array Tryz.underlying60 hf
 have hC:Tryz.prog.cellsOf 60=8:=by kernel_rfl
 have hP:Tryz.prog.cellsOf 41=2:=by kernel_rfl
 rw [hC] at hl
 rw [hP] at hx
 obtain ⟨l⟩:=cs
 simp only [Value.cells] at hl hx
 match l,hl with
 | [c0,c1,c2,c3,c4,c5,c6,c7],_ =>
   obtain ⟨z0,e0⟩:∃ z,xs[0]?=some z:=⟨_,List.getElem?_eq_getElem (by omega)⟩
   obtain ⟨z1,e1⟩:∃ z,xs[1]?=some z:=⟨_,List.getElem?_eq_getElem (by omega)⟩
   obtain ⟨z2,e2⟩:∃ z,xs[2]?=some z:=⟨_,List.getElem?_eq_getElem (by omega)⟩
   obtain ⟨z3,e3⟩:∃ z,xs[3]?=some z:=⟨_,List.getElem?_eq_getElem (by omega)⟩
   obtain ⟨a,ea,ha⟩:=trod_point ((hx 0 (by omega)).trans e0)
   obtain ⟨b,eb,hb⟩:=trod_point ((hx 1 (by omega)).trans e1)
   obtain ⟨c,ec,hc⟩:=trod_point ((hx 2 (by omega)).trans e2)
   obtain ⟨d,ed,hd⟩:=trod_point ((hx 3 (by omega)).trans e3)
   simp at ea eb ec ed
   obtain ⟨rfl,rfl⟩:=ea
   obtain ⟨rfl,rfl⟩:=eb
   obtain ⟨rfl,rfl⟩:=ec
   obtain ⟨rfl,rfl⟩:=ed
   exact ⟨a,b,c,d,rfl,ha,hb,hc,hd⟩
end
end
end Go.Proofs.YthnenedoblncjaaGreatDoor
