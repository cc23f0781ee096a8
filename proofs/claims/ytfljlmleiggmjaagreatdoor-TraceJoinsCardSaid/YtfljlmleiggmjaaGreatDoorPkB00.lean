/- Words FenceSize IndexFunc Check ScopeB Same Num2 Mask Bitonic FenceCheck -/
import Derived.BigQuiet
import Derived.Deep.Draws
import Derived.Deep.QuietTactic
import Derived.Deep.RegionWith
import Derived.Laws.BitsAllLaws
import Derived.RegionTactic
import Derived.ScopeJumps
import Derived.Test.YtfljlmleiggmjaaGreatDoorRows
import Derived.WalkKit
import Derived.WalkLawsBesides
import Derived.WalkMore
import Derived.WalkSpells
set_option maxRecDepth 1000000
set_option maxHeartbeats 8000000
namespace Go.Proofs.YtfljlmleiggmjaaGreatDoor
section
open Go.RowKit
def Sl (w:World) (B:Nat) (A:Option Addr) (xs:List Value):Prop :=
 xs=[]∨∃ b off,A=some ⟨b,off,none⟩∧b<B∧∀ j u,xs[j]?=some u→w.cell? ⟨b,off+j,none⟩=some u
theorem Sl.nil (w:World) (B:Nat) (A:Option Addr):Sl w B A []:=.inl rfl
theorem Sl.below {w w':World} {B:Nat} {A:Option Addr} {xs:List Value} (h:Sl w B A xs) (hb:Below B w w'):Sl w' B A xs:=by
 rcases h with h | ⟨b,off,hA,hlt,hc⟩
 · exact .inl h
 · exact .inr ⟨b,off,hA,hlt,fun j u hu=>(hb.cell (p:=⟨b,off+j,none⟩) hlt).trans (hc j u hu)⟩
theorem Sl.more {w:World} {B B':Nat} {A:Option Addr} {xs:List Value} (h:Sl w B A xs) (hB:B≤B'):Sl w B' A xs:=by
 rcases h with h | ⟨b,off,hA,hlt,hc⟩
 · exact .inl h
 · exact .inr ⟨b,off,hA,Nat.lt_of_lt_of_le hlt hB,hc⟩
theorem Sl.drewN {w:World} {B:Nat} {A:Option Addr} {xs:List Value} (h:Sl w B A xs) (k:Nat):Sl (w.drewN k) B A xs:=h
theorem Sl.drew {w:World} {B:Nat} {A:Option Addr} {xs:List Value} (h:Sl w B A xs):Sl w.drew B A xs:=h
theorem Sl.open_ {w:World} {B:Nat} {A:Option Addr} {xs:List Value} (h:Sl w B A xs) (hn:0<xs.length) :
 ∃ b off,A=some ⟨b,off,none⟩∧b<B∧∀ j u,xs[j]?=some u→w.cell? ⟨b,off+j,none⟩=some u:=by
 rcases h with h | h
 · subst h;simp at hn
 · exact h
theorem Sl.mk {w:World} {B b off:Nat} {xs:List Value} (hb:b<B) (hc:∀ j u,xs[j]?=some u→w.cell? ⟨b,off+j,none⟩=some u):Sl w B (some ⟨b,off,none⟩) xs :=
 .inr ⟨b,off,rfl,hb,hc⟩
theorem Sl.of_own {w:World} {base:Nat} {e:TypeId} {size n m c:Nat} {A:Option Addr} {xs:List Value} (h:w.ownsRow base e size (.slice A n c) m xs):Sl w w.heap.size A xs:=by
 obtain ⟨hl,h⟩:=h
 rcases h with ⟨_,h0⟩ | ⟨g,cap,cur,hv,_,hh,hn,_,hcs,ht⟩
 · left;subst h0;exact List.eq_nil_of_length_eq_zero (by simpa using hl)
 · right
   injection hv with hA
   have hlt:g<w.heap.size:=by
    rcases Nat.lt_or_ge g w.heap.size with h | h
    · exact h
    · rw [Array.getElem?_eq_none h] at hh;cases hh
   refine ⟨g,0,hA,hlt,fun j u hu=>?_⟩
   rw [← ht] at hu
   rw [List.getElem?_take] at hu
   have hcell:=cell_of_row w g (0+j) cur e (0,0) hh
   rw [hcell]
   split at hu
   · simpa using hu
   · cases hu
theorem below_drewN {B:Nat} {a w:World} (h:Below B a w) (k:Nat):Below B a (w.drewN k):=⟨h.os,h.tape,h.output,h.size,h.block⟩
theorem below_of_drew {B:Nat} {a w:World} (h:Below B a.drew w):Below B a w:=⟨h.os,h.tape,h.output,h.size,h.block⟩
theorem bl_alloc {a w:World} (h:Below a.heap.size a w) (o:Obj):Below a.heap.size a (w.alloc o):=h.alloc h.size o
theorem bA {w : World} {o : Obj} : Below w.heap.size w (w.alloc o) := bl_alloc (Below.refl _ _) _
theorem bl_drewN {B:Nat} {a w:World} (h:Below B a w) (k:Nat):Below B a (w.drewN k):=⟨h.os,h.tape,h.output,h.size,h.block⟩
theorem bl_drew {B:Nat} {a w:World} (h:Below B a w):Below B a w.drew:=⟨h.os,h.tape,h.output,h.size,h.block⟩
theorem bl_step {a w w':World} (h:Below a.heap.size a w) (hb:Below w.heap.size w w'):Below a.heap.size a w':=h.trans (hb.mono h.size)
theorem bcell {a w:World} (h:Below a.heap.size a w):(∀ b o,b<a.heap.size→w.cell? ⟨b,o,none⟩=a.cell? ⟨b,o,none⟩)∧(∀ b o,b<a.heap.size→w.frozen? ⟨b,o,none⟩=a.frozen? ⟨b,o,none⟩) :=
 ⟨fun b o hb=>h.cell (p:=⟨b,o,none⟩) hb,fun b o hb=>h.frozen (p:=⟨b,o,none⟩) hb⟩
theorem hide {p:Prop} (h:p):Hid p:=h
theorem ret_int {k:IntKind} {a b:Int} (h:a=b):Ending.returned (.int k a)=.returned (.int k b):=by rw [h]
theorem ret_bool {a b:Bool} (h:a=b):Ending.returned (.bool a)=.returned (.bool b):=by rw [h]
def Blk (w:World) (g:Nat) (t:TypeId) (cs:Array Value):Prop:=w.heap[g]?=some (.cells cs t (0,0))
section
variable {w w':World} {g:Nat} {t:TypeId} {cs:Array Value}
theorem Blk.lt (h:Blk w g t cs):g<w.heap.size:=by
 rcases Nat.lt_or_ge g w.heap.size with h1 | h1
 · exact h1
 · unfold Blk at h;rw [Array.getElem?_eq_none h1] at h;cases h
theorem Blk.cell (h:Blk w g t cs) {i:Nat} {v:Value} (hi:cs[i]?=some v):w.cell? ⟨g,i,none⟩=some v:=(cell_of_row w g i cs t (0,0) h).trans hi
theorem Blk.frozen (h:Blk w g t cs) (i:Nat):w.frozen? ⟨g,i,none⟩=false:=by unfold Blk at h;simp [World.frozen?,h]
theorem Blk.new (w:World) (t:TypeId) (cs:Array Value):Blk (w.alloc (.cells cs t)) w.heap.size t cs:=by
 show (w.heap.push _)[w.heap.size]?=_
 simp
theorem Blk.alloc (h:Blk w g t cs) (o:Obj):Blk (w.alloc o) g t cs:=(Below.heap_alloc w o g h.lt).trans h
theorem Blk.drewN (h:Blk w g t cs) (k:Nat):Blk (w.drewN k) g t cs:=h
theorem Blk.drew (h:Blk w g t cs):Blk w.drew g t cs:=h
theorem Blk.set (h:Blk w g t cs) (i:Nat) (u:Value):Blk (w.setCell ⟨g,i,none⟩ u) g t (cs.setIfInBounds i u):=by
 unfold Blk at h ⊢
 simp [World.setCell,Array.getElem?_modify,h]
theorem Blk.far (h:Blk w g t cs) {p:Addr} (hp:g≠p.block) (u:Value):Blk (w.setCell p u) g t cs:=(Below.heap_setCell w p u g hp).trans h
theorem Blk.below {B:Nat} (h:Blk w g t cs) (hb:Below B w w') (hg:g<B):Blk w' g t cs:=(hb.block g hg).trans h
theorem Blk.step (h:Blk w g t cs) (hb:Below w.heap.size w w'):Blk w' g t cs:=h.below hb h.lt
theorem Blk.grown {row:Option Nat} (h:Blk w g t cs) (hb:w.grownBy w' row) (hg:some g≠row):Blk w' g t cs:=(hb.block g h.lt hg).trans h
theorem own_base {base:Nat} {e:TypeId} {size n:Nat} {v:Value} {xs:List Value} (h:w.ownsRow base e size v n xs) {k:Nat} (hk:v.ownBlock=some k):base≤k:=by
 rcases h.2 with ⟨rfl,_⟩ | ⟨g',cap,cur,rfl,hb,_⟩
 · simp [Value.ownBlock] at hk
 · have:g'=k:=by simpa [Value.ownBlock] using hk
   omega
theorem own_form {base:Nat} {e:TypeId} {size n:Nat} {v:Value} {xs:List Value} (h:w.ownsRow base e size v n xs) (hn:0<n) :
 ∃ k cap,v=.slice (some ⟨k,0,none⟩) n cap∧base≤k∧k<w.heap.size∧n≤cap:=by
 rcases h.2 with ⟨_,h0⟩ | ⟨g',cap,cur,rfl,hb,hh,hc,_⟩
 · omega
 · exact ⟨g',cap,rfl,hb,Blk.lt hh,hc⟩
theorem own_slice {base:Nat} {e:TypeId} {size n:Nat} {v:Value} {xs:List Value} (h:w.ownsRow base e size v n xs):∃ A cap,v=.slice A n cap∧n≤cap:=by
 rcases h.2 with ⟨rfl,rfl⟩ | ⟨g',cap,cur,rfl,hb,hh,hc,_⟩
 · exact ⟨none,0,rfl,Nat.le_refl _⟩
 · exact ⟨_,cap,rfl,hc⟩
theorem own_step {base:Nat} {e:TypeId} {size n:Nat} {v:Value} {xs:List Value} (h:w.ownsRow base e size v n xs) (hb:Below w.heap.size w w'):w'.ownsRow base e size v n xs:=by
 refine ⟨h.1,?_⟩
 rcases h.2 with h0 | ⟨g',cap,cur,hv,hb1,hh,r⟩
 · exact .inl h0
 · exact .inr ⟨g',cap,cur,hv,hb1,(hb.block g' (Blk.lt hh)).trans hh,r⟩
theorem own_ne {base:Nat} {e:TypeId} {size n:Nat} {v:Value} {xs:List Value} (h:w.ownsRow base e size v n xs) (hg:g<base):some g≠v.ownBlock:=by
 intro e1
 have:=own_base h e1.symm
 omega
end
structure Rg where
 d:Bool
 v:Int
 A:Option Addr
 n:Nat
 c:Nat
def Rg.cells (r:Rg):List Value:=[.bool r.d,.int .i64 r.v,.slice r.A r.n r.c]
def rgCells (rs:List Rg):List Value:=rs.flatMap Rg.cells
theorem rgCells_length (rs:List Rg):(rgCells rs).length=3*rs.length:=by
 induction rs with
 | nil=>rfl
 | cons r rs ih=>simp only [rgCells,List.flatMap_cons,List.length_append,List.length_cons] at *;rw [ih];simp [Rg.cells];omega
theorem rgCells_get (rs:List Rg) (i:Nat) (r:Rg) (h:rs[i]?=some r) :
 (rgCells rs)[i*3]?=some (.bool r.d)∧(rgCells rs)[i*3+1]?=some (.int .i64 r.v)∧(rgCells rs)[i*3+2]?=some (.slice r.A r.n r.c):=by
 induction rs generalizing i with
 | nil=>simp at h
 | cons q rs ih =>
   have hq:∀ j,(rgCells (q::rs))[j+3]?=(rgCells rs)[j]?:=by
    intro j
    show (Rg.cells q++rgCells rs)[j+3]?=_
    rw [List.getElem?_append_right (by simp [Rg.cells])]
    simp [Rg.cells]
   cases i with
   | zero =>
     simp only [List.getElem?_cons_zero,Option.some.injEq] at h
     subst h
     exact ⟨rfl,rfl,rfl⟩
   | succ i =>
     have h':rs[i]?=some r:=by simpa using h
     have:=ih i h'
     have e:(i+1)*3=i*3+3:=by omega
     rw [e]
     refine ⟨by rw [hq];exact this.1,?_,?_⟩
     · rw [show i*3+3+1=i*3+1+3 by omega,hq];exact this.2.1
     · rw [show i*3+3+2=i*3+2+3 by omega,hq];exact this.2.2
theorem Sl.rg {w:World} {B:Nat} {A:Option Addr} {rs:List Rg} (h:Sl w B A (rgCells rs)) {k:Nat} {r:Rg} (hk:rs[k]?=some r) :
 ∃ b off,A=some ⟨b,off,none⟩∧b<B∧w.cell? ⟨b,off+k*3,none⟩=some (.bool r.d)∧w.cell? ⟨b,off+k*3+1,none⟩=some (.int .i64 r.v)∧w.cell? ⟨b,off+k*3+2,none⟩=some (.slice r.A r.n r.c):=by
 have hlt:k<rs.length:=(List.getElem?_eq_some_iff.1 hk).1
 obtain ⟨b,off,rfl,hB,hc⟩:=h.open_ (by rw [rgCells_length];omega)
 obtain ⟨h0,h1,h2⟩:=rgCells_get rs k r hk
 exact ⟨b,off,rfl,hB,hc _ _ h0,hc _ _ h1,hc _ _ h2⟩
theorem any_take_succ {α:Type} (l:List α) (p:α→Bool) (k:Nat) (r:α) (h:l[k]?=some r):(l.take (k+1)).any p=((l.take k).any p || p r):=by
 rw [List.take_add_one,h];simp
theorem any_of_get {α:Type} (l:List α) (p:α→Bool) (k:Nat) (r:α) (h:l[k]?=some r) (hp:p r=true):l.any p=true :=
 List.any_eq_true.2 ⟨r,List.mem_of_getElem? h,hp⟩
theorem Blk.new2 (w:World) (o:Obj) (t:TypeId) (cs:Array Value):Blk ((w.alloc o).alloc (.cells cs t)) (w.heap.size+1) t cs:=by
 have h:=Blk.new (w.alloc o) t cs
 simpa using h
theorem own_mono {w:World} {base base':Nat} {e:TypeId} {size n:Nat} {v:Value} {xs:List Value} (h:w.ownsRow base e size v n xs) (hb:base'≤base):w.ownsRow base' e size v n xs:=by
 refine ⟨h.1,?_⟩
 rcases h.2 with h0 | ⟨g',cap,cur,hv,hb1,r⟩
 · exact .inl h0
 · exact .inr ⟨g',cap,cur,hv,by omega,r⟩
theorem own_of_blk {w:World} {base g:Nat} {e:TypeId} {size n:Nat} {xs:List Value} (h:Blk w g e xs.toArray) (hg:base≤g) (hl:xs.length=n*size) (hn:n≤maxLen) :
 w.ownsRow base e size (.slice (some ⟨g,0,none⟩) n n) n xs :=
 ⟨hl,.inr ⟨g,n,xs.toArray,rfl,hg,h,Nat.le_refl _,hn,by simpa using hl,by rw [← hl];simp⟩⟩
theorem blk_cells {w:World} {g:Nat} {t:TypeId} {xs:List Value} (h:Blk w g t xs.toArray):∀ j u,xs[j]?=some u→w.cell? ((⟨g,0,none⟩:Addr).add j)=some u:=by
 intro j u hu
 have e:(⟨g,0,none⟩:Addr).add j=⟨g,j,none⟩:=by unfold Addr.add;split <;> simp_all
 rw [e]
 exact h.cell (by simpa using hu)
theorem own_set {w:World} {base:Nat} {e:TypeId} {size n:Nat} {v:Value} {xs:List Value} (h:w.ownsRow base e size v n xs) {p:Addr} (hp:v.ownBlock≠some p.block) (u:Value):(w.setCell p u).ownsRow base e size v n xs:=by
 refine ⟨h.1,?_⟩
 rcases h.2 with h0 | ⟨g',cap,cur,rfl,hb1,hh,r⟩
 · exact .inl h0
 · refine .inr ⟨g',cap,cur,rfl,hb1,(Below.heap_setCell w p u g' ?_).trans hh,r⟩
   intro e1;apply hp;rw [← e1];rfl
theorem cell_lt {w:World} {b o:Nat} {v:Value} (h:w.cell? ⟨b,o,none⟩=some v):b<w.heap.size:=by
 rcases Nat.lt_or_ge b w.heap.size with h1 | h1
 · exact h1
 · simp [World.cell?,Array.getElem?_eq_none h1] at h
theorem own_lt {w:World} {base:Nat} {e:TypeId} {size n:Nat} {v:Value} {xs:List Value} (h:w.ownsRow base e size v n xs) {k:Nat} (hk:v.ownBlock=some k):k<w.heap.size:=by
 rcases h.2 with ⟨rfl,_⟩ | ⟨g',cap,cur,rfl,hb,hh,_⟩
 · simp [Value.ownBlock] at hk
 · have:g'=k:=by simpa [Value.ownBlock] using hk
   subst this
   exact Blk.lt hh
theorem Sl.at_ {w w':World} {B:Nat} {A:Option Addr} {xs:List Value} (h:Sl w B A xs) (hb:∀ b,b<B→(xs≠[]→∀ x,A=some x→x.block=b→w'.heap[b]?=w.heap[b]?)):Sl w' B A xs:=by
 rcases h with h | ⟨b,off,hA,hlt,hc⟩
 · exact .inl h
 · refine .inr ⟨b,off,hA,hlt,fun j u hu=>?_⟩
   have hx:xs≠[]:=fun e=>by rw [e] at hu;simp at hu
   rw [World.cell?_of_block (hb b hlt hx _ hA rfl)]
   exact hc j u hu
theorem Sl.far {w:World} {B:Nat} {A:Option Addr} {xs:List Value} (h:Sl w B A xs) {p:Addr} (hp:xs≠[]→∀ x,A=some x→x.block≠p.block) (u:Value):Sl (w.setCell p u) B A xs :=
 h.at_ fun b _ hx x hA hxb=>Below.heap_setCell w p u b (by rw [← hxb];exact hp hx x hA)
end
section
open Go.RowKit
def sizeOfReg (v:Int):Int:=if v=0 then 3 else if 3≤v∧v≤64 then v else 0
theorem shapeOf_zero (d:Bool) (A:Option Addr) (n c:Nat) (w:World) :
 Calls Tryz.prog 129 #[.agg #[.bool d,.int .i64 0,.slice A n c]] w fun e w'=>e=.returned (.iface 218 (.agg #[.bool d,.int .i64 0,.slice A n c]))∧Below w.heap.size w w':=by
 go_enter Tryz.func129,Tryz.ntmps129
 go_wp2
 go_ret
 exact ⟨rfl,(Below.refl _ _).alloc (Nat.le_refl _) _⟩
theorem shapeOf_other (d:Bool) (v:Int) (hv:(v == 0)=false) (A:Option Addr) (n c:Nat) (w:World) :
 Calls Tryz.prog 129 #[.agg #[.bool d,.int .i64 v,.slice A n c]] w fun e w'=>e=.returned (.iface 219 (.agg #[.bool d,.int .i64 v,.slice A n c]))∧Below w.heap.size w w':=by
 go_enter Tryz.func129,Tryz.ntmps129
 go_wp2
 go_ret
 exact ⟨rfl,(Below.refl _ _).alloc (Nat.le_refl _) _⟩
theorem roundSize (d:Bool) (v:Int) (A:Option Addr) (n c:Nat) (w:World) :
 Calls Tryz.prog 291 #[.agg #[.bool d,.int .i64 v,.slice A n c]] w fun e w'=>e=.returned (.int .i64 3)∧Below w.heap.size w w':=by
 go_enter Tryz.func291,Tryz.ntmps291
 go_wp2
 go_ret
 exact ⟨rfl,(Below.refl _ _).alloc (Nat.le_refl _) _⟩
theorem convexSize (d:Bool) (v:Int) (A:Option Addr) (n c:Nat) (w:World) (hv:v≠0) :
 Calls Tryz.prog 298 #[.agg #[.bool d,.int .i64 v,.slice A n c]] w fun e w'=>e=.returned (.int .i64 (sizeOfReg v))∧Below w.heap.size w w':=by
 go_enter Tryz.func298,Tryz.ntmps298
 go_wp2
 all_goals go_ret
 all_goals exact ⟨ret_int (by unfold sizeOfReg;rw [if_neg hv];first | rw [if_pos ⟨by omega,by omega⟩] | rw [if_neg (by omega)]),(Below.refl _ _).alloc (Nat.le_refl _) _⟩
theorem meth_round (d : Bool) (v : Int) (A : Option Addr) (n c : Nat) (w : World) : (method 437 218 (.agg #[.bool d, .int .i64 v, .slice A n c]) "geofence/fence.size").run Tryz.prog w = .ok (291, .agg #[.bool d, .int .i64 v, .slice A n c]) w := by kernel_rfl
theorem meth_convex (d : Bool) (v : Int) (A : Option Addr) (n c : Nat) (w : World) : (method 437 219 (.agg #[.bool d, .int .i64 v, .slice A n c]) "geofence/fence.size").run Tryz.prog w = .ok (298, .agg #[.bool d, .int .i64 v, .slice A n c]) w := by kernel_rfl
theorem size_any (d:Bool) (v:Int) (A:Option Addr) (n c:Nat) (w:World) :
 Calls Tryz.prog 86 #[.agg #[.bool d,.int .i64 v,.slice A n c]] w fun e w'=>e=.returned (.int .i64 (sizeOfReg v))∧Below w.heap.size w w':=by
 have hmr:=meth_round
 have hmc:=meth_convex
 go_enter Tryz.func86,Tryz.ntmps86
 by_cases h0:v=0
 · subst h0
   go_wp2_with fail
   refine (shapeOf_zero _ _ _ _ _).mono ?_
   rintro e w1 ⟨rfl,hb⟩
   go_wp2_with fail
   refine (roundSize _ _ _ _ _ _).mono ?_
   rintro e w2 ⟨rfl,hb2⟩
   go_wp2
   go_ret
   exact ⟨rfl,((Below.refl _ _).alloc (Nat.le_refl _) _).trans ((hb.mono (by simp)).trans (hb2.mono (by have:=hb.size;simp at this;omega)))⟩
 · have hv:(v == 0)=false:=by simpa using h0
   go_wp2_with fail
   refine (shapeOf_other _ _ hv _ _ _ _).mono ?_
   rintro e w1 ⟨rfl,hb⟩
   go_wp2_with fail
   refine (convexSize _ _ _ _ _ _ h0).mono ?_
   rintro e w2 ⟨rfl,hb2⟩
   go_wp2
   go_ret
   exact ⟨rfl,((Below.refl _ _).alloc (Nat.le_refl _) _).trans ((hb.mono (by simp)).trans (hb2.mono (by have:=hb.size;simp at this;omega)))⟩
end
section
open Go.RowKit
def RgPred (K:FuncId) (p:Rg→Bool):Prop:=∀ (r:Rg) (w:World),Calls Tryz.prog K #[.agg #[.bool r.d,.int .i64 r.v,.slice r.A r.n r.c]] w fun e w'=>e=.returned (.bool (p r))∧Below w.heap.size w w'
def Enters (K:FuncId):Prop:=∀ (a:Array Value) (w:World),(callFunc K a).run Tryz.prog w=.ok (.enter K a) w
def FoundAt (rs:List Rg) (p:Rg→Bool) (w:World) (e:Ending) (w':World):Prop:=∃ k:Int,e=.returned (.int .i64 k)∧decide (0≤k)=rs.any p∧Below w.heap.size w w'
theorem indexFunc_any (K:FuncId) (hK:Enters K) (p:Rg→Bool) (hp:RgPred K p) (A:Option Addr) (c:Nat) (rs:List Rg) (w:World) (hs:Sl w w.heap.size A (rgCells rs)) (hn:rs.length≤maxLen) :
 Calls Tryz.prog 128 #[.slice A rs.length c,.func (.func K) #[] #[]] w (FoundAt rs p w):=by
 unfold maxLen at hn
 unfold Enters at hK
 go_enter Tryz.func128,Tryz.ntmps128
 go_wp2
 go_loopw [5,8] (fun _ i wr=>∃ k:Nat,k≤rs.length∧i=.int .i64 k∧Below w.heap.size w wr∧(rs.take k).any p=false)
  (fun _ i _=>rs.length - (intOf i).toNat)
 case atStart=>exact ⟨0,by omega,rfl,Below.refl _ _,by simp⟩
 case round =>
  obtain ⟨k,hk,rfl,hb,hany⟩:=hrel
  by_cases hlt:k<rs.length
  · obtain ⟨r,hr⟩:∃ r,rs[k]?=some r:=⟨_,List.getElem?_eq_getElem hlt⟩
    obtain ⟨b,off,rfl,hB,c0,c1,c2⟩:=(hs.below hb).rg hr
    have HR:=hide hr;clear hr
    have HA:=hide hany;clear hany
    go_wp2_with fail
    refine (hp r _).mono ?_
    rintro e w1 ⟨rfl,hb1⟩
    obtain ⟨q,hq⟩:∃ q,q=p r:=⟨_,rfl⟩
    rw [← hq]
    have HQ:=hide hq;clear hq
    cases q
    · go_wp2
      go_roundw
      case rel=>exact ⟨k+1,by omega,by go_num,hb.trans (hb1.mono hb.size),by rw [any_take_succ _ _ _ _ HR.out,HA.out,← HQ.out];rfl⟩
      case measure=>simp [intOf];omega
    · go_wp2
      go_ret
      exact ⟨k,rfl,by rw [any_of_get _ _ _ _ HR.out HQ.out.symm];simp,hb.trans (hb1.mono hb.size)⟩
  · have hk':k=rs.length:=by omega
    go_wp2
    go_ret
    exact ⟨-1,rfl,by rw [hk',List.take_length] at hany;rw [hany];rfl,hb⟩
theorem containsFunc_any (K:FuncId) (hK:Enters K) (p:Rg→Bool) (hp:RgPred K p) (A:Option Addr) (c:Nat) (rs:List Rg) (w:World) (hs:Sl w w.heap.size A (rgCells rs)) (hn:rs.length≤maxLen) :
 Calls Tryz.prog 84 #[.slice A rs.length c,.func (.func K) #[] #[]] w fun e w'=>e=.returned (.bool (rs.any p))∧Below w.heap.size w w':=by
 have HP:=hide hp;clear hp
 go_enter Tryz.func84,Tryz.ntmps84
 go_wp2_with fail
 refine (indexFunc_any K hK p HP.out A c rs w hs hn).mono ?_
 rintro e w1 ⟨k,rfl,hk,hb⟩
 have HK:=hide hk;clear hk
 go_wp2
 go_ret
 exact ⟨ret_bool HK.out,hb⟩
theorem containsFunc_n (K:FuncId) (hK:Enters K) (p:Rg→Bool) (hp:RgPred K p) (A:Option Addr) (c n:Nat) (rs:List Rg) (hnl:n=rs.length) (w:World) (hs:Sl w w.heap.size A (rgCells rs)) (hn:rs.length≤maxLen) :
 Calls Tryz.prog 84 #[.slice A n c,.func (.func K) #[] #[]] w fun e w'=>e=.returned (.bool (rs.any p))∧Below w.heap.size w w':=by
 subst hnl;exact containsFunc_any K hK p hp A c rs w hs hn
end
section
open Go.RowKit
def wrongRg (r:Rg):Bool:=sizeOfReg r.v == 0
def fullRg (r:Rg):Bool:=decide (0<r.n)
theorem check1_pred:RgPred 116 wrongRg:=by
 intro r w
 go_enter Tryz.func116,Tryz.ntmps116
 go_wp2_with fail
 refine (size_any _ _ _ _ _ _).mono ?_
 rintro e w1 ⟨rfl,hb⟩
 go_wp2
 go_ret
 exact ⟨rfl,((Below.refl _ _).alloc (Nat.le_refl _) _).trans (hb.mono (by simp))⟩
theorem check2_pred:RgPred 117 fullRg:=by
 intro r w
 go_enter Tryz.func117,Tryz.ntmps117
 go_wp2
 go_ret
 exact ⟨rfl,((Below.refl _ _).alloc (Nat.le_refl _) _)⟩
theorem check1_enters:Enters 116:=fun _ _=>by kernel_rfl
theorem check2_enters:Enters 117:=fun _ _=>by kernel_rfl
def hcheckB (op vs n pts:Int) (q1 q2:Bool):Int :=
 if op<1∨5<op then 5
 else if op=3∧(vs<3∨64<vs) then 6
 else if (op=4∨op=5)∧(n<1∨64<n) then 6
 else bif decide (op=4∨op=5) && q1 then 7
 else if op=5∧(pts<1∨4096<pts) then 6
 else if (op≠3∧vs≠0)∨(op<4∧0<n)∨(op≠5∧pts≠0) then 2
 else bif q2 then 2 else 0
def hcheck (op vs:Int) (rs:List Rg) (pts:Int):Int:=hcheckB op vs rs.length pts (rs.any wrongRg) (rs.any fullRg)
theorem hcheckB_zero {op vs n pts:Int} {q1 q2:Bool} (h:hcheckB op vs n pts q1 q2=0) (h0:0≤n) :
 1≤op∧op≤5∧(op=3→3≤vs∧vs≤64)∧(op≠3→vs=0)∧(4≤op→1≤n∧n≤64∧q1=false)∧(op<4→n=0)∧(op=5→1≤pts∧pts≤4096)∧(op≠5→pts=0)∧q2=false:=by
 unfold hcheckB at h
 by_cases h1:op<1∨5<op
 · rw [if_pos h1] at h;omega
 rw [if_neg h1] at h
 by_cases h2:op=3∧(vs<3∨64<vs)
 · rw [if_pos h2] at h;omega
 rw [if_neg h2] at h
 by_cases h3:(op=4∨op=5)∧(n<1∨64<n)
 · rw [if_pos h3] at h;omega
 rw [if_neg h3] at h
 by_cases h4:(decide (op=4∨op=5) && q1)=true
 · rw [h4,cond_true] at h;omega
 rw [Bool.not_eq_true] at h4
 rw [h4,cond_false] at h
 by_cases h5:op=5∧(pts<1∨4096<pts)
 · rw [if_pos h5] at h;omega
 rw [if_neg h5] at h
 by_cases h6:(op≠3∧vs≠0)∨(op<4∧0<n)∨(op≠5∧pts≠0)
 · rw [if_pos h6] at h;omega
 rw [if_neg h6] at h
 cases q2
 · refine ⟨by omega,by omega,by omega,by omega,fun h7=>⟨by omega,by omega,?_⟩,by omega,by omega,by omega,rfl⟩
   have:decide (op=4∨op=5)=true:=by rw [decide_eq_true_eq];omega
   rw [this] at h4;simpa using h4
 · rw [cond_true] at h;omega
section
variable (vs:Int) (rs:List Rg) (A:Option Addr) (c:Nat) (pts:Int) (w:World)
theorem check_bad (op:Int) (hop:op<1∨5<op) :
 Calls Tryz.prog 67 #[.agg #[.int .i64 op,.int .i64 vs,.slice A rs.length c,.int .i64 pts]] w fun e w'=>e=.returned (.int .i64 (hcheck op vs rs pts))∧Below w.heap.size w w':=by
 have h3:(op == 3)=false:=by simp;omega
 have h4:(op == 4)=false:=by simp;omega
 have h5:(op == 5)=false:=by simp;omega
 have hsp:hcheck op vs rs pts=5:=by unfold hcheck hcheckB;rw [if_pos hop]
 rw [hsp]
 rcases hop with hop | hop
 all_goals
  go_enter Tryz.func67,Tryz.ntmps67
  go_wp2
  go_quiet (fail)
  go_wp2
  go_ret
  exact ⟨rfl,bl_drewN (bl_alloc (Below.refl _ _) _) _⟩
variable (hs:Sl w w.heap.size A (rgCells rs)) (hn:rs.length≤maxLen)
include hs hn
theorem contains1 (w1:World) (hb:Below w.heap.size w w1):Calls Tryz.prog 84 #[.slice A rs.length c,.func (.func 116) #[] #[]] w1 fun e w'=>e=.returned (.bool (rs.any wrongRg))∧Below w1.heap.size w1 w' :=
 containsFunc_any _ check1_enters _ check1_pred A c rs w1 ((hs.below hb).more hb.size) hn
theorem contains2 (w1:World) (hb:Below w.heap.size w w1):Calls Tryz.prog 84 #[.slice A rs.length c,.func (.func 117) #[] #[]] w1 fun e w'=>e=.returned (.bool (rs.any fullRg))∧Below w1.heap.size w1 w' :=
 containsFunc_any _ check2_enters _ check2_pred A c rs w1 ((hs.below hb).more hb.size) hn
theorem check_12 (op:Int) (hop:op=1∨op=2) :
 Calls Tryz.prog 67 #[.agg #[.int .i64 op,.int .i64 vs,.slice A rs.length c,.int .i64 pts]] w fun e w'=>e=.returned (.int .i64 (hcheck op vs rs pts))∧Below w.heap.size w w':=by
 rcases hop with rfl | rfl
 all_goals
  go_enter Tryz.func67,Tryz.ntmps67
  go_wp2
  go_quiet (fail)
  go_wp2_with fail
  all_goals first
   | done
   | (refine (contains2 rs A c w hs hn _ (bl_drewN (bl_alloc (Below.refl _ _) _) _)).mono ?_
      rintro e w1 ⟨rfl,hb1⟩
      generalize hq:rs.any fullRg=q
      have HQ:=hide hq;clear hq
      cases q <;> go_wp2)
   | skip
  all_goals
   go_ret
   first | (have h:(vs != 0)=true:=by assumption
            have hv:vs≠0:=by simpa using h) | (have h:(vs != 0)=false:=by assumption
                                               have hv:vs=0:=by simpa using h) | skip
   first | (have h:(pts != 0)=true:=by assumption
            have hpt:pts≠0:=by simpa using h) | (have h:(pts != 0)=false:=by assumption
                                                 have hpt:pts=0:=by simpa using h) | skip
   refine ⟨ret_int ?_,?_⟩
   · unfold hcheck hcheckB
     try rw [HQ1.out]
     try rw [HQ.out]
     repeat first | rw [if_neg (by omega)] | rw [if_pos (by omega)] | rw [cond_true] | rw [cond_false] | rw [decide_eq_true (by omega),Bool.true_and] | rw [decide_eq_false (by omega),Bool.false_and]
   · repeat first | exact Below.refl _ _ | exact bl_step (bl_drewN (bl_alloc (Below.refl _ _) _) _) hb1 | refine bl_drewN ?_ _ | refine bl_alloc ?_ _
theorem check_3 :
 Calls Tryz.prog 67 #[.agg #[.int .i64 3,.int .i64 vs,.slice A rs.length c,.int .i64 pts]] w fun e w'=>e=.returned (.int .i64 (hcheck 3 vs rs pts))∧Below w.heap.size w w':=by
 go_enter Tryz.func67,Tryz.ntmps67
 go_wp2
 go_quiet (fail)
 all_goals
  go_wp2_with fail
  all_goals first
   | done
   | (refine (contains2 rs A c w hs hn _ (bl_drewN (bl_alloc (Below.refl _ _) _) _)).mono ?_
      rintro e w1 ⟨rfl,hb1⟩
      generalize hq:rs.any fullRg=q
      have HQ:=hide hq;clear hq
      cases q <;> go_wp2)
   | skip
  all_goals
   go_ret
   first | (have h:(vs != 0)=true:=by assumption
            have hv:vs≠0:=by simpa using h) | (have h:(vs != 0)=false:=by assumption
                                               have hv:vs=0:=by simpa using h) | skip
   first | (have h:(pts != 0)=true:=by assumption
            have hpt:pts≠0:=by simpa using h) | (have h:(pts != 0)=false:=by assumption
                                                 have hpt:pts=0:=by simpa using h) | skip
   refine ⟨ret_int ?_,?_⟩
   · unfold hcheck hcheckB
     try rw [HQ1.out]
     try rw [HQ.out]
     repeat first | rw [if_neg (by omega)] | rw [if_pos (by omega)] | rw [cond_true] | rw [cond_false] | rw [decide_eq_true (by omega),Bool.true_and] | rw [decide_eq_false (by omega),Bool.false_and]
   · repeat first | exact Below.refl _ _ | exact bl_step (bl_drewN (bl_alloc (Below.refl _ _) _) _) hb1 | refine bl_drewN ?_ _ | refine bl_alloc ?_ _
theorem check_45 (op:Int) (hop:op=4∨op=5) :
 Calls Tryz.prog 67 #[.agg #[.int .i64 op,.int .i64 vs,.slice A rs.length c,.int .i64 pts]] w fun e w'=>e=.returned (.int .i64 (hcheck op vs rs pts))∧Below w.heap.size w w':=by
 rcases hop with rfl | rfl
 all_goals
  go_enter Tryz.func67,Tryz.ntmps67
  go_wp2
  go_quiet (fail)
 all_goals
  go_wp2_with fail
  all_goals first
   | done
   | (refine (contains1 rs A c w hs hn _ (bl_drewN (bl_alloc (Below.refl _ _) _) _)).mono ?_
      rintro e w1 ⟨rfl,hb1⟩
      obtain ⟨hcl,hfr⟩:=bcell hb1
      generalize hq1:rs.any wrongRg=q1
      have HQ1:=hide hq1;clear hq1
      cases q1 <;> go_wp2_with fail)
   | skip
  all_goals first
   | done
   | (refine (contains2 rs A c w hs hn _ (bl_step (bl_drewN (bl_alloc (Below.refl _ _) _) _) hb1)).mono ?_
      rintro e w2 ⟨rfl,hb2⟩
      generalize hq:rs.any fullRg=q
      have HQ:=hide hq;clear hq
      cases q <;> go_wp2)
   | skip
  all_goals
   go_ret
   first | (have h:(vs != 0)=true:=by assumption
            have hv:vs≠0:=by simpa using h) | (have h:(vs != 0)=false:=by assumption
                                               have hv:vs=0:=by simpa using h) | skip
   first | (have h:(pts != 0)=true:=by assumption
            have hpt:pts≠0:=by simpa using h) | (have h:(pts != 0)=false:=by assumption
                                                 have hpt:pts=0:=by simpa using h) | skip
   refine ⟨ret_int ?_,?_⟩
   · unfold hcheck hcheckB
     try rw [HQ1.out]
     try rw [HQ.out]
     repeat first | rw [if_neg (by omega)] | rw [if_pos (by omega)] | rw [cond_true] | rw [cond_false] | rw [decide_eq_true (by omega),Bool.true_and] | rw [decide_eq_false (by omega),Bool.false_and]
   · repeat first | exact Below.refl _ _ | exact bl_step (bl_step (bl_drewN (bl_alloc (Below.refl _ _) _) _) hb1) hb2 | exact bl_step (bl_drewN (bl_alloc (Below.refl _ _) _) _) hb1 | refine bl_drewN ?_ _ | refine bl_alloc ?_ _
theorem check_any (op:Int) :
 Calls Tryz.prog 67 #[.agg #[.int .i64 op,.int .i64 vs,.slice A rs.length c,.int .i64 pts]] w fun e w'=>e=.returned (.int .i64 (hcheck op vs rs pts))∧Below w.heap.size w w':=by
 by_cases h0:op<1∨5<op
 · exact check_bad vs rs A c pts w op h0
 by_cases h1:op=1∨op=2
 · exact check_12 vs rs A c pts w hs hn op h1
 by_cases h3:op=3
 · subst h3;exact check_3 vs rs A c pts w hs hn
 · exact check_45 vs rs A c pts w hs hn op (by omega)
end
theorem hcheck_zero {op vs:Int} {rs:List Rg} {pts:Int} (h:hcheck op vs rs pts=0) :
 1≤op∧op≤5∧(op=3→3≤vs∧vs≤64)∧(op≠3→vs=0)∧(4≤op→1≤rs.length∧rs.length≤64∧rs.any wrongRg=false)∧(op<4→rs=[])∧(op=5→1≤pts∧pts≤4096)∧(op≠5→pts=0)∧rs.any fullRg=false:=by
 obtain ⟨a,b,c,d,e,f,g,i,j⟩:=hcheckB_zero h (by omega)
 exact ⟨a,b,c,d,fun h=>⟨by have:=e h;omega,by have:=e h;omega,(e h).2.2⟩,fun h=>List.eq_nil_of_length_eq_zero (by have:=f h;omega),g,i,j⟩
end
section
open Go.RowKit
def AtLabel (P:Program) (rest:Code) (Q:Exit→Act→World→Prop) (a:Act) (w:World):Prop:=rest.wp P (Exit.noGoto Q) a w
theorem wp_scope_fwd {P:Program} {c rest:Code} {Q:Exit→Act→World→Prop} {a:Act} {w:World} (l:Nat) (hf:findLabel c l=some rest)
 (first:c.wp P (Exit.jump l (AtLabel P rest Q) Q) a w):(Code.scope c).wp P Q a w :=
 wp_scope_jumps l (AtLabel P rest Q) (fun _ _=>0) hf first (fun _ _ hJ=>wp_mono hJ (fun e _ _ q=>by cases e <;> first | exact q | exact q.elim))
theorem jump_goto {l:Nat} {J:Act→World→Prop} {Q:Exit→Act→World→Prop} {a:Act} {w:World} (h:J a w):Exit.jump l J Q (.goto l) a w:=⟨rfl,h⟩
theorem jump_ret {l:Nat} {J:Act→World→Prop} {Q:Exit→Act→World→Prop} {a:Act} {w:World}:Exit.jump l J Q .ret a w=Q .ret a w:=rfl
theorem jump_normal {l:Nat} {J:Act→World→Prop} {Q:Exit→Act→World→Prop} {a:Act} {w:World}:Exit.jump l J Q .normal a w=Q .normal a w:=rfl
theorem jump_exit {l i:Nat} {J:Act→World→Prop} {Q:Exit→Act→World→Prop} {a:Act} {w:World}:Exit.jump l J Q (.exit i) a w=Q (.exit i) a w:=rfl
theorem jump_panic {l:Nat} {ch:List PanicEntry} {J:Act→World→Prop} {Q:Exit→Act→World→Prop} {a:Act} {w:World}:Exit.jump l J Q (.panic ch) a w=Q (.panic ch) a w:=rfl
attribute [go_sem] jump_ret jump_normal jump_exit jump_panic
def byCells (bs:List Int):List Value:=bs.map (Value.int .u8)
theorem byCells_length (bs:List Int):(byCells bs).length=bs.length:=by simp [byCells]
theorem Sl.by_ {w:World} {B:Nat} {A:Option Addr} {bs:List Int} (h:Sl w B A (byCells bs)) (hn:0<bs.length) :
 ∃ b off,A=some ⟨b,off,none⟩∧b<B∧∀ j x,bs[j]?=some x→w.cell? ⟨b,off+j,none⟩=some (.int .u8 x):=by
 obtain ⟨b,off,hA,hB,hc⟩:=h.open_ (by rw [byCells_length];exact hn)
 exact ⟨b,off,hA,hB,fun j x hx=>hc j _ (by simp [byCells,hx])⟩
end
section
open Go.RowKit
def Rg.key (r:Rg):Bool × Int × Nat:=(r.d,r.v,r.n)
end
section
open Go.RowKit
def dval:List Nat→Nat
 | []=>0
 | d::l=>d+65536*dval l
def dOk (l:List Nat):Prop:=∀ d∈l,d<65536
theorem dOk.at_ {l:List Nat} (h:dOk l) {i d:Nat} (hi:l[i]?=some d):d<65536:=h d (List.mem_of_getElem? hi)
theorem dOk.take {l:List Nat} (h:dOk l) (n:Nat):dOk (l.take n):=fun d hd=>h d (List.mem_of_mem_take hd)
theorem dOk.snoc {l:List Nat} (h:dOk l) {d:Nat} (hd:d<65536):dOk (l++[d]):=fun x hx=>by
 rcases List.mem_append.1 hx with h1 | h1
 · exact h x h1
 · rw [List.mem_singleton.1 h1];exact hd
theorem dval_app:∀ (a b:List Nat),dval (a++b)=dval a+65536 ^ a.length*dval b
 | [],b=>by simp [dval]
 | d::a,b=>by
   rw [List.cons_append,dval,dval,dval_app a b,List.length_cons,Nat.pow_succ,Nat.mul_add,Nat.add_assoc,Nat.mul_comm (65536 ^ a.length) 65536,Nat.mul_assoc]
theorem dval_snoc (a:List Nat) (d:Nat):dval (a++[d])=dval a+65536 ^ a.length*d:=by rw [dval_app];simp [dval]
theorem dval_take {l:List Nat} {i d:Nat} (h:l[i]?=some d):dval (l.take (i+1))=dval (l.take i)+65536 ^ i*d:=by
 have hi:i<l.length:=(List.getElem?_eq_some_iff.1 h).1
 rw [List.take_add_one,h,Option.toList_some,dval_snoc,List.length_take,Nat.min_eq_left (Nat.le_of_lt hi)]
theorem dval_lt:∀ {l:List Nat},dOk l→dval l<65536 ^ l.length
 | [],_=>by simp [dval]
 | d::l,h=>by
   have h1:=dval_lt (l:=l) fun x hx=>h x (List.mem_cons_of_mem _ hx)
   have h2:=h d (List.mem_cons_self ..)
   rw [dval,List.length_cons,Nat.pow_succ]
   omega
end
section
open Go.RowKit
def dig (l:List Nat) (k:Nat):Nat:=l[k]?.getD 0
theorem dig_lt {l:List Nat} (h:dOk l) (k:Nat):dig l k<65536:=by
 unfold dig
 cases hk:l[k]? with
 | none=>simp
 | some d=>exact h.at_ hk
theorem dval_takeD (l:List Nat) (k:Nat):dval (l.take (k+1))=dval (l.take k)+65536 ^ k*dig l k:=by
 unfold dig
 cases hk:l[k]? with
 | none =>
   have:=List.getElem?_eq_none_iff.1 hk
   rw [List.take_of_length_le (by omega),List.take_of_length_le (by omega)];simp
 | some d=>exact dval_take hk
def AddD (a b:List Nat) (k c:Nat) (o:List Nat):Prop :=
 o.length=k∧dOk o∧c≤1∧dval o+65536 ^ k*c=dval (a.take k)+dval (b.take k)∧k≤max a.length b.length+1∧(k=max a.length b.length+1→c=0)
theorem AddD.step {a b o:List Nat} {k c:Nat} (ha:dOk a) (hb:dOk b) (h:AddD a b k c o) (hk:k<a.length∨k<b.length∨0<c) :
 AddD a b (k+1) ((dig a k+dig b k+c) / 65536) (o++[(dig a k+dig b k+c) % 65536]):=by
 obtain ⟨h1,h2,h3,h4,h5,h6⟩:=h
 have x1:=dig_lt ha k
 have x2:=dig_lt hb k
 have hk':k≤max a.length b.length:=by
  rcases Nat.lt_or_ge k (max a.length b.length+1) with h | h
  · omega
  · have:k=max a.length b.length+1:=by omega
    have:=h6 this
    omega
 refine ⟨by simp [h1],h2.snoc (by omega),by omega,?_,by omega,fun he=>?_⟩
 · rw [dval_snoc,h1,dval_takeD,dval_takeD,Nat.pow_succ]
   have e:=Nat.div_add_mod (dig a k+dig b k+c) 65536
   have e2:65536 ^ k*((dig a k+dig b k+c) % 65536)+65536 ^ k*65536*((dig a k+dig b k+c) / 65536)=65536 ^ k*dig a k+65536 ^ k*dig b k+65536 ^ k*c:=by
    rw [Nat.mul_assoc,← Nat.mul_add,Nat.add_comm ((dig a k+dig b k+c) % 65536),e,Nat.mul_add,Nat.mul_add]
   omega
 · have ea:dig a k=0:=by unfold dig;rw [List.getElem?_eq_none (by omega)];rfl
   have eb:dig b k=0:=by unfold dig;rw [List.getElem?_eq_none (by omega)];rfl
   rw [ea,eb];omega
theorem AddD.done {a b o:List Nat} {k c:Nat} (h:AddD a b k c o) (hk:¬ (k<a.length∨k<b.length∨0<c)):dOk o∧dval o=dval a+dval b∧o.length≤max a.length b.length+1:=by
 obtain ⟨h1,h2,h3,h4,h5,h6⟩:=h
 rw [List.take_of_length_le (by omega),List.take_of_length_le (by omega),show c=0 by omega] at h4
 exact ⟨h2,by simpa using h4,by omega⟩
def SubD (a b:List Nat) (k c:Nat) (o:List Nat):Prop :=
 o.length=k∧dOk o∧c≤1∧dval o+dval (b.take k)=dval (a.take k)+65536 ^ k*c
theorem SubD.keep {a b o:List Nat} {k c x:Nat} (h:SubD a b k c o) (ha:dOk a) (hx:a[k]?=some x) (hs:dig b k+c≤x) :
 SubD a b (k+1) 0 (o++[x - dig b k - c]):=by
 obtain ⟨h1,h2,h3,h4⟩:=h
 have x1:=ha.at_ hx
 refine ⟨by simp [h1],h2.snoc (by omega),by omega,?_⟩
 rw [dval_snoc,h1,dval_takeD,dval_take hx]
 have e:65536 ^ k*(x - dig b k - c)+65536 ^ k*dig b k+65536 ^ k*c=65536 ^ k*x:=by
  rw [← Nat.mul_add,← Nat.mul_add,show x - dig b k - c+dig b k+c=x by omega]
 omega
theorem SubD.done {a b o:List Nat} {c:Nat} (h:SubD a b a.length c o) (hl:b.length≤a.length) (hv:dval b≤dval a):dOk o∧dval o=dval a - dval b∧o.length=a.length:=by
 obtain ⟨h1,h2,h3,h4⟩:=h
 rw [List.take_length,List.take_of_length_le hl] at h4
 have hlt:=dval_lt h2
 rw [h1] at hlt
 have hc:c=0:=by
  rcases Nat.lt_or_ge 0 c with h | h
  · have:c=1:=by omega
    subst this
    omega
  · omega
 subst hc
 exact ⟨h2,by omega,h1⟩
theorem dval_set {l:List Nat} {i x y:Nat} (h:l[i]?=some x):dval (l.set i y)+65536 ^ i*x=dval l+65536 ^ i*y:=by
 induction l generalizing i with
 | nil=>simp at h
 | cons d l ih =>
   cases i with
   | zero=>simp at h;subst h;simp [dval];omega
   | succ i =>
     have h':=ih (i:=i) (by simpa using h)
     rw [List.set_cons_succ,dval,dval,Nat.pow_succ]
     have e1:65536 ^ i*65536*x=65536*(65536 ^ i*x):=by rw [Nat.mul_comm (65536 ^ i) 65536,Nat.mul_assoc]
     have e2:65536 ^ i*65536*y=65536*(65536 ^ i*y):=by rw [Nat.mul_comm (65536 ^ i) 65536,Nat.mul_assoc]
     omega
theorem dOk_set {l:List Nat} (h:dOk l) (i:Nat) {y:Nat} (hy:y<65536):dOk (l.set i y):=fun d hd=>by
 rcases List.mem_or_eq_of_mem_set hd with h1 | h1
 · exact h d h1
 · omega
def zeroFrom (l:List Nat) (k:Nat):Prop:=∀ i,k≤i→i<l.length→l[i]?=some 0
def MulO (a b:List Nat) (k:Nat) (o:List Nat):Prop :=
 o.length=a.length+b.length∧dOk o∧dval o=dval (a.take k)*dval b∧zeroFrom o (k+b.length)
def MulI (o0 b:List Nat) (x k j c:Nat) (o:List Nat):Prop :=
 o.length=o0.length∧dOk o∧c<65536∧dval o+65536 ^ (k+j)*c=dval o0+65536 ^ k*(x*dval (b.take j))∧(∀ i,k+j≤i→o[i]?=o0[i]?)
theorem MulI.step {o0 b o:List Nat} {x k j c y z:Nat} (h:MulI o0 b x k j c o) (hx:x<65536) (hy:y<65536) (hb:b[j]?=some y) (ho:o[k+j]?=some z) :
 MulI o0 b x k (j+1) ((z+x*y+c) / 65536) (o.set (k+j) ((z+x*y+c) % 65536)):=by
 obtain ⟨h1,h2,h3,h4,h5⟩:=h
 have hz:=h2.at_ ho
 have hxy:x*y≤65535*65535:=Nat.mul_le_mul (by omega) (by omega)
 refine ⟨by simp [h1],dOk_set h2 _ (by omega),by omega,?_,fun i hi=>?_⟩
 · have e:=dval_set (y:=(z+x*y+c) % 65536) ho
   rw [dval_take hb,Nat.mul_add,Nat.mul_add,show k+(j+1)=(k+j)+1 by omega,Nat.pow_succ]
   have e2:=Nat.div_add_mod (z+x*y+c) 65536
   have e3:65536 ^ (k+j)*((z+x*y+c) % 65536)+65536 ^ (k+j)*65536*((z+x*y+c) / 65536)=65536 ^ (k+j)*z+65536 ^ (k+j)*(x*y)+65536 ^ (k+j)*c:=by
    rw [Nat.mul_assoc,← Nat.mul_add,Nat.add_comm ((z+x*y+c) % 65536),e2,Nat.mul_add,Nat.mul_add]
   have e4:65536 ^ k*(x*(65536 ^ j*y))=65536 ^ (k+j)*(x*y):=by
    rw [Nat.pow_add,Nat.mul_assoc,← Nat.mul_assoc x,Nat.mul_comm x,Nat.mul_assoc]
   omega
 · rw [List.getElem?_set_ne (by omega)]
   exact h5 i (by omega)
theorem MulO.step {a b o o2:List Nat} {x k c:Nat} (h:MulO a b k o) (ha:a[k]?=some x) (h2:MulI o b x k b.length c o2) :
 o2[k+b.length]?=some 0∧MulO a b (k+1) (o2.set (k+b.length) c):=by
 obtain ⟨h1,h3,h4,h5⟩:=h
 obtain ⟨i1,i2,i3,i4,i5⟩:=h2
 have hk:k<a.length:=(List.getElem?_eq_some_iff.1 ha).1
 have hz:o2[k+b.length]?=some 0:=by rw [i5 _ (Nat.le_refl _)];exact h5 _ (Nat.le_refl _) (by omega)
 refine ⟨hz,by simp [i1,h1],dOk_set i2 _ i3,?_,fun i hi hl=>?_⟩
 · have e:=dval_set (y:=c) hz
   rw [List.take_length] at i4
   rw [dval_take ha,Nat.add_mul,← h4,Nat.mul_assoc]
   omega
 · rw [List.getElem?_set_ne (by omega),i5 i (by omega)]
   exact h5 i (by omega) (by simp at hl;omega)
theorem MulO.done {a b o:List Nat} (h:MulO a b a.length o):dOk o∧dval o=dval a*dval b∧o.length=a.length+b.length:=by
 obtain ⟨h1,h3,h4,h5⟩:=h
 rw [List.take_length] at h4
 exact ⟨h3,h4,h1⟩
def SlN (w:World) (P:Nat→Prop) (A:Option Addr) (xs:List Value):Prop :=
 xs=[]∨∃ b off,A=some ⟨b,off,none⟩∧P b∧∀ j u,xs[j]?=some u→w.cell? ⟨b,off+j,none⟩=some u
section
variable {w w':World} {P R:Nat→Prop} {A:Option Addr} {xs:List Value}
theorem SlN.sl {B:Nat} (h:SlN w P A xs) (hP:∀ k,P k→k<B):Sl w B A xs:=by
 rcases h with h | ⟨b,off,hA,hb,hc⟩
 · exact .inl h
 · exact .inr ⟨b,off,hA,hP _ hb,hc⟩
theorem SlN.mono (h:SlN w P A xs) (hR:∀ k,P k→R k):SlN w R A xs:=by
 rcases h with h | ⟨b,off,hA,hb,hc⟩
 · exact .inl h
 · exact .inr ⟨b,off,hA,hR _ hb,hc⟩
theorem SlN.at_ (h:SlN w P A xs) (hk:∀ b,P b→b<w.heap.size→w'.heap[b]?=w.heap[b]?):SlN w' P A xs:=by
 rcases h with h | ⟨b,off,hA,hb,hc⟩
 · exact .inl h
 · by_cases hx:xs=[]
   · exact .inl hx
   · refine .inr ⟨b,off,hA,hb,fun j u hu=>?_⟩
     obtain ⟨x,xs',rfl⟩:=List.exists_cons_of_ne_nil hx
     have h0:=hc 0 x rfl
     exact (World.cell?_of_block (hk b hb (cell_lt h0))).trans (hc j u hu)
theorem SlN.below (h:SlN w P A xs) (hb:Below w.heap.size w w'):SlN w' P A xs:=h.at_ fun b _ hl=>hb.block b hl
theorem SlN.lt (h:SlN w P A xs):SlN w (fun k=>P k∧k<w.heap.size) A xs:=by
 rcases h with h | ⟨b,off,hA,hb,hc⟩
 · exact .inl h
 · by_cases hx:xs=[]
   · exact .inl hx
   · obtain ⟨x,xs',rfl⟩:=List.exists_cons_of_ne_nil hx
     exact .inr ⟨b,off,hA,⟨hb,cell_lt (hc 0 x rfl)⟩,hc⟩
theorem SlN.any (h:SlN w P A xs):Sl w w.heap.size A xs:=h.lt.sl fun _ hk=>hk.2
theorem SlN.take (h:SlN w P A xs) (k:Nat):SlN w P A (xs.take k):=by
 rcases h with h | ⟨b,off,hA,hB,hc⟩
 · exact .inl (by simp [h])
 · exact .inr ⟨b,off,hA,hB,fun j u hu=>by
    rw [List.getElem?_take] at hu
    split at hu
    · exact hc j u hu
    · cases hu⟩
end
end
section
open Go.RowKit
def msk (c:Bool):Int:=bif c then 18446744073709551615 else 0
def MWords (w:World):Prop:=w.cell? ⟨3,0,none⟩=some (.int .u64 9223372036854775808)∧w.cell? ⟨3,1,none⟩=some (.int .u64 18446744073709551615)
def sgnM (n z:Bool):Int:=bif n then -1 else bif z then 0 else 1
end
section
def sweepC (k j i:Nat):Option (Nat × Nat):=if i / j % 2=1 then none else if i / k % 2=1 then some (i+j,i) else some (i,i+j)
def sweep (n k j:Nat):List (Nat × Nat):=(List.range n).filterMap (sweepC k j)
def merges (n k:Nat):Nat→List (Nat × Nat)
 | 0=>[]
 | b+1=>sweep n k (2 ^ b)++merges n k b
def rounds (n s:Nat):Nat→List (Nat × Nat)
 | 0=>[]
 | r+1=>merges n (2 ^ (s+1)) (s+1)++rounds n (s+1) r
def netw (m:Nat):List (Nat × Nat):=rounds (2 ^ m) 0 m
theorem div_par {j i:Nat} (hj:0<j):i / j % 2=0 ↔ i % (2*j)<j:=by
 have h1:=Nat.div_add_mod i j
 have h2:=Nat.mod_lt i hj
 have h3:i % (2*j)=i % j+j*(i / j % 2):=by rw [Nat.mul_comm 2 j,Nat.mod_mul]
 rcases Nat.mod_two_eq_zero_or_one (i / j) with h | h <;> rw [h3,h] <;> simp <;> omega
theorem odd_sub {j i:Nat} (hj:0<j) (h:i / j % 2=1):j≤i∧(i - j) / j % 2=0:=by
 have h1:j≤i:=by
  rcases Nat.lt_or_ge i j with h2 | h2
  · rw [Nat.div_eq_of_lt h2] at h;omega
  · exact h2
 obtain ⟨q,rfl⟩:=Nat.exists_eq_add_of_le h1
 rw [Nat.add_comm j q,Nat.add_div_right q hj] at h
 refine ⟨h1,?_⟩
 rw [Nat.add_comm j q,Nat.add_sub_cancel];omega
theorem dvd_le {s a b:Nat} (ha:s ∣ a) (hb:s ∣ b) (h:a<b):a+s≤b:=by
 obtain ⟨c,rfl⟩:=ha;obtain ⟨d,rfl⟩:=hb
 have:c<d:=Nat.lt_of_mul_lt_mul_left h
 calc s*c+s=s*(c+1):=by rw [Nat.mul_add,Nat.mul_one]
  _≤s*d:=Nat.mul_le_mul_left _ this
section
variable {α:Type} (key:α→Nat)
def InB (n:Nat) (c:Nat × Nat):Prop:=c.1<n∧c.2<n∧c.1≠c.2
end
theorem sweepC_in {n k j i:Nat} (hj:0<j) (hn:2*j ∣ n) (hi:i<n) {c:Nat × Nat} (h:sweepC k j i=some c):InB n c:=by
 unfold sweepC at h
 by_cases h1:i / j % 2=1
 · rw [if_pos h1] at h;cases h
 · rw [if_neg h1] at h
   have h2:i % (2*j)<j:=(div_par hj).1 (by omega)
   have h3:i+j<n:=by
    have e:=Nat.div_add_mod i (2*j)
    have h4:2*j*(i / (2*j))+2*j≤n:=dvd_le (Nat.dvd_mul_right _ _) hn (by omega)
    omega
   by_cases h5:i / k % 2=1
   · rw [if_pos h5] at h;cases h;exact ⟨h3,hi,by simp;omega⟩
   · rw [if_neg h5] at h;cases h;exact ⟨hi,h3,by simp;omega⟩
theorem sweep_in {n k j:Nat} (hj:0<j) (hn:2*j ∣ n) {c:Nat × Nat} (h:c∈sweep n k j):InB n c:=by
 obtain ⟨i,hi,hc⟩:=List.mem_filterMap.1 h
 exact sweepC_in hj hn (List.mem_range.1 hi) hc
theorem merges_in {n k:Nat} {c:Nat × Nat}:∀ b,2 ^ b ∣ n→c∈merges n k b→InB n c
 | 0,_,h=>by cases h
 | b+1,hn,h=>by
   have e:2 ^ (b+1)=2*2 ^ b:=by rw [Nat.pow_succ,Nat.mul_comm]
   rw [e] at hn
   rcases List.mem_append.1 h with h | h
   · exact sweep_in (Nat.two_pow_pos b) hn h
   · exact merges_in b (Nat.dvd_trans (Nat.dvd_mul_left _ 2) hn) h
theorem rounds_in {n:Nat} {c:Nat × Nat}:∀ r s,2 ^ (s+r) ∣ n→c∈rounds n s r→InB n c
 | 0,s,_,h=>by cases h
 | r+1,s,hn,h=>by
   rcases List.mem_append.1 h with h | h
   · exact merges_in (s+1) (Nat.dvd_trans (Nat.pow_dvd_pow 2 (by omega)) hn) h
   · exact rounds_in r (s+1) (by rw [show s+1+r=s+(r+1) by omega];exact hn) h
theorem netw_in {m:Nat} {c:Nat × Nat} (h:c∈netw m):InB (2 ^ m) c:=rounds_in m 0 (by rw [Nat.zero_add];exact Nat.dvd_refl _) h
section
variable {α:Type} (key:α→Nat)
end
def Cln (r:Int × Int):Prop:=(r.1=1∧0≤r.2∧r.2<18446744073709551616)∨r=(0,0)
end
section
open Go.RowKit
def fcheckL:List Rg→Int
 | []=>0
 | r::rs=>if sizeOfReg r.v=0 then 7 else if sizeOfReg r.v=(r.n:Int) then fcheckL rs else 8
def fcheck (rs:List Rg):Int:=if rs.length<1∨64<rs.length then 6 else fcheckL rs
end
end Go.Proofs.YtfljlmleiggmjaaGreatDoor
