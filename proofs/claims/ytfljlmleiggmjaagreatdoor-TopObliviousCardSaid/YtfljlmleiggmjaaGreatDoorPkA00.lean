/- Words Mask -/
import Derived.BigQuiet
import Derived.Deep.Draws
import Derived.Deep.QuietTactic
import Derived.Deep.RegionWith
import Derived.Laws.BitsAllLaws
import Derived.Test.YtfljlmleiggmjaaGreatDoorRows
import Derived.WalkKit
import Derived.WalkLawsBesides
import Derived.WalkSpells
set_option maxRecDepth 1000000
set_option maxHeartbeats 8000000
namespace Go.Proofs.YtfljlmleiggmjaaGreatDoor
section
open Go.RowKit
def Sl (w:World) (B:Nat) (A:Option Addr) (xs:List Value):Prop :=
 xs=[]∨∃ b off,A=some ⟨b,off,none⟩∧b<B∧∀ j u,xs[j]?=some u→w.cell? ⟨b,off+j,none⟩=some u
theorem Sl.nil (w:World) (B:Nat) (A:Option Addr):Sl w B A []:=.inl rfl
theorem Sl.below {w w':World} {B:Nat} {A:Option Addr} {xs:List Value} (h:Sl w B A xs) (hb:Below B w w'):Sl w' B A xs:=by
 rcases h with h | ⟨b,off,hA,hlt,hc⟩
 · exact .inl h
 · exact .inr ⟨b,off,hA,hlt,fun j u hu=>(hb.cell (p:=⟨b,off+j,none⟩) hlt).trans (hc j u hu)⟩
theorem Sl.more {w:World} {B B':Nat} {A:Option Addr} {xs:List Value} (h:Sl w B A xs) (hB:B≤B'):Sl w B' A xs:=by
 rcases h with h | ⟨b,off,hA,hlt,hc⟩
 · exact .inl h
 · exact .inr ⟨b,off,hA,Nat.lt_of_lt_of_le hlt hB,hc⟩
theorem Sl.drewN {w:World} {B:Nat} {A:Option Addr} {xs:List Value} (h:Sl w B A xs) (k:Nat):Sl (w.drewN k) B A xs:=h
theorem Sl.drew {w:World} {B:Nat} {A:Option Addr} {xs:List Value} (h:Sl w B A xs):Sl w.drew B A xs:=h
theorem Sl.open_ {w:World} {B:Nat} {A:Option Addr} {xs:List Value} (h:Sl w B A xs) (hn:0<xs.length) :
 ∃ b off,A=some ⟨b,off,none⟩∧b<B∧∀ j u,xs[j]?=some u→w.cell? ⟨b,off+j,none⟩=some u:=by
 rcases h with h | h
 · subst h;simp at hn
 · exact h
theorem Sl.mk {w:World} {B b off:Nat} {xs:List Value} (hb:b<B) (hc:∀ j u,xs[j]?=some u→w.cell? ⟨b,off+j,none⟩=some u):Sl w B (some ⟨b,off,none⟩) xs :=
 .inr ⟨b,off,rfl,hb,hc⟩
theorem Sl.of_own {w:World} {base:Nat} {e:TypeId} {size n m c:Nat} {A:Option Addr} {xs:List Value} (h:w.ownsRow base e size (.slice A n c) m xs):Sl w w.heap.size A xs:=by
 obtain ⟨hl,h⟩:=h
 rcases h with ⟨_,h0⟩ | ⟨g,cap,cur,hv,_,hh,hn,_,hcs,ht⟩
 · left;subst h0;exact List.eq_nil_of_length_eq_zero (by simpa using hl)
 · right
   injection hv with hA
   have hlt:g<w.heap.size:=by
    rcases Nat.lt_or_ge g w.heap.size with h | h
    · exact h
    · rw [Array.getElem?_eq_none h] at hh;cases hh
   refine ⟨g,0,hA,hlt,fun j u hu=>?_⟩
   rw [← ht] at hu
   rw [List.getElem?_take] at hu
   have hcell:=cell_of_row w g (0+j) cur e (0,0) hh
   rw [hcell]
   split at hu
   · simpa using hu
   · cases hu
theorem below_drewN {B:Nat} {a w:World} (h:Below B a w) (k:Nat):Below B a (w.drewN k):=⟨h.os,h.tape,h.output,h.size,h.block⟩
theorem below_of_drewN {B:Nat} {a w:World} {k:Nat} (h:Below B (a.drewN k) w):Below B a w:=⟨h.os,h.tape,h.output,h.size,h.block⟩
theorem below_of_drew {B:Nat} {a w:World} (h:Below B a.drew w):Below B a w:=⟨h.os,h.tape,h.output,h.size,h.block⟩
theorem bl_alloc {a w:World} (h:Below a.heap.size a w) (o:Obj):Below a.heap.size a (w.alloc o):=h.alloc h.size o
theorem bA {w : World} {o : Obj} : Below w.heap.size w (w.alloc o) := bl_alloc (Below.refl _ _) _
theorem bl_drewN {B:Nat} {a w:World} (h:Below B a w) (k:Nat):Below B a (w.drewN k):=⟨h.os,h.tape,h.output,h.size,h.block⟩
theorem bl_drew {B:Nat} {a w:World} (h:Below B a w):Below B a w.drew:=⟨h.os,h.tape,h.output,h.size,h.block⟩
theorem bl_step {a w w':World} (h:Below a.heap.size a w) (hb:Below w.heap.size w w'):Below a.heap.size a w':=h.trans (hb.mono h.size)
theorem bcell {a w:World} (h:Below a.heap.size a w):(∀ b o,b<a.heap.size→w.cell? ⟨b,o,none⟩=a.cell? ⟨b,o,none⟩)∧(∀ b o,b<a.heap.size→w.frozen? ⟨b,o,none⟩=a.frozen? ⟨b,o,none⟩) :=
 ⟨fun b o hb=>h.cell (p:=⟨b,o,none⟩) hb,fun b o hb=>h.frozen (p:=⟨b,o,none⟩) hb⟩
theorem hide {p:Prop} (h:p):Hid p:=h
theorem ret_int {k:IntKind} {a b:Int} (h:a=b):Ending.returned (.int k a)=.returned (.int k b):=by rw [h]
theorem ret_bool {a b:Bool} (h:a=b):Ending.returned (.bool a)=.returned (.bool b):=by rw [h]
def Blk (w:World) (g:Nat) (t:TypeId) (cs:Array Value):Prop:=w.heap[g]?=some (.cells cs t (0,0))
section
variable {w w':World} {g:Nat} {t:TypeId} {cs:Array Value}
theorem Blk.lt (h:Blk w g t cs):g<w.heap.size:=by
 rcases Nat.lt_or_ge g w.heap.size with h1 | h1
 · exact h1
 · unfold Blk at h;rw [Array.getElem?_eq_none h1] at h;cases h
theorem Blk.cell (h:Blk w g t cs) {i:Nat} {v:Value} (hi:cs[i]?=some v):w.cell? ⟨g,i,none⟩=some v:=(cell_of_row w g i cs t (0,0) h).trans hi
theorem Blk.frozen (h:Blk w g t cs) (i:Nat):w.frozen? ⟨g,i,none⟩=false:=by unfold Blk at h;simp [World.frozen?,h]
theorem Blk.new (w:World) (t:TypeId) (cs:Array Value):Blk (w.alloc (.cells cs t)) w.heap.size t cs:=by
 show (w.heap.push _)[w.heap.size]?=_
 simp
theorem Blk.alloc (h:Blk w g t cs) (o:Obj):Blk (w.alloc o) g t cs:=(Below.heap_alloc w o g h.lt).trans h
theorem Blk.drewN (h:Blk w g t cs) (k:Nat):Blk (w.drewN k) g t cs:=h
theorem Blk.drew (h:Blk w g t cs):Blk w.drew g t cs:=h
theorem Blk.set (h:Blk w g t cs) (i:Nat) (u:Value):Blk (w.setCell ⟨g,i,none⟩ u) g t (cs.setIfInBounds i u):=by
 unfold Blk at h ⊢
 simp [World.setCell,Array.getElem?_modify,h]
theorem Blk.far (h:Blk w g t cs) {p:Addr} (hp:g≠p.block) (u:Value):Blk (w.setCell p u) g t cs:=(Below.heap_setCell w p u g hp).trans h
theorem Blk.below {B:Nat} (h:Blk w g t cs) (hb:Below B w w') (hg:g<B):Blk w' g t cs:=(hb.block g hg).trans h
theorem Blk.step (h:Blk w g t cs) (hb:Below w.heap.size w w'):Blk w' g t cs:=h.below hb h.lt
theorem Blk.grown {row:Option Nat} (h:Blk w g t cs) (hb:w.grownBy w' row) (hg:some g≠row):Blk w' g t cs:=(hb.block g h.lt hg).trans h
theorem own_base {base:Nat} {e:TypeId} {size n:Nat} {v:Value} {xs:List Value} (h:w.ownsRow base e size v n xs) {k:Nat} (hk:v.ownBlock=some k):base≤k:=by
 rcases h.2 with ⟨rfl,_⟩ | ⟨g',cap,cur,rfl,hb,_⟩
 · simp [Value.ownBlock] at hk
 · have:g'=k:=by simpa [Value.ownBlock] using hk
   omega
theorem own_form {base:Nat} {e:TypeId} {size n:Nat} {v:Value} {xs:List Value} (h:w.ownsRow base e size v n xs) (hn:0<n) :
 ∃ k cap,v=.slice (some ⟨k,0,none⟩) n cap∧base≤k∧k<w.heap.size∧n≤cap:=by
 rcases h.2 with ⟨_,h0⟩ | ⟨g',cap,cur,rfl,hb,hh,hc,_⟩
 · omega
 · exact ⟨g',cap,rfl,hb,Blk.lt hh,hc⟩
theorem own_slice {base:Nat} {e:TypeId} {size n:Nat} {v:Value} {xs:List Value} (h:w.ownsRow base e size v n xs):∃ A cap,v=.slice A n cap∧n≤cap:=by
 rcases h.2 with ⟨rfl,rfl⟩ | ⟨g',cap,cur,rfl,hb,hh,hc,_⟩
 · exact ⟨none,0,rfl,Nat.le_refl _⟩
 · exact ⟨_,cap,rfl,hc⟩
theorem own_step {base:Nat} {e:TypeId} {size n:Nat} {v:Value} {xs:List Value} (h:w.ownsRow base e size v n xs) (hb:Below w.heap.size w w'):w'.ownsRow base e size v n xs:=by
 refine ⟨h.1,?_⟩
 rcases h.2 with h0 | ⟨g',cap,cur,hv,hb1,hh,r⟩
 · exact .inl h0
 · exact .inr ⟨g',cap,cur,hv,hb1,(hb.block g' (Blk.lt hh)).trans hh,r⟩
theorem own_ne {base:Nat} {e:TypeId} {size n:Nat} {v:Value} {xs:List Value} (h:w.ownsRow base e size v n xs) (hg:g<base):some g≠v.ownBlock:=by
 intro e1
 have:=own_base h e1.symm
 omega
end
structure Rg where
 d:Bool
 v:Int
 A:Option Addr
 n:Nat
 c:Nat
def Rg.cells (r:Rg):List Value:=[.bool r.d,.int .i64 r.v,.slice r.A r.n r.c]
def rgCells (rs:List Rg):List Value:=rs.flatMap Rg.cells
theorem rgCells_length (rs:List Rg):(rgCells rs).length=3*rs.length:=by
 induction rs with
 | nil=>rfl
 | cons r rs ih=>simp only [rgCells,List.flatMap_cons,List.length_append,List.length_cons] at *;rw [ih];simp [Rg.cells];omega
theorem rgCells_get (rs:List Rg) (i:Nat) (r:Rg) (h:rs[i]?=some r) :
 (rgCells rs)[i*3]?=some (.bool r.d)∧(rgCells rs)[i*3+1]?=some (.int .i64 r.v)∧(rgCells rs)[i*3+2]?=some (.slice r.A r.n r.c):=by
 induction rs generalizing i with
 | nil=>simp at h
 | cons q rs ih =>
   have hq:∀ j,(rgCells (q::rs))[j+3]?=(rgCells rs)[j]?:=by
    intro j
    show (Rg.cells q++rgCells rs)[j+3]?=_
    rw [List.getElem?_append_right (by simp [Rg.cells])]
    simp [Rg.cells]
   cases i with
   | zero =>
     simp only [List.getElem?_cons_zero,Option.some.injEq] at h
     subst h
     exact ⟨rfl,rfl,rfl⟩
   | succ i =>
     have h':rs[i]?=some r:=by simpa using h
     have:=ih i h'
     have e:(i+1)*3=i*3+3:=by omega
     rw [e]
     refine ⟨by rw [hq];exact this.1,?_,?_⟩
     · rw [show i*3+3+1=i*3+1+3 by omega,hq];exact this.2.1
     · rw [show i*3+3+2=i*3+2+3 by omega,hq];exact this.2.2
theorem Sl.rg {w:World} {B:Nat} {A:Option Addr} {rs:List Rg} (h:Sl w B A (rgCells rs)) {k:Nat} {r:Rg} (hk:rs[k]?=some r) :
 ∃ b off,A=some ⟨b,off,none⟩∧b<B∧w.cell? ⟨b,off+k*3,none⟩=some (.bool r.d)∧w.cell? ⟨b,off+k*3+1,none⟩=some (.int .i64 r.v)∧w.cell? ⟨b,off+k*3+2,none⟩=some (.slice r.A r.n r.c):=by
 have hlt:k<rs.length:=(List.getElem?_eq_some_iff.1 hk).1
 obtain ⟨b,off,rfl,hB,hc⟩:=h.open_ (by rw [rgCells_length];omega)
 obtain ⟨h0,h1,h2⟩:=rgCells_get rs k r hk
 exact ⟨b,off,rfl,hB,hc _ _ h0,hc _ _ h1,hc _ _ h2⟩
theorem any_take_succ {α:Type} (l:List α) (p:α→Bool) (k:Nat) (r:α) (h:l[k]?=some r):(l.take (k+1)).any p=((l.take k).any p || p r):=by
 rw [List.take_add_one,h];simp
theorem any_of_get {α:Type} (l:List α) (p:α→Bool) (k:Nat) (r:α) (h:l[k]?=some r) (hp:p r=true):l.any p=true :=
 List.any_eq_true.2 ⟨r,List.mem_of_getElem? h,hp⟩
theorem Blk.new2 (w:World) (o:Obj) (t:TypeId) (cs:Array Value):Blk ((w.alloc o).alloc (.cells cs t)) (w.heap.size+1) t cs:=by
 have h:=Blk.new (w.alloc o) t cs
 simpa using h
theorem own_mono {w:World} {base base':Nat} {e:TypeId} {size n:Nat} {v:Value} {xs:List Value} (h:w.ownsRow base e size v n xs) (hb:base'≤base):w.ownsRow base' e size v n xs:=by
 refine ⟨h.1,?_⟩
 rcases h.2 with h0 | ⟨g',cap,cur,hv,hb1,r⟩
 · exact .inl h0
 · exact .inr ⟨g',cap,cur,hv,by omega,r⟩
theorem own_of_blk {w:World} {base g:Nat} {e:TypeId} {size n:Nat} {xs:List Value} (h:Blk w g e xs.toArray) (hg:base≤g) (hl:xs.length=n*size) (hn:n≤maxLen) :
 w.ownsRow base e size (.slice (some ⟨g,0,none⟩) n n) n xs :=
 ⟨hl,.inr ⟨g,n,xs.toArray,rfl,hg,h,Nat.le_refl _,hn,by simpa using hl,by rw [← hl];simp⟩⟩
theorem blk_cells {w:World} {g:Nat} {t:TypeId} {xs:List Value} (h:Blk w g t xs.toArray):∀ j u,xs[j]?=some u→w.cell? ((⟨g,0,none⟩:Addr).add j)=some u:=by
 intro j u hu
 have e:(⟨g,0,none⟩:Addr).add j=⟨g,j,none⟩:=by unfold Addr.add;split <;> simp_all
 rw [e]
 exact h.cell (by simpa using hu)
theorem own_set {w:World} {base:Nat} {e:TypeId} {size n:Nat} {v:Value} {xs:List Value} (h:w.ownsRow base e size v n xs) {p:Addr} (hp:v.ownBlock≠some p.block) (u:Value):(w.setCell p u).ownsRow base e size v n xs:=by
 refine ⟨h.1,?_⟩
 rcases h.2 with h0 | ⟨g',cap,cur,rfl,hb1,hh,r⟩
 · exact .inl h0
 · refine .inr ⟨g',cap,cur,rfl,hb1,(Below.heap_setCell w p u g' ?_).trans hh,r⟩
   intro e1;apply hp;rw [← e1];rfl
theorem cell_lt {w:World} {b o:Nat} {v:Value} (h:w.cell? ⟨b,o,none⟩=some v):b<w.heap.size:=by
 rcases Nat.lt_or_ge b w.heap.size with h1 | h1
 · exact h1
 · simp [World.cell?,Array.getElem?_eq_none h1] at h
theorem own_lt {w:World} {base:Nat} {e:TypeId} {size n:Nat} {v:Value} {xs:List Value} (h:w.ownsRow base e size v n xs) {k:Nat} (hk:v.ownBlock=some k):k<w.heap.size:=by
 rcases h.2 with ⟨rfl,_⟩ | ⟨g',cap,cur,rfl,hb,hh,_⟩
 · simp [Value.ownBlock] at hk
 · have:g'=k:=by simpa [Value.ownBlock] using hk
   subst this
   exact Blk.lt hh
theorem Sl.at_ {w w':World} {B:Nat} {A:Option Addr} {xs:List Value} (h:Sl w B A xs) (hb:∀ b,b<B→(xs≠[]→∀ x,A=some x→x.block=b→w'.heap[b]?=w.heap[b]?)):Sl w' B A xs:=by
 rcases h with h | ⟨b,off,hA,hlt,hc⟩
 · exact .inl h
 · refine .inr ⟨b,off,hA,hlt,fun j u hu=>?_⟩
   have hx:xs≠[]:=fun e=>by rw [e] at hu;simp at hu
   rw [World.cell?_of_block (hb b hlt hx _ hA rfl)]
   exact hc j u hu
theorem Sl.blk_lt {w:World} {B:Nat} {A:Option Addr} {xs:List Value} (h:Sl w B A xs) (hx:xs≠[]) {x:Addr} (hA:A=some x):x.block<B:=by
 rcases h with h | ⟨b,off,hA',hlt,hc⟩
 · exact absurd h hx
 · rw [hA] at hA';cases hA';exact hlt
theorem Sl.far {w:World} {B:Nat} {A:Option Addr} {xs:List Value} (h:Sl w B A xs) {p:Addr} (hp:xs≠[]→∀ x,A=some x→x.block≠p.block) (u:Value):Sl (w.setCell p u) B A xs :=
 h.at_ fun b _ hx x hA hxb=>Below.heap_setCell w p u b (by rw [← hxb];exact hp hx x hA)
theorem own_blk {w w':World} {xs:List Value} {base:Nat} {e:TypeId} {size n:Nat} {v:Value} (h:w.ownsRow base e size v n xs) (hk:∀ k,v.ownBlock=some k→w'.heap[k]?=w.heap[k]?):w'.ownsRow base e size v n xs:=by
 refine ⟨h.1,?_⟩
 rcases h.2 with h0 | ⟨g',cap,cur,rfl,hb1,hh,r⟩
 · exact .inl h0
 · exact .inr ⟨g',cap,cur,rfl,hb1,(hk g' rfl).trans hh,r⟩
end
section
open Go.RowKit
def msk (c:Bool):Int:=bif c then 18446744073709551615 else 0
theorem msk_bd (c:Bool):0≤msk c∧msk c<18446744073709551616:=by cases c <;> decide
theorem not_nat (y:Nat) (h:y<18446744073709551616):18446744073709551615 ^^^ y=18446744073709551615 - y:=by
 have h1:=congrArg BitVec.toNat (BitVec.allOnes_xor (x:=BitVec.ofNat 64 y))
 rw [BitVec.toNat_xor,BitVec.toNat_not,BitVec.toNat_allOnes,BitVec.toNat_ofNat,Nat.mod_eq_of_lt (show y<2 ^ 64 by simpa using h)] at h1
 exact h1
theorem bnot (y:Int) (h0:0≤y) (h1:y<18446744073709551616):bits BinOp.xor IntKind.u64 IntKind.u64.max y=18446744073709551615 - y:=by
 have e:IntKind.u64.max=18446744073709551615:=rfl
 rw [e,u64_xor _ y (by omega) (by omega) h0 h1]
 have:=not_nat y.toNat (by omega)
 rw [show (18446744073709551615:Int).toNat=18446744073709551615 from rfl,this]
 omega
theorem band1 (x:Int) (h0:0≤x) (h1:x<18446744073709551616):bits BinOp.and IntKind.u64 x 1=x % 2:=by
 rw [u64_and x 1 h0 h1 (by omega) (by omega),show (1:Int).toNat=1 from rfl,Nat.and_one_is_mod]
 omega
theorem of_bits (x:Int) (h0:0≤x) (h1:x<18446744073709551616):IntKind.u64.wrap (-bits BinOp.and IntKind.u64 x 1)=msk (decide (x % 2=1)):=by
 rw [band1 x h0 h1,IntKind.wrap_u64]
 have:x % 2=0∨x % 2=1:=by omega
 rcases this with h | h <;> rw [h] <;> decide
theorem zero_bits (x:Int) (h0:0≤x) (h1:x<18446744073709551616):bits BinOp.xor IntKind.u64 IntKind.u64.max (bits BinOp.or IntKind.u64 x (IntKind.u64.wrap (-x))) / 9223372036854775808=if x=0 then 1 else 0:=by
 rw [IntKind.wrap_u64]
 by_cases hx:x=0
 · subst hx;rw [if_pos rfl];decide +kernel
 · rw [if_neg hx,show (-x) % 18446744073709551616=18446744073709551616 - x by omega,u64_or x _ h0 h1 (by omega) (by omega)]
   have hl:x.toNat≤x.toNat ||| (18446744073709551616 - x).toNat:=Nat.left_le_or
   have hr:(18446744073709551616 - x).toNat≤x.toNat ||| (18446744073709551616 - x).toNat:=Nat.right_le_or
   have hb:x.toNat ||| (18446744073709551616 - x).toNat<2 ^ 64:=Nat.or_lt_two_pow (by omega) (by omega)
   generalize x.toNat ||| (18446744073709551616 - x).toNat=y at hl hr hb ⊢
   rw [bnot y (by omega) (by omega)]
   omega
theorem select_bits (c:Bool) (a b:Int) (h0:0≤a) (h1:a<18446744073709551616) (h2:0≤b) (h3:b<18446744073709551616):bits BinOp.xor IntKind.u64 b (bits BinOp.and IntKind.u64 (msk c) (bits BinOp.xor IntKind.u64 a b))=bif c then a else b:=by
 rw [u64_xor a b h0 h1 h2 h3]
 have hx:a.toNat ^^^ b.toNat<2 ^ 64:=Nat.xor_lt_two_pow (by omega) (by omega)
 obtain ⟨A,rfl⟩:=Int.eq_ofNat_of_zero_le h0
 obtain ⟨B,rfl⟩:=Int.eq_ofNat_of_zero_le h2
 simp only [Int.toNat_natCast] at hx ⊢
 cases c
 · rw [u64_and _ _ (msk_bd _).1 (msk_bd _).2 (by omega) (by omega)]
   show bits _ _ _ (((0:Nat) &&& _:Nat):Int)=(B:Int)
   rw [Nat.zero_and,u64_xor _ _ (by omega) (by omega) (by omega) (by omega)]
   simp
 · rw [u64_and _ _ (msk_bd _).1 (msk_bd _).2 (by omega) (by omega)]
   have e:(msk true).toNat &&& ((A ^^^ B:Nat):Int).toNat=A ^^^ B:=by
    rw [Int.toNat_natCast,show (msk true).toNat=2 ^ 64 - 1 from rfl,Nat.and_comm,Nat.and_two_pow_sub_one_eq_mod,Nat.mod_eq_of_lt hx]
   rw [e,u64_xor _ _ (by omega) (by omega) (by omega) (by omega),Int.toNat_natCast,Int.toNat_natCast,Nat.xor_comm A B,← Nat.xor_assoc,Nat.xor_self,Nat.zero_xor]
   rfl
theorem of_any (x:Int) (h0:0≤x) (h1:x<18446744073709551616) (w:World):Calls Tryz.prog 213 #[.int .u64 x] w fun e w'=>e=.returned (.int .u64 (msk (decide (x % 2=1))))∧w=w':=by
 have h:=of_bits x h0 h1
 go_enter Tryz.func213,Tryz.ntmps213
 go_wp2
 go_ret
 exact ⟨by simp,rfl⟩
theorem msk_odd (c:Bool):decide (msk c % 2=1)=c:=by cases c <;> decide
theorem of_msk (c:Bool) (w:World):Calls Tryz.prog 213 #[.int .u64 (msk c)] w fun e w'=>e=.returned (.int .u64 (msk c))∧w=w':=by
 have h:=of_any (msk c) (msk_bd c).1 (msk_bd c).2 w
 rw [msk_odd] at h
 exact h
theorem zero_any (x:Int) (h0:0≤x) (h1:x<18446744073709551616) (w:World):Calls Tryz.prog 238 #[.int .u64 x] w fun e w'=>e=.returned (.int .u64 (msk (decide (x=0))))∧w=w':=by
 have h:=zero_bits x h0 h1
 have HO:=of_any (if x=0 then 1 else 0) (by split <;> omega) (by split <;> omega) w
 have e:decide ((if x=0 then (1:Int) else 0) % 2=1)=decide (x=0):=by by_cases hx:x=0 <;> simp [hx]
 rw [e] at HO
 obtain ⟨z,hz⟩:∃ z,z=(if x=0 then (1:Int) else 0):=⟨_,rfl⟩
 rw [← hz] at h HO
 have H:=hide h
 clear hz e h
 go_enter Tryz.func238,Tryz.ntmps238
 go_wp2_with fail
 rw [H.out]
 refine HO.mono ?_
 rintro e w' ⟨rfl,rfl⟩
 go_wp2
 go_ret
 exact ⟨rfl,rfl⟩
theorem negative_any (x:Int) (h0:-9223372036854775808≤x) (h1:x<9223372036854775808) (w:World):Calls Tryz.prog 214 #[.int .i64 x] w fun e w'=>e=.returned (.int .u64 (msk (decide (x<0))))∧w=w':=by
 have h:IntKind.u64.wrap (x / 9223372036854775808)=msk (decide (x<0)):=by
  rw [IntKind.wrap_u64]
  by_cases hx:x<0
  · rw [show x / 9223372036854775808=-1 by omega,decide_eq_true hx];decide
  · rw [show x / 9223372036854775808=0 by omega,decide_eq_false hx];decide
 go_enter Tryz.func214,Tryz.ntmps214
 go_wp2
 go_ret
 exact ⟨by simp,rfl⟩
theorem fill_any (x:Int) (h0:0≤x) (h1:x<18446744073709551616) (w:World):Calls Tryz.prog 237 #[.int .u64 x] w fun e w'=>e=.returned (.int .u64 (msk (decide (9223372036854775808≤x))))∧w=w':=by
 have HO:=of_any (x / 9223372036854775808) (by omega) (by omega) w
 have e:decide (x / 9223372036854775808 % 2=1)=decide (9223372036854775808≤x):=by
  by_cases hx:9223372036854775808≤x
  · rw [decide_eq_true hx,decide_eq_true (by omega)]
  · rw [decide_eq_false hx,decide_eq_false (by omega)]
 rw [e] at HO
 go_enter Tryz.func237,Tryz.ntmps237
 go_wp2_with fail
 refine HO.mono ?_
 rintro e w' ⟨rfl,rfl⟩
 go_wp2
 go_ret
 exact ⟨rfl,rfl⟩
theorem select_any (c:Bool) (a b:Int) (h0:0≤a) (h1:a<18446744073709551616) (h2:0≤b) (h3:b<18446744073709551616) (w:World):Calls Tryz.prog 248 #[.int .u64 (msk c),.int .u64 a,.int .u64 b] w fun e w'=>e=.returned (.int .u64 (bif c then a else b))∧w=w':=by
 have h:=select_bits c a b h0 h1 h2 h3
 go_enter Tryz.func248,Tryz.ntmps248
 go_wp2
 go_ret
 exact ⟨by simp,rfl⟩
def MWords (w:World):Prop:=w.cell? ⟨3,0,none⟩=some (.int .u64 9223372036854775808)∧w.cell? ⟨3,1,none⟩=some (.int .u64 18446744073709551615)
def sgnM (n z:Bool):Int:=bif n then -1 else bif z then 0 else 1
theorem msign_any (n z:Bool) (w:World) (hw:MWords w):Calls Tryz.prog 236 #[.int .u64 (msk n),.int .u64 (msk z)] w fun e w'=>e=.returned (.int .i64 (sgnM n z))∧∃ m,w'=w.drewN m:=by
 obtain ⟨_,hw1⟩:=hw
 have h1:bits BinOp.and IntKind.u64 (bits BinOp.xor IntKind.u64 IntKind.u64.max (msk z)) 1=bif z then 0 else 1:=by
  rw [bnot _ (msk_bd z).1 (msk_bd z).2,band1 _ (by have:=msk_bd z;omega) (by have:=msk_bd z;omega)]
  cases z <;> decide
 have h2:wrap64 (bif n then 18446744073709551615 else (bif z then 0 else 1))=sgnM n z:=by cases n <;> cases z <;> decide +kernel
 obtain ⟨y,hy⟩:∃ y:Int,y=bif z then 0 else 1:=⟨_,rfl⟩
 have hyb:0≤y∧y≤1:=by rw [hy];cases z <;> decide
 rw [← hy] at h1 h2
 have HS:∀ k,Calls Tryz.prog 248 #[.int .u64 (msk n),.int .u64 18446744073709551615,.int .u64 (bits BinOp.and IntKind.u64 (bits BinOp.xor IntKind.u64 (if IntKind.u64.signed=true then -1 else IntKind.u64.max) (msk z)) 1)] (w.drewN k) fun e w'=>e=.returned (.int .u64 (bif n then 18446744073709551615 else y))∧w.drewN k=w':=fun k=>by
  have h1':bits BinOp.and IntKind.u64 (bits BinOp.xor IntKind.u64 (if IntKind.u64.signed=true then -1 else IntKind.u64.max) (msk z)) 1=y:=h1
  rw [h1']
  exact select_any n _ y (by omega) (by omega) hyb.1 (by omega) _
 have HSH:=hide HS
 have HY:=hide hy
 have H2:=hide h2
 clear HS hy h1 h2 hyb
 go_enter Tryz.func236,Tryz.ntmps236
 go_wp2
 go_quiet ((first | (go_at_call 213;exact Calls.quiet_of_same ((of_msk _ _).mono fun _ _ ⟨a,b⟩=>⟨a,b.symm⟩)) | (go_at_call 248;exact Calls.quiet_of_same ((HSH.out _).mono fun _ _ ⟨a,b⟩=>⟨a,b.symm⟩))))
 go_wp2
 go_ret
 exact ⟨ret_int H2.out,_,rfl⟩
end
end Go.Proofs.YtfljlmleiggmjaaGreatDoor
