/- Words Mask Num2 -/
import Derived.BigQuiet
import Derived.Deep.Draws
import Derived.Deep.QuietTactic
import Derived.Deep.RegionWith
import Derived.Laws.BitsAllLaws
import Derived.Test.YtfljlmleiggmjaaGreatDoorRows
import Derived.WalkKit
import Derived.WalkLawsBesides
import Derived.WalkSpells
set_option maxRecDepth 1000000
set_option maxHeartbeats 8000000
namespace Go.Proofs.YtfljlmleiggmjaaGreatDoor
section
open Go.RowKit
def Sl (w:World) (B:Nat) (A:Option Addr) (xs:List Value):Prop :=
 xs=[]∨∃ b off,A=some ⟨b,off,none⟩∧b<B∧∀ j u,xs[j]?=some u→w.cell? ⟨b,off+j,none⟩=some u
theorem Sl.nil (w:World) (B:Nat) (A:Option Addr):Sl w B A []:=.inl rfl
theorem Sl.below {w w':World} {B:Nat} {A:Option Addr} {xs:List Value} (h:Sl w B A xs) (hb:Below B w w'):Sl w' B A xs:=by
 rcases h with h | ⟨b,off,hA,hlt,hc⟩
 · exact .inl h
 · exact .inr ⟨b,off,hA,hlt,fun j u hu=>(hb.cell (p:=⟨b,off+j,none⟩) hlt).trans (hc j u hu)⟩
theorem Sl.more {w:World} {B B':Nat} {A:Option Addr} {xs:List Value} (h:Sl w B A xs) (hB:B≤B'):Sl w B' A xs:=by
 rcases h with h | ⟨b,off,hA,hlt,hc⟩
 · exact .inl h
 · exact .inr ⟨b,off,hA,Nat.lt_of_lt_of_le hlt hB,hc⟩
theorem Sl.drewN {w:World} {B:Nat} {A:Option Addr} {xs:List Value} (h:Sl w B A xs) (k:Nat):Sl (w.drewN k) B A xs:=h
theorem Sl.drew {w:World} {B:Nat} {A:Option Addr} {xs:List Value} (h:Sl w B A xs):Sl w.drew B A xs:=h
theorem Sl.open_ {w:World} {B:Nat} {A:Option Addr} {xs:List Value} (h:Sl w B A xs) (hn:0<xs.length) :
 ∃ b off,A=some ⟨b,off,none⟩∧b<B∧∀ j u,xs[j]?=some u→w.cell? ⟨b,off+j,none⟩=some u:=by
 rcases h with h | h
 · subst h;simp at hn
 · exact h
theorem Sl.mk {w:World} {B b off:Nat} {xs:List Value} (hb:b<B) (hc:∀ j u,xs[j]?=some u→w.cell? ⟨b,off+j,none⟩=some u):Sl w B (some ⟨b,off,none⟩) xs :=
 .inr ⟨b,off,rfl,hb,hc⟩
theorem Sl.of_own {w:World} {base:Nat} {e:TypeId} {size n m c:Nat} {A:Option Addr} {xs:List Value} (h:w.ownsRow base e size (.slice A n c) m xs):Sl w w.heap.size A xs:=by
 obtain ⟨hl,h⟩:=h
 rcases h with ⟨_,h0⟩ | ⟨g,cap,cur,hv,_,hh,hn,_,hcs,ht⟩
 · left;subst h0;exact List.eq_nil_of_length_eq_zero (by simpa using hl)
 · right
   injection hv with hA
   have hlt:g<w.heap.size:=by
    rcases Nat.lt_or_ge g w.heap.size with h | h
    · exact h
    · rw [Array.getElem?_eq_none h] at hh;cases hh
   refine ⟨g,0,hA,hlt,fun j u hu=>?_⟩
   rw [← ht] at hu
   rw [List.getElem?_take] at hu
   have hcell:=cell_of_row w g (0+j) cur e (0,0) hh
   rw [hcell]
   split at hu
   · simpa using hu
   · cases hu
theorem below_drewN {B:Nat} {a w:World} (h:Below B a w) (k:Nat):Below B a (w.drewN k):=⟨h.os,h.tape,h.output,h.size,h.block⟩
theorem below_of_drew {B:Nat} {a w:World} (h:Below B a.drew w):Below B a w:=⟨h.os,h.tape,h.output,h.size,h.block⟩
theorem bl_alloc {a w:World} (h:Below a.heap.size a w) (o:Obj):Below a.heap.size a (w.alloc o):=h.alloc h.size o
theorem bA {w : World} {o : Obj} : Below w.heap.size w (w.alloc o) := bl_alloc (Below.refl _ _) _
theorem bl_drewN {B:Nat} {a w:World} (h:Below B a w) (k:Nat):Below B a (w.drewN k):=⟨h.os,h.tape,h.output,h.size,h.block⟩
theorem bl_drew {B:Nat} {a w:World} (h:Below B a w):Below B a w.drew:=⟨h.os,h.tape,h.output,h.size,h.block⟩
theorem bl_step {a w w':World} (h:Below a.heap.size a w) (hb:Below w.heap.size w w'):Below a.heap.size a w':=h.trans (hb.mono h.size)
theorem bcell {a w:World} (h:Below a.heap.size a w):(∀ b o,b<a.heap.size→w.cell? ⟨b,o,none⟩=a.cell? ⟨b,o,none⟩)∧(∀ b o,b<a.heap.size→w.frozen? ⟨b,o,none⟩=a.frozen? ⟨b,o,none⟩) :=
 ⟨fun b o hb=>h.cell (p:=⟨b,o,none⟩) hb,fun b o hb=>h.frozen (p:=⟨b,o,none⟩) hb⟩
theorem hide {p:Prop} (h:p):Hid p:=h
theorem ret_int {k:IntKind} {a b:Int} (h:a=b):Ending.returned (.int k a)=.returned (.int k b):=by rw [h]
theorem ret_bool {a b:Bool} (h:a=b):Ending.returned (.bool a)=.returned (.bool b):=by rw [h]
def Blk (w:World) (g:Nat) (t:TypeId) (cs:Array Value):Prop:=w.heap[g]?=some (.cells cs t (0,0))
section
variable {w w':World} {g:Nat} {t:TypeId} {cs:Array Value}
theorem Blk.lt (h:Blk w g t cs):g<w.heap.size:=by
 rcases Nat.lt_or_ge g w.heap.size with h1 | h1
 · exact h1
 · unfold Blk at h;rw [Array.getElem?_eq_none h1] at h;cases h
theorem Blk.cell (h:Blk w g t cs) {i:Nat} {v:Value} (hi:cs[i]?=some v):w.cell? ⟨g,i,none⟩=some v:=(cell_of_row w g i cs t (0,0) h).trans hi
theorem Blk.frozen (h:Blk w g t cs) (i:Nat):w.frozen? ⟨g,i,none⟩=false:=by unfold Blk at h;simp [World.frozen?,h]
theorem Blk.new (w:World) (t:TypeId) (cs:Array Value):Blk (w.alloc (.cells cs t)) w.heap.size t cs:=by
 show (w.heap.push _)[w.heap.size]?=_
 simp
theorem Blk.alloc (h:Blk w g t cs) (o:Obj):Blk (w.alloc o) g t cs:=(Below.heap_alloc w o g h.lt).trans h
theorem Blk.drewN (h:Blk w g t cs) (k:Nat):Blk (w.drewN k) g t cs:=h
theorem Blk.drew (h:Blk w g t cs):Blk w.drew g t cs:=h
theorem Blk.set (h:Blk w g t cs) (i:Nat) (u:Value):Blk (w.setCell ⟨g,i,none⟩ u) g t (cs.setIfInBounds i u):=by
 unfold Blk at h ⊢
 simp [World.setCell,Array.getElem?_modify,h]
theorem Blk.far (h:Blk w g t cs) {p:Addr} (hp:g≠p.block) (u:Value):Blk (w.setCell p u) g t cs:=(Below.heap_setCell w p u g hp).trans h
theorem Blk.below {B:Nat} (h:Blk w g t cs) (hb:Below B w w') (hg:g<B):Blk w' g t cs:=(hb.block g hg).trans h
theorem Blk.step (h:Blk w g t cs) (hb:Below w.heap.size w w'):Blk w' g t cs:=h.below hb h.lt
theorem Blk.grown {row:Option Nat} (h:Blk w g t cs) (hb:w.grownBy w' row) (hg:some g≠row):Blk w' g t cs:=(hb.block g h.lt hg).trans h
theorem own_base {base:Nat} {e:TypeId} {size n:Nat} {v:Value} {xs:List Value} (h:w.ownsRow base e size v n xs) {k:Nat} (hk:v.ownBlock=some k):base≤k:=by
 rcases h.2 with ⟨rfl,_⟩ | ⟨g',cap,cur,rfl,hb,_⟩
 · simp [Value.ownBlock] at hk
 · have:g'=k:=by simpa [Value.ownBlock] using hk
   omega
theorem own_form {base:Nat} {e:TypeId} {size n:Nat} {v:Value} {xs:List Value} (h:w.ownsRow base e size v n xs) (hn:0<n) :
 ∃ k cap,v=.slice (some ⟨k,0,none⟩) n cap∧base≤k∧k<w.heap.size∧n≤cap:=by
 rcases h.2 with ⟨_,h0⟩ | ⟨g',cap,cur,rfl,hb,hh,hc,_⟩
 · omega
 · exact ⟨g',cap,rfl,hb,Blk.lt hh,hc⟩
theorem own_slice {base:Nat} {e:TypeId} {size n:Nat} {v:Value} {xs:List Value} (h:w.ownsRow base e size v n xs):∃ A cap,v=.slice A n cap∧n≤cap:=by
 rcases h.2 with ⟨rfl,rfl⟩ | ⟨g',cap,cur,rfl,hb,hh,hc,_⟩
 · exact ⟨none,0,rfl,Nat.le_refl _⟩
 · exact ⟨_,cap,rfl,hc⟩
theorem own_step {base:Nat} {e:TypeId} {size n:Nat} {v:Value} {xs:List Value} (h:w.ownsRow base e size v n xs) (hb:Below w.heap.size w w'):w'.ownsRow base e size v n xs:=by
 refine ⟨h.1,?_⟩
 rcases h.2 with h0 | ⟨g',cap,cur,hv,hb1,hh,r⟩
 · exact .inl h0
 · exact .inr ⟨g',cap,cur,hv,hb1,(hb.block g' (Blk.lt hh)).trans hh,r⟩
theorem own_ne {base:Nat} {e:TypeId} {size n:Nat} {v:Value} {xs:List Value} (h:w.ownsRow base e size v n xs) (hg:g<base):some g≠v.ownBlock:=by
 intro e1
 have:=own_base h e1.symm
 omega
end
structure Rg where
 d:Bool
 v:Int
 A:Option Addr
 n:Nat
 c:Nat
def Rg.cells (r:Rg):List Value:=[.bool r.d,.int .i64 r.v,.slice r.A r.n r.c]
def rgCells (rs:List Rg):List Value:=rs.flatMap Rg.cells
theorem rgCells_length (rs:List Rg):(rgCells rs).length=3*rs.length:=by
 induction rs with
 | nil=>rfl
 | cons r rs ih=>simp only [rgCells,List.flatMap_cons,List.length_append,List.length_cons] at *;rw [ih];simp [Rg.cells];omega
theorem rgCells_get (rs:List Rg) (i:Nat) (r:Rg) (h:rs[i]?=some r) :
 (rgCells rs)[i*3]?=some (.bool r.d)∧(rgCells rs)[i*3+1]?=some (.int .i64 r.v)∧(rgCells rs)[i*3+2]?=some (.slice r.A r.n r.c):=by
 induction rs generalizing i with
 | nil=>simp at h
 | cons q rs ih =>
   have hq:∀ j,(rgCells (q::rs))[j+3]?=(rgCells rs)[j]?:=by
    intro j
    show (Rg.cells q++rgCells rs)[j+3]?=_
    rw [List.getElem?_append_right (by simp [Rg.cells])]
    simp [Rg.cells]
   cases i with
   | zero =>
     simp only [List.getElem?_cons_zero,Option.some.injEq] at h
     subst h
     exact ⟨rfl,rfl,rfl⟩
   | succ i =>
     have h':rs[i]?=some r:=by simpa using h
     have:=ih i h'
     have e:(i+1)*3=i*3+3:=by omega
     rw [e]
     refine ⟨by rw [hq];exact this.1,?_,?_⟩
     · rw [show i*3+3+1=i*3+1+3 by omega,hq];exact this.2.1
     · rw [show i*3+3+2=i*3+2+3 by omega,hq];exact this.2.2
theorem Sl.rg {w:World} {B:Nat} {A:Option Addr} {rs:List Rg} (h:Sl w B A (rgCells rs)) {k:Nat} {r:Rg} (hk:rs[k]?=some r) :
 ∃ b off,A=some ⟨b,off,none⟩∧b<B∧w.cell? ⟨b,off+k*3,none⟩=some (.bool r.d)∧w.cell? ⟨b,off+k*3+1,none⟩=some (.int .i64 r.v)∧w.cell? ⟨b,off+k*3+2,none⟩=some (.slice r.A r.n r.c):=by
 have hlt:k<rs.length:=(List.getElem?_eq_some_iff.1 hk).1
 obtain ⟨b,off,rfl,hB,hc⟩:=h.open_ (by rw [rgCells_length];omega)
 obtain ⟨h0,h1,h2⟩:=rgCells_get rs k r hk
 exact ⟨b,off,rfl,hB,hc _ _ h0,hc _ _ h1,hc _ _ h2⟩
theorem any_take_succ {α:Type} (l:List α) (p:α→Bool) (k:Nat) (r:α) (h:l[k]?=some r):(l.take (k+1)).any p=((l.take k).any p || p r):=by
 rw [List.take_add_one,h];simp
theorem any_of_get {α:Type} (l:List α) (p:α→Bool) (k:Nat) (r:α) (h:l[k]?=some r) (hp:p r=true):l.any p=true :=
 List.any_eq_true.2 ⟨r,List.mem_of_getElem? h,hp⟩
theorem Blk.new2 (w:World) (o:Obj) (t:TypeId) (cs:Array Value):Blk ((w.alloc o).alloc (.cells cs t)) (w.heap.size+1) t cs:=by
 have h:=Blk.new (w.alloc o) t cs
 simpa using h
theorem own_mono {w:World} {base base':Nat} {e:TypeId} {size n:Nat} {v:Value} {xs:List Value} (h:w.ownsRow base e size v n xs) (hb:base'≤base):w.ownsRow base' e size v n xs:=by
 refine ⟨h.1,?_⟩
 rcases h.2 with h0 | ⟨g',cap,cur,hv,hb1,r⟩
 · exact .inl h0
 · exact .inr ⟨g',cap,cur,hv,by omega,r⟩
theorem own_of_blk {w:World} {base g:Nat} {e:TypeId} {size n:Nat} {xs:List Value} (h:Blk w g e xs.toArray) (hg:base≤g) (hl:xs.length=n*size) (hn:n≤maxLen) :
 w.ownsRow base e size (.slice (some ⟨g,0,none⟩) n n) n xs :=
 ⟨hl,.inr ⟨g,n,xs.toArray,rfl,hg,h,Nat.le_refl _,hn,by simpa using hl,by rw [← hl];simp⟩⟩
theorem blk_cells {w:World} {g:Nat} {t:TypeId} {xs:List Value} (h:Blk w g t xs.toArray):∀ j u,xs[j]?=some u→w.cell? ((⟨g,0,none⟩:Addr).add j)=some u:=by
 intro j u hu
 have e:(⟨g,0,none⟩:Addr).add j=⟨g,j,none⟩:=by unfold Addr.add;split <;> simp_all
 rw [e]
 exact h.cell (by simpa using hu)
theorem own_set {w:World} {base:Nat} {e:TypeId} {size n:Nat} {v:Value} {xs:List Value} (h:w.ownsRow base e size v n xs) {p:Addr} (hp:v.ownBlock≠some p.block) (u:Value):(w.setCell p u).ownsRow base e size v n xs:=by
 refine ⟨h.1,?_⟩
 rcases h.2 with h0 | ⟨g',cap,cur,rfl,hb1,hh,r⟩
 · exact .inl h0
 · refine .inr ⟨g',cap,cur,rfl,hb1,(Below.heap_setCell w p u g' ?_).trans hh,r⟩
   intro e1;apply hp;rw [← e1];rfl
theorem cell_lt {w:World} {b o:Nat} {v:Value} (h:w.cell? ⟨b,o,none⟩=some v):b<w.heap.size:=by
 rcases Nat.lt_or_ge b w.heap.size with h1 | h1
 · exact h1
 · simp [World.cell?,Array.getElem?_eq_none h1] at h
theorem own_lt {w:World} {base:Nat} {e:TypeId} {size n:Nat} {v:Value} {xs:List Value} (h:w.ownsRow base e size v n xs) {k:Nat} (hk:v.ownBlock=some k):k<w.heap.size:=by
 rcases h.2 with ⟨rfl,_⟩ | ⟨g',cap,cur,rfl,hb,hh,_⟩
 · simp [Value.ownBlock] at hk
 · have:g'=k:=by simpa [Value.ownBlock] using hk
   subst this
   exact Blk.lt hh
theorem Sl.at_ {w w':World} {B:Nat} {A:Option Addr} {xs:List Value} (h:Sl w B A xs) (hb:∀ b,b<B→(xs≠[]→∀ x,A=some x→x.block=b→w'.heap[b]?=w.heap[b]?)):Sl w' B A xs:=by
 rcases h with h | ⟨b,off,hA,hlt,hc⟩
 · exact .inl h
 · refine .inr ⟨b,off,hA,hlt,fun j u hu=>?_⟩
   have hx:xs≠[]:=fun e=>by rw [e] at hu;simp at hu
   rw [World.cell?_of_block (hb b hlt hx _ hA rfl)]
   exact hc j u hu
theorem Sl.blk_lt {w:World} {B:Nat} {A:Option Addr} {xs:List Value} (h:Sl w B A xs) (hx:xs≠[]) {x:Addr} (hA:A=some x):x.block<B:=by
 rcases h with h | ⟨b,off,hA',hlt,hc⟩
 · exact absurd h hx
 · rw [hA] at hA';cases hA';exact hlt
theorem Sl.far {w:World} {B:Nat} {A:Option Addr} {xs:List Value} (h:Sl w B A xs) {p:Addr} (hp:xs≠[]→∀ x,A=some x→x.block≠p.block) (u:Value):Sl (w.setCell p u) B A xs :=
 h.at_ fun b _ hx x hA hxb=>Below.heap_setCell w p u b (by rw [← hxb];exact hp hx x hA)
theorem own_blk {w w':World} {xs:List Value} {base:Nat} {e:TypeId} {size n:Nat} {v:Value} (h:w.ownsRow base e size v n xs) (hk:∀ k,v.ownBlock=some k→w'.heap[k]?=w.heap[k]?):w'.ownsRow base e size v n xs:=by
 refine ⟨h.1,?_⟩
 rcases h.2 with h0 | ⟨g',cap,cur,rfl,hb1,hh,r⟩
 · exact .inl h0
 · exact .inr ⟨g',cap,cur,rfl,hb1,(hk g' rfl).trans hh,r⟩
end
section
open Go.RowKit
def msk (c:Bool):Int:=bif c then 18446744073709551615 else 0
theorem msk_bd (c:Bool):0≤msk c∧msk c<18446744073709551616:=by cases c <;> decide
theorem not_nat (y:Nat) (h:y<18446744073709551616):18446744073709551615 ^^^ y=18446744073709551615 - y:=by
 have h1:=congrArg BitVec.toNat (BitVec.allOnes_xor (x:=BitVec.ofNat 64 y))
 rw [BitVec.toNat_xor,BitVec.toNat_not,BitVec.toNat_allOnes,BitVec.toNat_ofNat,Nat.mod_eq_of_lt (show y<2 ^ 64 by simpa using h)] at h1
 exact h1
theorem bnot (y:Int) (h0:0≤y) (h1:y<18446744073709551616):bits BinOp.xor IntKind.u64 IntKind.u64.max y=18446744073709551615 - y:=by
 have e:IntKind.u64.max=18446744073709551615:=rfl
 rw [e,u64_xor _ y (by omega) (by omega) h0 h1]
 have:=not_nat y.toNat (by omega)
 rw [show (18446744073709551615:Int).toNat=18446744073709551615 from rfl,this]
 omega
theorem band1 (x:Int) (h0:0≤x) (h1:x<18446744073709551616):bits BinOp.and IntKind.u64 x 1=x % 2:=by
 rw [u64_and x 1 h0 h1 (by omega) (by omega),show (1:Int).toNat=1 from rfl,Nat.and_one_is_mod]
 omega
theorem of_bits (x:Int) (h0:0≤x) (h1:x<18446744073709551616):IntKind.u64.wrap (-bits BinOp.and IntKind.u64 x 1)=msk (decide (x % 2=1)):=by
 rw [band1 x h0 h1,IntKind.wrap_u64]
 have:x % 2=0∨x % 2=1:=by omega
 rcases this with h | h <;> rw [h] <;> decide
theorem zero_bits (x:Int) (h0:0≤x) (h1:x<18446744073709551616):bits BinOp.xor IntKind.u64 IntKind.u64.max (bits BinOp.or IntKind.u64 x (IntKind.u64.wrap (-x))) / 9223372036854775808=if x=0 then 1 else 0:=by
 rw [IntKind.wrap_u64]
 by_cases hx:x=0
 · subst hx;rw [if_pos rfl];decide +kernel
 · rw [if_neg hx,show (-x) % 18446744073709551616=18446744073709551616 - x by omega,u64_or x _ h0 h1 (by omega) (by omega)]
   have hl:x.toNat≤x.toNat ||| (18446744073709551616 - x).toNat:=Nat.left_le_or
   have hr:(18446744073709551616 - x).toNat≤x.toNat ||| (18446744073709551616 - x).toNat:=Nat.right_le_or
   have hb:x.toNat ||| (18446744073709551616 - x).toNat<2 ^ 64:=Nat.or_lt_two_pow (by omega) (by omega)
   generalize x.toNat ||| (18446744073709551616 - x).toNat=y at hl hr hb ⊢
   rw [bnot y (by omega) (by omega)]
   omega
theorem select_bits (c:Bool) (a b:Int) (h0:0≤a) (h1:a<18446744073709551616) (h2:0≤b) (h3:b<18446744073709551616):bits BinOp.xor IntKind.u64 b (bits BinOp.and IntKind.u64 (msk c) (bits BinOp.xor IntKind.u64 a b))=bif c then a else b:=by
 rw [u64_xor a b h0 h1 h2 h3]
 have hx:a.toNat ^^^ b.toNat<2 ^ 64:=Nat.xor_lt_two_pow (by omega) (by omega)
 obtain ⟨A,rfl⟩:=Int.eq_ofNat_of_zero_le h0
 obtain ⟨B,rfl⟩:=Int.eq_ofNat_of_zero_le h2
 simp only [Int.toNat_natCast] at hx ⊢
 cases c
 · rw [u64_and _ _ (msk_bd _).1 (msk_bd _).2 (by omega) (by omega)]
   show bits _ _ _ (((0:Nat) &&& _:Nat):Int)=(B:Int)
   rw [Nat.zero_and,u64_xor _ _ (by omega) (by omega) (by omega) (by omega)]
   simp
 · rw [u64_and _ _ (msk_bd _).1 (msk_bd _).2 (by omega) (by omega)]
   have e:(msk true).toNat &&& ((A ^^^ B:Nat):Int).toNat=A ^^^ B:=by
    rw [Int.toNat_natCast,show (msk true).toNat=2 ^ 64 - 1 from rfl,Nat.and_comm,Nat.and_two_pow_sub_one_eq_mod,Nat.mod_eq_of_lt hx]
   rw [e,u64_xor _ _ (by omega) (by omega) (by omega) (by omega),Int.toNat_natCast,Int.toNat_natCast,Nat.xor_comm A B,← Nat.xor_assoc,Nat.xor_self,Nat.zero_xor]
   rfl
theorem of_any (x:Int) (h0:0≤x) (h1:x<18446744073709551616) (w:World):Calls Tryz.prog 213 #[.int .u64 x] w fun e w'=>e=.returned (.int .u64 (msk (decide (x % 2=1))))∧w=w':=by
 have h:=of_bits x h0 h1
 go_enter Tryz.func213,Tryz.ntmps213
 go_wp2
 go_ret
 exact ⟨by simp,rfl⟩
theorem msk_odd (c:Bool):decide (msk c % 2=1)=c:=by cases c <;> decide
theorem of_msk (c:Bool) (w:World):Calls Tryz.prog 213 #[.int .u64 (msk c)] w fun e w'=>e=.returned (.int .u64 (msk c))∧w=w':=by
 have h:=of_any (msk c) (msk_bd c).1 (msk_bd c).2 w
 rw [msk_odd] at h
 exact h
theorem zero_any (x:Int) (h0:0≤x) (h1:x<18446744073709551616) (w:World):Calls Tryz.prog 238 #[.int .u64 x] w fun e w'=>e=.returned (.int .u64 (msk (decide (x=0))))∧w=w':=by
 have h:=zero_bits x h0 h1
 have HO:=of_any (if x=0 then 1 else 0) (by split <;> omega) (by split <;> omega) w
 have e:decide ((if x=0 then (1:Int) else 0) % 2=1)=decide (x=0):=by by_cases hx:x=0 <;> simp [hx]
 rw [e] at HO
 obtain ⟨z,hz⟩:∃ z,z=(if x=0 then (1:Int) else 0):=⟨_,rfl⟩
 rw [← hz] at h HO
 have H:=hide h
 clear hz e h
 go_enter Tryz.func238,Tryz.ntmps238
 go_wp2_with fail
 rw [H.out]
 refine HO.mono ?_
 rintro e w' ⟨rfl,rfl⟩
 go_wp2
 go_ret
 exact ⟨rfl,rfl⟩
theorem negative_any (x:Int) (h0:-9223372036854775808≤x) (h1:x<9223372036854775808) (w:World):Calls Tryz.prog 214 #[.int .i64 x] w fun e w'=>e=.returned (.int .u64 (msk (decide (x<0))))∧w=w':=by
 have h:IntKind.u64.wrap (x / 9223372036854775808)=msk (decide (x<0)):=by
  rw [IntKind.wrap_u64]
  by_cases hx:x<0
  · rw [show x / 9223372036854775808=-1 by omega,decide_eq_true hx];decide
  · rw [show x / 9223372036854775808=0 by omega,decide_eq_false hx];decide
 go_enter Tryz.func214,Tryz.ntmps214
 go_wp2
 go_ret
 exact ⟨by simp,rfl⟩
theorem fill_any (x:Int) (h0:0≤x) (h1:x<18446744073709551616) (w:World):Calls Tryz.prog 237 #[.int .u64 x] w fun e w'=>e=.returned (.int .u64 (msk (decide (9223372036854775808≤x))))∧w=w':=by
 have HO:=of_any (x / 9223372036854775808) (by omega) (by omega) w
 have e:decide (x / 9223372036854775808 % 2=1)=decide (9223372036854775808≤x):=by
  by_cases hx:9223372036854775808≤x
  · rw [decide_eq_true hx,decide_eq_true (by omega)]
  · rw [decide_eq_false hx,decide_eq_false (by omega)]
 rw [e] at HO
 go_enter Tryz.func237,Tryz.ntmps237
 go_wp2_with fail
 refine HO.mono ?_
 rintro e w' ⟨rfl,rfl⟩
 go_wp2
 go_ret
 exact ⟨rfl,rfl⟩
theorem select_any (c:Bool) (a b:Int) (h0:0≤a) (h1:a<18446744073709551616) (h2:0≤b) (h3:b<18446744073709551616) (w:World):Calls Tryz.prog 248 #[.int .u64 (msk c),.int .u64 a,.int .u64 b] w fun e w'=>e=.returned (.int .u64 (bif c then a else b))∧w=w':=by
 have h:=select_bits c a b h0 h1 h2 h3
 go_enter Tryz.func248,Tryz.ntmps248
 go_wp2
 go_ret
 exact ⟨by simp,rfl⟩
def MWords (w:World):Prop:=w.cell? ⟨3,0,none⟩=some (.int .u64 9223372036854775808)∧w.cell? ⟨3,1,none⟩=some (.int .u64 18446744073709551615)
def sgnM (n z:Bool):Int:=bif n then -1 else bif z then 0 else 1
theorem msign_any (n z:Bool) (w:World) (hw:MWords w):Calls Tryz.prog 236 #[.int .u64 (msk n),.int .u64 (msk z)] w fun e w'=>e=.returned (.int .i64 (sgnM n z))∧∃ m,w'=w.drewN m:=by
 obtain ⟨_,hw1⟩:=hw
 have h1:bits BinOp.and IntKind.u64 (bits BinOp.xor IntKind.u64 IntKind.u64.max (msk z)) 1=bif z then 0 else 1:=by
  rw [bnot _ (msk_bd z).1 (msk_bd z).2,band1 _ (by have:=msk_bd z;omega) (by have:=msk_bd z;omega)]
  cases z <;> decide
 have h2:wrap64 (bif n then 18446744073709551615 else (bif z then 0 else 1))=sgnM n z:=by cases n <;> cases z <;> decide +kernel
 obtain ⟨y,hy⟩:∃ y:Int,y=bif z then 0 else 1:=⟨_,rfl⟩
 have hyb:0≤y∧y≤1:=by rw [hy];cases z <;> decide
 rw [← hy] at h1 h2
 have HS:∀ k,Calls Tryz.prog 248 #[.int .u64 (msk n),.int .u64 18446744073709551615,.int .u64 (bits BinOp.and IntKind.u64 (bits BinOp.xor IntKind.u64 (if IntKind.u64.signed=true then -1 else IntKind.u64.max) (msk z)) 1)] (w.drewN k) fun e w'=>e=.returned (.int .u64 (bif n then 18446744073709551615 else y))∧w.drewN k=w':=fun k=>by
  have h1':bits BinOp.and IntKind.u64 (bits BinOp.xor IntKind.u64 (if IntKind.u64.signed=true then -1 else IntKind.u64.max) (msk z)) 1=y:=h1
  rw [h1']
  exact select_any n _ y (by omega) (by omega) hyb.1 (by omega) _
 have HSH:=hide HS
 have HY:=hide hy
 have H2:=hide h2
 clear HS hy h1 h2 hyb
 go_enter Tryz.func236,Tryz.ntmps236
 go_wp2
 go_quiet ((first | (go_at_call 213;exact Calls.quiet_of_same ((of_msk _ _).mono fun _ _ ⟨a,b⟩=>⟨a,b.symm⟩)) | (go_at_call 248;exact Calls.quiet_of_same ((HSH.out _).mono fun _ _ ⟨a,b⟩=>⟨a,b.symm⟩))))
 go_wp2
 go_ret
 exact ⟨ret_int H2.out,_,rfl⟩
end
section
open Go.RowKit
def dval:List Nat→Nat
 | []=>0
 | d::l=>d+65536*dval l
def dOk (l:List Nat):Prop:=∀ d∈l,d<65536
theorem dOk.at_ {l:List Nat} (h:dOk l) {i d:Nat} (hi:l[i]?=some d):d<65536:=h d (List.mem_of_getElem? hi)
theorem dOk.take {l:List Nat} (h:dOk l) (n:Nat):dOk (l.take n):=fun d hd=>h d (List.mem_of_mem_take hd)
theorem dOk.snoc {l:List Nat} (h:dOk l) {d:Nat} (hd:d<65536):dOk (l++[d]):=fun x hx=>by
 rcases List.mem_append.1 hx with h1 | h1
 · exact h x h1
 · rw [List.mem_singleton.1 h1];exact hd
theorem dval_app:∀ (a b:List Nat),dval (a++b)=dval a+65536 ^ a.length*dval b
 | [],b=>by simp [dval]
 | d::a,b=>by
   rw [List.cons_append,dval,dval,dval_app a b,List.length_cons,Nat.pow_succ,Nat.mul_add,Nat.add_assoc,Nat.mul_comm (65536 ^ a.length) 65536,Nat.mul_assoc]
theorem dval_snoc (a:List Nat) (d:Nat):dval (a++[d])=dval a+65536 ^ a.length*d:=by rw [dval_app];simp [dval]
theorem dval_take {l:List Nat} {i d:Nat} (h:l[i]?=some d):dval (l.take (i+1))=dval (l.take i)+65536 ^ i*d:=by
 have hi:i<l.length:=(List.getElem?_eq_some_iff.1 h).1
 rw [List.take_add_one,h,Option.toList_some,dval_snoc,List.length_take,Nat.min_eq_left (Nat.le_of_lt hi)]
theorem dval_lt:∀ {l:List Nat},dOk l→dval l<65536 ^ l.length
 | [],_=>by simp [dval]
 | d::l,h=>by
   have h1:=dval_lt (l:=l) fun x hx=>h x (List.mem_cons_of_mem _ hx)
   have h2:=h d (List.mem_cons_self ..)
   rw [dval,List.length_cons,Nat.pow_succ]
   omega
end
section
open Go.RowKit
def dig (l:List Nat) (k:Nat):Nat:=l[k]?.getD 0
theorem dig_lt {l:List Nat} (h:dOk l) (k:Nat):dig l k<65536:=by
 unfold dig
 cases hk:l[k]? with
 | none=>simp
 | some d=>exact h.at_ hk
theorem dval_takeD (l:List Nat) (k:Nat):dval (l.take (k+1))=dval (l.take k)+65536 ^ k*dig l k:=by
 unfold dig
 cases hk:l[k]? with
 | none =>
   have:=List.getElem?_eq_none_iff.1 hk
   rw [List.take_of_length_le (by omega),List.take_of_length_le (by omega)];simp
 | some d=>exact dval_take hk
def AddD (a b:List Nat) (k c:Nat) (o:List Nat):Prop :=
 o.length=k∧dOk o∧c≤1∧dval o+65536 ^ k*c=dval (a.take k)+dval (b.take k)∧k≤max a.length b.length+1∧(k=max a.length b.length+1→c=0)
theorem AddD.start (a b:List Nat):AddD a b 0 0 []:=⟨rfl,fun d hd=>by simp at hd,by omega,by simp [dval],by omega,fun _=>rfl⟩
theorem AddD.step {a b o:List Nat} {k c:Nat} (ha:dOk a) (hb:dOk b) (h:AddD a b k c o) (hk:k<a.length∨k<b.length∨0<c) :
 AddD a b (k+1) ((dig a k+dig b k+c) / 65536) (o++[(dig a k+dig b k+c) % 65536]):=by
 obtain ⟨h1,h2,h3,h4,h5,h6⟩:=h
 have x1:=dig_lt ha k
 have x2:=dig_lt hb k
 have hk':k≤max a.length b.length:=by
  rcases Nat.lt_or_ge k (max a.length b.length+1) with h | h
  · omega
  · have:k=max a.length b.length+1:=by omega
    have:=h6 this
    omega
 refine ⟨by simp [h1],h2.snoc (by omega),by omega,?_,by omega,fun he=>?_⟩
 · rw [dval_snoc,h1,dval_takeD,dval_takeD,Nat.pow_succ]
   have e:=Nat.div_add_mod (dig a k+dig b k+c) 65536
   have e2:65536 ^ k*((dig a k+dig b k+c) % 65536)+65536 ^ k*65536*((dig a k+dig b k+c) / 65536)=65536 ^ k*dig a k+65536 ^ k*dig b k+65536 ^ k*c:=by
    rw [Nat.mul_assoc,← Nat.mul_add,Nat.add_comm ((dig a k+dig b k+c) % 65536),e,Nat.mul_add,Nat.mul_add]
   omega
 · have ea:dig a k=0:=by unfold dig;rw [List.getElem?_eq_none (by omega)];rfl
   have eb:dig b k=0:=by unfold dig;rw [List.getElem?_eq_none (by omega)];rfl
   rw [ea,eb];omega
theorem AddD.done {a b o:List Nat} {k c:Nat} (h:AddD a b k c o) (hk:¬ (k<a.length∨k<b.length∨0<c)):dOk o∧dval o=dval a+dval b∧o.length≤max a.length b.length+1:=by
 obtain ⟨h1,h2,h3,h4,h5,h6⟩:=h
 rw [List.take_of_length_le (by omega),List.take_of_length_le (by omega),show c=0 by omega] at h4
 exact ⟨h2,by simpa using h4,by omega⟩
def SubD (a b:List Nat) (k c:Nat) (o:List Nat):Prop :=
 o.length=k∧dOk o∧c≤1∧dval o+dval (b.take k)=dval (a.take k)+65536 ^ k*c
theorem SubD.start (a b:List Nat):SubD a b 0 0 []:=⟨rfl,fun d hd=>by simp at hd,by omega,by simp [dval]⟩
theorem SubD.keep {a b o:List Nat} {k c x:Nat} (h:SubD a b k c o) (ha:dOk a) (hx:a[k]?=some x) (hs:dig b k+c≤x) :
 SubD a b (k+1) 0 (o++[x - dig b k - c]):=by
 obtain ⟨h1,h2,h3,h4⟩:=h
 have x1:=ha.at_ hx
 refine ⟨by simp [h1],h2.snoc (by omega),by omega,?_⟩
 rw [dval_snoc,h1,dval_takeD,dval_take hx]
 have e:65536 ^ k*(x - dig b k - c)+65536 ^ k*dig b k+65536 ^ k*c=65536 ^ k*x:=by
  rw [← Nat.mul_add,← Nat.mul_add,show x - dig b k - c+dig b k+c=x by omega]
 omega
theorem SubD.done {a b o:List Nat} {c:Nat} (h:SubD a b a.length c o) (hl:b.length≤a.length) (hv:dval b≤dval a):dOk o∧dval o=dval a - dval b∧o.length=a.length:=by
 obtain ⟨h1,h2,h3,h4⟩:=h
 rw [List.take_length,List.take_of_length_le hl] at h4
 have hlt:=dval_lt h2
 rw [h1] at hlt
 have hc:c=0:=by
  rcases Nat.lt_or_ge 0 c with h | h
  · have:c=1:=by omega
    subst this
    omega
  · omega
 subst hc
 exact ⟨h2,by omega,h1⟩
theorem dval_set {l:List Nat} {i x y:Nat} (h:l[i]?=some x):dval (l.set i y)+65536 ^ i*x=dval l+65536 ^ i*y:=by
 induction l generalizing i with
 | nil=>simp at h
 | cons d l ih =>
   cases i with
   | zero=>simp at h;subst h;simp [dval];omega
   | succ i =>
     have h':=ih (i:=i) (by simpa using h)
     rw [List.set_cons_succ,dval,dval,Nat.pow_succ]
     have e1:65536 ^ i*65536*x=65536*(65536 ^ i*x):=by rw [Nat.mul_comm (65536 ^ i) 65536,Nat.mul_assoc]
     have e2:65536 ^ i*65536*y=65536*(65536 ^ i*y):=by rw [Nat.mul_comm (65536 ^ i) 65536,Nat.mul_assoc]
     omega
theorem dOk_set {l:List Nat} (h:dOk l) (i:Nat) {y:Nat} (hy:y<65536):dOk (l.set i y):=fun d hd=>by
 rcases List.mem_or_eq_of_mem_set hd with h1 | h1
 · exact h d h1
 · omega
def zeroFrom (l:List Nat) (k:Nat):Prop:=∀ i,k≤i→i<l.length→l[i]?=some 0
def MulO (a b:List Nat) (k:Nat) (o:List Nat):Prop :=
 o.length=a.length+b.length∧dOk o∧dval o=dval (a.take k)*dval b∧zeroFrom o (k+b.length)
def MulI (o0 b:List Nat) (x k j c:Nat) (o:List Nat):Prop :=
 o.length=o0.length∧dOk o∧c<65536∧dval o+65536 ^ (k+j)*c=dval o0+65536 ^ k*(x*dval (b.take j))∧(∀ i,k+j≤i→o[i]?=o0[i]?)
theorem MulI.start {o0 b:List Nat} (x k:Nat) (h:dOk o0):MulI o0 b x k 0 0 o0:=⟨rfl,h,by omega,by simp [dval],fun _ _=>rfl⟩
theorem MulI.step {o0 b o:List Nat} {x k j c y z:Nat} (h:MulI o0 b x k j c o) (hx:x<65536) (hy:y<65536) (hb:b[j]?=some y) (ho:o[k+j]?=some z) :
 MulI o0 b x k (j+1) ((z+x*y+c) / 65536) (o.set (k+j) ((z+x*y+c) % 65536)):=by
 obtain ⟨h1,h2,h3,h4,h5⟩:=h
 have hz:=h2.at_ ho
 have hxy:x*y≤65535*65535:=Nat.mul_le_mul (by omega) (by omega)
 refine ⟨by simp [h1],dOk_set h2 _ (by omega),by omega,?_,fun i hi=>?_⟩
 · have e:=dval_set (y:=(z+x*y+c) % 65536) ho
   rw [dval_take hb,Nat.mul_add,Nat.mul_add,show k+(j+1)=(k+j)+1 by omega,Nat.pow_succ]
   have e2:=Nat.div_add_mod (z+x*y+c) 65536
   have e3:65536 ^ (k+j)*((z+x*y+c) % 65536)+65536 ^ (k+j)*65536*((z+x*y+c) / 65536)=65536 ^ (k+j)*z+65536 ^ (k+j)*(x*y)+65536 ^ (k+j)*c:=by
    rw [Nat.mul_assoc,← Nat.mul_add,Nat.add_comm ((z+x*y+c) % 65536),e2,Nat.mul_add,Nat.mul_add]
   have e4:65536 ^ k*(x*(65536 ^ j*y))=65536 ^ (k+j)*(x*y):=by
    rw [Nat.pow_add,Nat.mul_assoc,← Nat.mul_assoc x,Nat.mul_comm x,Nat.mul_assoc]
   omega
 · rw [List.getElem?_set_ne (by omega)]
   exact h5 i (by omega)
theorem MulO.start (a b:List Nat):MulO a b 0 (List.replicate (a.length+b.length) 0):=by
 refine ⟨by simp,fun d hd=>by rw [(List.mem_replicate.1 hd).2];omega,?_,fun i _ hi=>?_⟩
 · have:∀ n,dval (List.replicate n 0)=0:=fun n=>by induction n with
    | zero=>rfl
    | succ n ih=>rw [List.replicate_succ,dval,ih]
   rw [this];simp [dval]
 · rw [List.getElem?_replicate,if_pos (by simpa using hi)]
theorem MulO.step {a b o o2:List Nat} {x k c:Nat} (h:MulO a b k o) (ha:a[k]?=some x) (h2:MulI o b x k b.length c o2) :
 o2[k+b.length]?=some 0∧MulO a b (k+1) (o2.set (k+b.length) c):=by
 obtain ⟨h1,h3,h4,h5⟩:=h
 obtain ⟨i1,i2,i3,i4,i5⟩:=h2
 have hk:k<a.length:=(List.getElem?_eq_some_iff.1 ha).1
 have hz:o2[k+b.length]?=some 0:=by rw [i5 _ (Nat.le_refl _)];exact h5 _ (Nat.le_refl _) (by omega)
 refine ⟨hz,by simp [i1,h1],dOk_set i2 _ i3,?_,fun i hi hl=>?_⟩
 · have e:=dval_set (y:=c) hz
   rw [List.take_length] at i4
   rw [dval_take ha,Nat.add_mul,← h4,Nat.mul_assoc]
   omega
 · rw [List.getElem?_set_ne (by omega),i5 i (by omega)]
   exact h5 i (by omega) (by simp at hl;omega)
theorem MulO.done {a b o:List Nat} (h:MulO a b a.length o):dOk o∧dval o=dval a*dval b∧o.length=a.length+b.length:=by
 obtain ⟨h1,h3,h4,h5⟩:=h
 rw [List.take_length] at h4
 exact ⟨h3,h4,h1⟩
def SlN (w:World) (P:Nat→Prop) (A:Option Addr) (xs:List Value):Prop :=
 xs=[]∨∃ b off,A=some ⟨b,off,none⟩∧P b∧∀ j u,xs[j]?=some u→w.cell? ⟨b,off+j,none⟩=some u
section
variable {w w':World} {P R:Nat→Prop} {A:Option Addr} {xs:List Value}
theorem SlN.sl {B:Nat} (h:SlN w P A xs) (hP:∀ k,P k→k<B):Sl w B A xs:=by
 rcases h with h | ⟨b,off,hA,hb,hc⟩
 · exact .inl h
 · exact .inr ⟨b,off,hA,hP _ hb,hc⟩
theorem SlN.mono (h:SlN w P A xs) (hR:∀ k,P k→R k):SlN w R A xs:=by
 rcases h with h | ⟨b,off,hA,hb,hc⟩
 · exact .inl h
 · exact .inr ⟨b,off,hA,hR _ hb,hc⟩
theorem SlN.at_ (h:SlN w P A xs) (hk:∀ b,P b→b<w.heap.size→w'.heap[b]?=w.heap[b]?):SlN w' P A xs:=by
 rcases h with h | ⟨b,off,hA,hb,hc⟩
 · exact .inl h
 · by_cases hx:xs=[]
   · exact .inl hx
   · refine .inr ⟨b,off,hA,hb,fun j u hu=>?_⟩
     obtain ⟨x,xs',rfl⟩:=List.exists_cons_of_ne_nil hx
     have h0:=hc 0 x rfl
     exact (World.cell?_of_block (hk b hb (cell_lt h0))).trans (hc j u hu)
theorem SlN.below (h:SlN w P A xs) (hb:Below w.heap.size w w'):SlN w' P A xs:=h.at_ fun b _ hl=>hb.block b hl
theorem SlN.lt (h:SlN w P A xs):SlN w (fun k=>P k∧k<w.heap.size) A xs:=by
 rcases h with h | ⟨b,off,hA,hb,hc⟩
 · exact .inl h
 · by_cases hx:xs=[]
   · exact .inl hx
   · obtain ⟨x,xs',rfl⟩:=List.exists_cons_of_ne_nil hx
     exact .inr ⟨b,off,hA,⟨hb,cell_lt (hc 0 x rfl)⟩,hc⟩
theorem SlN.any (h:SlN w P A xs):Sl w w.heap.size A xs:=h.lt.sl fun _ hk=>hk.2
theorem SlN.take (h:SlN w P A xs) (k:Nat):SlN w P A (xs.take k):=by
 rcases h with h | ⟨b,off,hA,hB,hc⟩
 · exact .inl (by simp [h])
 · exact .inr ⟨b,off,hA,hB,fun j u hu=>by
    rw [List.getElem?_take] at hu
    split at hu
    · exact hc j u hu
    · cases hu⟩
end
end
end Go.Proofs.YtfljlmleiggmjaaGreatDoor
