/- Words FenceSize IndexFunc Check ScopeB HdBase Payload Counts Same RefCounts Conv Num2 Mask FenceCheck OpenBase -/
import Derived.BigQuiet
import Derived.Deep.DeepHandedRow
import Derived.Deep.Draws
import Derived.Deep.QuietTactic
import Derived.Deep.RegionWith
import Derived.Deep.Slices
import Derived.Deep.Strs
import Derived.Laws.BitsAllLaws
import Derived.Laws.BytesArg
import Derived.Lib.LaidTab
import Derived.Lib.SmallJoins
import Derived.OpenShut
import Derived.ProofKit
import Derived.RegionTactic
import Derived.ScopeJumps
import Derived.Test.YthnenedoblncjaaGreatDoorRows
import Derived.WalkKit
import Derived.WalkLawsBesides
import Derived.WalkMore
import Derived.WalkSpells
set_option maxRecDepth 1000000
set_option maxHeartbeats 8000000
namespace Go.Proofs.YthnenedoblncjaaGreatDoor
open Go.Proofs.Tryz
section
open Go.RowKit
def Sl(w:World)(B:Nat)(A:Option Addr)(xs:List Value):Prop :=
 xs=[]\/∃ b off,A=some ⟨b,off,none⟩/\b<B/\∀ j u,xs[j]?=some u->w.cell? ⟨b,off+j,none⟩=some u
theorem Sl.nil(w:World)(B:Nat)(A:Option Addr):Sl w B A []:=.inl rfl
theorem Sl.below{w w':World}{B:Nat}{A:Option Addr}{xs:List Value}(h:Sl w B A xs)(hb:Below B w w'):Sl w' B A xs:=by
 rcases h with h|⟨b,off,hA,hlt,hc⟩
 · exact .inl h
 · exact .inr ⟨b,off,hA,hlt,fun j u hu=>(hb.cell (p:=⟨b,off+j,none⟩) hlt).trans (hc j u hu)⟩
theorem Sl.more{w:World}{B B':Nat}{A:Option Addr}{xs:List Value}(h:Sl w B A xs)(hB:B<=B'):Sl w B' A xs:=by
 rcases h with h|⟨b,off,hA,hlt,hc⟩
 · exact .inl h
 · exact .inr ⟨b,off,hA,Nat.lt_of_lt_of_le hlt hB,hc⟩
theorem Sl.drewN{w:World}{B:Nat}{A:Option Addr}{xs:List Value}(h:Sl w B A xs)(k:Nat):Sl (w.drewN k) B A xs:=h
theorem Sl.drew{w:World}{B:Nat}{A:Option Addr}{xs:List Value}(h:Sl w B A xs):Sl w.drew B A xs:=h
theorem Sl.open_{w:World}{B:Nat}{A:Option Addr}{xs:List Value}(h:Sl w B A xs)(hn:0<xs.length):
 ∃ b off,A=some ⟨b,off,none⟩/\b<B/\∀ j u,xs[j]?=some u->w.cell? ⟨b,off+j,none⟩=some u:=by
 rcases h with h|h
 · subst h;simp at hn
 · exact h
theorem Sl.mk{w:World}{B b off:Nat}{xs:List Value}(hb:b<B)(hc:∀ j u,xs[j]?=some u->w.cell? ⟨b,off+j,none⟩=some u):Sl w B (some ⟨b,off,none⟩) xs :=
 .inr ⟨b,off,rfl,hb,hc⟩
theorem Sl.Xw{w:World}{base:Nat}{e:TypeId}{size n m c:Nat}{A:Option Addr}{xs:List Value}(h:w.ownsRow base e size (.slice A n c) m xs):Sl w w.heap.size A xs:=by
 obtain ⟨hl,h⟩:=h;rcases h with ⟨_,h0⟩|⟨g,cap,cur,hv,_,hh,hn,_,hcs,ht⟩
 · left;subst h0;exact List.eq_nil_of_length_eq_zero (by simpa using hl)
 · right
   injection hv with hA;have hlt:g<w.heap.size:=by
    rcases Nat.lt_or_ge g w.heap.size with h|h
    · exact h
    · rw [Array.getElem?_eq_none h] at hh;cases hh
   refine ⟨g,0,hA,hlt,fun j u hu=>?_⟩;rw [<- ht] at hu;rw [List.getElem?_take] at hu;have hcell:=cell_of_row w g (0+j) cur e (0,0) hh;rw [hcell];split at hu
   · simpa using hu
   · cases hu
theorem below_drewN{B:Nat}{a w:World}(h:Below B a w)(k:Nat):Below B a (w.drewN k):=⟨h.os,h.tape,h.output,h.size,h.block⟩
theorem Uw{B:Nat}{a w:World}(h:Below B a.drew w):Below B a w:=⟨h.os,h.tape,h.output,h.size,h.block⟩
theorem Z7{a w:World}(h:Below a.heap.size a w)(o:Obj):Below a.heap.size a (w.alloc o):=h.alloc h.size o
theorem bE{w w' : World}{o : Obj}(h : w'=w.alloc o): Below w.heap.size w w' := by rw [h]; exact Z7 (Below.refl _ _) _
theorem bF{w w' : World}{o o2 : Obj}(h : w'=(w.alloc o).alloc o2): Below w.heap.size w w' := by rw [h]; exact Z7 (Z7 (Below.refl _ _) _) _
theorem bA{w : World}{o : Obj}: Below w.heap.size w (w.alloc o) := Z7 (Below.refl _ _) _
theorem Zh{B:Nat}{a w:World}(h:Below B a w)(k:Nat):Below B a (w.drewN k):=⟨h.os,h.tape,h.output,h.size,h.block⟩
theorem ZU{B:Nat}{a w:World}(h:Below B a w):Below B a w.drew:=⟨h.os,h.tape,h.output,h.size,h.block⟩
theorem Z9{a w w':World}(h:Below a.heap.size a w)(hb:Below w.heap.size w w'):Below a.heap.size a w':=h.trans (hb.mono h.size)
theorem NM{a w:World}(h:Below a.heap.size a w):(∀ b o,b<a.heap.size->w.cell? ⟨b,o,none⟩=a.cell? ⟨b,o,none⟩)/\(∀ b o,b<a.heap.size->w.frozen? ⟨b,o,none⟩=a.frozen? ⟨b,o,none⟩) :=
 ⟨fun b o hb=>h.cell (p:=⟨b,o,none⟩) hb,fun b o hb=>h.frozen (p:=⟨b,o,none⟩) hb⟩
theorem hide{p:Prop}(h:p):Hid p:=h
theorem Y3{k:IntKind}{a b:Int}(h:a=b):Ending.returned (.int k a)=.returned (.int k b):=by rw [h]
theorem YS{a b:Bool}(h:a=b):Ending.returned (.bool a)=.returned (.bool b):=by rw [h]
def Z6(w:World)(g:Nat)(t:TypeId)(cs:Array Value):Prop:=w.heap[g]?=some (.cells cs t (0,0))
section
variable {w w':World}{g:Nat}{t:TypeId}{cs:Array Value}
theorem Z6.lt(h:Z6 w g t cs):g<w.heap.size:=by
 rcases Nat.lt_or_ge g w.heap.size with h1|h1
 · exact h1
 · unfold Z6 at h;rw [Array.getElem?_eq_none h1] at h;cases h
theorem Z6.cell(h:Z6 w g t cs){i:Nat}{v:Value}(hi:cs[i]?=some v):w.cell? ⟨g,i,none⟩=some v:=(cell_of_row w g i cs t (0,0) h).trans hi
theorem eE{α:Type}(a:α):∃ x,x=a:=⟨a,rfl⟩
theorem Z6.q0{w:World}{g:Nat}{t:TypeId}{cs:Array Value}(h:Z6 w g t cs){v:Value}(hi:cs[0]?=some v):w.cell? ⟨g,0,none⟩=some v:=h.cell (i:=0) hi
theorem Z6.q1{w:World}{g:Nat}{t:TypeId}{cs:Array Value}(h:Z6 w g t cs){v:Value}(hi:cs[1]?=some v):w.cell? ⟨g,1,none⟩=some v:=h.cell (i:=1) hi
theorem Z6.q2{w:World}{g:Nat}{t:TypeId}{cs:Array Value}(h:Z6 w g t cs){v:Value}(hi:cs[2]?=some v):w.cell? ⟨g,2,none⟩=some v:=h.cell (i:=2) hi
theorem Z6.q3{w:World}{g:Nat}{t:TypeId}{cs:Array Value}(h:Z6 w g t cs){v:Value}(hi:cs[3]?=some v):w.cell? ⟨g,3,none⟩=some v:=h.cell (i:=3) hi
theorem Z6.q4{w:World}{g:Nat}{t:TypeId}{cs:Array Value}(h:Z6 w g t cs){v:Value}(hi:cs[4]?=some v):w.cell? ⟨g,4,none⟩=some v:=h.cell (i:=4) hi
theorem Z6.q5{w:World}{g:Nat}{t:TypeId}{cs:Array Value}(h:Z6 w g t cs){v:Value}(hi:cs[5]?=some v):w.cell? ⟨g,5,none⟩=some v:=h.cell (i:=5) hi
theorem Z6.q6{w:World}{g:Nat}{t:TypeId}{cs:Array Value}(h:Z6 w g t cs){v:Value}(hi:cs[6]?=some v):w.cell? ⟨g,6,none⟩=some v:=h.cell (i:=6) hi
theorem Z6.q7{w:World}{g:Nat}{t:TypeId}{cs:Array Value}(h:Z6 w g t cs){v:Value}(hi:cs[7]?=some v):w.cell? ⟨g,7,none⟩=some v:=h.cell (i:=7) hi
theorem Z6.q8{w:World}{g:Nat}{t:TypeId}{cs:Array Value}(h:Z6 w g t cs){v:Value}(hi:cs[8]?=some v):w.cell? ⟨g,8,none⟩=some v:=h.cell (i:=8) hi
theorem Z6.q9{w:World}{g:Nat}{t:TypeId}{cs:Array Value}(h:Z6 w g t cs){v:Value}(hi:cs[9]?=some v):w.cell? ⟨g,9,none⟩=some v:=h.cell (i:=9) hi
theorem Z6.frozen(h:Z6 w g t cs)(i:Nat):w.frozen? ⟨g,i,none⟩=false:=by unfold Z6 at h;simp [World.frozen?,h]
theorem Z6.new(w:World)(t:TypeId)(cs:Array Value):Z6 (w.alloc (.cells cs t)) w.heap.size t cs:=by
 show (w.heap.push _)[w.heap.size]?=_;simp
theorem Z6.alloc(h:Z6 w g t cs)(o:Obj):Z6 (w.alloc o) g t cs:=(Below.heap_alloc w o g h.lt).trans h
theorem Z6.drewN(h:Z6 w g t cs)(k:Nat):Z6 (w.drewN k) g t cs:=h
theorem Z6.drew(h:Z6 w g t cs):Z6 w.drew g t cs:=h
theorem Z6.set(h:Z6 w g t cs)(i:Nat)(u:Value):Z6 (w.setCell ⟨g,i,none⟩ u) g t (cs.setIfInBounds i u):=by
 unfold Z6 at h ⊢;simp [World.setCell,Array.getElem?_modify,h]
theorem Z6.far(h:Z6 w g t cs){p:Addr}(hp:g≠p.block)(u:Value):Z6 (w.setCell p u) g t cs:=(Below.heap_setCell w p u g hp).trans h
theorem Z6.below{B:Nat}(h:Z6 w g t cs)(hb:Below B w w')(hg:g<B):Z6 w' g t cs:=(hb.block g hg).trans h
theorem Z6.step(h:Z6 w g t cs)(hb:Below w.heap.size w w'):Z6 w' g t cs:=h.below hb h.lt
theorem Z6.grown{row:Option Nat}(h:Z6 w g t cs)(hb:w.grownBy w' row)(hg:some g≠row):Z6 w' g t cs:=(hb.block g h.lt hg).trans h
theorem ZG{base:Nat}{e:TypeId}{size n:Nat}{v:Value}{xs:List Value}(h:w.ownsRow base e size v n xs){k:Nat}(hk:v.ownBlock=some k):base<=k:=by
 rcases h.2 with ⟨rfl,_⟩|⟨g',cap,cur,rfl,hb,_⟩
 · simp [Value.ownBlock] at hk
 · have:g'=k:=(by simpa [Value.ownBlock] using hk);omega
theorem Um{base:Nat}{e:TypeId}{size n:Nat}{v:Value}{xs:List Value}(h:w.ownsRow base e size v n xs)(hn:0<n):
 ∃ k cap,v=.slice (some ⟨k,0,none⟩) n cap/\base<=k/\k<w.heap.size/\n<=cap:=by
 rcases h.2 with ⟨_,h0⟩|⟨g',cap,cur,rfl,hb,hh,hc,_⟩
 · omega
 · exact ⟨g',cap,rfl,hb,Z6.lt hh,hc⟩
theorem Zl{base:Nat}{e:TypeId}{size n:Nat}{v:Value}{xs:List Value}(h:w.ownsRow base e size v n xs):∃ A cap,v=.slice A n cap/\n<=cap:=by
 rcases h.2 with ⟨rfl,rfl⟩|⟨g',cap,cur,rfl,hb,hh,hc,_⟩
 · exact ⟨none,0,rfl,Nat.le_refl _⟩
 · exact ⟨_,cap,rfl,hc⟩
theorem ZH{base:Nat}{e:TypeId}{size n:Nat}{v:Value}{xs:List Value}(h:w.ownsRow base e size v n xs)(hb:Below w.heap.size w w'):w'.ownsRow base e size v n xs:=by
 refine ⟨h.1,?_⟩;rcases h.2 with h0|⟨g',cap,cur,hv,hb1,hh,r⟩
 · exact .inl h0
 · exact .inr ⟨g',cap,cur,hv,hb1,(hb.block g' (Z6.lt hh)).trans hh,r⟩
theorem own_ne{base:Nat}{e:TypeId}{size n:Nat}{v:Value}{xs:List Value}(h:w.ownsRow base e size v n xs)(hg:g<base):some g≠v.ownBlock:=by
 intro e1;have:=ZG h e1.symm;omega
end
structure Rg where
 d:Bool
 v:Int
 A:Option Addr
 n:Nat
 c:Nat
def Rg.cells(r:Rg):List Value:=[.bool r.d,.int .i64 r.v,.slice r.A r.n r.c]
def rgCells(rs:List Rg):List Value:=rs.flatMap Rg.cells
theorem Ms(rs:List Rg):(rgCells rs).length=3*rs.length:=by
 induction rs with
 | nil=>rfl
 | cons r rs ih=>simp only [rgCells,List.flatMap_cons,List.length_append,List.length_cons] at *;rw [ih];simp [Rg.cells];omega
theorem Gs(rs:List Rg)(i:Nat)(r:Rg)(h:rs[i]?=some r):
 (rgCells rs)[i*3]?=some (.bool r.d)/\(rgCells rs)[i*3+1]?=some (.int .i64 r.v)/\(rgCells rs)[i*3+2]?=some (.slice r.A r.n r.c):=by
 induction rs generalizing i with
 | nil=>simp at h
 | cons q rs ih =>
   have hq:∀ j,(rgCells (q::rs))[j+3]?=(rgCells rs)[j]?:=by
    intro j;show (Rg.cells q++rgCells rs)[j+3]?=_;rw [List.getElem?_append_right (by simp [Rg.cells])];simp [Rg.cells]
   cases i with
   | zero =>
     simp only [List.getElem?_cons_zero,Option.some.injEq] at h;subst h;exact ⟨rfl,rfl,rfl⟩
   | succ i =>
     have h':rs[i]?=some r:=(by simpa using h);have:=ih i h';have e:(i+1)*3=i*3+3:=(by omega);rw [e];refine ⟨by rw [hq];exact this.1,?_,?_⟩
     · rw [show i*3+3+1=i*3+1+3 by omega,hq];exact this.2.1
     · rw [show i*3+3+2=i*3+2+3 by omega,hq];exact this.2.2
theorem Sl.rg{w:World}{B:Nat}{A:Option Addr}{rs:List Rg}(h:Sl w B A (rgCells rs)){k:Nat}{r:Rg}(hk:rs[k]?=some r):
 ∃ b off,A=some ⟨b,off,none⟩/\b<B/\w.cell? ⟨b,off+k*3,none⟩=some (.bool r.d)/\w.cell? ⟨b,off+k*3+1,none⟩=some (.int .i64 r.v)/\w.cell? ⟨b,off+k*3+2,none⟩=some (.slice r.A r.n r.c):=by
 have hlt:k<rs.length:=(List.getElem?_eq_some_iff.1 hk).1;obtain ⟨b,off,rfl,hB,hc⟩:=h.open_ (by rw [Ms];omega);obtain ⟨h0,h1,h2⟩:=Gs rs k r hk;exact ⟨b,off,rfl,hB,hc _ _ h0,hc _ _ h1,hc _ _ h2⟩
theorem any_take_succ{α:Type}(l:List α)(p:α->Bool)(k:Nat)(r:α)(h:l[k]?=some r):(l.take (k+1)).any p=((l.take k).any p || p r):=by
 rw [List.take_add_one,h];simp
theorem Yo{α:Type}(l:List α)(p:α->Bool)(k:Nat)(r:α)(h:l[k]?=some r)(hp:p r=true):l.any p=true :=
 List.any_eq_true.2 ⟨r,List.mem_of_getElem? h,hp⟩
theorem Z6.new2(w:World)(o:Obj)(t:TypeId)(cs:Array Value):Z6 ((w.alloc o).alloc (.cells cs t)) (w.heap.size+1) t cs:=by
 have h:=Z6.new (w.alloc o) t cs;simpa using h
theorem Wh{w:World}{base base':Nat}{e:TypeId}{size n:Nat}{v:Value}{xs:List Value}(h:w.ownsRow base e size v n xs)(hb:base'<=base):w.ownsRow base' e size v n xs:=by
 refine ⟨h.1,?_⟩;rcases h.2 with h0|⟨g',cap,cur,hv,hb1,r⟩
 · exact .inl h0
 · exact .inr ⟨g',cap,cur,hv,by omega,r⟩
theorem Yz{w:World}{base g:Nat}{e:TypeId}{size n:Nat}{xs:List Value}(h:Z6 w g e xs.toArray)(hg:base<=g)(hl:xs.length=n*size)(hn:n<=maxLen):
 w.ownsRow base e size (.slice (some ⟨g,0,none⟩) n n) n xs :=
 ⟨hl,.inr ⟨g,n,xs.toArray,rfl,hg,h,Nat.le_refl _,hn,by simpa using hl,by rw [<- hl];simp⟩⟩
theorem ZF{w:World}{g:Nat}{t:TypeId}{xs:List Value}(h:Z6 w g t xs.toArray):∀ j u,xs[j]?=some u->w.cell? ((⟨g,0,none⟩:Addr).add j)=some u:=by
 intro j u hu;have e:(⟨g,0,none⟩:Addr).add j=⟨g,j,none⟩:=by unfold Addr.add;split <;> simp_all
 rw [e];exact h.cell (by simpa using hu)
theorem IB{w:World}{base:Nat}{e:TypeId}{size n:Nat}{v:Value}{xs:List Value}(h:w.ownsRow base e size v n xs){p:Addr}(hp:v.ownBlock≠some p.block)(u:Value):(w.setCell p u).ownsRow base e size v n xs:=by
 refine ⟨h.1,?_⟩;rcases h.2 with h0|⟨g',cap,cur,rfl,hb1,hh,r⟩
 · exact .inl h0
 · refine .inr ⟨g',cap,cur,rfl,hb1,(Below.heap_setCell w p u g' ?_).trans hh,r⟩;intro e1;apply hp;rw [<- e1];rfl
theorem Zv{w:World}{b o:Nat}{v:Value}(h:w.cell? ⟨b,o,none⟩=some v):b<w.heap.size:=by
 rcases Nat.lt_or_ge b w.heap.size with h1|h1
 · exact h1
 · simp [World.cell?,Array.getElem?_eq_none h1] at h
theorem TN{w:World}{base:Nat}{e:TypeId}{size n:Nat}{v:Value}{xs:List Value}(h:w.ownsRow base e size v n xs){k:Nat}(hk:v.ownBlock=some k):k<w.heap.size:=by
 rcases h.2 with ⟨rfl,_⟩|⟨g',cap,cur,rfl,hb,hh,_⟩
 · simp [Value.ownBlock] at hk
 · have:g'=k:=(by simpa [Value.ownBlock] using hk);subst this;exact Z6.lt hh
theorem Sl.at_{w w':World}{B:Nat}{A:Option Addr}{xs:List Value}(h:Sl w B A xs)(hb:∀ b,b<B->(xs≠[]->∀ x,A=some x->x.block=b->w'.heap[b]?=w.heap[b]?)):Sl w' B A xs:=by
 rcases h with h|⟨b,off,hA,hlt,hc⟩
 · exact .inl h
 · refine .inr ⟨b,off,hA,hlt,fun j u hu=>?_⟩;have hx:xs≠[]:=fun e=>by rw [e] at hu;simp at hu
   rw [World.cell?_of_block (hb b hlt hx _ hA rfl)];exact hc j u hu
theorem Sl.bH{w:World}{B:Nat}{A:Option Addr}{xs:List Value}(h:Sl w B A xs)(hx:xs≠[]){x:Addr}(hA:A=some x):x.block<B:=by
 rcases h with h|⟨b,off,hA',hlt,hc⟩
 · exact absurd h hx
 · rw [hA] at hA';cases hA';exact hlt
theorem Sl.far{w:World}{B:Nat}{A:Option Addr}{xs:List Value}(h:Sl w B A xs){p:Addr}(hp:xs≠[]->∀ x,A=some x->x.block≠p.block)(u:Value):Sl (w.setCell p u) B A xs :=
 h.at_ fun b _ hx x hA hxb=>Below.heap_setCell w p u b (by rw [<- hxb];exact hp hx x hA)
theorem AJ{w w':World}{xs:List Value}{base:Nat}{e:TypeId}{size n:Nat}{v:Value}(h:w.ownsRow base e size v n xs)(hk:∀ k,v.ownBlock=some k->w'.heap[k]?=w.heap[k]?):w'.ownsRow base e size v n xs:=by
 refine ⟨h.1,?_⟩;rcases h.2 with h0|⟨g',cap,cur,rfl,hb1,hh,r⟩
 · exact .inl h0
 · exact .inr ⟨g',cap,cur,rfl,hb1,(hk g' rfl).trans hh,r⟩
end
section
open Go.RowKit
def ZO(v:Int):Int:=if v=0 then 3 else if 3<=v/\v<=64 then v else 0
theorem Vj(d:Bool)(A:Option Addr)(n c:Nat)(w:World):
 Calls prog 265 #[.agg #[.bool d,.int .i64 0,.slice A n c]] w fun e w'=>e=.returned (.iface 379 (.agg #[.bool d,.int .i64 0,.slice A n c]))/\Below w.heap.size w w':=by
 go_enter func265,ntmps265;go_wp2;go_ret;exact ⟨rfl,(Below.refl _ _).alloc (Nat.le_refl _) _⟩
theorem VD(d:Bool)(v:Int)(hv:(v == 0)=false)(A:Option Addr)(n c:Nat)(w:World):
 Calls prog 265 #[.agg #[.bool d,.int .i64 v,.slice A n c]] w fun e w'=>e=.returned (.iface 380 (.agg #[.bool d,.int .i64 v,.slice A n c]))/\Below w.heap.size w w':=by
 go_enter func265,ntmps265;go_wp2;go_ret;exact ⟨rfl,(Below.refl _ _).alloc (Nat.le_refl _) _⟩
theorem XO(v:Int)(w:World):
 Calls prog 47 #[.int .i64 v] w fun e w'=>e=.returned (.int .i64 (ZO v))/\w=w':=by
 go_enter func47,ntmps47;go_wp2
 all_goals go_ret
 · have h:(v == 0)=true:=(by assumption);have h0:v=0:=(by simpa using h);exact ⟨Y3 (by simp [ZO,h0]),rfl⟩
 all_goals
  have h:(v == 0)=false:=by assumption
  have h0:v≠0:=by simpa using h
  exact ⟨Y3 (by unfold ZO;rw [if_neg h0];first|rw [if_pos ⟨by assumption,by assumption⟩]|rw [if_neg (by omega)]),rfl⟩
theorem zB(d:Bool)(v:Int)(A:Option Addr)(n c:Nat)(w:World):
 Calls prog 371 #[.agg #[.bool d,.int .i64 v,.slice A n c]] w fun e w'=>e=.returned (.int .i64 3)/\Below w.heap.size w w':=by
 go_enter func371,ntmps371;go_wp2;go_ret;exact ⟨rfl,(Below.refl _ _).alloc (Nat.le_refl _) _⟩
theorem BN(d:Bool)(v:Int)(A:Option Addr)(n c:Nat)(w:World)(hv:v≠0):
 Calls prog 378 #[.agg #[.bool d,.int .i64 v,.slice A n c]] w fun e w'=>e=.returned (.int .i64 (ZO v))/\Below w.heap.size w w':=by
 go_enter func378,ntmps378;go_wp2
 all_goals go_ret
 all_goals exact ⟨Y3 (by unfold ZO;rw [if_neg hv];first|rw [if_pos ⟨by omega,by omega⟩]|rw [if_neg (by omega)]),(Below.refl _ _).alloc (Nat.le_refl _) _⟩
theorem Db(d : Bool)(v : Int)(A : Option Addr)(n c : Nat)(w : World): (method 519 379 (.agg #[.bool d, .int .i64 v, .slice A n c]) "geofence/fence.size").run prog w = .ok (371, .agg #[.bool d, .int .i64 v, .slice A n c]) w := by kernel_rfl
theorem FY(d : Bool)(v : Int)(A : Option Addr)(n c : Nat)(w : World): (method 519 380 (.agg #[.bool d, .int .i64 v, .slice A n c]) "geofence/fence.size").run prog w = .ok (378, .agg #[.bool d, .int .i64 v, .slice A n c]) w := by kernel_rfl
theorem Us(d:Bool)(v:Int)(A:Option Addr)(n c:Nat)(w:World):
 Calls prog 215 #[.agg #[.bool d,.int .i64 v,.slice A n c]] w fun e w'=>e=.returned (.int .i64 (ZO v))/\Below w.heap.size w w':=by
 have hmr:=Db;have hmc:=FY;go_enter func215,ntmps215
 by_cases h0:v=0
 · subst h0;go_wp2_with fail;refine (Vj _ _ _ _ _).mono ?_;rintro e w1 ⟨rfl,hb⟩;go_wp2_with fail;refine (zB _ _ _ _ _ _).mono ?_;rintro e w2 ⟨rfl,hb2⟩;go_wp2;go_ret;exact ⟨rfl,((Below.refl _ _).alloc (Nat.le_refl _) _).trans ((hb.mono (by simp)).trans (hb2.mono (by have:=hb.size;simp at this;omega)))⟩
 · have hv:(v == 0)=false:=(by simpa using h0);go_wp2_with fail;refine (VD _ _ hv _ _ _ _).mono ?_;rintro e w1 ⟨rfl,hb⟩;go_wp2_with fail;refine (BN _ _ _ _ _ _ h0).mono ?_;rintro e w2 ⟨rfl,hb2⟩;go_wp2;go_ret;exact ⟨rfl,((Below.refl _ _).alloc (Nat.le_refl _) _).trans ((hb.mono (by simp)).trans (hb2.mono (by have:=hb.size;simp at this;omega)))⟩
def OL(K:FuncId)(p:Rg->Bool):Prop:=∀ (r:Rg) (w:World),Calls prog K #[.agg #[.bool r.d,.int .i64 r.v,.slice r.A r.n r.c]] w fun e w'=>e=.returned (.bool (p r))/\Below w.heap.size w w'
def Enters(K:FuncId):Prop:=∀ (a:Array Value) (w:World),(callFunc K a).run prog w=.ok (.enter K a) w
def kK(rs:List Rg)(p:Rg->Bool)(w:World)(e:Ending)(w':World):Prop:=∃ k:Int,e=.returned (.int .i64 k)/\decide (0<=k)=rs.any p/\Below w.heap.size w w'
theorem KM(K:FuncId)(hK:Enters K)(p:Rg->Bool)(hp:OL K p)(A:Option Addr)(c:Nat)(rs:List Rg)(w:World)(hs:Sl w w.heap.size A (rgCells rs))(hn:rs.length<=maxLen):
 Calls prog 328 #[.slice A rs.length c,.func (.func K) #[] #[]] w (kK rs p w):=by
 unfold maxLen at hn;unfold Enters at hK;go_enter func328,ntmps328;go_wp2
 go_loopw [5,8] (fun _ i wr=>∃ k:Nat,k<=rs.length/\i=.int .i64 k/\Below w.heap.size w wr/\(rs.take k).any p=false)
  (fun _ i _=>rs.length - (intOf i).toNat)
 case atStart=>exact ⟨0,by omega,rfl,Below.refl _ _,by simp⟩
 case round =>
  obtain ⟨k,hk,rfl,hb,hany⟩:=hrel
  by_cases hlt:k<rs.length
  · obtain ⟨r,hr⟩:∃ r,rs[k]?=some r:=⟨_,List.getElem?_eq_getElem hlt⟩;obtain ⟨b,off,rfl,hB,c0,c1,c2⟩:=(hs.below hb).rg hr;have HR:=hide hr;clear hr;have HA:=hide hany;clear hany;go_wp2_with fail;refine (hp r _).mono ?_;rintro e w1 ⟨rfl,hb1⟩;obtain ⟨q,hq⟩:=eE (p r);rw [<- hq];have HQ:=hide hq;clear hq;cases q
    · go_wp2;go_roundw
      case rel=>exact ⟨k+1,by omega,by go_num,hb.trans (hb1.mono hb.size),by rw [any_take_succ _ _ _ _ HR.out,HA.out,<- HQ.out];rfl⟩
      case measure=>simp [intOf];omega
    · go_wp2;go_ret;exact ⟨k,rfl,by rw [Yo _ _ _ _ HR.out HQ.out.symm];simp,hb.trans (hb1.mono hb.size)⟩
  · have hk':k=rs.length:=(by omega);go_wp2;go_ret;exact ⟨-1,rfl,by rw [hk',List.take_length] at hany;rw [hany];rfl,hb⟩
theorem VF(K:FuncId)(hK:Enters K)(p:Rg->Bool)(hp:OL K p)(A:Option Addr)(c:Nat)(rs:List Rg)(w:World)(hs:Sl w w.heap.size A (rgCells rs))(hn:rs.length<=maxLen):
 Calls prog 287 #[.slice A rs.length c,.func (.func K) #[] #[]] w fun e w'=>e=.returned (.bool (rs.any p))/\Below w.heap.size w w':=by
 have HP:=hide hp;clear hp;go_enter func287,ntmps287;go_wp2_with fail;refine (KM K hK p HP.out A c rs w hs hn).mono ?_;rintro e w1 ⟨k,rfl,hk,hb⟩;have HK:=hide hk;clear hk;go_wp2;go_ret;exact ⟨YS HK.out,hb⟩
theorem Sb(K:FuncId)(hK:Enters K)(p:Rg->Bool)(hp:OL K p)(A:Option Addr)(c n:Nat)(rs:List Rg)(hnl:n=rs.length)(w:World)(hs:Sl w w.heap.size A (rgCells rs))(hn:rs.length<=maxLen):
 Calls prog 287 #[.slice A n c,.func (.func K) #[] #[]] w fun e w'=>e=.returned (.bool (rs.any p))/\Below w.heap.size w w':=by
 subst hnl;exact VF K hK p hp A c rs w hs hn
end
section
open Go.RowKit
def Zt(r:Rg):Bool:=ZO r.v == 0
def Yq(r:Rg):Bool:=decide (0<r.n)
theorem ET:OL 316 Zt:=by
 intro r w;go_enter func316,ntmps316;go_wp2_with fail;refine (Us _ _ _ _ _ _).mono ?_;rintro e w1 ⟨rfl,hb⟩;go_wp2;go_ret;exact ⟨rfl,((Below.refl _ _).alloc (Nat.le_refl _) _).trans (hb.mono (by simp))⟩
theorem EU:OL 317 Yq:=by
 intro r w;go_enter func317,ntmps317;go_wp2;go_ret;exact ⟨rfl,((Below.refl _ _).alloc (Nat.le_refl _) _)⟩
theorem Kz:Enters 316:=fun _ _=>by kernel_rfl
theorem KA:Enters 317:=fun _ _=>by kernel_rfl
def Zd(op vs n Z0:Int)(q1 q2:Bool):Int :=
 if op<1\/5<op then 5
 else if op=3/\(vs<3\/64<vs) then 6
 else if (op=4\/op=5)/\(n<1\/64<n) then 6
 else bif decide (op=4\/op=5) && q1 then 7
 else if op=5/\(Z0<1\/4096<Z0) then 6
 else if (op≠3/\vs≠0)\/(op<4/\0<n)\/(op≠5/\Z0≠0) then 2
 else bif q2 then 2 else 0
def ZT(op vs:Int)(rs:List Rg)(Z0:Int):Int:=Zd op vs rs.length Z0 (rs.any Zt) (rs.any Yq)
theorem Ii{op vs n Z0:Int}{q1 q2:Bool}(h:Zd op vs n Z0 q1 q2=0)(h0:0<=n):
 1<=op/\op<=5/\(op=3->3<=vs/\vs<=64)/\(op≠3->vs=0)/\(4<=op->1<=n/\n<=64/\q1=false)/\(op<4->n=0)/\(op=5->1<=Z0/\Z0<=4096)/\(op≠5->Z0=0)/\q2=false:=by
 unfold Zd at h
 by_cases h1:op<1\/5<op
 · rw [if_pos h1] at h;omega
 rw [if_neg h1] at h
 by_cases h2:op=3/\(vs<3\/64<vs)
 · rw [if_pos h2] at h;omega
 rw [if_neg h2] at h
 by_cases h3:(op=4\/op=5)/\(n<1\/64<n)
 · rw [if_pos h3] at h;omega
 rw [if_neg h3] at h
 by_cases h4:(decide (op=4\/op=5) && q1)=true
 · rw [h4,cond_true] at h;omega
 rw [Bool.not_eq_true] at h4;rw [h4,cond_false] at h
 by_cases h5:op=5/\(Z0<1\/4096<Z0)
 · rw [if_pos h5] at h;omega
 rw [if_neg h5] at h
 by_cases h6:(op≠3/\vs≠0)\/(op<4/\0<n)\/(op≠5/\Z0≠0)
 · rw [if_pos h6] at h;omega
 rw [if_neg h6] at h;cases q2
 · refine ⟨by omega,by omega,by omega,by omega,fun h7=>⟨by omega,by omega,?_⟩,by omega,by omega,by omega,rfl⟩;have:decide (op=4\/op=5)=true:=(by rw [decide_eq_true_eq];omega);rw [this] at h4;simpa using h4
 · rw [cond_true] at h;omega
section
variable (vs:Int)(rs:List Rg)(A:Option Addr)(c:Nat)(Z0:Int)(w:World)
theorem xU(op:Int)(hop:op<1\/5<op):
 Calls prog 282 #[.agg #[.int .i64 op,.int .i64 vs,.slice A rs.length c,.int .i64 Z0]] w fun e w'=>e=.returned (.int .i64 (ZT op vs rs Z0))/\Below w.heap.size w w':=by
 have h3:(op == 3)=false:=by simp;omega
 have h4:(op == 4)=false:=by simp;omega
 have h5:(op == 5)=false:=by simp;omega
 have hsp:ZT op vs rs Z0=5:=by unfold ZT Zd;rw [if_pos hop]
 rw [hsp];rcases hop with hop|hop
 all_goals
  go_enter func282,ntmps282;go_wp2
  go_quiet (fail)
  go_wp2;go_ret;exact ⟨rfl,Zh (Z7 (Below.refl _ _) _) _⟩
variable (hs:Sl w w.heap.size A (rgCells rs))(hn:rs.length<=maxLen)
include hs hn
theorem xY(w1:World)(hb:Below w.heap.size w w1):Calls prog 287 #[.slice A rs.length c,.func (.func 316) #[] #[]] w1 fun e w'=>e=.returned (.bool (rs.any Zt))/\Below w1.heap.size w1 w' :=
 VF _ Kz _ ET A c rs w1 ((hs.below hb).more hb.size) hn
theorem OT(w1:World)(hb:Below w.heap.size w w1):Calls prog 287 #[.slice A rs.length c,.func (.func 317) #[] #[]] w1 fun e w'=>e=.returned (.bool (rs.any Yq))/\Below w1.heap.size w1 w' :=
 VF _ KA _ EU A c rs w1 ((hs.below hb).more hb.size) hn
theorem rJ(op:Int)(hop:op=1\/op=2):
 Calls prog 282 #[.agg #[.int .i64 op,.int .i64 vs,.slice A rs.length c,.int .i64 Z0]] w fun e w'=>e=.returned (.int .i64 (ZT op vs rs Z0))/\Below w.heap.size w w':=by
 rcases hop with rfl|rfl
 all_goals
  go_enter func282,ntmps282;go_wp2
  go_quiet (fail)
  go_wp2_with fail
  all_goals first
   | done
   | (refine (OT rs A c w hs hn _ (Zh (Z7 (Below.refl _ _) _) _)).mono ?_
      rintro e w1 ⟨rfl,hb1⟩;generalize hq:rs.any Yq=q;have HQ:=hide hq;clear hq
      cases q <;> go_wp2)
   | skip
  all_goals
   go_ret
   first|(have h:(vs != 0)=true:=by assumption
          have hv:vs≠0:=by simpa using h)|(have h:(vs != 0)=false:=by assumption
                                           have hv:vs=0:=by simpa using h)|skip
   first|(have h:(Z0 != 0)=true:=by assumption
          have hpt:Z0≠0:=by simpa using h)|(have h:(Z0 != 0)=false:=by assumption
                                            have hpt:Z0=0:=by simpa using h)|skip
   refine ⟨Y3 ?_,?_⟩
   · unfold ZT Zd
     try rw [HQ1.out]
     try rw [HQ.out]
     repeat first|rw [if_neg (by omega)]|rw [if_pos (by omega)]|rw [cond_true]|rw [cond_false]|rw [decide_eq_true (by omega),Bool.true_and]|rw [decide_eq_false (by omega),Bool.false_and]
   · repeat first|exact Below.refl _ _|exact Z9 (Zh (Z7 (Below.refl _ _) _) _) hb1|refine Zh ?_ _|refine Z7 ?_ _
theorem lM :
 Calls prog 282 #[.agg #[.int .i64 3,.int .i64 vs,.slice A rs.length c,.int .i64 Z0]] w fun e w'=>e=.returned (.int .i64 (ZT 3 vs rs Z0))/\Below w.heap.size w w':=by
 go_enter func282,ntmps282;go_wp2
 go_quiet (fail)
 all_goals
  go_wp2_with fail
  all_goals first
   | done
   | (refine (OT rs A c w hs hn _ (Zh (Z7 (Below.refl _ _) _) _)).mono ?_
      rintro e w1 ⟨rfl,hb1⟩;generalize hq:rs.any Yq=q;have HQ:=hide hq;clear hq
      cases q <;> go_wp2)
   | skip
  all_goals
   go_ret
   first|(have h:(vs != 0)=true:=by assumption
          have hv:vs≠0:=by simpa using h)|(have h:(vs != 0)=false:=by assumption
                                           have hv:vs=0:=by simpa using h)|skip
   first|(have h:(Z0 != 0)=true:=by assumption
          have hpt:Z0≠0:=by simpa using h)|(have h:(Z0 != 0)=false:=by assumption
                                            have hpt:Z0=0:=by simpa using h)|skip
   refine ⟨Y3 ?_,?_⟩
   · unfold ZT Zd
     try rw [HQ1.out]
     try rw [HQ.out]
     repeat first|rw [if_neg (by omega)]|rw [if_pos (by omega)]|rw [cond_true]|rw [cond_false]|rw [decide_eq_true (by omega),Bool.true_and]|rw [decide_eq_false (by omega),Bool.false_and]
   · repeat first|exact Below.refl _ _|exact Z9 (Zh (Z7 (Below.refl _ _) _) _) hb1|refine Zh ?_ _|refine Z7 ?_ _
theorem rM(op:Int)(hop:op=4\/op=5):
 Calls prog 282 #[.agg #[.int .i64 op,.int .i64 vs,.slice A rs.length c,.int .i64 Z0]] w fun e w'=>e=.returned (.int .i64 (ZT op vs rs Z0))/\Below w.heap.size w w':=by
 rcases hop with rfl|rfl
 all_goals
  go_enter func282,ntmps282;go_wp2
  go_quiet (fail)
 all_goals
  go_wp2_with fail
  all_goals first
   | done
   | (refine (xY rs A c w hs hn _ (Zh (Z7 (Below.refl _ _) _) _)).mono ?_
      rintro e w1 ⟨rfl,hb1⟩;obtain ⟨hcl,hfr⟩:=NM hb1;generalize hq1:rs.any Zt=q1;have HQ1:=hide hq1;clear hq1
      cases q1 <;> go_wp2_with fail)
   | skip
  all_goals first
   | done
   | (refine (OT rs A c w hs hn _ (Z9 (Zh (Z7 (Below.refl _ _) _) _) hb1)).mono ?_
      rintro e w2 ⟨rfl,hb2⟩;generalize hq:rs.any Yq=q;have HQ:=hide hq;clear hq
      cases q <;> go_wp2)
   | skip
  all_goals
   go_ret
   first|(have h:(vs != 0)=true:=by assumption
          have hv:vs≠0:=by simpa using h)|(have h:(vs != 0)=false:=by assumption
                                           have hv:vs=0:=by simpa using h)|skip
   first|(have h:(Z0 != 0)=true:=by assumption
          have hpt:Z0≠0:=by simpa using h)|(have h:(Z0 != 0)=false:=by assumption
                                            have hpt:Z0=0:=by simpa using h)|skip
   refine ⟨Y3 ?_,?_⟩
   · unfold ZT Zd
     try rw [HQ1.out]
     try rw [HQ.out]
     repeat first|rw [if_neg (by omega)]|rw [if_pos (by omega)]|rw [cond_true]|rw [cond_false]|rw [decide_eq_true (by omega),Bool.true_and]|rw [decide_eq_false (by omega),Bool.false_and]
   · repeat first|exact Below.refl _ _|exact Z9 (Z9 (Zh (Z7 (Below.refl _ _) _) _) hb1) hb2|exact Z9 (Zh (Z7 (Below.refl _ _) _) _) hb1|refine Zh ?_ _|refine Z7 ?_ _
theorem U7(op:Int):
 Calls prog 282 #[.agg #[.int .i64 op,.int .i64 vs,.slice A rs.length c,.int .i64 Z0]] w fun e w'=>e=.returned (.int .i64 (ZT op vs rs Z0))/\Below w.heap.size w w':=by
 by_cases h0:op<1\/5<op
 · exact xU vs rs A c Z0 w op h0
 by_cases h1:op=1\/op=2
 · exact rJ vs rs A c Z0 w hs hn op h1
 by_cases h3:op=3
 · subst h3;exact lM vs rs A c Z0 w hs hn
 · exact rM vs rs A c Z0 w hs hn op (by omega)
end
theorem Zu{op vs:Int}{rs:List Rg}{Z0:Int}(h:ZT op vs rs Z0=0):
 1<=op/\op<=5/\(op=3->3<=vs/\vs<=64)/\(op≠3->vs=0)/\(4<=op->1<=rs.length/\rs.length<=64/\rs.any Zt=false)/\(op<4->rs=[])/\(op=5->1<=Z0/\Z0<=4096)/\(op≠5->Z0=0)/\rs.any Yq=false:=by
 obtain ⟨a,b,c,d,e,f,g,i,j⟩:=Ii h (by omega);exact ⟨a,b,c,d,fun h=>⟨by have:=e h;omega,by have:=e h;omega,(e h).2.2⟩,fun h=>List.eq_nil_of_length_eq_zero (by have:=f h;omega),g,i,j⟩
end
section
open Go.RowKit
def VU(P:Program)(rest:Code)(Q:Exit->Act->World->Prop)(a:Act)(w:World):Prop:=rest.wp P (Exit.noGoto Q) a w
theorem YJ {P:Program} {c rest:Code} {Q:Exit->Act->World->Prop} {a:Act} {w:World} (l:Nat) (hf:findLabel c l=some rest)
 (first:c.wp P (Exit.jump l (VU P rest Q) Q) a w):(Code.scope c).wp P Q a w :=
 wp_scope_jumps l (VU P rest Q) (fun _ _=>0) hf first (fun _ _ hJ=>wp_mono hJ (fun e _ _ q=>by cases e <;> first|exact q|exact q.elim))
theorem WX{l:Nat}{J:Act->World->Prop}{Q:Exit->Act->World->Prop}{a:Act}{w:World}(h:J a w):Exit.jump l J Q (.goto l) a w:=⟨rfl,h⟩
theorem uO{l:Nat}{J:Act->World->Prop}{Q:Exit->Act->World->Prop}{a:Act}{w:World}:Exit.jump l J Q .ret a w=Q .ret a w:=rfl
theorem FP{l:Nat}{J:Act->World->Prop}{Q:Exit->Act->World->Prop}{a:Act}{w:World}:Exit.jump l J Q .normal a w=Q .normal a w:=rfl
theorem yT{l i:Nat}{J:Act->World->Prop}{Q:Exit->Act->World->Prop}{a:Act}{w:World}:Exit.jump l J Q (.exit i) a w=Q (.exit i) a w:=rfl
theorem CY{l:Nat}{ch:List PanicEntry}{J:Act->World->Prop}{Q:Exit->Act->World->Prop}{a:Act}{w:World}:Exit.jump l J Q (.panic ch) a w=Q (.panic ch) a w:=rfl
attribute [go_sem] uO FP yT CY
def ZY(bs:List Int):List Value:=bs.map (Value.int .u8)
theorem Lc(bs:List Int):(ZY bs).length=bs.length:=by simp [ZY]
theorem Sl.Q5{w:World}{B:Nat}{A:Option Addr}{bs:List Int}(h:Sl w B A (ZY bs))(hn:0<bs.length):
 ∃ b off,A=some ⟨b,off,none⟩/\b<B/\∀ j x,bs[j]?=some x->w.cell? ⟨b,off+j,none⟩=some (.int .u8 x):=by
 obtain ⟨b,off,hA,hB,hc⟩:=h.open_ (by rw [Lc];exact hn);exact ⟨b,off,hA,hB,fun j x hx=>hc j _ (by simp [ZY,hx])⟩
end
section
open Go.RowKit
def Ra(op vs:Int)(rs:List Rg)(Z0:Int):Int:=if ZT op vs rs Z0=0 then (if op=5 then 4+Z0*9 else 2) else 0
def Yy(rs:List Rg):Int:=(rs.map fun r=>ZO r.v).sum
theorem W9(v:Int):0<=ZO v/\ZO v<=64:=by
 unfold ZO;split
 · omega
 · split <;> omega
theorem TV(rs:List Rg):0<=Yy rs/\Yy rs<=64*rs.length:=by
 induction rs with
 | nil=>simp [Yy]
 | cons r rs ih =>
   have:=W9 r.v;simp only [Yy,List.map_cons,List.sum_cons,List.length_cons] at *;omega
theorem Qs(rs:List Rg)(k:Nat)(r:Rg)(h:rs[k]?=some r):Yy (rs.take (k+1))=Yy (rs.take k)+ZO r.v:=by
 rw [List.take_add_one,h];simp [Yy]
def Xm(op:Int):Int:=if op=1 then 3 else if op=2 then 4 else if op=5 then 0 else 1
def hpay(op vs:Int)(rs:List Rg)(Z0:Int):Int:=if ZT op vs rs Z0=0 then (Xm op+vs+Yy rs)*16+Z0*24 else 0
structure PH where
 op:Int
 vs:Int
 rs:List Rg
 Z0:Int
def Y5:PH:=⟨0,0,[],0⟩
def YR(x:Int):Rg:=⟨decide (128<=x),x % 128,none,0,0⟩
def ZX(bs:List Int):PH × Int × Int :=
 if bs.length<1 then (Y5,0,4)
 else if bs.getD 0 0=1\/bs.getD 0 0=2 then (⟨bs.getD 0 0,0,[],0⟩,1,0)
 else if bs.getD 0 0<3\/5<bs.getD 0 0 then (Y5,0,5)
 else if bs.length<2 then (Y5,0,4)
 else if bs.getD 0 0=3 then (if bs.getD 1 0<3\/64<bs.getD 1 0 then (Y5,0,6) else (⟨3,bs.getD 1 0,[],0⟩,2,0))
 else if bs.getD 1 0<1\/64<bs.getD 1 0 then (Y5,0,6)
 else if (bs.length:Int)<2+bs.getD 1 0 then (Y5,0,4)
 else if (((bs.drop 2).take (bs.getD 1 0).toNat).map YR).any Zt=true then (Y5,0,7)
 else if bs.getD 0 0=4 then (⟨4,0,((bs.drop 2).take (bs.getD 1 0).toNat).map YR,0⟩,2+bs.getD 1 0,0)
 else if (bs.length:Int)<4+bs.getD 1 0 then (Y5,0,4)
 else if bs.getD (2+(bs.getD 1 0).toNat) 0+256*bs.getD (3+(bs.getD 1 0).toNat) 0<1\/4096<bs.getD (2+(bs.getD 1 0).toNat) 0+256*bs.getD (3+(bs.getD 1 0).toNat) 0 then (Y5,0,6)
 else (⟨5,0,((bs.drop 2).take (bs.getD 1 0).toNat).map YR,bs.getD (2+(bs.getD 1 0).toNat) 0+256*bs.getD (3+(bs.getD 1 0).toNat) 0⟩,4+bs.getD 1 0,0)
def YX(bs:List Int):Int :=
 if (ZX bs).2.2=0 then (if (bs.length:Int)=(ZX bs).2.1+hpay (ZX bs).1.op (ZX bs).1.vs (ZX bs).1.rs (ZX bs).1.Z0 then 0 else 8) else (ZX bs).2.2
theorem YG{α:Type}{P:α->Prop}{c:Prop}[Decidable c]{a b:α}(ha:c->P a)(hb:¬ c->P b):P (if c then a else b):=by
 by_cases h:c
 · rw [if_pos h];exact ha h
 · rw [if_neg h];exact hb h
def zse(bs:List Int)(r:PH × Int × Int):Prop:=r.1.rs.length<=bs.length/\0<=r.2.1/\r.2.1<=68
theorem PZ(bs:List Int):zse bs (ZX bs):=by
 unfold ZX
 repeat' (refine YG (fun _=>?_) (fun _=>?_))
 all_goals refine ⟨?_,?_,?_⟩
 all_goals simp only [Y5,List.length_map,List.length_take,List.length_drop,List.length_nil]
 all_goals omega
theorem CG(bs:List Int):(ZX bs).1.rs.length<=bs.length:=(PZ bs).1
theorem LV(bs:List Int):0<=(ZX bs).2.1/\(ZX bs).2.1<=68:=(PZ bs).2
theorem Ao(op vs:Int)(rs:List Rg)(Z0:Int):0<=hpay op vs rs Z0/\hpay op vs rs Z0<=200000:=by
 unfold hpay;split
 · rename_i h
   obtain ⟨a,b,c,d,e,f,g,i,_⟩:=Zu h;have hs:=TV rs;have hf:0<=Xm op/\Xm op<=4:=(by unfold Xm;split <;> (try split) <;> (try split) <;> omega);have hl:rs.length<=64:=by
    by_cases h4:4<=op
    · exact (e h4).2.1
    · rw [f (by omega)];simp
   have hv:0<=vs/\vs<=64:=(by omega);have hp:0<=Z0/\Z0<=4096:=(by omega);omega
 · omega
end
section
open Go.RowKit
def Fixed(w:World):Prop:=∀ j:Nat,j<6->w.cell? ⟨9,j,none⟩=some (.int .i64 ([0,3,4,1,1,0].getD j 0))
theorem Fixed.below{w w':World}(h:Fixed w)(hb:Below w.heap.size w w')(hg:9<w.heap.size):Fixed w':=fun j hj=>(hb.cell (p:=⟨9,j,none⟩) hg).trans (h j hj)
section
variable (vs:Int)(rs:List Rg)(A:Option Addr)(c:Nat)(Z0:Int)(w:World)
variable (hs:Sl w w.heap.size A (rgCells rs))(hn:rs.length<=maxLen)
include hs hn
variable (hfix:Fixed w)(hg:9<w.heap.size)
include hfix hg
theorem Ga(op:Int):
 Calls prog 286 #[.agg #[.int .i64 op,.int .i64 vs,.slice A rs.length c,.int .i64 Z0]] w fun e w'=>e=.returned (.int .i64 (hpay op vs rs Z0))/\Below w.heap.size w w':=by
 have hs':=hide hs;clear hs;have HF:=hide hfix;clear hfix;go_enter func286,ntmps286;go_wp2_with fail;refine (U7 vs rs A c Z0 _ ((hs'.out.below (Z7 (Below.refl _ _) _)).more (by simp)) hn op).mono ?_;rintro e w1 ⟨rfl,hb⟩;obtain ⟨hcl,hfr⟩:=NM hb
 by_cases h0:ZT op vs rs Z0=0
 · have hz:=Zu h0;rw [h0];have hsl:=(hs'.out.below (Z9 (Z7 (Below.refl _ _) _) hb));have hcells:∀ j:Nat,j<6->w1.cell? ⟨9,j,none⟩=some (.int .i64 ([0,3,4,1,1,0].getD j 0)):=fun j hj=>((Z9 (Z7 (Below.refl _ _) _) hb).cell (p:=⟨9,j,none⟩) hg).trans (HF.out j hj);have g1:=hcells 1 (by omega);have g2:=hcells 2 (by omega);have g3:=hcells 3 (by omega);have g4:=hcells 4 (by omega);have g5:=hcells 5 (by omega);clear hcells;simp only [List.getD_cons_succ,List.getD_cons_zero] at g1 g2 g3 g4 g5;obtain ⟨ha,hb',hc,hd,he,hf,hgg,hi,hj⟩:=hz;have hspec:hpay op vs rs Z0=(Xm op+vs+Yy rs)*16+Z0*24:=(by unfold hpay;rw [if_pos h0]);have H0:=hide h0;clear h0;have hop:op=1\/op=2\/op=3\/op=4\/op=5:=(by omega);have HSP:=hide hspec;clear hspec;have zlw:rs.length<=64:=by
    by_cases h4:4<=op
    · exact (he h4).2.1
    · rw [hf (by omega)];simp
   have HE:=hide he;clear he;have HFn:=hide hf;clear hf;have hvb:0<=vs/\vs<=64:=(by omega);have hpb:0<=Z0/\Z0<=4096:=(by omega);clear hc hd hgg hi;obtain ⟨hv1,hv2⟩:=hvb;obtain ⟨hp1,hp2⟩:=hpb;obtain ⟨X,hX⟩:=eE (Xm op);have hXb:0<=X/\X<=4:=(by rw [hX];unfold Xm;split <;> (try split) <;> (try split) <;> omega);obtain ⟨hX1,hX2⟩:=hXb;have HX:=hide hX;clear hX;rcases hop with rfl|rfl|rfl|rfl|rfl
   all_goals
    go_wp2
    go_quiet (fail)
    go_wp2
    go_loopw [3,5,19] (fun t _ i wr=>∃ k:Nat,k<=rs.length/\i=.int .i64 k/\t=.int .i64 (X+vs+Yy (rs.take k))/\Below w1.heap.size w1 wr)
     (fun _ _ i _=>rs.length - (intOf i).toNat)
    case atStart=>exact ⟨0,by omega,rfl,by rw [HX.out];simp [Yy,Xm],below_drewN (Below.refl _ _) _⟩
    case round =>
     obtain ⟨k,hk,rfl,rfl,hbr⟩:=hrel;have hsb:=TV (rs.take k);rw [List.length_take,Nat.min_eq_left hk] at hsb;obtain ⟨mH,mI⟩:=hsb
     by_cases hlt:k<rs.length
     · obtain ⟨r,hr⟩:∃ r,rs[k]?=some r:=⟨_,List.getElem?_eq_getElem hlt⟩;obtain ⟨b,off,rfl,hB,c0,c1,c2⟩:=(hsl.below (hbr.mono (by have:=hb.size;simp at this;omega))).rg hr;have hsn:=Qs rs k r hr;have hzb:=W9 r.v;obtain ⟨zqh,zqi⟩:=hzb;have HR:=hide hr;clear hr;have HN:=hide hsn;clear hsn;go_wp2_with fail;refine (Us r.d r.v r.A r.n r.c _).mono ?_;rintro e w2 ⟨rfl,hb2⟩;go_wp2;go_roundw
       case rel=>exact ⟨k+1,by omega,by go_num,by rw [HN.out];go_num,Z9 (Z7 hbr _) hb2⟩
       case measure=>simp [intOf];omega
     · have hk':k=rs.length:=(by omega);rw [hk',List.take_length] at mH mI ⊢;clear hk' hlt hk;obtain ⟨zly,hfr2⟩:=NM hbr;have hz1:=hb.size;simp at hz1;have hz2:w.heap.size<w1.heap.size:=(by omega);go_wp2;go_ret;exact ⟨Y3 (by rw [HSP.out,<- HX.out]),Z9 (Z9 (Z7 (Below.refl _ _) _) hb) hbr⟩
 · have hr:hpay op vs rs Z0=0:=(by unfold hpay;rw [if_neg h0]);have h0':(ZT op vs rs Z0 != 0)=true:=(by simpa using h0);generalize ZT op vs rs Z0=x at *;have H0:=hide h0;clear h0;have HR:=hide hr;clear hr;go_wp2;go_ret;exact ⟨Y3 HR.out.symm,Z9 (Z7 (Below.refl _ _) _) hb⟩
end
end
section
open Go.RowKit
def XT(op vs:Int):Int:=if op=1 then 3 else if op=2 then 4 else if op=3 then vs+1 else if op=4 then 1 else 0
def WU(op Z0:Int):Int:=if op=1\/op=2\/op=3\/op=4 then 0 else Z0
section
variable (op vs Z0:Int)(hA:Value)(w:World)(h0:-1000<=vs)(h1:vs<=1000)
include h0 h1
def qH(n m:Int)(w:World)(e:Ending)(w':World):Prop:=e=.returned (.tuple #[.int .i64 n,.int .i64 m])/\Below w.heap.size w w'
theorem Lm(A:Option Addr)(n c:Nat):Calls prog 214 #[.agg #[.int .i64 op,.int .i64 vs,.slice A n c,.int .i64 Z0]] w (qH (XT op vs) (WU op Z0) w):=by
 by_cases e1:op=1
 · subst e1;go_enter func214,ntmps214;go_wp2;go_ret2;exact ⟨rfl,Z7 (Below.refl _ _) _⟩
 by_cases e2:op=2
 · subst e2;go_enter func214,ntmps214;go_wp2;go_ret2;exact ⟨rfl,Z7 (Below.refl _ _) _⟩
 by_cases e3:op=3
 · subst e3;go_enter func214,ntmps214;go_wp2;go_ret2;exact ⟨rfl,Z7 (Below.refl _ _) _⟩
 by_cases e4:op=4
 · subst e4;go_enter func214,ntmps214;go_wp2;go_ret2;exact ⟨rfl,Z7 (Below.refl _ _) _⟩
 · have hp:XT op vs=0:=(by unfold XT;rw [if_neg e1,if_neg e2,if_neg e3,if_neg e4]);have hq:WU op Z0=Z0:=(by unfold WU;rw [if_neg (by omega)]);rw [hp,hq];clear hp hq;go_enter func214,ntmps214;go_wp2
   go_quiet (fail)
   go_wp2;go_ret2;exact ⟨rfl,below_drewN (Z7 (Below.refl _ _) _) _⟩
end
end
section
open Go.RowKit
def Rg.key(r:Rg):Bool × Int × Nat:=(r.d,r.v,r.n)
end
section
open Go.RowKit
section
variable (op vs Z0:Int)(hA:Value)(w:World)(h0:-1000<=vs)(h1:vs<=1000)
include h0 h1
theorem Oo(A:Option Addr)(n c:Nat):Calls prog 57 #[.agg #[.int .i64 op,.int .i64 vs,.slice A n c,.int .i64 Z0]] w (qH (XT op vs) (WU op Z0) w):=by
 by_cases e1:op=1
 · subst e1;go_enter func57,ntmps57;go_wp2;go_ret2;exact ⟨rfl,Z7 (Below.refl _ _) _⟩
 by_cases e2:op=2
 · subst e2;go_enter func57,ntmps57;go_wp2;go_ret2;exact ⟨rfl,Z7 (Below.refl _ _) _⟩
 by_cases e3:op=3
 · subst e3;go_enter func57,ntmps57;go_wp2;go_ret2;exact ⟨rfl,Z7 (Below.refl _ _) _⟩
 by_cases e4:op=4
 · subst e4;go_enter func57,ntmps57;go_wp2;go_ret2;exact ⟨rfl,Z7 (Below.refl _ _) _⟩
 · have hp:XT op vs=0:=(by unfold XT;rw [if_neg e1,if_neg e2,if_neg e3,if_neg e4]);have hq:WU op Z0=Z0:=(by unfold WU;rw [if_neg (by omega)]);rw [hp,hq];clear hp hq;go_enter func57,ntmps57;go_wp2
   go_quiet (fail)
   go_wp2;go_ret2;exact ⟨rfl,below_drewN (Z7 (Below.refl _ _) _) _⟩
end
end
section
open Go.RowKit
theorem QF(w:World)(B:Nat)(A:Option Addr)(bs:List Int)(c:Nat)(hs:Sl w B A (ZY bs)):
 (convert 49 9 (.slice A bs.length c)).run prog w=.ok (.string (strOfNums bs)) w:=by
 rcases hs with hs|⟨b,off,rfl,_,hc⟩
 · have h0:bs=[]:=(by simpa [ZY] using hs);subst h0;cases A with
   | none=>exact run_convert_bytes_nil w _ _ underlying49 underlying5 0 c _ underlying9
   | some a =>
     rw [run_convert_bytes_string w _ _ _ _ _ c underlying49 underlying5 underlying9,run_bytesToString w a _ c [] rfl];rfl
 · refine run_convert_bytes_arg w _ _ underlying49 underlying5 b off _ c bs rfl (fun i hi=>?_) _ underlying9;have h:bs[i]?=some bs[i]:=List.getElem?_eq_getElem hi;refine hc i _ ?_;simp [ZY,h]
def dval:List Nat->Nat
 | []=>0
 | d::l=>d+65536*dval l
def Vb(l:List Nat):Prop:=∀ d∈l,d<65536
def UZ(l:List Nat):List Value:=l.map fun (d:Nat)=>Value.int .i64 (d:Int)
def ZB(n:Nat):List Nat:=if h:n=0 then [] else n % 65536::ZB (n / 65536)
 termination_by n
 decreasing_by omega
theorem BP(l:List Nat):(UZ l).length=l.length:=by simp [UZ]
theorem RG(a b:List Nat):UZ (a++b)=UZ a++UZ b:=by simp [UZ]
theorem Hu{l:List Nat}{i d:Nat}(h:l[i]?=some d):(UZ l)[i]?=some (.int .i64 (d:Int)):=by unfold UZ;rw [List.getElem?_map,h];rfl
theorem Vb.at_{l:List Nat}(h:Vb l){i d:Nat}(hi:l[i]?=some d):d<65536:=h d (List.mem_of_getElem? hi)
theorem Vb.take{l:List Nat}(h:Vb l)(n:Nat):Vb (l.take n):=fun d hd=>h d (List.mem_of_mem_take hd)
theorem Vb.snoc{l:List Nat}(h:Vb l){d:Nat}(hd:d<65536):Vb (l++[d]):=fun x hx=>by
 rcases List.mem_append.1 hx with h1|h1
 · exact h x h1
 · rw [List.mem_singleton.1 h1];exact hd
theorem Lr:∀ (a b:List Nat),dval (a++b)=dval a+65536 ^ a.length*dval b
 | [],b=>by simp [dval]
 | d::a,b=>by
   rw [List.cons_append,dval,dval,Lr a b,List.length_cons,Nat.pow_succ,Nat.mul_add,Nat.add_assoc,Nat.mul_comm (65536 ^ a.length) 65536,Nat.mul_assoc]
theorem Uf(a:List Nat)(d:Nat):dval (a++[d])=dval a+65536 ^ a.length*d:=by rw [Lr];simp [dval]
theorem Ww{l:List Nat}{i d:Nat}(h:l[i]?=some d):dval (l.take (i+1))=dval (l.take i)+65536 ^ i*d:=by
 have hi:i<l.length:=(List.getElem?_eq_some_iff.1 h).1;rw [List.take_add_one,h,Option.toList_some,Uf,List.length_take,Nat.min_eq_left (Nat.le_of_lt hi)]
theorem MV:∀ {l:List Nat},Vb l->dval l<65536 ^ l.length
 | [],_=>by simp [dval]
 | d::l,h=>by
   have h1:=MV (l:=l) fun x hx=>h x (List.mem_cons_of_mem _ hx);have h2:=h d (List.mem_cons_self ..);rw [dval,List.length_cons,Nat.pow_succ];omega
theorem Lu{l:List Nat}(n:Nat):dval l=dval (l.take n)+65536 ^ (l.take n).length*dval (l.drop n):=by
 rw [<- Lr,List.take_append_drop]
theorem Yt:ZB 0=[]:=by rw [ZB];rfl
theorem Sc{n:Nat}(h:n≠0):ZB n=n % 65536::ZB (n / 65536):=by rw [ZB,dif_neg h]
theorem YT:∀ n:Nat,dval (ZB n)=n:=by
 intro n
 induction n using Nat.strongRecOn with
 | _ n ih =>
   by_cases h:n=0
   · rw [h,Yt];rfl
   · rw [Sc h,dval,ih _ (by omega)];omega
theorem VY:∀ n:Nat,Vb (ZB n):=by
 intro n
 induction n using Nat.strongRecOn with
 | _ n ih =>
   by_cases h:n=0
   · rw [h,Yt];exact fun d hd=>by simp at hd
   · rw [Sc h];intro d hd;rcases List.mem_cons.1 hd with rfl|hd
     · omega
     · exact ih _ (by omega) d hd
theorem rV{n:Nat}:ZB n=[] ↔ n=0:=by
 constructor
 · intro h;have:=YT n;rw [h] at this;exact this.symm
 · rintro rfl;exact Yt
def Md(l:List Nat):Prop:=l.getLast?≠some 0
theorem Od:∀ {l:List Nat},Vb l->Md l->l=ZB (dval l)
 | [],_,_=>by simp [dval,Yt]
 | d::l,h,hn=>by
   have hd:=h d (List.mem_cons_self ..);have hl:Vb l:=fun x hx=>h x (List.mem_cons_of_mem _ hx)
   by_cases he:l=[]
   · subst he;have h0:d≠0:=(by intro e;subst e;exact hn rfl);rw [show dval [d]=d by simp [dval],Sc h0,show d % 65536=d by omega,show d / 65536=0 by omega,Yt]
   · have hn':Md l:=by
      unfold Md at hn ⊢;obtain ⟨x,l',rfl⟩:=List.exists_cons_of_ne_nil he;rwa [List.getLast?_cons_cons] at hn
     have ih:=Od hl hn';have hv:dval l≠0:=by
      intro e;rw [e,Yt] at ih;exact he ih
     rw [dval,Sc (by omega),show (d+65536*dval l) % 65536=d by omega,show (d+65536*dval l) / 65536=dval l by omega,<- ih]
theorem PV{n k:Nat}(h:n<65536 ^ k):(ZB n).length<=k:=by
 induction k generalizing n with
 | zero=>have:n=0:=by simpa using h
         rw [this,Yt];simp
 | succ k ih =>
   by_cases h0:n=0
   · rw [h0,Yt];simp
   · rw [Sc h0,List.length_cons];have:n / 65536<65536 ^ k:=(by rw [Nat.pow_succ] at h;omega);have:=ih this;omega
theorem Hw(n:Nat):n<65536 ^ (ZB n).length:=by have:=MV (VY n);rwa [YT] at this
theorem Ls{l:List Nat}{m:Nat}(hl:l.length=m+1)(h:l[m]?=some 0):dval (l.take m)=dval l:=by
 have h1:=Ww h;rw [List.take_of_length_le (by omega)] at h1;rw [h1];simp
theorem ze{l:List Nat}{m d:Nat}(hl:l.length=m+1)(h:l[m]?=some d)(hd:d≠0):Md l:=by
 unfold Md;rw [List.getLast?_eq_getElem?,show l.length - 1=m by omega,h];intro e;cases e;exact hd rfl
theorem E9{a b:List Nat}(ha:Vb a){i x y:Nat}(hl:a.length=b.length)(hx:a[i]?=some x)(hy:b[i]?=some y)(htop:a.drop (i+1)=b.drop (i+1))(h:x<y):dval a<dval b:=by
 have hia:i<a.length:=(List.getElem?_eq_some_iff.1 hx).1;have hib:i<b.length:=(List.getElem?_eq_some_iff.1 hy).1;have e1:=Lu (l:=a) (i+1);have e2:=Lu (l:=b) (i+1);rw [htop,List.length_take,Nat.min_eq_left (by omega)] at e1;rw [List.length_take,Nat.min_eq_left (by omega)] at e2;have t1:=Ww hx;have t2:=Ww hy;have l1:=MV (ha.take i);rw [List.length_take,Nat.min_eq_left (by omega)] at l1;have l2:65536 ^ i*x+65536 ^ i<=65536 ^ i*y:=by
  have:=Nat.mul_le_mul_left (65536 ^ i) (show x+1<=y from h);rw [Nat.mul_add,Nat.mul_one] at this;exact this
 omega
theorem NR{m n:Nat}(h:(ZB m).length<(ZB n).length):m<n:=by
 have h1:=Hw m;rcases Nat.lt_or_ge m n with h2|h2
 · exact h2
 · have h3:=PV (n:=n) (k:=(ZB m).length) (by omega);omega
end
section
open Go.RowKit
def Ux(l:List Nat)(k:Nat):Nat:=l[k]?.getD 0
theorem OU{l:List Nat}(h:Vb l)(k:Nat):Ux l k<65536:=by
 unfold Ux;cases hk:l[k]? with
 | none=>simp
 | some d=>exact h.at_ hk
theorem TG(l:List Nat)(k:Nat):dval (l.take (k+1))=dval (l.take k)+65536 ^ k*Ux l k:=by
 unfold Ux;cases hk:l[k]? with
 | none =>
   have:=List.getElem?_eq_none_iff.1 hk;rw [List.take_of_length_le (by omega),List.take_of_length_le (by omega)];simp
 | some d=>exact Ww hk
def G6(a b:List Nat)(k c:Nat)(o:List Nat):Prop :=
 o.length=k/\Vb o/\c<=1/\dval o+65536 ^ k*c=dval (a.take k)+dval (b.take k)/\k<=max a.length b.length+1/\(k=max a.length b.length+1->c=0)
theorem G6.start(a b:List Nat):G6 a b 0 0 []:=⟨rfl,fun d hd=>by simp at hd,by omega,by simp [dval],by omega,fun _=>rfl⟩
theorem G6.step{a b o:List Nat}{k c:Nat}(ha:Vb a)(hb:Vb b)(h:G6 a b k c o)(hk:k<a.length\/k<b.length\/0<c):
 G6 a b (k+1) ((Ux a k+Ux b k+c) / 65536) (o++[(Ux a k+Ux b k+c) % 65536]):=by
 obtain ⟨h1,h2,h3,h4,h5,h6⟩:=h;have x1:=OU ha k;have x2:=OU hb k;have hk':k<=max a.length b.length:=by
  rcases Nat.lt_or_ge k (max a.length b.length+1) with h|h
  · omega
  · have:k=max a.length b.length+1:=(by omega);have:=h6 this;omega
 refine ⟨by simp [h1],h2.snoc (by omega),by omega,?_,by omega,fun he=>?_⟩
 · rw [Uf,h1,TG,TG,Nat.pow_succ];have e:=Nat.div_add_mod (Ux a k+Ux b k+c) 65536;have e2:65536 ^ k*((Ux a k+Ux b k+c) % 65536)+65536 ^ k*65536*((Ux a k+Ux b k+c) / 65536)=65536 ^ k*Ux a k+65536 ^ k*Ux b k+65536 ^ k*c:=by
    rw [Nat.mul_assoc,<- Nat.mul_add,Nat.add_comm ((Ux a k+Ux b k+c) % 65536),e,Nat.mul_add,Nat.mul_add]
   omega
 · have ea:Ux a k=0:=(by unfold Ux;rw [List.getElem?_eq_none (by omega)];rfl);have eb:Ux b k=0:=(by unfold Ux;rw [List.getElem?_eq_none (by omega)];rfl);rw [ea,eb];omega
theorem G6.done{a b o:List Nat}{k c:Nat}(h:G6 a b k c o)(hk:¬ (k<a.length\/k<b.length\/0<c)):Vb o/\dval o=dval a+dval b/\o.length<=max a.length b.length+1:=by
 obtain ⟨h1,h2,h3,h4,h5,h6⟩:=h;rw [List.take_of_length_le (by omega),List.take_of_length_le (by omega),show c=0 by omega] at h4;exact ⟨h2,by simpa using h4,by omega⟩
def Nl(a b:List Nat)(k c:Nat)(o:List Nat):Prop :=
 o.length=k/\Vb o/\c<=1/\dval o+dval (b.take k)=dval (a.take k)+65536 ^ k*c
theorem Nl.start(a b:List Nat):Nl a b 0 0 []:=⟨rfl,fun d hd=>by simp at hd,by omega,by simp [dval]⟩
theorem Nl.lend{a b o:List Nat}{k c x:Nat}(h:Nl a b k c o)(ha:Vb a)(hb:Vb b)(hx:a[k]?=some x)(hs:x<Ux b k+c):
 Nl a b (k+1) 1 (o++[x+65536 - Ux b k - c]):=by
 obtain ⟨h1,h2,h3,h4⟩:=h;have x1:=ha.at_ hx;have x2:=OU hb k;refine ⟨by simp [h1],h2.snoc (by omega),by omega,?_⟩;rw [Uf,h1,TG,Ww hx,Nat.pow_succ];have e:65536 ^ k*(x+65536 - Ux b k - c)+65536 ^ k*Ux b k+65536 ^ k*c=65536 ^ k*x+65536 ^ k*65536:=by
  rw [<- Nat.mul_add,<- Nat.mul_add,<- Nat.mul_add,show x+65536 - Ux b k - c+Ux b k+c=x+65536 by omega]
 omega
theorem Nl.keep{a b o:List Nat}{k c x:Nat}(h:Nl a b k c o)(ha:Vb a)(hx:a[k]?=some x)(hs:Ux b k+c<=x):
 Nl a b (k+1) 0 (o++[x - Ux b k - c]):=by
 obtain ⟨h1,h2,h3,h4⟩:=h;have x1:=ha.at_ hx;refine ⟨by simp [h1],h2.snoc (by omega),by omega,?_⟩;rw [Uf,h1,TG,Ww hx];have e:65536 ^ k*(x - Ux b k - c)+65536 ^ k*Ux b k+65536 ^ k*c=65536 ^ k*x:=by
  rw [<- Nat.mul_add,<- Nat.mul_add,show x - Ux b k - c+Ux b k+c=x by omega]
 omega
theorem Nl.done{a b o:List Nat}{c:Nat}(h:Nl a b a.length c o)(hl:b.length<=a.length)(hv:dval b<=dval a):Vb o/\dval o=dval a - dval b/\o.length=a.length:=by
 obtain ⟨h1,h2,h3,h4⟩:=h;rw [List.take_length,List.take_of_length_le hl] at h4;have hlt:=MV h2;rw [h1] at hlt;have hc:c=0:=by
  rcases Nat.lt_or_ge 0 c with h|h
  · have:c=1:=(by omega);subst this;omega
  · omega
 subst hc;exact ⟨h2,by omega,h1⟩
theorem Fa{l:List Nat}{i x y:Nat}(h:l[i]?=some x):dval (l.set i y)+65536 ^ i*x=dval l+65536 ^ i*y:=by
 induction l generalizing i with
 | nil=>simp at h
 | cons d l ih =>
   cases i with
   | zero=>simp at h;subst h;simp [dval];omega
   | succ i =>
     have h':=ih (i:=i) (by simpa using h);rw [List.set_cons_succ,dval,dval,Nat.pow_succ];have e1:65536 ^ i*65536*x=65536*(65536 ^ i*x):=(by rw [Nat.mul_comm (65536 ^ i) 65536,Nat.mul_assoc]);have e2:65536 ^ i*65536*y=65536*(65536 ^ i*y):=(by rw [Nat.mul_comm (65536 ^ i) 65536,Nat.mul_assoc]);omega
theorem Ak{l:List Nat}(h:Vb l)(i:Nat){y:Nat}(hy:y<65536):Vb (l.set i y):=fun d hd=>by
 rcases List.mem_or_eq_of_mem_set hd with h1|h1
 · exact h d h1
 · omega
def wU(l:List Nat)(k:Nat):Prop:=∀ i,k<=i->i<l.length->l[i]?=some 0
def He(a b:List Nat)(k:Nat)(o:List Nat):Prop :=
 o.length=a.length+b.length/\Vb o/\dval o=dval (a.take k)*dval b/\wU o (k+b.length)
def EF(o0 b:List Nat)(x k j c:Nat)(o:List Nat):Prop :=
 o.length=o0.length/\Vb o/\c<65536/\dval o+65536 ^ (k+j)*c=dval o0+65536 ^ k*(x*dval (b.take j))/\(∀ i,k+j<=i->o[i]?=o0[i]?)
theorem EF.start{o0 b:List Nat}(x k:Nat)(h:Vb o0):EF o0 b x k 0 0 o0:=⟨rfl,h,by omega,by simp [dval],fun _ _=>rfl⟩
theorem EF.step{o0 b o:List Nat}{x k j c y z:Nat}(h:EF o0 b x k j c o)(hx:x<65536)(hy:y<65536)(hb:b[j]?=some y)(ho:o[k+j]?=some z):
 EF o0 b x k (j+1) ((z+x*y+c) / 65536) (o.set (k+j) ((z+x*y+c) % 65536)):=by
 obtain ⟨h1,h2,h3,h4,h5⟩:=h;have hz:=h2.at_ ho;have hxy:x*y<=65535*65535:=Nat.mul_le_mul (by omega) (by omega);refine ⟨by simp [h1],Ak h2 _ (by omega),by omega,?_,fun i hi=>?_⟩
 · have e:=Fa (y:=(z+x*y+c) % 65536) ho;rw [Ww hb,Nat.mul_add,Nat.mul_add,show k+(j+1)=(k+j)+1 by omega,Nat.pow_succ];have e2:=Nat.div_add_mod (z+x*y+c) 65536;have e3:65536 ^ (k+j)*((z+x*y+c) % 65536)+65536 ^ (k+j)*65536*((z+x*y+c) / 65536)=65536 ^ (k+j)*z+65536 ^ (k+j)*(x*y)+65536 ^ (k+j)*c:=by
    rw [Nat.mul_assoc,<- Nat.mul_add,Nat.add_comm ((z+x*y+c) % 65536),e2,Nat.mul_add,Nat.mul_add]
   have e4:65536 ^ k*(x*(65536 ^ j*y))=65536 ^ (k+j)*(x*y):=by
    rw [Nat.pow_add,Nat.mul_assoc,<- Nat.mul_assoc x,Nat.mul_comm x,Nat.mul_assoc]
   omega
 · rw [List.getElem?_set_ne (by omega)];exact h5 i (by omega)
theorem He.start(a b:List Nat):He a b 0 (List.replicate (a.length+b.length) 0):=by
 refine ⟨by simp,fun d hd=>by rw [(List.mem_replicate.1 hd).2];omega,?_,fun i _ hi=>?_⟩
 · have:∀ n,dval (List.replicate n 0)=0:=fun n=>by induction n with
    | zero=>rfl
    | succ n ih=>rw [List.replicate_succ,dval,ih]
   rw [this];simp [dval]
 · rw [List.getElem?_replicate,if_pos (by simpa using hi)]
theorem He.step{a b o o2:List Nat}{x k c:Nat}(h:He a b k o)(ha:a[k]?=some x)(h2:EF o b x k b.length c o2):
 o2[k+b.length]?=some 0/\He a b (k+1) (o2.set (k+b.length) c):=by
 obtain ⟨h1,h3,h4,h5⟩:=h;obtain ⟨i1,i2,i3,i4,i5⟩:=h2;have hk:k<a.length:=(List.getElem?_eq_some_iff.1 ha).1;have hz:o2[k+b.length]?=some 0:=by rw [i5 _ (Nat.le_refl _)];exact h5 _ (Nat.le_refl _) (by omega)
 refine ⟨hz,by simp [i1,h1],Ak i2 _ i3,?_,fun i hi hl=>?_⟩
 · have e:=Fa (y:=c) hz;rw [List.take_length] at i4;rw [Ww ha,Nat.add_mul,<- h4,Nat.mul_assoc];omega
 · rw [List.getElem?_set_ne (by omega),i5 i (by omega)];exact h5 i (by omega) (by simp at hl;omega)
theorem He.done{a b o:List Nat}(h:He a b a.length o):Vb o/\dval o=dval a*dval b/\o.length=a.length+b.length:=by
 obtain ⟨h1,h3,h4,h5⟩:=h;rw [List.take_length] at h4;exact ⟨h3,h4,h1⟩
def PG(w:World)(P:Nat->Prop)(A:Option Addr)(xs:List Value):Prop :=
 xs=[]\/∃ b off,A=some ⟨b,off,none⟩/\P b/\∀ j u,xs[j]?=some u->w.cell? ⟨b,off+j,none⟩=some u
section
variable {w w':World}{P R:Nat->Prop}{A:Option Addr}{xs:List Value}
theorem PG.sl{B:Nat}(h:PG w P A xs)(hP:∀ k,P k->k<B):Sl w B A xs:=by
 rcases h with h|⟨b,off,hA,hb,hc⟩
 · exact .inl h
 · exact .inr ⟨b,off,hA,hP _ hb,hc⟩
theorem PG.mono(h:PG w P A xs)(hR:∀ k,P k->R k):PG w R A xs:=by
 rcases h with h|⟨b,off,hA,hb,hc⟩
 · exact .inl h
 · exact .inr ⟨b,off,hA,hR _ hb,hc⟩
theorem PG.at_(h:PG w P A xs)(hk:∀ b,P b->b<w.heap.size->w'.heap[b]?=w.heap[b]?):PG w' P A xs:=by
 rcases h with h|⟨b,off,hA,hb,hc⟩
 · exact .inl h
 · by_cases hx:xs=[]
   · exact .inl hx
   · refine .inr ⟨b,off,hA,hb,fun j u hu=>?_⟩;obtain ⟨x,xs',rfl⟩:=List.exists_cons_of_ne_nil hx;have h0:=hc 0 x rfl;exact (World.cell?_of_block (hk b hb (Zv h0))).trans (hc j u hu)
theorem PG.below(h:PG w P A xs)(hb:Below w.heap.size w w'):PG w' P A xs:=h.at_ fun b _ hl=>hb.block b hl
theorem PG.lt(h:PG w P A xs):PG w (fun k=>P k/\k<w.heap.size) A xs:=by
 rcases h with h|⟨b,off,hA,hb,hc⟩
 · exact .inl h
 · by_cases hx:xs=[]
   · exact .inl hx
   · obtain ⟨x,xs',rfl⟩:=List.exists_cons_of_ne_nil hx;exact .inr ⟨b,off,hA,⟨hb,Zv (hc 0 x rfl)⟩,hc⟩
theorem PG.any(h:PG w P A xs):Sl w w.heap.size A xs:=h.lt.sl fun _ hk=>hk.2
theorem PG.take(h:PG w P A xs)(k:Nat):PG w P A (xs.take k):=by
 rcases h with h|⟨b,off,hA,hB,hc⟩
 · exact .inl (by simp [h])
 · exact .inr ⟨b,off,hA,hB,fun j u hu=>by
    rw [List.getElem?_take] at hu;split at hu
    · exact hc j u hu
    · cases hu⟩
end
theorem Qi{w:World}{base:Nat}{e:TypeId}{size n m c:Nat}{A:Option Addr}{xs:List Value}(h:w.ownsRow base e size (.slice A n c) m xs):PG w (fun k=>base<=k) A xs:=by
 rcases Sl.Xw h with h1|⟨b,off,hA,hb,hc⟩
 · exact .inl h1
 · exact .inr ⟨b,off,hA,ZG h (by rw [hA];rfl),hc⟩
theorem AL{w:World}{base:Nat}{e:TypeId}{n g cap:Nat}{xs:List Value}(h:w.ownsRow base e 1 (.slice (some ⟨g,0,none⟩) n cap) n xs)(i:Nat)(u:Value):
 (w.setCell ⟨g,i,none⟩ u).ownsRow base e 1 (.slice (some ⟨g,0,none⟩) n cap) n (xs.set i u):=by
 refine ⟨by rw [List.length_set];exact h.1,?_⟩;rcases h.2 with ⟨h0,_⟩|⟨g',cap',cur,hv,hb,hh,hc,hm,hs,ht⟩
 · cases h0
 · cases hv;refine .inr ⟨g,cap,cur.setIfInBounds i u,rfl,hb,?_,hc,hm,by simpa using hs,?_⟩
   · simp [World.setCell,Array.getElem?_modify,hh]
   · rw [<- ht];simp [List.take_set]
theorem F6{w:World}{base:Nat}{e:TypeId}{n g cap:Nat}{xs:List Value}(h:w.ownsRow base e 1 (.slice (some ⟨g,0,none⟩) n cap) n xs){i:Nat}{u:Value}(hi:xs[i]?=some u):w.cell? ⟨g,i,none⟩=some u/\w.frozen? ⟨g,i,none⟩=false:=by
 rcases h.2 with ⟨h0,_⟩|⟨g',cap',cur,hv,hb,hh,hc,hm,hs,ht⟩
 · cases h0
 · cases hv;have hi':cur[i]?=some u:=by
    rw [<- ht] at hi;rw [List.getElem?_take] at hi;split at hi
    · rw [<- Array.getElem?_toList];exact hi
    · cases hi
   exact ⟨Z6.cell (show Z6 w g e cur from hh) hi',by simp [World.frozen?,hh]⟩
end
section
open Go.RowKit
def ZE(c:Bool):Int:=bif c then 18446744073709551615 else 0
theorem VJ(c:Bool):0<=ZE c/\ZE c<18446744073709551616:=by cases c <;> decide
theorem oF(y:Nat)(h:y<18446744073709551616):18446744073709551615 ^^^ y=18446744073709551615 - y:=by
 have h1:=congrArg BitVec.toNat (BitVec.allOnes_xor (x:=BitVec.ofNat 64 y));rw [BitVec.toNat_xor,BitVec.toNat_not,BitVec.toNat_allOnes,BitVec.toNat_ofNat,Nat.mod_eq_of_lt (show y<2 ^ 64 by simpa using h)] at h1;exact h1
theorem lK(y:Int)(h0:0<=y)(h1:y<18446744073709551616):bits BinOp.xor IntKind.u64 IntKind.u64.max y=18446744073709551615 - y:=by
 have e:IntKind.u64.max=18446744073709551615:=rfl;rw [e,u64_xor _ y (by omega) (by omega) h0 h1];have:=oF y.toNat (by omega);rw [show (18446744073709551615:Int).toNat=18446744073709551615 from rfl,this];omega
theorem rA(x:Int)(h0:0<=x)(h1:x<18446744073709551616):bits BinOp.and IntKind.u64 x 1=x % 2:=by
 rw [u64_and x 1 h0 h1 (by omega) (by omega),show (1:Int).toNat=1 from rfl,Nat.and_one_is_mod];omega
theorem oJ(x:Int)(h0:0<=x)(h1:x<18446744073709551616):IntKind.u64.wrap (-bits BinOp.and IntKind.u64 x 1)=ZE (decide (x % 2=1)):=by
 rw [rA x h0 h1,IntKind.wrap_u64];have:x % 2=0\/x % 2=1:=by omega
 rcases this with h|h <;> rw [h] <;> decide
theorem zV(x:Int)(h0:0<=x)(h1:x<18446744073709551616):bits BinOp.xor IntKind.u64 IntKind.u64.max (bits BinOp.or IntKind.u64 x (IntKind.u64.wrap (-x))) / 9223372036854775808=if x=0 then 1 else 0:=by
 rw [IntKind.wrap_u64]
 by_cases hx:x=0
 · subst hx;rw [if_pos rfl];decide +kernel
 · rw [if_neg hx,show (-x) % 18446744073709551616=18446744073709551616 - x by omega,u64_or x _ h0 h1 (by omega) (by omega)];have hl:x.toNat<=x.toNat ||| (18446744073709551616 - x).toNat:=Nat.left_le_or
   have hr:(18446744073709551616 - x).toNat<=x.toNat ||| (18446744073709551616 - x).toNat:=Nat.right_le_or
   have hb:x.toNat ||| (18446744073709551616 - x).toNat<2 ^ 64:=Nat.or_lt_two_pow (by omega) (by omega)
   generalize x.toNat ||| (18446744073709551616 - x).toNat=y at hl hr hb ⊢
   rw [lK y (by omega) (by omega)];omega
theorem Ta(c:Bool)(a b:Int)(h0:0<=a)(h1:a<18446744073709551616)(h2:0<=b)(h3:b<18446744073709551616):bits BinOp.xor IntKind.u64 b (bits BinOp.and IntKind.u64 (ZE c) (bits BinOp.xor IntKind.u64 a b))=bif c then a else b:=by
 rw [u64_xor a b h0 h1 h2 h3];have hx:a.toNat ^^^ b.toNat<2 ^ 64:=Nat.xor_lt_two_pow (by omega) (by omega);obtain ⟨A,rfl⟩:=Int.eq_ofNat_of_zero_le h0;obtain ⟨B,rfl⟩:=Int.eq_ofNat_of_zero_le h2;simp only [Int.toNat_natCast] at hx ⊢;cases c
 · rw [u64_and _ _ (VJ _).1 (VJ _).2 (by omega) (by omega)];show bits _ _ _ (((0:Nat) &&& _:Nat):Int)=(B:Int);rw [Nat.zero_and,u64_xor _ _ (by omega) (by omega) (by omega) (by omega)];simp
 · rw [u64_and _ _ (VJ _).1 (VJ _).2 (by omega) (by omega)];have e:(ZE true).toNat &&& ((A ^^^ B:Nat):Int).toNat=A ^^^ B:=by
    rw [Int.toNat_natCast,show (ZE true).toNat=2 ^ 64 - 1 from rfl,Nat.and_comm,Nat.and_two_pow_sub_one_eq_mod,Nat.mod_eq_of_lt hx]
   rw [e,u64_xor _ _ (by omega) (by omega) (by omega) (by omega),Int.toNat_natCast,Int.toNat_natCast,Nat.xor_comm A B,<- Nat.xor_assoc,Nat.xor_self,Nat.zero_xor];rfl
theorem QS(x:Int)(h0:0<=x)(h1:x<18446744073709551616)(w:World):Calls prog 262 #[.int .u64 x] w fun e w'=>e=.returned (.int .u64 (ZE (decide (x % 2=1))))/\w=w':=by
 have h:=oJ x h0 h1;go_enter func262,ntmps262;go_wp2;go_ret;exact ⟨by simp,rfl⟩
theorem og(c:Bool):decide (ZE c % 2=1)=c:=by cases c <;> decide
theorem iG(c:Bool)(w:World):Calls prog 262 #[.int .u64 (ZE c)] w fun e w'=>e=.returned (.int .u64 (ZE c))/\w=w':=by
 have h:=QS (ZE c) (VJ c).1 (VJ c).2 w;rw [og] at h;exact h
theorem Ut(x:Int)(h0:0<=x)(h1:x<18446744073709551616)(w:World):Calls prog 247 #[.int .u64 x] w fun e w'=>e=.returned (.int .u64 (ZE (decide (x=0))))/\w=w':=by
 have h:=zV x h0 h1;have HO:=QS (if x=0 then 1 else 0) (by split <;> omega) (by split <;> omega) w;have e:decide ((if x=0 then (1:Int) else 0) % 2=1)=decide (x=0):=by by_cases hx:x=0 <;> simp [hx]
 rw [e] at HO;obtain ⟨z,hz⟩:=eE ((if x=0 then (1:Int) else 0));rw [<- hz] at h HO;have H:=hide h;clear hz e h;go_enter func247,ntmps247;go_wp2_with fail;rw [H.out];refine HO.mono ?_;rintro e w' ⟨rfl,rfl⟩;go_wp2;go_ret;exact ⟨rfl,rfl⟩
theorem WY(x:Int)(h0:-9223372036854775808<=x)(h1:x<9223372036854775808)(w:World):Calls prog 263 #[.int .i64 x] w fun e w'=>e=.returned (.int .u64 (ZE (decide (x<0))))/\w=w':=by
 have h:IntKind.u64.wrap (x / 9223372036854775808)=ZE (decide (x<0)):=by
  rw [IntKind.wrap_u64]
  by_cases hx:x<0
  · rw [show x / 9223372036854775808=-1 by omega,decide_eq_true hx];decide
  · rw [show x / 9223372036854775808=0 by omega,decide_eq_false hx];decide
 go_enter func263,ntmps263;go_wp2;go_ret;exact ⟨by simp,rfl⟩
theorem Fp(x:Int)(h0:0<=x)(h1:x<18446744073709551616)(w:World):Calls prog 246 #[.int .u64 x] w fun e w'=>e=.returned (.int .u64 (ZE (decide (9223372036854775808<=x))))/\w=w':=by
 have HO:=QS (x / 9223372036854775808) (by omega) (by omega) w;have e:decide (x / 9223372036854775808 % 2=1)=decide (9223372036854775808<=x):=by
  by_cases hx:9223372036854775808<=x
  · rw [decide_eq_true hx,decide_eq_true (by omega)]
  · rw [decide_eq_false hx,decide_eq_false (by omega)]
 rw [e] at HO;go_enter func246,ntmps246;go_wp2_with fail;refine HO.mono ?_;rintro e w' ⟨rfl,rfl⟩;go_wp2;go_ret;exact ⟨rfl,rfl⟩
theorem MC(c:Bool)(a b:Int)(h0:0<=a)(h1:a<18446744073709551616)(h2:0<=b)(h3:b<18446744073709551616)(w:World):Calls prog 261 #[.int .u64 (ZE c),.int .u64 a,.int .u64 b] w fun e w'=>e=.returned (.int .u64 (bif c then a else b))/\w=w':=by
 have h:=Ta c a b h0 h1 h2 h3;go_enter func261,ntmps261;go_wp2;go_ret;exact ⟨by simp,rfl⟩
def QC(w:World):Prop:=w.cell? ⟨8,0,none⟩=some (.int .u64 9223372036854775808)/\w.cell? ⟨8,1,none⟩=some (.int .u64 18446744073709551615)
def KU(n z:Bool):Int:=bif n then -1 else bif z then 0 else 1
theorem J4(n z:Bool)(w:World)(hw:QC w):Calls prog 245 #[.int .u64 (ZE n),.int .u64 (ZE z)] w fun e w'=>e=.returned (.int .i64 (KU n z))/\∃ m,w'=w.drewN m:=by
 obtain ⟨_,hw1⟩:=hw;have h1:bits BinOp.and IntKind.u64 (bits BinOp.xor IntKind.u64 IntKind.u64.max (ZE z)) 1=bif z then 0 else 1:=by
  rw [lK _ (VJ z).1 (VJ z).2,rA _ (by have:=VJ z;omega) (by have:=VJ z;omega)];cases z <;> decide
 have h2:wrap64 (bif n then 18446744073709551615 else (bif z then 0 else 1))=KU n z:=by cases n <;> cases z <;> decide +kernel
 obtain ⟨y,hy⟩:∃ y:Int,y=bif z then 0 else 1:=⟨_,rfl⟩;have hyb:0<=y/\y<=1:=by rw [hy];cases z <;> decide
 rw [<- hy] at h1 h2
 have HS:∀ k,Calls prog 261 #[.int .u64 (ZE n),.int .u64 18446744073709551615,.int .u64 (bits BinOp.and IntKind.u64 (bits BinOp.xor IntKind.u64 (if IntKind.u64.signed=true then -1 else IntKind.u64.max) (ZE z)) 1)] (w.drewN k) fun e w'=>e=.returned (.int .u64 (bif n then 18446744073709551615 else y))/\w.drewN k=w':=fun k=>by
  have h1':bits BinOp.and IntKind.u64 (bits BinOp.xor IntKind.u64 (if IntKind.u64.signed=true then -1 else IntKind.u64.max) (ZE z)) 1=y:=h1;rw [h1'];exact MC n _ y (by omega) (by omega) hyb.1 (by omega) _
 have HSH:=hide HS;have HY:=hide hy;have H2:=hide h2;clear HS hy h1 h2 hyb;go_enter func245,ntmps245;go_wp2
 go_quiet ((first|(go_at_call 262;exact Calls.quiet_of_same ((iG _ _).mono fun _ _ ⟨a,b⟩=>⟨a,b.symm⟩))|(go_at_call 261;exact Calls.quiet_of_same ((HSH.out _).mono fun _ _ ⟨a,b⟩=>⟨a,b.symm⟩))))
 go_wp2;go_ret;exact ⟨Y3 H2.out,_,rfl⟩
def Y1:List Rg->Int
 | []=>0
 | r::rs=>if ZO r.v=0 then 7 else if ZO r.v=(r.n:Int) then Y1 rs else 8
def Zi(rs:List Rg):Int:=if rs.length<1\/64<rs.length then 6 else Y1 rs
theorem PW(rs:List Rg)(k:Nat)(r:Rg)(h:rs[k]?=some r):Y1 (rs.drop k)=if ZO r.v=0 then 7 else if ZO r.v=(r.n:Int) then Y1 (rs.drop (k+1)) else 8:=by
 obtain ⟨hlt,he⟩:=List.getElem?_eq_some_iff.1 h;rw [List.drop_eq_getElem_cons hlt,he];rfl
theorem QH(rs:List Rg)(A:Option Addr)(c:Nat)(w:World)(hs:Sl w w.heap.size A (rgCells rs)):
 Calls prog 264 #[.slice A rs.length c] w fun e w'=>e=.returned (.int .i64 (Zi rs))/\Below w.heap.size w w':=by
 have HS:=hide hs;clear hs
 by_cases hc:rs.length<1\/64<rs.length
 · have hf:Zi rs=6:=(by unfold Zi;rw [if_pos hc]);rw [hf];have hci:((rs.length:Nat):Int)<1\/(¬ ((rs.length:Nat):Int)<1/\(64:Int)<((rs.length:Nat):Int)):=(by omega);clear hf hc;rcases hci with h|⟨h,h2⟩
   · go_enter func264,ntmps264;go_wp2;go_ret;exact ⟨rfl,Below.refl _ _⟩
   · go_enter func264,ntmps264;go_wp2;go_ret;exact ⟨rfl,Below.refl _ _⟩
 · have hf:Zi rs=Y1 rs:=(by unfold Zi;rw [if_neg hc]);rw [hf];have h1:¬ ((rs.length:Nat):Int)<1:=(by omega);have h2:¬ (64:Int)<((rs.length:Nat):Int):=(by omega);clear hf hc;go_enter func264,ntmps264;go_wp2
   go_loopw [15] (fun i wr=>∃ k:Nat,k<=rs.length/\i=.int .i64 k/\Hid (Y1 rs=Y1 (rs.drop k))/\Below w.heap.size w wr)
    (fun i _=>rs.length - (intOf i).toNat)
   case atStart=>exact ⟨0,Nat.zero_le _,rfl,hide (by simp),Below.refl _ _⟩
   case round =>
    obtain ⟨k,hk,rfl,hF,hb⟩:=hrel
    by_cases hlt:k<rs.length
    · obtain ⟨r,hr⟩:∃ r,rs[k]?=some r:=⟨_,List.getElem?_eq_getElem hlt⟩;obtain ⟨b,off,rfl,hB,c0,c1,c2⟩:=(HS.out.below hb).rg hr;have hD:=hide (hF.out.trans (PW rs k r hr));have Sv:((k:Nat):Int)<((rs.length:Nat):Int):=(by omega);obtain ⟨d,v,A,n,c⟩:=r;dsimp only at *;clear hr hF;obtain ⟨w1,hw1⟩:=eE (wr.alloc (.cells #[.bool d,.int .i64 v,.slice A n c] 38));have hb1:Below wr.heap.size wr w1:=(by rw [hw1];exact Z7 (Below.refl _ _) _);have B1:Z6 w1 wr.heap.size 38 #[.bool d,.int .i64 v,.slice A n c]:=(by rw [hw1];exact Z6.new _ _ _);go_wp2_with fail;rw [<- hw1];clear hw1;refine (Us d v A n c w1).mono ?_;rintro e w2 ⟨rfl,hb2⟩;have B2:=B1.step hb2;have z2:w2.cell? ⟨wr.heap.size,2,none⟩=some (.slice A n c):=B2.q2 rfl;have hbb:Below w.heap.size w w2:=Z9 (Z9 hb hb1) hb2;clear B1 B2 hb1 hb2 c0 c1 c2;obtain ⟨z,hz⟩:=eE (ZO v);rw [<- hz] at hD;rw [<- hz];clear hz
      by_cases h0:z=0
      · have hD':Hid (Y1 rs=7):=hide (hD.out.trans (if_pos h0));clear hD;subst h0;go_wp2;go_ret;exact ⟨Y3 hD'.out.symm,hbb⟩
      · by_cases h3:z=(n:Int)
        · have hD':Hid (Y1 rs=Y1 (rs.drop (k+1))):=hide (hD.out.trans ((if_neg h0).trans (if_pos h3)));clear hD;go_wp2;go_roundw
          case rel=>exact ⟨k+1,by omega,by go_num,hD',hbb⟩
          case measure=>simp [intOf];omega
        · have hD':Hid (Y1 rs=8):=hide (hD.out.trans ((if_neg h0).trans (if_neg h3)));clear hD;go_wp2;go_ret;exact ⟨Y3 hD'.out.symm,hbb⟩
    · obtain rfl:k=rs.length:=(by omega);have hD':Hid (Y1 rs=0):=hide (hF.out.trans (by rw [List.drop_length];rfl));go_wp2;go_ret;exact ⟨Y3 hD'.out.symm,hb⟩
end
section
open Go.ChangeShapes Go.WideShapes Go.ChangeAt Go.RowKit
theorem zsi:ownKnob prog.godebug=none:=by kernel_rfl
theorem yC:laidOutB prog=true:=by kernel_rfl
theorem Rj{H:Type}{enc:TypeId × Value->H}{W W':World}(hb:Below W.heap.size W W'):
 ∀ (ts:List TypeId) (vs:List Value) (ds:List (DataW H)) (ps:List MemPlace),(∀ t∈ts,prog.readableRec t=true/\t<prog.types.size)->(∀ x∈ps,x.block<W.heap.size) ->
   DataW.TrodAll enc prog W 0 (fun _=>true) true ts vs ds ps->DataW.TrodAll enc prog W' 0 (fun b=>decide (b<W.heap.size)) true ts vs ds ps
 | [],vs,ds,ps,_,_,h=>by
   obtain ⟨rfl,rfl,rfl⟩:=trodAll_nil h;exact trodAll_mk0
 | t::ts,vs,ds,ps,ht,hlt,h=>by
   obtain ⟨v,vs',d,ds',p,q,rfl,rfl,rfl,h0,hr⟩:=trodAll_cons h
   exact trodAll_cons_mk (Below.trod yC (ht t (by simp)).1 (ht t (by simp)).2 h0 hb (fun x hx=>hlt x (by simp [hx])))
    (Rj hb ts vs' ds' q (fun u hu=>ht u (by simp [hu])) (fun x hx=>hlt x (by simp [hx])) hr)
theorem uR {H:Type} {enc:TypeId × Value->H} {f:Func} {s:ChangeSpec} {W W':World} {args:Array Value} {ds gs:List (DataW H)} {before:List MemPlace}
 (hvars:s.vars=[]) (hres:f.resultTypes=#[4]) (hread:∀ t∈f.params.toList,prog.readableRec t=true/\t<prog.types.size)
 (hspec:s.fn H (ds++gs)={ results:=[.lit (.bool true)],args:=ds,vars:=[] })
 (hW:DataW.Whole enc prog f.params.toList s.vars false W args.toList ds gs before) (hb:Below W.heap.size W W') :
 s.post enc prog f false true false false W args (.bool true) W':=by
 have hlt:∀ p∈before,p.block<W.heap.size:=fun p hp=>hW.lt p hp;have hW':=hW;obtain ⟨p,q,hA,hV,rfl,hfz,hnd⟩:=hW;refine ⟨ds,gs,p++q,[],p,[],hW',?_,?_,?_,hb.frame _,fun h=>by cases h⟩
 · rw [hspec,hres];exact trodAll_mk1 (shut_bool underlying4 true)
 · rw [hspec];exact Rj hb _ _ _ _ hread (fun x hx=>hlt x (by simp [hx])) hA
 · rw [hspec,hvars];rfl
theorem block_lt{w:World}{b o:Nat}{v:Value}(h:w.cell? ⟨b,o,none⟩=some v):b<w.heap.size:=by
 rcases Nat.lt_or_ge b w.heap.size with h1|h1
 · exact h1
 · simp [World.cell?,Array.getElem?_eq_none h1] at h
section
variable {H:Type}{enc:TypeId × Value->H}{W:World}{base:Nat}
theorem Dm{v:Value}{d:DataW H}{ps:List MemPlace}(hv:Value.okWide prog W .any base 49 v)(h:DataW.Trod enc prog W 0 (fun _=>true) true 49 v d ps):
 ∃ (A:Option Addr) (bs:List Int) (c:Nat),v=.slice A bs.length c/\bs.length<=c/\c<=maxLen/\Sl W W.heap.size A (bs.map (Value.int .u8))/\(∀ (j:Nat) (x:Int),bs[j]?=some x->0<=x/\x<=255):=by
 obtain ⟨a0,len,cap,rfl⟩:=okWide_slice underlying49 hv;obtain ⟨fuel,hf⟩:=h;rcases open_ints underlying49 underlying5 (by kernel_rfl) hf with ⟨hcs,_⟩|⟨a,len',cap',zs,hcs,_,hl,hm,hz,_,hcell,hwz⟩
 · have e:a0=none/\len=0/\cap=0:=(by simpa [Value.cells] using hcs);obtain ⟨rfl,rfl,rfl⟩:=e;exact ⟨none,[],0,rfl,Nat.le_refl _,by unfold maxLen;omega,Sl.nil _ _ _,fun j x hx=>by simp at hx⟩
 · have e:a0=some a/\len=len'/\cap=cap':=(by simpa [Value.cells] using hcs);obtain ⟨rfl,rfl,rfl⟩:=e;simp only [if_true] at hz;have hlen:(zs.take len).length=len:=(by rw [List.length_take,hz];omega);refine ⟨some a,zs.take len,cap,by rw [hlen],by rw [hlen];exact hl,hm,?_,?_⟩
   · rcases Nat.eq_zero_or_pos len with h0|h0
     · subst h0;exact .inl (by simp)
     · obtain ⟨b,off,rfl,hc⟩:=ints_at hcell (by omega);refine Sl.mk (block_lt (hc 0 (by omega))) fun j u hu=>?_;simp only [List.getElem?_map,List.getElem?_take] at hu;split at hu
       · rename_i hj
         rw [hc j (by omega),List.getD_eq_getElem?_getD];have hjl:j<zs.length:=(by omega);rw [List.getElem?_eq_getElem hjl] at hu ⊢;simpa using hu
       · simp at hu
   · intro j x hx;have hmem:x∈zs:=List.mem_of_mem_take (List.mem_of_getElem? hx);have:=bounds_u8 (hwz x hmem);omega
end
end
end Go.Proofs.YthnenedoblncjaaGreatDoor