/- Words ScopeB Mask Num2 RefNum5 RefNum7 Bitonic ScrNew OpenBase -/
import Derived.BigQuiet
import Derived.Deep.AppendLies
import Derived.Deep.DeepHandedRow
import Derived.Deep.Draws
import Derived.Deep.QuietTactic
import Derived.Deep.RegionHeld3
import Derived.Deep.RegionWith
import Derived.Deep.Slices
import Derived.Deep.Strs
import Derived.Laws.BitsAllLaws
import Derived.Lib.LaidTab
import Derived.Lib.SmallJoins
import Derived.OpenShut
import Derived.ProofKit
import Derived.RegionTactic
import Derived.ScopeJumps
import Derived.Test.YthnenedoblncjaaGreatDoorRows
import Derived.WalkKit
import Derived.WalkLawsBesides
import Derived.WalkMore
import Derived.WalkSpells
set_option maxRecDepth 1000000
set_option maxHeartbeats 8000000
namespace Go.Proofs.YthnenedoblncjaaGreatDoor
open Go.Proofs.Tryz
section
open Go.RowKit
def Sl(w:World)(B:Nat)(A:Option Addr)(xs:List Value):Prop :=
 xs=[]\/∃ b off,A=some ⟨b,off,none⟩/\b<B/\∀ j u,xs[j]?=some u->w.cell? ⟨b,off+j,none⟩=some u
theorem Sl.nil(w:World)(B:Nat)(A:Option Addr):Sl w B A []:=.inl rfl
theorem Sl.below{w w':World}{B:Nat}{A:Option Addr}{xs:List Value}(h:Sl w B A xs)(hb:Below B w w'):Sl w' B A xs:=by
 rcases h with h|⟨b,off,hA,hlt,hc⟩
 · exact .inl h
 · exact .inr ⟨b,off,hA,hlt,fun j u hu=>(hb.cell (p:=⟨b,off+j,none⟩) hlt).trans (hc j u hu)⟩
theorem Sl.more{w:World}{B B':Nat}{A:Option Addr}{xs:List Value}(h:Sl w B A xs)(hB:B<=B'):Sl w B' A xs:=by
 rcases h with h|⟨b,off,hA,hlt,hc⟩
 · exact .inl h
 · exact .inr ⟨b,off,hA,Nat.lt_of_lt_of_le hlt hB,hc⟩
theorem Sl.drewN{w:World}{B:Nat}{A:Option Addr}{xs:List Value}(h:Sl w B A xs)(k:Nat):Sl (w.drewN k) B A xs:=h
theorem Sl.drew{w:World}{B:Nat}{A:Option Addr}{xs:List Value}(h:Sl w B A xs):Sl w.drew B A xs:=h
theorem Sl.open_{w:World}{B:Nat}{A:Option Addr}{xs:List Value}(h:Sl w B A xs)(hn:0<xs.length):
 ∃ b off,A=some ⟨b,off,none⟩/\b<B/\∀ j u,xs[j]?=some u->w.cell? ⟨b,off+j,none⟩=some u:=by
 rcases h with h|h
 · subst h;simp at hn
 · exact h
theorem Sl.mk{w:World}{B b off:Nat}{xs:List Value}(hb:b<B)(hc:∀ j u,xs[j]?=some u->w.cell? ⟨b,off+j,none⟩=some u):Sl w B (some ⟨b,off,none⟩) xs :=
 .inr ⟨b,off,rfl,hb,hc⟩
theorem Sl.Zv{w:World}{base:Nat}{e:TypeId}{size n m c:Nat}{A:Option Addr}{xs:List Value}(h:w.ownsRow base e size (.slice A n c) m xs):Sl w w.heap.size A xs:=by
 obtain ⟨hl,h⟩:=h;rcases h with ⟨_,h0⟩|⟨g,cap,cur,hv,_,hh,hn,_,hcs,ht⟩
 · left;subst h0;exact List.eq_nil_of_length_eq_zero (by simpa using hl)
 · right
   injection hv with hA;have hlt:g<w.heap.size:=by
    rcases Nat.lt_or_ge g w.heap.size with h|h
    · exact h
    · rw [Array.getElem?_eq_none h] at hh;cases hh
   refine ⟨g,0,hA,hlt,fun j u hu=>?_⟩;rw [<- ht] at hu;rw [List.getElem?_take] at hu;have hcell:=cell_of_row w g (0+j) cur e (0,0) hh;rw [hcell];split at hu
   · simpa using hu
   · cases hu
theorem below_drewN{B:Nat}{a w:World}(h:Below B a w)(k:Nat):Below B a (w.drewN k):=⟨h.os,h.tape,h.output,h.size,h.block⟩
theorem Ye{B:Nat}{a w:World}(h:Below B a.drew w):Below B a w:=⟨h.os,h.tape,h.output,h.size,h.block⟩
theorem Z5{a w:World}(h:Below a.heap.size a w)(o:Obj):Below a.heap.size a (w.alloc o):=h.alloc h.size o
theorem bE{w w' : World}{o : Obj}(h : w'=w.alloc o): Below w.heap.size w w' := by rw [h]; exact Z5 (Below.refl _ _) _
theorem bF{w w' : World}{o o2 : Obj}(h : w'=(w.alloc o).alloc o2): Below w.heap.size w w' := by rw [h]; exact Z5 (Z5 (Below.refl _ _) _) _
theorem bA{w : World}{o : Obj}: Below w.heap.size w (w.alloc o) := Z5 (Below.refl _ _) _
theorem YB{B:Nat}{a w:World}(h:Below B a w)(k:Nat):Below B a (w.drewN k):=⟨h.os,h.tape,h.output,h.size,h.block⟩
theorem ZV{B:Nat}{a w:World}(h:Below B a w):Below B a w.drew:=⟨h.os,h.tape,h.output,h.size,h.block⟩
theorem Z8{a w w':World}(h:Below a.heap.size a w)(hb:Below w.heap.size w w'):Below a.heap.size a w':=h.trans (hb.mono h.size)
theorem Mq{a w:World}(h:Below a.heap.size a w):(∀ b o,b<a.heap.size->w.cell? ⟨b,o,none⟩=a.cell? ⟨b,o,none⟩)/\(∀ b o,b<a.heap.size->w.frozen? ⟨b,o,none⟩=a.frozen? ⟨b,o,none⟩) :=
 ⟨fun b o hb=>h.cell (p:=⟨b,o,none⟩) hb,fun b o hb=>h.frozen (p:=⟨b,o,none⟩) hb⟩
theorem hide{p:Prop}(h:p):Hid p:=h
theorem Zf{k:IntKind}{a b:Int}(h:a=b):Ending.returned (.int k a)=.returned (.int k b):=by rw [h]
theorem XA{a b:Bool}(h:a=b):Ending.returned (.bool a)=.returned (.bool b):=by rw [h]
def Z7(w:World)(g:Nat)(t:TypeId)(cs:Array Value):Prop:=w.heap[g]?=some (.cells cs t (0,0))
section
variable {w w':World}{g:Nat}{t:TypeId}{cs:Array Value}
theorem Z7.lt(h:Z7 w g t cs):g<w.heap.size:=by
 rcases Nat.lt_or_ge g w.heap.size with h1|h1
 · exact h1
 · unfold Z7 at h;rw [Array.getElem?_eq_none h1] at h;cases h
theorem Z7.cell(h:Z7 w g t cs){i:Nat}{v:Value}(hi:cs[i]?=some v):w.cell? ⟨g,i,none⟩=some v:=(cell_of_row w g i cs t (0,0) h).trans hi
theorem eE{α:Type}(a:α):∃ x,x=a:=⟨a,rfl⟩
theorem Z7.q0{w:World}{g:Nat}{t:TypeId}{cs:Array Value}(h:Z7 w g t cs){v:Value}(hi:cs[0]?=some v):w.cell? ⟨g,0,none⟩=some v:=h.cell (i:=0) hi
theorem Z7.q1{w:World}{g:Nat}{t:TypeId}{cs:Array Value}(h:Z7 w g t cs){v:Value}(hi:cs[1]?=some v):w.cell? ⟨g,1,none⟩=some v:=h.cell (i:=1) hi
theorem Z7.q2{w:World}{g:Nat}{t:TypeId}{cs:Array Value}(h:Z7 w g t cs){v:Value}(hi:cs[2]?=some v):w.cell? ⟨g,2,none⟩=some v:=h.cell (i:=2) hi
theorem Z7.q3{w:World}{g:Nat}{t:TypeId}{cs:Array Value}(h:Z7 w g t cs){v:Value}(hi:cs[3]?=some v):w.cell? ⟨g,3,none⟩=some v:=h.cell (i:=3) hi
theorem Z7.q4{w:World}{g:Nat}{t:TypeId}{cs:Array Value}(h:Z7 w g t cs){v:Value}(hi:cs[4]?=some v):w.cell? ⟨g,4,none⟩=some v:=h.cell (i:=4) hi
theorem Z7.q5{w:World}{g:Nat}{t:TypeId}{cs:Array Value}(h:Z7 w g t cs){v:Value}(hi:cs[5]?=some v):w.cell? ⟨g,5,none⟩=some v:=h.cell (i:=5) hi
theorem Z7.q6{w:World}{g:Nat}{t:TypeId}{cs:Array Value}(h:Z7 w g t cs){v:Value}(hi:cs[6]?=some v):w.cell? ⟨g,6,none⟩=some v:=h.cell (i:=6) hi
theorem Z7.q7{w:World}{g:Nat}{t:TypeId}{cs:Array Value}(h:Z7 w g t cs){v:Value}(hi:cs[7]?=some v):w.cell? ⟨g,7,none⟩=some v:=h.cell (i:=7) hi
theorem Z7.q8{w:World}{g:Nat}{t:TypeId}{cs:Array Value}(h:Z7 w g t cs){v:Value}(hi:cs[8]?=some v):w.cell? ⟨g,8,none⟩=some v:=h.cell (i:=8) hi
theorem Z7.q9{w:World}{g:Nat}{t:TypeId}{cs:Array Value}(h:Z7 w g t cs){v:Value}(hi:cs[9]?=some v):w.cell? ⟨g,9,none⟩=some v:=h.cell (i:=9) hi
theorem Z7.frozen(h:Z7 w g t cs)(i:Nat):w.frozen? ⟨g,i,none⟩=false:=by unfold Z7 at h;simp [World.frozen?,h]
theorem Z7.new(w:World)(t:TypeId)(cs:Array Value):Z7 (w.alloc (.cells cs t)) w.heap.size t cs:=by
 show (w.heap.push _)[w.heap.size]?=_;simp
theorem Z7.alloc(h:Z7 w g t cs)(o:Obj):Z7 (w.alloc o) g t cs:=(Below.heap_alloc w o g h.lt).trans h
theorem Z7.drewN(h:Z7 w g t cs)(k:Nat):Z7 (w.drewN k) g t cs:=h
theorem Z7.drew(h:Z7 w g t cs):Z7 w.drew g t cs:=h
theorem Z7.set(h:Z7 w g t cs)(i:Nat)(u:Value):Z7 (w.setCell ⟨g,i,none⟩ u) g t (cs.setIfInBounds i u):=by
 unfold Z7 at h ⊢;simp [World.setCell,Array.getElem?_modify,h]
theorem Z7.far(h:Z7 w g t cs){p:Addr}(hp:g≠p.block)(u:Value):Z7 (w.setCell p u) g t cs:=(Below.heap_setCell w p u g hp).trans h
theorem Z7.below{B:Nat}(h:Z7 w g t cs)(hb:Below B w w')(hg:g<B):Z7 w' g t cs:=(hb.block g hg).trans h
theorem Z7.step(h:Z7 w g t cs)(hb:Below w.heap.size w w'):Z7 w' g t cs:=h.below hb h.lt
theorem Z7.grown{row:Option Nat}(h:Z7 w g t cs)(hb:w.grownBy w' row)(hg:some g≠row):Z7 w' g t cs:=(hb.block g h.lt hg).trans h
theorem ZN{base:Nat}{e:TypeId}{size n:Nat}{v:Value}{xs:List Value}(h:w.ownsRow base e size v n xs){k:Nat}(hk:v.ownBlock=some k):base<=k:=by
 rcases h.2 with ⟨rfl,_⟩|⟨g',cap,cur,rfl,hb,_⟩
 · simp [Value.ownBlock] at hk
 · have:g'=k:=(by simpa [Value.ownBlock] using hk);omega
theorem Rs{base:Nat}{e:TypeId}{size n:Nat}{v:Value}{xs:List Value}(h:w.ownsRow base e size v n xs)(hn:0<n):
 ∃ k cap,v=.slice (some ⟨k,0,none⟩) n cap/\base<=k/\k<w.heap.size/\n<=cap:=by
 rcases h.2 with ⟨_,h0⟩|⟨g',cap,cur,rfl,hb,hh,hc,_⟩
 · omega
 · exact ⟨g',cap,rfl,hb,Z7.lt hh,hc⟩
theorem ZP{base:Nat}{e:TypeId}{size n:Nat}{v:Value}{xs:List Value}(h:w.ownsRow base e size v n xs):∃ A cap,v=.slice A n cap/\n<=cap:=by
 rcases h.2 with ⟨rfl,rfl⟩|⟨g',cap,cur,rfl,hb,hh,hc,_⟩
 · exact ⟨none,0,rfl,Nat.le_refl _⟩
 · exact ⟨_,cap,rfl,hc⟩
theorem ZI{base:Nat}{e:TypeId}{size n:Nat}{v:Value}{xs:List Value}(h:w.ownsRow base e size v n xs)(hb:Below w.heap.size w w'):w'.ownsRow base e size v n xs:=by
 refine ⟨h.1,?_⟩;rcases h.2 with h0|⟨g',cap,cur,hv,hb1,hh,r⟩
 · exact .inl h0
 · exact .inr ⟨g',cap,cur,hv,hb1,(hb.block g' (Z7.lt hh)).trans hh,r⟩
theorem own_ne{base:Nat}{e:TypeId}{size n:Nat}{v:Value}{xs:List Value}(h:w.ownsRow base e size v n xs)(hg:g<base):some g≠v.ownBlock:=by
 intro e1;have:=ZN h e1.symm;omega
end
structure Rg where
 d:Bool
 v:Int
 A:Option Addr
 n:Nat
 c:Nat
def Rg.cells(r:Rg):List Value:=[.bool r.d,.int .i64 r.v,.slice r.A r.n r.c]
def rgCells(rs:List Rg):List Value:=rs.flatMap Rg.cells
theorem Rx(rs:List Rg):(rgCells rs).length=3*rs.length:=by
 induction rs with
 | nil=>rfl
 | cons r rs ih=>simp only [rgCells,List.flatMap_cons,List.length_append,List.length_cons] at *;rw [ih];simp [Rg.cells];omega
theorem Dj(rs:List Rg)(i:Nat)(r:Rg)(h:rs[i]?=some r):
 (rgCells rs)[i*3]?=some (.bool r.d)/\(rgCells rs)[i*3+1]?=some (.int .i64 r.v)/\(rgCells rs)[i*3+2]?=some (.slice r.A r.n r.c):=by
 induction rs generalizing i with
 | nil=>simp at h
 | cons q rs ih =>
   have hq:∀ j,(rgCells (q::rs))[j+3]?=(rgCells rs)[j]?:=by
    intro j;show (Rg.cells q++rgCells rs)[j+3]?=_;rw [List.getElem?_append_right (by simp [Rg.cells])];simp [Rg.cells]
   cases i with
   | zero =>
     simp only [List.getElem?_cons_zero,Option.some.injEq] at h;subst h;exact ⟨rfl,rfl,rfl⟩
   | succ i =>
     have h':rs[i]?=some r:=(by simpa using h);have:=ih i h';have e:(i+1)*3=i*3+3:=(by omega);rw [e];refine ⟨by rw [hq];exact this.1,?_,?_⟩
     · rw [show i*3+3+1=i*3+1+3 by omega,hq];exact this.2.1
     · rw [show i*3+3+2=i*3+2+3 by omega,hq];exact this.2.2
theorem Sl.rg{w:World}{B:Nat}{A:Option Addr}{rs:List Rg}(h:Sl w B A (rgCells rs)){k:Nat}{r:Rg}(hk:rs[k]?=some r):
 ∃ b off,A=some ⟨b,off,none⟩/\b<B/\w.cell? ⟨b,off+k*3,none⟩=some (.bool r.d)/\w.cell? ⟨b,off+k*3+1,none⟩=some (.int .i64 r.v)/\w.cell? ⟨b,off+k*3+2,none⟩=some (.slice r.A r.n r.c):=by
 have hlt:k<rs.length:=(List.getElem?_eq_some_iff.1 hk).1;obtain ⟨b,off,rfl,hB,hc⟩:=h.open_ (by rw [Rx];omega);obtain ⟨h0,h1,h2⟩:=Dj rs k r hk;exact ⟨b,off,rfl,hB,hc _ _ h0,hc _ _ h1,hc _ _ h2⟩
theorem any_take_succ{α:Type}(l:List α)(p:α->Bool)(k:Nat)(r:α)(h:l[k]?=some r):(l.take (k+1)).any p=((l.take k).any p || p r):=by
 rw [List.take_add_one,h];simp
theorem UK{α:Type}(l:List α)(p:α->Bool)(k:Nat)(r:α)(h:l[k]?=some r)(hp:p r=true):l.any p=true :=
 List.any_eq_true.2 ⟨r,List.mem_of_getElem? h,hp⟩
theorem Z7.new2(w:World)(o:Obj)(t:TypeId)(cs:Array Value):Z7 ((w.alloc o).alloc (.cells cs t)) (w.heap.size+1) t cs:=by
 have h:=Z7.new (w.alloc o) t cs;simpa using h
theorem VT{w:World}{base base':Nat}{e:TypeId}{size n:Nat}{v:Value}{xs:List Value}(h:w.ownsRow base e size v n xs)(hb:base'<=base):w.ownsRow base' e size v n xs:=by
 refine ⟨h.1,?_⟩;rcases h.2 with h0|⟨g',cap,cur,hv,hb1,r⟩
 · exact .inl h0
 · exact .inr ⟨g',cap,cur,hv,by omega,r⟩
theorem Xz{w:World}{base g:Nat}{e:TypeId}{size n:Nat}{xs:List Value}(h:Z7 w g e xs.toArray)(hg:base<=g)(hl:xs.length=n*size)(hn:n<=maxLen):
 w.ownsRow base e size (.slice (some ⟨g,0,none⟩) n n) n xs :=
 ⟨hl,.inr ⟨g,n,xs.toArray,rfl,hg,h,Nat.le_refl _,hn,by simpa using hl,by rw [<- hl];simp⟩⟩
theorem ZB{w:World}{g:Nat}{t:TypeId}{xs:List Value}(h:Z7 w g t xs.toArray):∀ j u,xs[j]?=some u->w.cell? ((⟨g,0,none⟩:Addr).add j)=some u:=by
 intro j u hu;have e:(⟨g,0,none⟩:Addr).add j=⟨g,j,none⟩:=by unfold Addr.add;split <;> simp_all
 rw [e];exact h.cell (by simpa using hu)
theorem Yt{w:World}{base:Nat}{e:TypeId}{size n:Nat}{v:Value}{xs:List Value}(h:w.ownsRow base e size v n xs){p:Addr}(hp:v.ownBlock≠some p.block)(u:Value):(w.setCell p u).ownsRow base e size v n xs:=by
 refine ⟨h.1,?_⟩;rcases h.2 with h0|⟨g',cap,cur,rfl,hb1,hh,r⟩
 · exact .inl h0
 · refine .inr ⟨g',cap,cur,rfl,hb1,(Below.heap_setCell w p u g' ?_).trans hh,r⟩;intro e1;apply hp;rw [<- e1];rfl
theorem Zz{w:World}{b o:Nat}{v:Value}(h:w.cell? ⟨b,o,none⟩=some v):b<w.heap.size:=by
 rcases Nat.lt_or_ge b w.heap.size with h1|h1
 · exact h1
 · simp [World.cell?,Array.getElem?_eq_none h1] at h
theorem KF{w:World}{base:Nat}{e:TypeId}{size n:Nat}{v:Value}{xs:List Value}(h:w.ownsRow base e size v n xs){k:Nat}(hk:v.ownBlock=some k):k<w.heap.size:=by
 rcases h.2 with ⟨rfl,_⟩|⟨g',cap,cur,rfl,hb,hh,_⟩
 · simp [Value.ownBlock] at hk
 · have:g'=k:=(by simpa [Value.ownBlock] using hk);subst this;exact Z7.lt hh
theorem Sl.at_{w w':World}{B:Nat}{A:Option Addr}{xs:List Value}(h:Sl w B A xs)(hb:∀ b,b<B->(xs≠[]->∀ x,A=some x->x.block=b->w'.heap[b]?=w.heap[b]?)):Sl w' B A xs:=by
 rcases h with h|⟨b,off,hA,hlt,hc⟩
 · exact .inl h
 · refine .inr ⟨b,off,hA,hlt,fun j u hu=>?_⟩;have hx:xs≠[]:=fun e=>by rw [e] at hu;simp at hu
   rw [World.cell?_of_block (hb b hlt hx _ hA rfl)];exact hc j u hu
theorem Sl.zpl{w:World}{B:Nat}{A:Option Addr}{xs:List Value}(h:Sl w B A xs)(hx:xs≠[]){x:Addr}(hA:A=some x):x.block<B:=by
 rcases h with h|⟨b,off,hA',hlt,hc⟩
 · exact absurd h hx
 · rw [hA] at hA';cases hA';exact hlt
theorem Sl.far{w:World}{B:Nat}{A:Option Addr}{xs:List Value}(h:Sl w B A xs){p:Addr}(hp:xs≠[]->∀ x,A=some x->x.block≠p.block)(u:Value):Sl (w.setCell p u) B A xs :=
 h.at_ fun b _ hx x hA hxb=>Below.heap_setCell w p u b (by rw [<- hxb];exact hp hx x hA)
theorem LC{w w':World}{xs:List Value}{base:Nat}{e:TypeId}{size n:Nat}{v:Value}(h:w.ownsRow base e size v n xs)(hk:∀ k,v.ownBlock=some k->w'.heap[k]?=w.heap[k]?):w'.ownsRow base e size v n xs:=by
 refine ⟨h.1,?_⟩;rcases h.2 with h0|⟨g',cap,cur,rfl,hb1,hh,r⟩
 · exact .inl h0
 · exact .inr ⟨g',cap,cur,rfl,hb1,(hk g' rfl).trans hh,r⟩
end
section
open Go.RowKit
def Wu(P:Program)(rest:Code)(Q:Exit->Act->World->Prop)(a:Act)(w:World):Prop:=rest.wp P (Exit.noGoto Q) a w
theorem YM {P:Program} {c rest:Code} {Q:Exit->Act->World->Prop} {a:Act} {w:World} (l:Nat) (hf:findLabel c l=some rest)
 (first:c.wp P (Exit.jump l (Wu P rest Q) Q) a w):(Code.scope c).wp P Q a w :=
 wp_scope_jumps l (Wu P rest Q) (fun _ _=>0) hf first (fun _ _ hJ=>wp_mono hJ (fun e _ _ q=>by cases e <;> first|exact q|exact q.elim))
theorem Xo{l:Nat}{J:Act->World->Prop}{Q:Exit->Act->World->Prop}{a:Act}{w:World}(h:J a w):Exit.jump l J Q (.goto l) a w:=⟨rfl,h⟩
theorem jK{l:Nat}{J:Act->World->Prop}{Q:Exit->Act->World->Prop}{a:Act}{w:World}:Exit.jump l J Q .ret a w=Q .ret a w:=rfl
theorem Cj{l:Nat}{J:Act->World->Prop}{Q:Exit->Act->World->Prop}{a:Act}{w:World}:Exit.jump l J Q .normal a w=Q .normal a w:=rfl
theorem qd{l i:Nat}{J:Act->World->Prop}{Q:Exit->Act->World->Prop}{a:Act}{w:World}:Exit.jump l J Q (.exit i) a w=Q (.exit i) a w:=rfl
theorem x9{l:Nat}{ch:List PanicEntry}{J:Act->World->Prop}{Q:Exit->Act->World->Prop}{a:Act}{w:World}:Exit.jump l J Q (.panic ch) a w=Q (.panic ch) a w:=rfl
attribute [go_sem] jK Cj qd x9
def ZU(bs:List Int):List Value:=bs.map (Value.int .u8)
theorem JE(bs:List Int):(ZU bs).length=bs.length:=by simp [ZU]
theorem Sl.RU{w:World}{B:Nat}{A:Option Addr}{bs:List Int}(h:Sl w B A (ZU bs))(hn:0<bs.length):
 ∃ b off,A=some ⟨b,off,none⟩/\b<B/\∀ j x,bs[j]?=some x->w.cell? ⟨b,off+j,none⟩=some (.int .u8 x):=by
 obtain ⟨b,off,hA,hB,hc⟩:=h.open_ (by rw [JE];exact hn);exact ⟨b,off,hA,hB,fun j x hx=>hc j _ (by simp [ZU,hx])⟩
end
section
open Go.RowKit
def ZH(c:Bool):Int:=bif c then 18446744073709551615 else 0
theorem V9(c:Bool):0<=ZH c/\ZH c<18446744073709551616:=by cases c <;> decide
theorem aj(y:Nat)(h:y<18446744073709551616):18446744073709551615 ^^^ y=18446744073709551615 - y:=by
 have h1:=congrArg BitVec.toNat (BitVec.allOnes_xor (x:=BitVec.ofNat 64 y));rw [BitVec.toNat_xor,BitVec.toNat_not,BitVec.toNat_allOnes,BitVec.toNat_ofNat,Nat.mod_eq_of_lt (show y<2 ^ 64 by simpa using h)] at h1;exact h1
theorem zwz(y:Int)(h0:0<=y)(h1:y<18446744073709551616):bits BinOp.xor IntKind.u64 IntKind.u64.max y=18446744073709551615 - y:=by
 have e:IntKind.u64.max=18446744073709551615:=rfl;rw [e,u64_xor _ y (by omega) (by omega) h0 h1];have:=aj y.toNat (by omega);rw [show (18446744073709551615:Int).toNat=18446744073709551615 from rfl,this];omega
theorem fH(x:Int)(h0:0<=x)(h1:x<18446744073709551616):bits BinOp.and IntKind.u64 x 1=x % 2:=by
 rw [u64_and x 1 h0 h1 (by omega) (by omega),show (1:Int).toNat=1 from rfl,Nat.and_one_is_mod];omega
theorem aB(x:Int)(h0:0<=x)(h1:x<18446744073709551616):IntKind.u64.wrap (-bits BinOp.and IntKind.u64 x 1)=ZH (decide (x % 2=1)):=by
 rw [fH x h0 h1,IntKind.wrap_u64];have:x % 2=0\/x % 2=1:=by omega
 rcases this with h|h <;> rw [h] <;> decide
theorem sI(x:Int)(h0:0<=x)(h1:x<18446744073709551616):bits BinOp.xor IntKind.u64 IntKind.u64.max (bits BinOp.or IntKind.u64 x (IntKind.u64.wrap (-x))) / 9223372036854775808=if x=0 then 1 else 0:=by
 rw [IntKind.wrap_u64]
 by_cases hx:x=0
 · subst hx;rw [if_pos rfl];decide +kernel
 · rw [if_neg hx,show (-x) % 18446744073709551616=18446744073709551616 - x by omega,u64_or x _ h0 h1 (by omega) (by omega)];have hl:x.toNat<=x.toNat ||| (18446744073709551616 - x).toNat:=Nat.left_le_or
   have hr:(18446744073709551616 - x).toNat<=x.toNat ||| (18446744073709551616 - x).toNat:=Nat.right_le_or
   have hb:x.toNat ||| (18446744073709551616 - x).toNat<2 ^ 64:=Nat.or_lt_two_pow (by omega) (by omega)
   generalize x.toNat ||| (18446744073709551616 - x).toNat=y at hl hr hb ⊢
   rw [zwz y (by omega) (by omega)];omega
theorem RG(c:Bool)(a b:Int)(h0:0<=a)(h1:a<18446744073709551616)(h2:0<=b)(h3:b<18446744073709551616):bits BinOp.xor IntKind.u64 b (bits BinOp.and IntKind.u64 (ZH c) (bits BinOp.xor IntKind.u64 a b))=bif c then a else b:=by
 rw [u64_xor a b h0 h1 h2 h3];have hx:a.toNat ^^^ b.toNat<2 ^ 64:=Nat.xor_lt_two_pow (by omega) (by omega);obtain ⟨A,rfl⟩:=Int.eq_ofNat_of_zero_le h0;obtain ⟨B,rfl⟩:=Int.eq_ofNat_of_zero_le h2;simp only [Int.toNat_natCast] at hx ⊢;cases c
 · rw [u64_and _ _ (V9 _).1 (V9 _).2 (by omega) (by omega)];show bits _ _ _ (((0:Nat) &&& _:Nat):Int)=(B:Int);rw [Nat.zero_and,u64_xor _ _ (by omega) (by omega) (by omega) (by omega)];simp
 · rw [u64_and _ _ (V9 _).1 (V9 _).2 (by omega) (by omega)];have e:(ZH true).toNat &&& ((A ^^^ B:Nat):Int).toNat=A ^^^ B:=by
    rw [Int.toNat_natCast,show (ZH true).toNat=2 ^ 64 - 1 from rfl,Nat.and_comm,Nat.and_two_pow_sub_one_eq_mod,Nat.mod_eq_of_lt hx]
   rw [e,u64_xor _ _ (by omega) (by omega) (by omega) (by omega),Int.toNat_natCast,Int.toNat_natCast,Nat.xor_comm A B,<- Nat.xor_assoc,Nat.xor_self,Nat.zero_xor];rfl
theorem PV(x:Int)(h0:0<=x)(h1:x<18446744073709551616)(w:World):Calls prog 262 #[.int .u64 x] w fun e w'=>e=.returned (.int .u64 (ZH (decide (x % 2=1))))/\w=w':=by
 have h:=aB x h0 h1;go_enter func262,ntmps262;go_wp2;go_ret;exact ⟨by simp,rfl⟩
theorem zzu(c:Bool):decide (ZH c % 2=1)=c:=by cases c <;> decide
theorem zum(c:Bool)(w:World):Calls prog 262 #[.int .u64 (ZH c)] w fun e w'=>e=.returned (.int .u64 (ZH c))/\w=w':=by
 have h:=PV (ZH c) (V9 c).1 (V9 c).2 w;rw [zzu] at h;exact h
theorem TY(x:Int)(h0:0<=x)(h1:x<18446744073709551616)(w:World):Calls prog 247 #[.int .u64 x] w fun e w'=>e=.returned (.int .u64 (ZH (decide (x=0))))/\w=w':=by
 have h:=sI x h0 h1;have HO:=PV (if x=0 then 1 else 0) (by split <;> omega) (by split <;> omega) w;have e:decide ((if x=0 then (1:Int) else 0) % 2=1)=decide (x=0):=by by_cases hx:x=0 <;> simp [hx]
 rw [e] at HO;obtain ⟨z,hz⟩:=eE ((if x=0 then (1:Int) else 0));rw [<- hz] at h HO;have H:=hide h;clear hz e h;go_enter func247,ntmps247;go_wp2_with fail;rw [H.out];refine HO.mono ?_;rintro e w' ⟨rfl,rfl⟩;go_wp2;go_ret;exact ⟨rfl,rfl⟩
theorem Xq(x:Int)(h0:-9223372036854775808<=x)(h1:x<9223372036854775808)(w:World):Calls prog 263 #[.int .i64 x] w fun e w'=>e=.returned (.int .u64 (ZH (decide (x<0))))/\w=w':=by
 have h:IntKind.u64.wrap (x / 9223372036854775808)=ZH (decide (x<0)):=by
  rw [IntKind.wrap_u64]
  by_cases hx:x<0
  · rw [show x / 9223372036854775808=-1 by omega,decide_eq_true hx];decide
  · rw [show x / 9223372036854775808=0 by omega,decide_eq_false hx];decide
 go_enter func263,ntmps263;go_wp2;go_ret;exact ⟨by simp,rfl⟩
theorem Bl(x:Int)(h0:0<=x)(h1:x<18446744073709551616)(w:World):Calls prog 246 #[.int .u64 x] w fun e w'=>e=.returned (.int .u64 (ZH (decide (9223372036854775808<=x))))/\w=w':=by
 have HO:=PV (x / 9223372036854775808) (by omega) (by omega) w;have e:decide (x / 9223372036854775808 % 2=1)=decide (9223372036854775808<=x):=by
  by_cases hx:9223372036854775808<=x
  · rw [decide_eq_true hx,decide_eq_true (by omega)]
  · rw [decide_eq_false hx,decide_eq_false (by omega)]
 rw [e] at HO;go_enter func246,ntmps246;go_wp2_with fail;refine HO.mono ?_;rintro e w' ⟨rfl,rfl⟩;go_wp2;go_ret;exact ⟨rfl,rfl⟩
theorem KX(c:Bool)(a b:Int)(h0:0<=a)(h1:a<18446744073709551616)(h2:0<=b)(h3:b<18446744073709551616)(w:World):Calls prog 261 #[.int .u64 (ZH c),.int .u64 a,.int .u64 b] w fun e w'=>e=.returned (.int .u64 (bif c then a else b))/\w=w':=by
 have h:=RG c a b h0 h1 h2 h3;go_enter func261,ntmps261;go_wp2;go_ret;exact ⟨by simp,rfl⟩
def UH(w:World):Prop:=w.cell? ⟨8,0,none⟩=some (.int .u64 9223372036854775808)/\w.cell? ⟨8,1,none⟩=some (.int .u64 18446744073709551615)
def KY(n z:Bool):Int:=bif n then -1 else bif z then 0 else 1
theorem He(n z:Bool)(w:World)(hw:UH w):Calls prog 245 #[.int .u64 (ZH n),.int .u64 (ZH z)] w fun e w'=>e=.returned (.int .i64 (KY n z))/\∃ m,w'=w.drewN m:=by
 obtain ⟨_,hw1⟩:=hw;have h1:bits BinOp.and IntKind.u64 (bits BinOp.xor IntKind.u64 IntKind.u64.max (ZH z)) 1=bif z then 0 else 1:=by
  rw [zwz _ (V9 z).1 (V9 z).2,fH _ (by have:=V9 z;omega) (by have:=V9 z;omega)];cases z <;> decide
 have h2:wrap64 (bif n then 18446744073709551615 else (bif z then 0 else 1))=KY n z:=by cases n <;> cases z <;> decide +kernel
 obtain ⟨y,hy⟩:∃ y:Int,y=bif z then 0 else 1:=⟨_,rfl⟩;have hyb:0<=y/\y<=1:=by rw [hy];cases z <;> decide
 rw [<- hy] at h1 h2
 have HS:∀ k,Calls prog 261 #[.int .u64 (ZH n),.int .u64 18446744073709551615,.int .u64 (bits BinOp.and IntKind.u64 (bits BinOp.xor IntKind.u64 (if IntKind.u64.signed=true then -1 else IntKind.u64.max) (ZH z)) 1)] (w.drewN k) fun e w'=>e=.returned (.int .u64 (bif n then 18446744073709551615 else y))/\w.drewN k=w':=fun k=>by
  have h1':bits BinOp.and IntKind.u64 (bits BinOp.xor IntKind.u64 (if IntKind.u64.signed=true then -1 else IntKind.u64.max) (ZH z)) 1=y:=h1;rw [h1'];exact KX n _ y (by omega) (by omega) hyb.1 (by omega) _
 have HSH:=hide HS;have HY:=hide hy;have H2:=hide h2;clear HS hy h1 h2 hyb;go_enter func245,ntmps245;go_wp2
 go_quiet ((first|(go_at_call 262;exact Calls.quiet_of_same ((zum _ _).mono fun _ _ ⟨a,b⟩=>⟨a,b.symm⟩))|(go_at_call 261;exact Calls.quiet_of_same ((HSH.out _).mono fun _ _ ⟨a,b⟩=>⟨a,b.symm⟩))))
 go_wp2;go_ret;exact ⟨Zf H2.out,_,rfl⟩
def dval:List Nat->Nat
 | []=>0
 | d::l=>d+65536*dval l
def L6(l:List Nat):Prop:=∀ d∈l,d<65536
def dCs(l:List Nat):List Value:=l.map fun (d:Nat)=>Value.int .i64 (d:Int)
def zpq(n:Nat):List Nat:=if h:n=0 then [] else n % 65536::zpq (n / 65536)
 termination_by n
 decreasing_by omega
theorem L6.at_{l:List Nat}(h:L6 l){i d:Nat}(hi:l[i]?=some d):d<65536:=h d (List.mem_of_getElem? hi)
theorem L6.take{l:List Nat}(h:L6 l)(n:Nat):L6 (l.take n):=fun d hd=>h d (List.mem_of_mem_take hd)
theorem L6.snoc{l:List Nat}(h:L6 l){d:Nat}(hd:d<65536):L6 (l++[d]):=fun x hx=>by
 rcases List.mem_append.1 hx with h1|h1
 · exact h x h1
 · rw [List.mem_singleton.1 h1];exact hd
theorem AQ:∀ (a b:List Nat),dval (a++b)=dval a+65536 ^ a.length*dval b
 | [],b=>by simp [dval]
 | d::a,b=>by
   rw [List.cons_append,dval,dval,AQ a b,List.length_cons,Nat.pow_succ,Nat.mul_add,Nat.add_assoc,Nat.mul_comm (65536 ^ a.length) 65536,Nat.mul_assoc]
theorem QC(a:List Nat)(d:Nat):dval (a++[d])=dval a+65536 ^ a.length*d:=by rw [AQ];simp [dval]
theorem QD{l:List Nat}{i d:Nat}(h:l[i]?=some d):dval (l.take (i+1))=dval (l.take i)+65536 ^ i*d:=by
 have hi:i<l.length:=(List.getElem?_eq_some_iff.1 h).1;rw [List.take_add_one,h,Option.toList_some,QC,List.length_take,Nat.min_eq_left (Nat.le_of_lt hi)]
theorem uf:∀ {l:List Nat},L6 l->dval l<65536 ^ l.length
 | [],_=>by simp [dval]
 | d::l,h=>by
   have h1:=uf (l:=l) fun x hx=>h x (List.mem_cons_of_mem _ hx);have h2:=h d (List.mem_cons_self ..);rw [dval,List.length_cons,Nat.pow_succ];omega
end
section
open Go.RowKit
def NZ(l:List Nat)(k:Nat):Nat:=l[k]?.getD 0
theorem gH{l:List Nat}(h:L6 l)(k:Nat):NZ l k<65536:=by
 unfold NZ;cases hk:l[k]? with
 | none=>simp
 | some d=>exact h.at_ hk
theorem Px(l:List Nat)(k:Nat):dval (l.take (k+1))=dval (l.take k)+65536 ^ k*NZ l k:=by
 unfold NZ;cases hk:l[k]? with
 | none =>
   have:=List.getElem?_eq_none_iff.1 hk;rw [List.take_of_length_le (by omega),List.take_of_length_le (by omega)];simp
 | some d=>exact QD hk
def vw(a b:List Nat)(k c:Nat)(o:List Nat):Prop :=
 o.length=k/\L6 o/\c<=1/\dval o+65536 ^ k*c=dval (a.take k)+dval (b.take k)/\k<=max a.length b.length+1/\(k=max a.length b.length+1->c=0)
theorem vw.start(a b:List Nat):vw a b 0 0 []:=⟨rfl,fun d hd=>by simp at hd,by omega,by simp [dval],by omega,fun _=>rfl⟩
theorem vw.step{a b o:List Nat}{k c:Nat}(ha:L6 a)(hb:L6 b)(h:vw a b k c o)(hk:k<a.length\/k<b.length\/0<c):
 vw a b (k+1) ((NZ a k+NZ b k+c) / 65536) (o++[(NZ a k+NZ b k+c) % 65536]):=by
 obtain ⟨h1,h2,h3,h4,h5,h6⟩:=h;have x1:=gH ha k;have x2:=gH hb k;have hk':k<=max a.length b.length:=by
  rcases Nat.lt_or_ge k (max a.length b.length+1) with h|h
  · omega
  · have:k=max a.length b.length+1:=(by omega);have:=h6 this;omega
 refine ⟨by simp [h1],h2.snoc (by omega),by omega,?_,by omega,fun he=>?_⟩
 · rw [QC,h1,Px,Px,Nat.pow_succ];have e:=Nat.div_add_mod (NZ a k+NZ b k+c) 65536;have e2:65536 ^ k*((NZ a k+NZ b k+c) % 65536)+65536 ^ k*65536*((NZ a k+NZ b k+c) / 65536)=65536 ^ k*NZ a k+65536 ^ k*NZ b k+65536 ^ k*c:=by
    rw [Nat.mul_assoc,<- Nat.mul_add,Nat.add_comm ((NZ a k+NZ b k+c) % 65536),e,Nat.mul_add,Nat.mul_add]
   omega
 · have ea:NZ a k=0:=(by unfold NZ;rw [List.getElem?_eq_none (by omega)];rfl);have eb:NZ b k=0:=(by unfold NZ;rw [List.getElem?_eq_none (by omega)];rfl);rw [ea,eb];omega
theorem vw.done{a b o:List Nat}{k c:Nat}(h:vw a b k c o)(hk:¬ (k<a.length\/k<b.length\/0<c)):L6 o/\dval o=dval a+dval b/\o.length<=max a.length b.length+1:=by
 obtain ⟨h1,h2,h3,h4,h5,h6⟩:=h;rw [List.take_of_length_le (by omega),List.take_of_length_le (by omega),show c=0 by omega] at h4;exact ⟨h2,by simpa using h4,by omega⟩
def vT(a b:List Nat)(k c:Nat)(o:List Nat):Prop :=
 o.length=k/\L6 o/\c<=1/\dval o+dval (b.take k)=dval (a.take k)+65536 ^ k*c
theorem vT.start(a b:List Nat):vT a b 0 0 []:=⟨rfl,fun d hd=>by simp at hd,by omega,by simp [dval]⟩
theorem vT.keep{a b o:List Nat}{k c x:Nat}(h:vT a b k c o)(ha:L6 a)(hx:a[k]?=some x)(hs:NZ b k+c<=x):
 vT a b (k+1) 0 (o++[x - NZ b k - c]):=by
 obtain ⟨h1,h2,h3,h4⟩:=h;have x1:=ha.at_ hx;refine ⟨by simp [h1],h2.snoc (by omega),by omega,?_⟩;rw [QC,h1,Px,QD hx];have e:65536 ^ k*(x - NZ b k - c)+65536 ^ k*NZ b k+65536 ^ k*c=65536 ^ k*x:=by
  rw [<- Nat.mul_add,<- Nat.mul_add,show x - NZ b k - c+NZ b k+c=x by omega]
 omega
theorem vT.done{a b o:List Nat}{c:Nat}(h:vT a b a.length c o)(hl:b.length<=a.length)(hv:dval b<=dval a):L6 o/\dval o=dval a - dval b/\o.length=a.length:=by
 obtain ⟨h1,h2,h3,h4⟩:=h;rw [List.take_length,List.take_of_length_le hl] at h4;have hlt:=uf h2;rw [h1] at hlt;have hc:c=0:=by
  rcases Nat.lt_or_ge 0 c with h|h
  · have:c=1:=(by omega);subst this;omega
  · omega
 subst hc;exact ⟨h2,by omega,h1⟩
theorem AU{l:List Nat}{i x y:Nat}(h:l[i]?=some x):dval (l.set i y)+65536 ^ i*x=dval l+65536 ^ i*y:=by
 induction l generalizing i with
 | nil=>simp at h
 | cons d l ih =>
   cases i with
   | zero=>simp at h;subst h;simp [dval];omega
   | succ i =>
     have h':=ih (i:=i) (by simpa using h);rw [List.set_cons_succ,dval,dval,Nat.pow_succ];have e1:65536 ^ i*65536*x=65536*(65536 ^ i*x):=(by rw [Nat.mul_comm (65536 ^ i) 65536,Nat.mul_assoc]);have e2:65536 ^ i*65536*y=65536*(65536 ^ i*y):=(by rw [Nat.mul_comm (65536 ^ i) 65536,Nat.mul_assoc]);omega
theorem tT{l:List Nat}(h:L6 l)(i:Nat){y:Nat}(hy:y<65536):L6 (l.set i y):=fun d hd=>by
 rcases List.mem_or_eq_of_mem_set hd with h1|h1
 · exact h d h1
 · omega
def mO(l:List Nat)(k:Nat):Prop:=∀ i,k<=i->i<l.length->l[i]?=some 0
def vP(a b:List Nat)(k:Nat)(o:List Nat):Prop :=
 o.length=a.length+b.length/\L6 o/\dval o=dval (a.take k)*dval b/\mO o (k+b.length)
def nO(o0 b:List Nat)(x k j c:Nat)(o:List Nat):Prop :=
 o.length=o0.length/\L6 o/\c<65536/\dval o+65536 ^ (k+j)*c=dval o0+65536 ^ k*(x*dval (b.take j))/\(∀ i,k+j<=i->o[i]?=o0[i]?)
theorem nO.start{o0 b:List Nat}(x k:Nat)(h:L6 o0):nO o0 b x k 0 0 o0:=⟨rfl,h,by omega,by simp [dval],fun _ _=>rfl⟩
theorem nO.step{o0 b o:List Nat}{x k j c y z:Nat}(h:nO o0 b x k j c o)(hx:x<65536)(hy:y<65536)(hb:b[j]?=some y)(ho:o[k+j]?=some z):
 nO o0 b x k (j+1) ((z+x*y+c) / 65536) (o.set (k+j) ((z+x*y+c) % 65536)):=by
 obtain ⟨h1,h2,h3,h4,h5⟩:=h;have hz:=h2.at_ ho;have hxy:x*y<=65535*65535:=Nat.mul_le_mul (by omega) (by omega);refine ⟨by simp [h1],tT h2 _ (by omega),by omega,?_,fun i hi=>?_⟩
 · have e:=AU (y:=(z+x*y+c) % 65536) ho;rw [QD hb,Nat.mul_add,Nat.mul_add,show k+(j+1)=(k+j)+1 by omega,Nat.pow_succ];have e2:=Nat.div_add_mod (z+x*y+c) 65536;have e3:65536 ^ (k+j)*((z+x*y+c) % 65536)+65536 ^ (k+j)*65536*((z+x*y+c) / 65536)=65536 ^ (k+j)*z+65536 ^ (k+j)*(x*y)+65536 ^ (k+j)*c:=by
    rw [Nat.mul_assoc,<- Nat.mul_add,Nat.add_comm ((z+x*y+c) % 65536),e2,Nat.mul_add,Nat.mul_add]
   have e4:65536 ^ k*(x*(65536 ^ j*y))=65536 ^ (k+j)*(x*y):=by
    rw [Nat.pow_add,Nat.mul_assoc,<- Nat.mul_assoc x,Nat.mul_comm x,Nat.mul_assoc]
   omega
 · rw [List.getElem?_set_ne (by omega)];exact h5 i (by omega)
theorem vP.start(a b:List Nat):vP a b 0 (List.replicate (a.length+b.length) 0):=by
 refine ⟨by simp,fun d hd=>by rw [(List.mem_replicate.1 hd).2];omega,?_,fun i _ hi=>?_⟩
 · have:∀ n,dval (List.replicate n 0)=0:=fun n=>by induction n with
    | zero=>rfl
    | succ n ih=>rw [List.replicate_succ,dval,ih]
   rw [this];simp [dval]
 · rw [List.getElem?_replicate,if_pos (by simpa using hi)]
theorem vP.step{a b o o2:List Nat}{x k c:Nat}(h:vP a b k o)(ha:a[k]?=some x)(h2:nO o b x k b.length c o2):
 o2[k+b.length]?=some 0/\vP a b (k+1) (o2.set (k+b.length) c):=by
 obtain ⟨h1,h3,h4,h5⟩:=h;obtain ⟨i1,i2,i3,i4,i5⟩:=h2;have hk:k<a.length:=(List.getElem?_eq_some_iff.1 ha).1;have hz:o2[k+b.length]?=some 0:=by rw [i5 _ (Nat.le_refl _)];exact h5 _ (Nat.le_refl _) (by omega)
 refine ⟨hz,by simp [i1,h1],tT i2 _ i3,?_,fun i hi hl=>?_⟩
 · have e:=AU (y:=c) hz;rw [List.take_length] at i4;rw [QD ha,Nat.add_mul,<- h4,Nat.mul_assoc];omega
 · rw [List.getElem?_set_ne (by omega),i5 i (by omega)];exact h5 i (by omega) (by simp at hl;omega)
theorem vP.done{a b o:List Nat}(h:vP a b a.length o):L6 o/\dval o=dval a*dval b/\o.length=a.length+b.length:=by
 obtain ⟨h1,h3,h4,h5⟩:=h;rw [List.take_length] at h4;exact ⟨h3,h4,h1⟩
def Gg(w:World)(P:Nat->Prop)(A:Option Addr)(xs:List Value):Prop :=
 xs=[]\/∃ b off,A=some ⟨b,off,none⟩/\P b/\∀ j u,xs[j]?=some u->w.cell? ⟨b,off+j,none⟩=some u
section
variable {w w':World}{P R:Nat->Prop}{A:Option Addr}{xs:List Value}
theorem Gg.sl{B:Nat}(h:Gg w P A xs)(hP:∀ k,P k->k<B):Sl w B A xs:=by
 rcases h with h|⟨b,off,hA,hb,hc⟩
 · exact .inl h
 · exact .inr ⟨b,off,hA,hP _ hb,hc⟩
theorem Gg.mono(h:Gg w P A xs)(hR:∀ k,P k->R k):Gg w R A xs:=by
 rcases h with h|⟨b,off,hA,hb,hc⟩
 · exact .inl h
 · exact .inr ⟨b,off,hA,hR _ hb,hc⟩
theorem Gg.at_(h:Gg w P A xs)(hk:∀ b,P b->b<w.heap.size->w'.heap[b]?=w.heap[b]?):Gg w' P A xs:=by
 rcases h with h|⟨b,off,hA,hb,hc⟩
 · exact .inl h
 · by_cases hx:xs=[]
   · exact .inl hx
   · refine .inr ⟨b,off,hA,hb,fun j u hu=>?_⟩;obtain ⟨x,xs',rfl⟩:=List.exists_cons_of_ne_nil hx;have h0:=hc 0 x rfl;exact (World.cell?_of_block (hk b hb (Zz h0))).trans (hc j u hu)
theorem Gg.below(h:Gg w P A xs)(hb:Below w.heap.size w w'):Gg w' P A xs:=h.at_ fun b _ hl=>hb.block b hl
theorem Gg.lt(h:Gg w P A xs):Gg w (fun k=>P k/\k<w.heap.size) A xs:=by
 rcases h with h|⟨b,off,hA,hb,hc⟩
 · exact .inl h
 · by_cases hx:xs=[]
   · exact .inl hx
   · obtain ⟨x,xs',rfl⟩:=List.exists_cons_of_ne_nil hx;exact .inr ⟨b,off,hA,⟨hb,Zz (hc 0 x rfl)⟩,hc⟩
theorem Gg.any(h:Gg w P A xs):Sl w w.heap.size A xs:=h.lt.sl fun _ hk=>hk.2
theorem Gg.take(h:Gg w P A xs)(k:Nat):Gg w P A (xs.take k):=by
 rcases h with h|⟨b,off,hA,hB,hc⟩
 · exact .inl (by simp [h])
 · exact .inr ⟨b,off,hA,hB,fun j u hu=>by
    rw [List.getElem?_take] at hu;split at hu
    · exact hc j u hu
    · cases hu⟩
end
end
section
open Go.RowKit
theorem MZ {fn:Func} {tmps:Array Value} {w:World} {g k:Nat} {v0 v1:Value} (h:fn.results=#[.cell k 81])
 (hp:tmps.getD k undef=.pointer (some ⟨g,0,none⟩)) (hb:Z7 w g 81 #[v0,v1]) :
 (results fn tmps).run prog w=.ok (.agg #[v0,v1]) w:=by
 have c0:=hb.q0 rfl;have c1:=hb.q1 rfl;have hp':tmps[k]?.getD undef=.pointer (some ⟨g,0,none⟩):=by rw [<- hp];simp
 simp [results,h,hp',go_sem,c0,c1]
def Sk(w:World)(P:Nat->Prop)(n:Int)(A:Option Addr)(c:Nat):Prop:=Gg w P A (dCs (zpq n.natAbs))/\(zpq n.natAbs).length<=c/\c<=maxLen
def Up(w:World)(P:Nat->Prop):Prop:=∀ k,w.heap.size<=k->P k
theorem Up.of{w w':World}{P:Nat->Prop}(h:Up w P)(hs:w.heap.size<=w'.heap.size):Up w' P:=fun k hk=>h k (by omega)
section
variable {w w':World}{P R:Nat->Prop}{n:Int}{A:Option Addr}{c:Nat}
theorem Sk.step(h:Sk w P n A c)(hb:Below w.heap.size w w'):Sk w' P n A c:=⟨h.1.below hb,h.2⟩
theorem Sk.at_(h:Sk w P n A c)(hk:∀ b,P b->b<w.heap.size->w'.heap[b]?=w.heap[b]?):Sk w' P n A c:=⟨h.1.at_ hk,h.2⟩
theorem Sk.mono(h:Sk w P n A c)(hR:∀ k,P k->R k):Sk w R n A c:=⟨h.1.mono hR,h.2⟩
theorem Sk.set{g i:Nat}(h:Sk w (fun k=>P k/\k≠g) n A c)(u:Value):Sk (w.setCell ⟨g,i,none⟩ u) (fun k=>P k/\k≠g) n A c :=
 h.at_ fun b hb _=>Below.heap_setCell _ _ _ _ (by exact hb.2)
end
end
section
open Go.RowKit
def vN(m k y:Nat)(o:List Nat):Prop:=o.length=k/\L6 o/\k<=4/\y<65536 ^ (4 - k)/\dval o+65536 ^ k*y=m
theorem vN.start{m:Nat}(h:m<18446744073709551616):vN m 0 m []:=⟨rfl,fun d hd=>by simp at hd,by omega,by simpa using h,by simp [dval]⟩
theorem vN.step{m k y:Nat}{o:List Nat}(h:vN m k y o)(hy:0<y):k<4/\vN m (k+1) (y / 65536) (o++[y % 65536]):=by
 obtain ⟨h1,h2,h3,h4,h5⟩:=h;have hk:k<4:=by
  rcases Nat.lt_or_ge k 4 with h|h
  · exact h
  · rw [show 4 - k=0 by omega,Nat.pow_zero] at h4;omega
 refine ⟨hk,by simp [h1],h2.snoc (by omega),by omega,?_,?_⟩
 · rw [show 4 - k=(4 - (k+1))+1 by omega,Nat.pow_succ] at h4;omega
 · rw [QC,h1,Nat.pow_succ,Nat.mul_assoc];have e:65536 ^ k*(y % 65536)+65536 ^ k*(65536*(y / 65536))=65536 ^ k*y:=by
    rw [<- Nat.mul_add,Nat.mod_add_div]
   omega
theorem vN.done{m k:Nat}{o:List Nat}(h:vN m k 0 o):L6 o/\dval o=m:=⟨h.2.1,by simpa using h.2.2.2.2⟩
end
section
open Go.RowKit
def Cw(w:World)(a:Addr):Value:=(w.cell? a).getD undef
theorem Cw.of{w:World}{a:Addr}{v:Value}(h:w.cell? a=some v):w.cell? a=some (Cw w a):=by unfold Cw;rw [h];rfl
def R2(w:World)(g:Nat):Prop:=∃ u v,Z7 w g 81 #[u,v]
abbrev Ur(w:World)(n0 g1 g2 g:Nat)(v0 v1 u0 u1:Value)(w':World):Prop :=
 (Below w.heap.size w w'/\n0<=w'.heap.size/\R2 w' g)/\w'.cell? ⟨g1,0,none⟩=some v0/\w'.cell? ⟨g1,1,none⟩=some v1/\w'.cell? ⟨g2,0,none⟩=some u0/\w'.cell? ⟨g2,1,none⟩=some u1 /\
 w'.cell? ⟨g,0,none⟩=some (Cw w' ⟨g,0,none⟩)/\w'.cell? ⟨g,1,none⟩=some (Cw w' ⟨g,1,none⟩)/\w'.frozen? ⟨g,0,none⟩=false/\w'.frozen? ⟨g,1,none⟩=false
section
variable {w wk w':World}{n0 g1 g2 g:Nat}{v0 v1 u0 u1:Value}
theorem Ur.mk'(hb:Below w.heap.size w w')(hn:n0<=w'.heap.size)(hr:R2 w' g)(h1:w'.cell? ⟨g1,0,none⟩=some v0)(h2:w'.cell? ⟨g1,1,none⟩=some v1)(h3:w'.cell? ⟨g2,0,none⟩=some u0)(h4:w'.cell? ⟨g2,1,none⟩=some u1):
 Ur w n0 g1 g2 g v0 v1 u0 u1 w':=by
 have hr':=hr;obtain ⟨u,v,hB⟩:=hr';exact ⟨⟨hb,hn,hr⟩,h1,h2,h3,h4,Cw.of (hB.q0 rfl),Cw.of (hB.q1 rfl),hB.frozen 0,hB.frozen 1⟩
theorem Ur.keep(h:Ur w n0 g1 g2 g v0 v1 u0 u1 wk)(hb:Below wk.heap.size wk w'):Ur w n0 g1 g2 g v0 v1 u0 u1 w':=by
 have on:∀ {b o:Nat} {v:Value},wk.cell? ⟨b,o,none⟩=some v->w'.cell? ⟨b,o,none⟩=some v:=fun h=>(hb.cell (p:=⟨_,_,none⟩) (Zz h)).trans h;obtain ⟨⟨h0,hn,u,v,hB⟩,h1,h2,h3,h4,_⟩:=h;exact Ur.mk' (Z8 h0 hb) (Nat.le_trans hn hb.size) ⟨u,v,hB.step hb⟩ (on h1) (on h2) (on h3) (on h4)
theorem Ur.set2(h:Ur w n0 g1 g2 g v0 v1 u0 u1 wk)(h1:g1≠g)(h2:g2≠g)(hg:w.heap.size<=g)(x y:Value):Ur w n0 g1 g2 g v0 v1 u0 u1 ((wk.setCell ⟨g,0,none⟩ x).setCell ⟨g,1,none⟩ y):=by
 have on:∀ {b o:Nat} {v:Value},b≠g->wk.cell? ⟨b,o,none⟩=some v->((wk.setCell ⟨g,0,none⟩ x).setCell ⟨g,1,none⟩ y).cell? ⟨b,o,none⟩=some v:=fun hb h=>by
  rw [World.cell?_of_block (Below.heap_setCell _ _ _ _ (by exact hb)),World.cell?_of_block (Below.heap_setCell _ _ _ _ (by exact hb))];exact h
 obtain ⟨⟨h0,hn,u,v,hB⟩,c1,c2,c3,c4,_⟩:=h;exact Ur.mk' ((h0.setCell (by exact hg) _).setCell (by exact hg) _) (by simpa [World.size_setCell] using hn) ⟨_,_,(hB.set 0 x).set 1 y⟩ (on h1 c1) (on h1 c2) (on h2 c3) (on h2 c4)
theorem Ur.row(h:Ur w n0 g1 g2 g v0 v1 u0 u1 wk):R2 wk g:=h.1.2.2
theorem R2.run{fn:Func}{tmps:Array Value}{w5:World}{k g:Nat}{v0 v1:Value}(h:R2 w5 g)(hr:fn.results=#[.cell k 81])(hp:tmps.getD k undef=.pointer (some ⟨g,0,none⟩)):
 (results fn tmps).run prog ((w5.setCell ⟨g,0,none⟩ v0).setCell ⟨g,1,none⟩ v1)=.ok (.agg #[v0,v1]) ((w5.setCell ⟨g,0,none⟩ v0).setCell ⟨g,1,none⟩ v1):=by
 obtain ⟨u,v,hB⟩:=h;exact MZ hr hp ((hB.set 0 v0).set 1 v1)
theorem Ur.below(h:Ur w n0 g1 g2 g v0 v1 u0 u1 wk):Below w.heap.size w wk:=h.1.1
end
theorem add_zero(s2:Int)(m n:Nat)(A B:Option Addr)(c d:Nat)(w:World):
 Calls prog 73 #[.agg #[.int .i64 0,.slice A m c],.agg #[.int .i64 s2,.slice B n d]] w fun e w'=>e=.returned (.agg #[.int .i64 s2,.slice B n d])/\Below w.heap.size w w':=by
 go_enter func73,ntmps73;go_wp2;have h:=Z7.new ((w.alloc (.cells #[.int .i64 0,.slice A m c] 81)).alloc (.cells #[.int .i64 s2,.slice B n d] 81)) 81 #[.int .i64 s2,.slice B n d];refine bodyPost_ret (MZ rfl rfl (by simpa using h)) rfl ?_;exact ⟨rfl,Z5 (Z5 (Z5 (Below.refl _ _) _) _) _⟩
end
section
open Go.RowKit
theorem KZ(n:Int):n.sign=-1/\n<0\/n.sign=0/\n=0\/n.sign=1/\0<n:=by
 rcases Int.lt_trichotomy n 0 with h|h|h
 · exact .inl ⟨Int.sign_eq_neg_one_of_neg h,h⟩
 · exact .inr (.inl ⟨by rw [h];rfl,h⟩)
 · exact .inr (.inr ⟨Int.sign_eq_one_of_pos h,h⟩)
end
section
def JL(x:Nat->Bool)(c:Nat × Nat):Nat->Bool:=fun i=>if i=c.1 then x c.1 && x c.2 else if i=c.2 then x c.1 || x c.2 else x i
def Yh(k j i:Nat):Option (Nat × Nat):=if i / j % 2=1 then none else if i / k % 2=1 then some (i+j,i) else some (i,i+j)
def DU(n k j:Nat):List (Nat × Nat):=(List.range n).filterMap (Yh k j)
def merges(n k:Nat):Nat->List (Nat × Nat)
 | 0=>[]
 | b+1=>DU n k (2 ^ b)++merges n k b
def rounds(n s:Nat):Nat->List (Nat × Nat)
 | 0=>[]
 | r+1=>merges n (2 ^ (s+1)) (s+1)++rounds n (s+1) r
def YK(m:Nat):List (Nat × Nat):=rounds (2 ^ m) 0 m
def Sy(k j:Nat)(x:Nat->Bool)(i:Nat):Bool :=
 if i / j % 2=0 then (if i / k % 2=0 then x i && x (i+j) else x i || x (i+j)) else (if i / k % 2=0 then x (i - j) || x i else x (i - j) && x i)
theorem Lj{j i:Nat}(hj:0<j):i / j % 2=0 ↔ i % (2*j)<j:=by
 have h1:=Nat.div_add_mod i j;have h2:=Nat.mod_lt i hj;have h3:i % (2*j)=i % j+j*(i / j % 2):=by rw [Nat.mul_comm 2 j,Nat.mod_mul]
 rcases Nat.mod_two_eq_zero_or_one (i / j) with h|h <;> rw [h3,h] <;> simp <;> omega
theorem Bc{j i:Nat}(hj:0<j)(h:i / j % 2=0):(i+j) / j % 2=1:=by
 rw [Nat.add_div_right i hj];omega
theorem LA{j i:Nat}(hj:0<j)(h:i / j % 2=1):j<=i/\(i - j) / j % 2=0:=by
 have h1:j<=i:=by
  rcases Nat.lt_or_ge i j with h2|h2
  · rw [Nat.div_eq_of_lt h2] at h;omega
  · exact h2
 obtain ⟨q,rfl⟩:=Nat.exists_eq_add_of_le h1;rw [Nat.add_comm j q,Nat.add_div_right q hj] at h;refine ⟨h1,?_⟩;rw [Nat.add_comm j q,Nat.add_sub_cancel];omega
theorem zh{j k i:Nat}(hj:0<j)(hk:2*j ∣ k)(h:i / j % 2=0):(i+j) / k=i / k:=by
 obtain ⟨c,rfl⟩:=hk;have h1:=(Lj hj).1 h;rw [<- Nat.div_div_eq_div_mul (i+j) (2*j) c,<- Nat.div_div_eq_div_mul i (2*j) c]
 congr 1
 have h2:=Nat.div_add_mod i (2*j);have h3:i+j=2*j*(i / (2*j))+(i % (2*j)+j):=by omega
 rw [h3,Nat.mul_add_div (by omega),Nat.div_eq_of_lt (a:=i % (2*j)+j) (by omega)];simp
theorem zw(k j:Nat)(hj:0<j)(hk:2*j ∣ k)(x:Nat->Bool):∀ m i,((List.range m).filterMap (Yh k j)).foldl JL x i =
 if (if i / j % 2=0 then i else i - j)<m then Sy k j x i else x i:=by
 intro m
 induction m with
 | zero=>intro i;simp
 | succ m ih =>
   intro i;rw [List.range_succ,List.filterMap_append,List.foldl_append];obtain ⟨y,hy⟩:=eE (((List.range m).filterMap (Yh k j)).foldl JL x);rw [<- hy] at ih ⊢;rcases Nat.mod_two_eq_zero_or_one (m / j) with hm|hm
   · -- m is a low index
     have hmj:=Bc hj hm;have hkk:=zh hj hk hm;have y1:y m=x m:=(by rw [ih m,if_pos hm,if_neg (Nat.lt_irrefl m)]);have hl:(if (m+j) / j % 2=0 then m+j else m+j - j)=m:=(by rw [if_neg (by omega)];omega);have y2:y (m+j)=x (m+j):=(by rw [ih (m+j),hl,if_neg (Nat.lt_irrefl m)]);have hm1:¬ m / j % 2=1:=(by omega);rcases Nat.mod_two_eq_zero_or_one (m / k) with hb|hb
     · have e:List.filterMap (Yh k j) [m]=[(m,m+j)]:=(by simp [Yh,hm,hb]);rw [e];simp only [List.foldl_cons,List.foldl_nil,JL,y1,y2]
       by_cases h1:i=m
       · subst h1;rw [if_pos rfl,if_pos hm,if_pos (by omega)];simp [Sy,hm,hb]
       · rw [if_neg h1]
         by_cases h2:i=m+j
         · subst h2;rw [if_pos rfl,hl,if_pos (Nat.lt_succ_self m)];simp [Sy,hmj,hkk,hb]
         · rw [if_neg h2,ih i]
           by_cases h3:i / j % 2=0
           · rw [if_pos h3]
             by_cases h4:i<m
             · rw [if_pos h4,if_pos (by omega)]
             · rw [if_neg h4,if_neg (by omega)]
           · have h5:=LA hj (i:=i) (by omega);rw [if_neg h3]
             by_cases h4:i - j<m
             · rw [if_pos h4,if_pos (by omega)]
             · rw [if_neg h4,if_neg (by omega)]
     · have e:List.filterMap (Yh k j) [m]=[(m+j,m)]:=(by simp [Yh,hm,hb]);rw [e];simp only [List.foldl_cons,List.foldl_nil,JL,y1,y2]
       by_cases h2:i=m+j
       · subst h2;rw [if_pos rfl,hl,if_pos (Nat.lt_succ_self m)];simp [Sy,hmj,hkk,hb,Bool.and_comm]
       · rw [if_neg h2]
         by_cases h1:i=m
         · subst h1;rw [if_pos rfl,if_pos hm,if_pos (by omega)];simp [Sy,hm,hb,Bool.or_comm]
         · rw [if_neg h1,ih i]
           by_cases h3:i / j % 2=0
           · rw [if_pos h3]
             by_cases h4:i<m
             · rw [if_pos h4,if_pos (by omega)]
             · rw [if_neg h4,if_neg (by omega)]
           · have h5:=LA hj (i:=i) (by omega);rw [if_neg h3]
             by_cases h4:i - j<m
             · rw [if_pos h4,if_pos (by omega)]
             · rw [if_neg h4,if_neg (by omega)]
   · have e:List.filterMap (Yh k j) [m]=[]:=(by simp [Yh,hm]);rw [e,List.foldl_nil,ih i]
     by_cases h3:i / j % 2=0
     · rw [if_pos h3];have:i≠m:=fun h=>by subst h;omega
       by_cases h4:i<m
       · rw [if_pos h4,if_pos (by omega)]
       · rw [if_neg h4,if_neg (by omega)]
     · have h5:=LA hj (i:=i) (by omega);have:i - j≠m:=fun h=>by rw [h] at h5;omega
       rw [if_neg h3]
       by_cases h4:i - j<m
       · rw [if_pos h4,if_pos (by omega)]
       · rw [if_neg h4,if_neg (by omega)]
theorem zu{n k j:Nat}(hj:0<j)(hk:2*j ∣ k)(x:Nat->Bool){i:Nat}(hi:i<n):(DU n k j).foldl JL x i=Sy k j x i:=by
 rw [DU,zw k j hj hk x n i,if_pos];split <;> omega
def flip(k:Nat)(x:Nat->Bool)(i:Nat):Bool:=x i ^^ decide (i / k % 2=1)
theorem zo{k j:Nat}(hj:0<j)(hk:2*j ∣ k)(x:Nat->Bool){b o:Nat}(hb:2*j ∣ b)(ho:o<j):flip k (Sy k j x) (b+o)=(flip k x (b+o) && flip k x (b+o+j)):=by
 obtain ⟨c,rfl⟩:=hb;have h1:(2*j*c+o) / j % 2=0:=by
  rw [Lj hj,Nat.mul_add_mod,Nat.mod_eq_of_lt (by omega)];exact ho
 have h2:=zh hj hk h1;unfold flip Sy;rw [if_pos h1,h2];rcases Nat.mod_two_eq_zero_or_one ((2*j*c+o) / k) with h|h <;> rw [h] <;> simp
theorem zn{k j:Nat}(hj:0<j)(hk:2*j ∣ k)(x:Nat->Bool){b o:Nat}(hb:2*j ∣ b)(ho:o<j):flip k (Sy k j x) (b+o+j)=(flip k x (b+o) || flip k x (b+o+j)):=by
 obtain ⟨c,rfl⟩:=hb;have h1:(2*j*c+o) / j % 2=0:=by
  rw [Lj hj,Nat.mul_add_mod,Nat.mod_eq_of_lt (by omega)];exact ho
 have h2:=zh hj hk h1;have h3:=Bc hj h1;unfold flip Sy;rw [if_neg (by omega),h2,Nat.add_sub_cancel];rcases Nat.mod_two_eq_zero_or_one ((2*j*c+o) / k) with h|h <;> rw [h] <;> simp
def zwp(s:Nat)(f:Nat->Bool):Prop:=∃ a b,a<=b/\b<=s/\((∀ o,o<s->f o=decide (a<=o/\o<b))\/∀ o,o<s->f o=!decide (a<=o/\o<b))
theorem half{j:Nat}{f:Nat->Bool}(h:zwp (2*j) f):
 ((∀ o,o<j->(f o && f (o+j))=false)/\zwp j fun o=>f o || f (o+j))\/((∀ o,o<j->(f o || f (o+j))=true)/\zwp j fun o=>f o && f (o+j)):=by
 obtain ⟨a,b,hab,hb,h⟩:=h;rcases h with h|h
 · have g:∀ o,o<j->f o=decide (a<=o/\o<b)/\f (o+j)=decide (a<=o+j/\o+j<b):=fun o ho=>⟨h o (by omega),h (o+j) (by omega)⟩
   by_cases h1:b<=j
   · refine .inl ⟨fun o ho=>?_,a,b,hab,h1,.inl fun o ho=>?_⟩
     · rw [(g o ho).2,decide_eq_false (by omega)];simp
     · show (f o || f (o+j))=_;rw [(g o ho).1,(g o ho).2,decide_eq_false (p:=a<=o+j/\o+j<b) (by omega)];simp
   · by_cases h2:j<=a
     · refine .inl ⟨fun o ho=>?_,a - j,b - j,by omega,by omega,.inl fun o ho=>?_⟩
       · rw [(g o ho).1,decide_eq_false (by omega)];simp
       · show (f o || f (o+j))=_;rw [(g o ho).1,(g o ho).2,decide_eq_false (p:=a<=o/\o<b) (by omega),Bool.false_or];exact decide_eq_decide.2 (by omega)
     · by_cases h3:b - j<=a
       · refine .inl ⟨fun o ho=>?_,b - j,a,h3,by omega,.inr fun o ho=>?_⟩
         · rw [(g o ho).1,(g o ho).2,<- Bool.decide_and];exact decide_eq_false (by omega)
         · show (f o || f (o+j))=_;rw [(g o ho).1,(g o ho).2,<- Bool.decide_or,<- decide_not];exact decide_eq_decide.2 (by omega)
       · refine .inr ⟨fun o ho=>?_,a,b - j,by omega,by omega,.inl fun o ho=>?_⟩
         · rw [(g o ho).1,(g o ho).2,<- Bool.decide_or];exact decide_eq_true (by omega)
         · show (f o && f (o+j))=_;rw [(g o ho).1,(g o ho).2,<- Bool.decide_and];exact decide_eq_decide.2 (by omega)
 · have g:∀ o,o<j->f o=!decide (a<=o/\o<b)/\f (o+j)=!decide (a<=o+j/\o+j<b):=fun o ho=>⟨h o (by omega),h (o+j) (by omega)⟩
   by_cases h1:b<=j
   · refine .inr ⟨fun o ho=>?_,a,b,hab,h1,.inr fun o ho=>?_⟩
     · rw [(g o ho).2,decide_eq_false (by omega)];simp
     · show (f o && f (o+j))=_;rw [(g o ho).1,(g o ho).2,decide_eq_false (p:=a<=o+j/\o+j<b) (by omega)];simp
   · by_cases h2:j<=a
     · refine .inr ⟨fun o ho=>?_,a - j,b - j,by omega,by omega,.inr fun o ho=>?_⟩
       · rw [(g o ho).1,decide_eq_false (by omega)];simp
       · show (f o && f (o+j))=_;rw [(g o ho).1,(g o ho).2,decide_eq_false (p:=a<=o/\o<b) (by omega),Bool.not_false,Bool.true_and];exact congrArg _ (decide_eq_decide.2 (by omega))
     · by_cases h3:b - j<=a
       · refine .inr ⟨fun o ho=>?_,b - j,a,h3,by omega,.inl fun o ho=>?_⟩
         · rw [(g o ho).1,(g o ho).2,<- decide_not,<- decide_not,<- Bool.decide_or];exact decide_eq_true (by omega)
         · show (f o && f (o+j))=_;rw [(g o ho).1,(g o ho).2,<- decide_not,<- decide_not,<- Bool.decide_and];exact decide_eq_decide.2 (by omega)
       · refine .inl ⟨fun o ho=>?_,a,b - j,by omega,by omega,.inr fun o ho=>?_⟩
         · rw [(g o ho).1,(g o ho).2,<- decide_not,<- decide_not,<- Bool.decide_and];exact decide_eq_false (by omega)
         · show (f o || f (o+j))=_;rw [(g o ho).1,(g o ho).2,<- decide_not,<- decide_not,<- decide_not,<- Bool.decide_or];exact decide_eq_decide.2 (by omega)
def MInv(n k s:Nat)(y:Nat->Bool):Prop:=∀ Q,Q*k+k<=n->∃ p,s ∣ p/\p+s<=k/\(∀ o,o<p->y (Q*k+o)=false)/\(∀ o,p+s<=o->o<k->y (Q*k+o)=true)/\zwp s fun o=>y (Q*k+p+o)
theorem DI{s i:Nat}(hs:0<s):∃ b r,s ∣ b/\r<s/\i=b+r:=⟨s*(i / s),i % s,Nat.dvd_mul_right _ _,Nat.mod_lt _ hs,(Nat.div_add_mod i s).symm⟩
theorem Ew{s a b:Nat}(ha:s ∣ a)(hb:s ∣ b)(h:a<b):a+s<=b:=by
 obtain ⟨c,rfl⟩:=ha;obtain ⟨d,rfl⟩:=hb;have:c<d:=Nat.lt_of_mul_lt_mul_left h
 calc s*c+s=s*(c+1):=by rw [Nat.mul_add,Nat.mul_one]
  _<=s*d:=Nat.mul_le_mul_left _ this
theorem yB{n k j:Nat}(hj:0<j)(hk:2*j ∣ k){x:Nat->Bool}{z:Nat->Bool}(hz:∀ i,i<n->z i=Sy k j x i)(h:MInv n k (2*j) (flip k x)):MInv n k j (flip k z):=by
 intro Q hQ;obtain ⟨p,hp1,hp2,hlo,hhi,hb⟩:=h Q hQ;have hzf:∀ i,i<n->flip k z i=flip k (Sy k j x) i:=fun i hi=>by unfold flip;rw [hz i hi]
 have hQk:2*j ∣ Q*k:=Nat.dvd_trans hk (Nat.dvd_mul_left _ _);have lo:∀ o,o<p->flip k z (Q*k+o)=false:=by
  intro o ho;rw [hzf _ (by omega)];obtain ⟨b,r,hb1,hr,rfl⟩:=DI (s:=2*j) (i:=o) (by omega);have hbp:b+2*j<=p:=Ew hb1 hp1 (by omega);have hbb:2*j ∣ Q*k+b:=Nat.dvd_add hQk hb1
  by_cases hrj:r<j
  · rw [<- Nat.add_assoc,zo hj hk x hbb hrj,Nat.add_assoc (Q*k),hlo (b+r) (by omega)];rfl
  · have e:Q*k+(b+r)=Q*k+b+(r - j)+j:=(by omega);rw [e,zn hj hk x hbb (by omega)];have e1:Q*k+b+(r - j)=Q*k+(b+(r - j)):=(by omega);have e2:Q*k+b+(r - j)+j=Q*k+(b+r):=(by omega);rw [e2,e1,hlo _ (by omega),hlo _ (by omega)];rfl
 have hi:∀ o,p+2*j<=o->o<k->flip k z (Q*k+o)=true:=by
  intro o ho hok;rw [hzf _ (by omega)];obtain ⟨b,r,hb1,hr,rfl⟩:=DI (s:=2*j) (i:=o) (by omega);have hbp:p+2*j<=b:=by
   rcases Nat.lt_or_ge p b with h|h
   · exact Ew hp1 hb1 h
   · omega
  have hbk:b+2*j<=k:=Ew hb1 hk (by omega);have hbb:2*j ∣ Q*k+b:=Nat.dvd_add hQk hb1
  by_cases hrj:r<j
  · rw [<- Nat.add_assoc,zo hj hk x hbb hrj];have e1:Q*k+b+r=Q*k+(b+r):=(by omega);have e2:Q*k+b+r+j=Q*k+(b+r+j):=(by omega);rw [e2,e1,hhi _ (by omega) (by omega),hhi _ (by omega) (by omega)];rfl
  · have e:Q*k+(b+r)=Q*k+b+(r - j)+j:=(by omega);rw [e,zn hj hk x hbb (by omega)];have e2:Q*k+b+(r - j)+j=Q*k+(b+r):=(by omega);rw [e2,hhi (b+r) (by omega) (by omega),Bool.or_true]
 have hpp:2*j ∣ Q*k+p:=Nat.dvd_add hQk hp1
 have mlo:∀ o,o<j->flip k z (Q*k+p+o)=(flip k x (Q*k+p+o) && flip k x (Q*k+p+(o+j))):=fun o ho=>by
  rw [hzf _ (by omega),zo hj hk x hpp ho,Nat.add_assoc (Q*k+p)]
 have mhi:∀ o,o<j->flip k z (Q*k+p+j+o)=(flip k x (Q*k+p+o) || flip k x (Q*k+p+(o+j))):=fun o ho=>by
  have e:Q*k+p+j+o=Q*k+p+o+j:=by omega
  rw [e,hzf _ (by omega),zn hj hk x hpp ho,Nat.add_assoc (Q*k+p)]
 have hjp:j ∣ p:=Nat.dvd_trans (Nat.dvd_mul_left j 2) hp1;rcases half hb with ⟨h0,h1⟩|⟨h0,h1⟩
 · refine ⟨p+j,Nat.dvd_add hjp (Nat.dvd_refl j),by omega,fun o ho=>?_,fun o ho=>hi o (by omega),?_⟩
   · by_cases hop:o<p
     · exact lo o hop
     · have e:Q*k+o=Q*k+p+(o - p):=(by omega);rw [e,mlo _ (by omega)];exact h0 _ (by omega)
   · obtain ⟨a,b,hab,hbj,hh⟩:=h1;refine ⟨a,b,hab,hbj,?_⟩;rcases hh with hh|hh
     · refine .inl fun o ho=>?_;show flip k z (Q*k+(p+j)+o)=_;rw [show Q*k+(p+j)+o=Q*k+p+j+o by omega,mhi o ho];exact hh o ho
     · refine .inr fun o ho=>?_;show flip k z (Q*k+(p+j)+o)=_;rw [show Q*k+(p+j)+o=Q*k+p+j+o by omega,mhi o ho];exact hh o ho
 · refine ⟨p,hjp,by omega,lo,fun o ho hok=>?_,?_⟩
   · by_cases hop:p+2*j<=o
     · exact hi o hop hok
     · have e:Q*k+o=Q*k+p+j+(o - p - j):=(by omega);rw [e,mhi _ (by omega)];exact h0 _ (by omega)
   · obtain ⟨a,b,hab,hbj,hh⟩:=h1;refine ⟨a,b,hab,hbj,?_⟩;rcases hh with hh|hh
     · exact .inl fun o ho=>(mlo o ho).trans (hh o ho)
     · exact .inr fun o ho=>(mlo o ho).trans (hh o ho)
theorem KC{n k:Nat}:∀ (b:Nat) (x:Nat->Bool),2 ^ b ∣ k->MInv n k (2 ^ b) (flip k x)->MInv n k 1 (flip k ((merges n k b).foldl JL x))
 | 0,x,_,h=>h
 | b+1,x,hk,h=>by
   rw [merges,List.foldl_append];have e:2 ^ (b+1)=2*2 ^ b:=(by rw [Nat.pow_succ,Nat.mul_comm]);rw [e] at hk h;exact KC b _ (Nat.dvd_trans (Nat.dvd_mul_left _ 2) hk) (yB (Nat.two_pow_pos b) hk (fun i hi=>zu (Nat.two_pow_pos b) hk x hi) h)
def RInv(n k:Nat)(x:Nat->Bool):Prop:=∀ Q,Q*k+k<=n->∃ a,∀ o,o<k->flip k x (Q*k+o)=decide (a<=o)
theorem lH(n:Nat)(x:Nat->Bool):RInv n 1 x:=fun Q _=>by
 cases h:flip 1 x (Q*1+0)
 · exact ⟨1,fun o ho=>by have:o=0:=by omega
                         subst this;rw [h];rfl⟩
 · exact ⟨0,fun o ho=>by have:o=0:=by omega
                         subst this;rw [h];rfl⟩
theorem FM{n k:Nat}{x:Nat->Bool}(h:MInv n k 1 (flip k x)):RInv n k x:=by
 intro Q hQ;obtain ⟨p,_,hp,hlo,hhi,_⟩:=h Q hQ;cases hm:flip k x (Q*k+p)
 · refine ⟨p+1,fun o ho=>?_⟩;rcases Nat.lt_trichotomy o p with h1|h1|h1
   · rw [hlo o h1,decide_eq_false (by omega)]
   · subst h1;rw [hm,decide_eq_false (by omega)]
   · rw [hhi o (by omega) ho,decide_eq_true (by omega)]
 · refine ⟨p,fun o ho=>?_⟩;rcases Nat.lt_trichotomy o p with h1|h1|h1
   · rw [hlo o h1,decide_eq_false (by omega)]
   · subst h1;rw [hm,decide_eq_true (by omega)]
   · rw [hhi o (by omega) ho,decide_eq_true (by omega)]
theorem Fz{n k:Nat}(hk:0<k){x:Nat->Bool}(h:RInv n k x):MInv n (2*k) (2*k) (flip (2*k) x):=by
 intro Q hQ;have e0:2*Q*k=Q*(2*k):=by rw [Nat.mul_comm 2 Q,Nat.mul_assoc]
 have e1:(2*Q+1)*k=Q*(2*k)+k:=by rw [Nat.add_mul,e0,Nat.one_mul]
 obtain ⟨a,ha⟩:=h (2*Q) (by omega);obtain ⟨b,hb⟩:=h (2*Q+1) (by omega);rw [e0] at ha;rw [e1] at hb;obtain ⟨B,hB⟩:=eE (Q*(2*k))
 have q0:∀ o,o<k->(B+o) / k=2*Q:=fun o ho=>by
  rw [hB,<- e0,Nat.mul_comm (2*Q) k,Nat.mul_add_div hk,Nat.div_eq_of_lt ho];rfl
 have q1:∀ o,o<k->(B+k+o) / k=2*Q+1:=fun o ho=>by
  rw [hB,<- e1,Nat.mul_comm (2*Q+1) k,Nat.mul_add_div hk,Nat.div_eq_of_lt ho]
 have q2:∀ o,o<2*k->(B+o) / (2*k)=Q:=fun o ho=>by
  rw [hB,Nat.mul_comm Q (2*k),Nat.mul_add_div (by omega),Nat.div_eq_of_lt ho];rfl
 rw [<- hB] at ha hb hQ ⊢
 have x0:∀ o,o<k->x (B+o)=decide (a<=o):=fun o ho=>by
  have:=ha o ho;unfold flip at this;rw [q0 o ho] at this;simpa using this
 have x1:∀ o,o<k->x (B+k+o)=!decide (b<=o):=fun o ho=>by
  have:=hb o ho;unfold flip at this;rw [q1 o ho,decide_eq_true (p:=(2*Q+1) % 2=1) (by omega),Bool.xor_true] at this;rw [<- this,Bool.not_not]
 refine ⟨0,Nat.dvd_zero _,by omega,fun o ho=>by omega,fun o ho ho'=>by omega,min a k,k+min b k,by omega,by omega,?_⟩
 have xx:∀ o,o<2*k->x (B+o)=decide (min a k<=o/\o<k+min b k):=fun o ho=>by
  by_cases h1:o<k
  · rw [x0 o h1];exact decide_eq_decide.2 (by omega)
  · rw [show B+o=B+k+(o - k) by omega,x1 _ (by omega),<- decide_not];exact decide_eq_decide.2 (by omega)
 rcases Nat.mod_two_eq_zero_or_one Q with hq|hq
 · refine .inl fun o ho=>?_;show flip (2*k) x (B+0+o)=_;unfold flip;rw [Nat.add_zero,q2 o ho,xx o ho,decide_eq_false (p:=Q % 2=1) (by omega),Bool.xor_false]
 · refine .inr fun o ho=>?_;show flip (2*k) x (B+0+o)=_;unfold flip;rw [Nat.add_zero,q2 o ho,xx o ho,decide_eq_true hq,Bool.xor_true]
theorem KV{n:Nat}:∀ (r s:Nat) (x:Nat->Bool),RInv n (2 ^ s) x->RInv n (2 ^ (s+r)) ((rounds n s r).foldl JL x)
 | 0,s,x,h=>h
 | r+1,s,x,h=>by
   rw [rounds,List.foldl_append];have e:2 ^ (s+1)=2*2 ^ s:=(by rw [Nat.pow_succ,Nat.mul_comm]);have h1:=KC (n:=n) (s+1) x (Nat.dvd_refl _) (by rw [e];exact Fz (Nat.two_pow_pos s) h);have h2:=KV r (s+1) _ (FM h1);rw [show s+(r+1)=s+1+r by omega];exact h2
theorem zzx(m:Nat)(x:Nat->Bool):∃ a,∀ o,o<2 ^ m->(YK m).foldl JL x o=decide (a<=o):=by
 have h:=KV (n:=2 ^ m) m 0 x (lH _ x);rw [Nat.zero_add] at h;obtain ⟨a,ha⟩:=h 0 (by simp);refine ⟨a,fun o ho=>?_⟩;have:=ha o ho;unfold flip at this;rw [Nat.zero_mul,Nat.zero_add,Nat.div_eq_of_lt ho] at this;rw [YK];simpa using this
section
variable {α:Type}(key:α->Nat)
def Pz(l:List α)(c:Nat × Nat):List α:=match l[c.1]?,l[c.2]? with
 | some a,some b=>if key b<key a then (l.set c.1 b).set c.2 a else l
 | _,_=>l
theorem Gy(l:List α)(c:Nat × Nat):(Pz key l c).Perm l:=by
 unfold Pz;split
 · rename_i a b h1 h2
   obtain ⟨k1,e1⟩:=List.getElem?_eq_some_iff.1 h1;obtain ⟨k2,e2⟩:=List.getElem?_eq_some_iff.1 h2;split
   · subst e1;subst e2;exact List.set_set_perm k1 k2
   · exact List.Perm.refl _
 · exact List.Perm.refl _
theorem Mw(l:List α)(c:Nat × Nat):(Pz key l c).length=l.length:=(Gy key l c).length_eq
theorem QF:∀ (cs:List (Nat × Nat)) (l:List α),(cs.foldl (Pz key) l).Perm l
 | [],_=>List.Perm.refl _
 | c::cs,l=>(QF cs _).trans (Gy key l c)
def sj(t:Nat)(l:List α)(i:Nat):Bool:=match l[i]? with
 | some a=>decide (t<=key a)
 | none=>false
theorem mh(t:Nat)(l:List α)(c:Nat × Nat)(h1:c.1<l.length)(h2:c.2<l.length)(hne:c.1≠c.2):sj key t (Pz key l c)=JL (sj key t l) c:=by
 funext i
 have g1:=List.getElem?_eq_getElem h1;have g2:=List.getElem?_eq_getElem h2;obtain ⟨a,ha⟩:=eE (l[c.1]);obtain ⟨b,hb⟩:=eE (l[c.2]);rw [<- ha] at g1;rw [<- hb] at g2;have t1:sj key t l c.1=decide (t<=key a):=by unfold sj;rw [g1]
 have t2:sj key t l c.2=decide (t<=key b):=by unfold sj;rw [g2]
 unfold JL;rw [t1,t2,<- Bool.decide_and,<- Bool.decide_or];unfold Pz;rw [g1,g2];dsimp only
 by_cases hk:key b<key a
 · rw [if_pos hk]
   by_cases i1:i=c.1
   · subst i1;unfold sj;rw [if_pos rfl,List.getElem?_set_ne (Ne.symm hne),List.getElem?_set_self h1];exact decide_eq_decide.2 (by omega)
   · by_cases i2:i=c.2
     · subst i2;unfold sj;rw [if_neg i1,if_pos rfl,List.getElem?_set_self (by rw [List.length_set];exact h2)];exact decide_eq_decide.2 (by omega)
     · unfold sj;rw [if_neg i1,if_neg i2,List.getElem?_set_ne (Ne.symm i2),List.getElem?_set_ne (Ne.symm i1)]
 · rw [if_neg hk]
   by_cases i1:i=c.1
   · subst i1;rw [if_pos rfl,t1];exact decide_eq_decide.2 (by omega)
   · by_cases i2:i=c.2
     · subst i2;rw [if_neg i1,if_pos rfl,t2];exact decide_eq_decide.2 (by omega)
     · rw [if_neg i1,if_neg i2]
def InB(n:Nat)(c:Nat × Nat):Prop:=c.1<n/\c.2<n/\c.1≠c.2
theorem DV(t:Nat):∀ (cs:List (Nat × Nat)) (l:List α),(∀ c∈cs,InB l.length c)->sj key t (cs.foldl (Pz key) l)=cs.foldl JL (sj key t l)
 | [],l,_=>rfl
 | c::cs,l,h=>by
   rw [List.foldl_cons,List.foldl_cons];have hc:=h c (List.mem_cons_self ..);rw [<- mh key t l c hc.1 hc.2.1 hc.2.2];exact DV t cs _ fun d hd=>by rw [Mw];exact h d (List.mem_cons_of_mem _ hd)
end
theorem rZ{n k j i:Nat}(hj:0<j)(hn:2*j ∣ n)(hi:i<n){c:Nat × Nat}(h:Yh k j i=some c):InB n c:=by
 unfold Yh at h
 by_cases h1:i / j % 2=1
 · rw [if_pos h1] at h;cases h
 · rw [if_neg h1] at h;have h2:i % (2*j)<j:=(Lj hj).1 (by omega);have h3:i+j<n:=by
    have e:=Nat.div_add_mod i (2*j);have h4:2*j*(i / (2*j))+2*j<=n:=Ew (Nat.dvd_mul_right _ _) hn (by omega);omega
   by_cases h5:i / k % 2=1
   · rw [if_pos h5] at h;cases h;exact ⟨h3,hi,by simp;omega⟩
   · rw [if_neg h5] at h;cases h;exact ⟨hi,h3,by simp;omega⟩
theorem mg{n k j:Nat}(hj:0<j)(hn:2*j ∣ n){c:Nat × Nat}(h:c∈DU n k j):InB n c:=by
 obtain ⟨i,hi,hc⟩:=List.mem_filterMap.1 h;exact rZ hj hn (List.mem_range.1 hi) hc
theorem G8{n k:Nat}{c:Nat × Nat}:∀ b,2 ^ b ∣ n->c∈merges n k b->InB n c
 | 0,_,h=>by cases h
 | b+1,hn,h=>by
   have e:2 ^ (b+1)=2*2 ^ b:=(by rw [Nat.pow_succ,Nat.mul_comm]);rw [e] at hn;rcases List.mem_append.1 h with h|h
   · exact mg (Nat.two_pow_pos b) hn h
   · exact G8 b (Nat.dvd_trans (Nat.dvd_mul_left _ 2) hn) h
theorem Ij{n:Nat}{c:Nat × Nat}:∀ r s,2 ^ (s+r) ∣ n->c∈rounds n s r->InB n c
 | 0,s,_,h=>by cases h
 | r+1,s,hn,h=>by
   rcases List.mem_append.1 h with h|h
   · exact G8 (s+1) (Nat.dvd_trans (Nat.pow_dvd_pow 2 (by omega)) hn) h
   · exact Ij r (s+1) (by rw [show s+1+r=s+(r+1) by omega];exact hn) h
theorem Xt{m:Nat}{c:Nat × Nat}(h:c∈YK m):InB (2 ^ m) c:=Ij m 0 (by rw [Nat.zero_add];exact Nat.dvd_refl _) h
theorem yI{α:Type}(key:α->Nat)(m:Nat)(l:List α)(hl:l.length=2 ^ m):((YK m).foldl (Pz key) l).Pairwise (fun a b=>key a<=key b):=by
 obtain ⟨r,hr⟩:=eE ((YK m).foldl (Pz key) l);have hrl:r.length=2 ^ m:=by rw [hr,(QF key _ _).length_eq,hl]
 rw [<- hr,List.pairwise_iff_getElem];intro i j hi hj hij;have h1:=DV key (key r[i]) (YK m) l (fun c hc=>by rw [hl];exact Xt hc);rw [<- hr] at h1;obtain ⟨a,ha⟩:=zzx m (sj key (key r[i]) l);rw [<- h1] at ha;have e1:=ha i (by omega);have e2:=ha j (by omega);unfold sj at e1 e2;rw [List.getElem?_eq_getElem hi] at e1;rw [List.getElem?_eq_getElem hj] at e2;dsimp only at e1 e2;rw [decide_eq_true (Nat.le_refl _)] at e1;have e3:=of_decide_eq_true e1.symm;rw [decide_eq_true (show a<=j by omega)] at e2;exact of_decide_eq_true e2
section
variable {α:Type}(key:α->Nat)
def ins(x:α):List α->List α
 | []=>[x]
 | y::l=>if key x<key y then x::y::l else y::ins x l
def U2(l:List α):List α:=l.foldl (fun out x=>ins key x out) []
theorem Kt(x:α):∀ l,(ins key x l).Perm (x::l)
 | []=>List.Perm.refl _
 | y::l=>by
   unfold ins;split
   · exact List.Perm.refl _
   · exact ((Kt x l).cons y).trans (List.Perm.swap x y l)
theorem Ku(x:α):∀ l,l.Pairwise (fun a b=>key a<=key b)->(ins key x l).Pairwise (fun a b=>key a<=key b)
 | [],_=>by simp [ins]
 | y::l,h=>by
   have h1:=List.pairwise_cons.1 h;unfold ins;split
   · rename_i hk
     refine List.pairwise_cons.2 ⟨fun z hz=>?_,h⟩;rcases List.mem_cons.1 hz with rfl|hz
     · omega
     · have:=h1.1 z hz;omega
   · rename_i hk
     refine List.pairwise_cons.2 ⟨fun z hz=>?_,Ku x l h1.2⟩;rcases List.mem_cons.1 ((Kt key x l).mem_iff.1 hz) with rfl|hz
     · omega
     · exact h1.1 z hz
theorem PO:∀ (l acc:List α),acc.Pairwise (fun a b=>key a<=key b)->(l.foldl (fun out x=>ins key x out) acc).Pairwise (fun a b=>key a<=key b)/\(l.foldl (fun out x=>ins key x out) acc).Perm (l++acc)
 | [],acc,h=>⟨h,List.Perm.refl _⟩
 | x::l,acc,h=>by
   obtain ⟨h1,h2⟩:=PO l _ (Ku key x acc h);refine ⟨h1,h2.trans (((Kt key x acc).append_left l).trans ?_)⟩;exact List.perm_middle
theorem OE(l:List α):(U2 key l).Pairwise (fun a b=>key a<=key b):=(PO key l [] List.Pairwise.nil).1
theorem WU(l:List α):(U2 key l).Perm l:=by have:=(PO key l [] List.Pairwise.nil).2;rwa [List.append_nil] at this
theorem OD(l:List α):(U2 key l).length=l.length:=(WU key l).length_eq
theorem Jf{l r:List α}(hi:∀ a∈l,∀ b∈r,key a=key b->a=b)(hl:l.Pairwise (fun a b=>key a<=key b))(hr:r.Pairwise (fun a b=>key a<=key b))(hp:l.Perm r):l=r :=
 hp.eq_of_pairwise (le:=fun a b=>key a<=key b) (fun a b ha hb h1 h2=>hi a ha b hb (Nat.le_antisymm h1 h2)) hl hr
end
def Y9(r:Int × Int):Nat:=if r.1=1 then r.2.toNat else 18446744073709551616
def LK(r:Int × Int):Prop:=(r.1=1/\0<=r.2/\r.2<18446744073709551616)\/r=(0,0)
theorem zxb{a b:Int × Int}(ha:LK a)(hb:LK b)(h:Y9 a=Y9 b):a=b:=by
 obtain ⟨a1,a2⟩:=a;obtain ⟨b1,b2⟩:=b;unfold Y9 at h;rcases ha with ha|ha <;> rcases hb with hb|hb
 · dsimp only at *;obtain ⟨rfl,h1,h2⟩:=ha;obtain ⟨rfl,h3,h4⟩:=hb;rw [if_pos rfl,if_pos rfl] at h;rw [show a2=b2 by omega]
 · dsimp only at *;obtain ⟨rfl,h1,h2⟩:=ha;cases hb;rw [if_pos rfl,if_neg (by decide)] at h;omega
 · dsimp only at *;obtain ⟨rfl,h1,h2⟩:=hb;cases ha;rw [if_pos rfl,if_neg (by decide)] at h;omega
 · rw [ha,hb]
theorem yH(m:Nat)(l:List (Int × Int))(hc:∀ r∈l,LK r)(hl:l.length<=2 ^ m):
 (YK m).foldl (Pz Y9) (l++List.replicate (2 ^ m - l.length) (0,0))=U2 Y9 l++List.replicate (2 ^ m - l.length) (0,0):=by
 have hcr:∀ r∈U2 Y9 l,LK r:=fun r hr=>hc r ((WU Y9 l).mem_iff.1 hr)
 have hk:∀ r,LK r->Y9 r<=18446744073709551616:=fun r hr=>by
  unfold Y9;split
  · rcases hr with h|h
    · omega
    · rw [h];decide
  · omega
 have hp:=(QF Y9 (YK m) (l++List.replicate (2 ^ m - l.length) (0,0))).trans ((WU Y9 l).symm.append_right _);refine Jf Y9 (fun a ha b hb he=>?_) (yI Y9 m _ (by simp;omega)) ?_ hp
 · have c1:∀ r∈U2 Y9 l++List.replicate (2 ^ m - l.length) ((0,0):Int × Int),LK r:=fun r hr=>by
    rcases List.mem_append.1 hr with h|h
    · exact hcr r h
    · rw [List.eq_of_mem_replicate h];exact .inr rfl
   exact zxb (c1 a (hp.mem_iff.1 ha)) (c1 b hb) he
 · refine List.pairwise_append.2 ⟨OE Y9 l,?_,fun a ha b hb=>?_⟩
   · exact List.pairwise_replicate.2 (Or.inr (Nat.le_refl _))
   · rw [List.eq_of_mem_replicate hb];exact hk a (hcr a ha)
end
section
open Go.RowKit
theorem TU(w:World):Calls prog 12 #[] w fun e w'=>e=.returned (.pointer (some ⟨w.heap.size,0,none⟩))/\w'=w.alloc (.cells #[.slice none 0 0,.slice none 0 0] 70):=by
 go_enter func12,ntmps12;go_wp2;go_ret;exact ⟨rfl,rfl⟩
end
section
open Go.ChangeShapes Go.WideShapes Go.ChangeAt Go.RowKit
theorem zwa:ownKnob prog.godebug=none:=by kernel_rfl
theorem oV:laidOutB prog=true:=by kernel_rfl
theorem Qo{H:Type}{enc:TypeId × Value->H}{W W':World}(hb:Below W.heap.size W W'):
 ∀ (ts:List TypeId) (vs:List Value) (ds:List (DataW H)) (ps:List MemPlace),(∀ t∈ts,prog.readableRec t=true/\t<prog.types.size)->(∀ x∈ps,x.block<W.heap.size) ->
   DataW.TrodAll enc prog W 0 (fun _=>true) true ts vs ds ps->DataW.TrodAll enc prog W' 0 (fun b=>decide (b<W.heap.size)) true ts vs ds ps
 | [],vs,ds,ps,_,_,h=>by
   obtain ⟨rfl,rfl,rfl⟩:=trodAll_nil h;exact trodAll_mk0
 | t::ts,vs,ds,ps,ht,hlt,h=>by
   obtain ⟨v,vs',d,ds',p,q,rfl,rfl,rfl,h0,hr⟩:=trodAll_cons h
   exact trodAll_cons_mk (Below.trod oV (ht t (by simp)).1 (ht t (by simp)).2 h0 hb (fun x hx=>hlt x (by simp [hx])))
    (Qo hb ts vs' ds' q (fun u hu=>ht u (by simp [hu])) (fun x hx=>hlt x (by simp [hx])) hr)
theorem Cn {H:Type} {enc:TypeId × Value->H} {f:Func} {s:ChangeSpec} {W W':World} {args:Array Value} {ds gs:List (DataW H)} {before:List MemPlace}
 (hvars:s.vars=[]) (hres:f.resultTypes=#[4]) (hread:∀ t∈f.params.toList,prog.readableRec t=true/\t<prog.types.size)
 (hspec:s.fn H (ds++gs)={ results:=[.lit (.bool true)],args:=ds,vars:=[] })
 (hW:DataW.Whole enc prog f.params.toList s.vars false W args.toList ds gs before) (hb:Below W.heap.size W W') :
 s.post enc prog f false true false false W args (.bool true) W':=by
 have hlt:∀ p∈before,p.block<W.heap.size:=fun p hp=>hW.lt p hp;have hW':=hW;obtain ⟨p,q,hA,hV,rfl,hfz,hnd⟩:=hW;refine ⟨ds,gs,p++q,[],p,[],hW',?_,?_,?_,hb.frame _,fun h=>by cases h⟩
 · rw [hspec,hres];exact trodAll_mk1 (shut_bool underlying4 true)
 · rw [hspec];exact Qo hb _ _ _ _ hread (fun x hx=>hlt x (by simp [hx])) hA
 · rw [hspec,hvars];rfl
theorem block_lt{w:World}{b o:Nat}{v:Value}(h:w.cell? ⟨b,o,none⟩=some v):b<w.heap.size:=by
 rcases Nat.lt_or_ge b w.heap.size with h1|h1
 · exact h1
 · simp [World.cell?,Array.getElem?_eq_none h1] at h
section
variable {H:Type}{enc:TypeId × Value->H}{W:World}{base:Nat}
end
end
end Go.Proofs.YthnenedoblncjaaGreatDoor