/- Words FenceSize Check ScopeB HdBase Payload Same Mask FenceCheck ScrNew -/
import Derived.BigQuiet
import Derived.Deep.Draws
import Derived.Deep.QuietTactic
import Derived.Deep.RegionWith
import Derived.Laws.BitsAllLaws
import Derived.RegionTactic
import Derived.ScopeJumps
import Derived.Test.YthnenedoblncjaaGreatDoorRows
import Derived.WalkKit
import Derived.WalkLawsBesides
import Derived.WalkMore
import Derived.WalkSpells
set_option maxRecDepth 1000000
set_option maxHeartbeats 8000000
namespace Go.Proofs.YthnenedoblncjaaGreatDoor
open Go.Proofs.Tryz
section
open Go.RowKit
def Sl(w:World)(B:Nat)(A:Option Addr)(xs:List Value):Prop :=
 xs=[]\/∃ b off,A=some ⟨b,off,none⟩/\b<B/\∀ j u,xs[j]?=some u->w.cell? ⟨b,off+j,none⟩=some u
theorem Sl.nil(w:World)(B:Nat)(A:Option Addr):Sl w B A []:=.inl rfl
theorem Sl.below{w w':World}{B:Nat}{A:Option Addr}{xs:List Value}(h:Sl w B A xs)(hb:Below B w w'):Sl w' B A xs:=by
 rcases h with h|⟨b,off,hA,hlt,hc⟩
 · exact .inl h
 · exact .inr ⟨b,off,hA,hlt,fun j u hu=>(hb.cell (p:=⟨b,off+j,none⟩) hlt).trans (hc j u hu)⟩
theorem Sl.more{w:World}{B B':Nat}{A:Option Addr}{xs:List Value}(h:Sl w B A xs)(hB:B<=B'):Sl w B' A xs:=by
 rcases h with h|⟨b,off,hA,hlt,hc⟩
 · exact .inl h
 · exact .inr ⟨b,off,hA,Nat.lt_of_lt_of_le hlt hB,hc⟩
theorem Sl.drewN{w:World}{B:Nat}{A:Option Addr}{xs:List Value}(h:Sl w B A xs)(k:Nat):Sl (w.drewN k) B A xs:=h
theorem Sl.drew{w:World}{B:Nat}{A:Option Addr}{xs:List Value}(h:Sl w B A xs):Sl w.drew B A xs:=h
theorem Sl.open_{w:World}{B:Nat}{A:Option Addr}{xs:List Value}(h:Sl w B A xs)(hn:0<xs.length):
 ∃ b off,A=some ⟨b,off,none⟩/\b<B/\∀ j u,xs[j]?=some u->w.cell? ⟨b,off+j,none⟩=some u:=by
 rcases h with h|h
 · subst h;simp at hn
 · exact h
theorem Sl.mk{w:World}{B b off:Nat}{xs:List Value}(hb:b<B)(hc:∀ j u,xs[j]?=some u->w.cell? ⟨b,off+j,none⟩=some u):Sl w B (some ⟨b,off,none⟩) xs :=
 .inr ⟨b,off,rfl,hb,hc⟩
theorem Sl.XO{w:World}{base:Nat}{e:TypeId}{size n m c:Nat}{A:Option Addr}{xs:List Value}(h:w.ownsRow base e size (.slice A n c) m xs):Sl w w.heap.size A xs:=by
 obtain ⟨hl,h⟩:=h;rcases h with ⟨_,h0⟩|⟨g,cap,cur,hv,_,hh,hn,_,hcs,ht⟩
 · left;subst h0;exact List.eq_nil_of_length_eq_zero (by simpa using hl)
 · right
   injection hv with hA;have hlt:g<w.heap.size:=by
    rcases Nat.lt_or_ge g w.heap.size with h|h
    · exact h
    · rw [Array.getElem?_eq_none h] at hh;cases hh
   refine ⟨g,0,hA,hlt,fun j u hu=>?_⟩;rw [<- ht] at hu;rw [List.getElem?_take] at hu;have hcell:=cell_of_row w g (0+j) cur e (0,0) hh;rw [hcell];split at hu
   · simpa using hu
   · cases hu
theorem below_drewN{B:Nat}{a w:World}(h:Below B a w)(k:Nat):Below B a (w.drewN k):=⟨h.os,h.tape,h.output,h.size,h.block⟩
theorem Xu{B:Nat}{a w:World}(h:Below B a.drew w):Below B a w:=⟨h.os,h.tape,h.output,h.size,h.block⟩
theorem ZY{a w:World}(h:Below a.heap.size a w)(o:Obj):Below a.heap.size a (w.alloc o):=h.alloc h.size o
theorem bE{w w' : World}{o : Obj}(h : w'=w.alloc o): Below w.heap.size w w' := by rw [h]; exact ZY (Below.refl _ _) _
theorem bF{w w' : World}{o o2 : Obj}(h : w'=(w.alloc o).alloc o2): Below w.heap.size w w' := by rw [h]; exact ZY (ZY (Below.refl _ _) _) _
theorem bA{w : World}{o : Obj}: Below w.heap.size w (w.alloc o) := ZY (Below.refl _ _) _
theorem U2{B:Nat}{a w:World}(h:Below B a w)(k:Nat):Below B a (w.drewN k):=⟨h.os,h.tape,h.output,h.size,h.block⟩
theorem ZV{B:Nat}{a w:World}(h:Below B a w):Below B a w.drew:=⟨h.os,h.tape,h.output,h.size,h.block⟩
theorem Z8{a w w':World}(h:Below a.heap.size a w)(hb:Below w.heap.size w w'):Below a.heap.size a w':=h.trans (hb.mono h.size)
theorem hide{p:Prop}(h:p):Hid p:=h
theorem Xb{k:IntKind}{a b:Int}(h:a=b):Ending.returned (.int k a)=.returned (.int k b):=by rw [h]
theorem I6{a b:Bool}(h:a=b):Ending.returned (.bool a)=.returned (.bool b):=by rw [h]
def Z6(w:World)(g:Nat)(t:TypeId)(cs:Array Value):Prop:=w.heap[g]?=some (.cells cs t (0,0))
section
variable {w w':World}{g:Nat}{t:TypeId}{cs:Array Value}
theorem Z6.lt(h:Z6 w g t cs):g<w.heap.size:=by
 rcases Nat.lt_or_ge g w.heap.size with h1|h1
 · exact h1
 · unfold Z6 at h;rw [Array.getElem?_eq_none h1] at h;cases h
theorem Z6.cell(h:Z6 w g t cs){i:Nat}{v:Value}(hi:cs[i]?=some v):w.cell? ⟨g,i,none⟩=some v:=(cell_of_row w g i cs t (0,0) h).trans hi
theorem eE{α:Type}(a:α):∃ x,x=a:=⟨a,rfl⟩
theorem Z6.q0{w:World}{g:Nat}{t:TypeId}{cs:Array Value}(h:Z6 w g t cs){v:Value}(hi:cs[0]?=some v):w.cell? ⟨g,0,none⟩=some v:=h.cell (i:=0) hi
theorem Z6.q1{w:World}{g:Nat}{t:TypeId}{cs:Array Value}(h:Z6 w g t cs){v:Value}(hi:cs[1]?=some v):w.cell? ⟨g,1,none⟩=some v:=h.cell (i:=1) hi
theorem Z6.q2{w:World}{g:Nat}{t:TypeId}{cs:Array Value}(h:Z6 w g t cs){v:Value}(hi:cs[2]?=some v):w.cell? ⟨g,2,none⟩=some v:=h.cell (i:=2) hi
theorem Z6.q3{w:World}{g:Nat}{t:TypeId}{cs:Array Value}(h:Z6 w g t cs){v:Value}(hi:cs[3]?=some v):w.cell? ⟨g,3,none⟩=some v:=h.cell (i:=3) hi
theorem Z6.q4{w:World}{g:Nat}{t:TypeId}{cs:Array Value}(h:Z6 w g t cs){v:Value}(hi:cs[4]?=some v):w.cell? ⟨g,4,none⟩=some v:=h.cell (i:=4) hi
theorem Z6.q5{w:World}{g:Nat}{t:TypeId}{cs:Array Value}(h:Z6 w g t cs){v:Value}(hi:cs[5]?=some v):w.cell? ⟨g,5,none⟩=some v:=h.cell (i:=5) hi
theorem Z6.q6{w:World}{g:Nat}{t:TypeId}{cs:Array Value}(h:Z6 w g t cs){v:Value}(hi:cs[6]?=some v):w.cell? ⟨g,6,none⟩=some v:=h.cell (i:=6) hi
theorem Z6.q7{w:World}{g:Nat}{t:TypeId}{cs:Array Value}(h:Z6 w g t cs){v:Value}(hi:cs[7]?=some v):w.cell? ⟨g,7,none⟩=some v:=h.cell (i:=7) hi
theorem Z6.q8{w:World}{g:Nat}{t:TypeId}{cs:Array Value}(h:Z6 w g t cs){v:Value}(hi:cs[8]?=some v):w.cell? ⟨g,8,none⟩=some v:=h.cell (i:=8) hi
theorem Z6.q9{w:World}{g:Nat}{t:TypeId}{cs:Array Value}(h:Z6 w g t cs){v:Value}(hi:cs[9]?=some v):w.cell? ⟨g,9,none⟩=some v:=h.cell (i:=9) hi
theorem Z6.frozen(h:Z6 w g t cs)(i:Nat):w.frozen? ⟨g,i,none⟩=false:=by unfold Z6 at h;simp [World.frozen?,h]
theorem Z6.new(w:World)(t:TypeId)(cs:Array Value):Z6 (w.alloc (.cells cs t)) w.heap.size t cs:=by
 show (w.heap.push _)[w.heap.size]?=_;simp
theorem Z6.alloc(h:Z6 w g t cs)(o:Obj):Z6 (w.alloc o) g t cs:=(Below.heap_alloc w o g h.lt).trans h
theorem Z6.drewN(h:Z6 w g t cs)(k:Nat):Z6 (w.drewN k) g t cs:=h
theorem Z6.drew(h:Z6 w g t cs):Z6 w.drew g t cs:=h
theorem Z6.set(h:Z6 w g t cs)(i:Nat)(u:Value):Z6 (w.setCell ⟨g,i,none⟩ u) g t (cs.setIfInBounds i u):=by
 unfold Z6 at h ⊢;simp [World.setCell,Array.getElem?_modify,h]
theorem Z6.far(h:Z6 w g t cs){p:Addr}(hp:g≠p.block)(u:Value):Z6 (w.setCell p u) g t cs:=(Below.heap_setCell w p u g hp).trans h
theorem Z6.below{B:Nat}(h:Z6 w g t cs)(hb:Below B w w')(hg:g<B):Z6 w' g t cs:=(hb.block g hg).trans h
theorem Z6.step(h:Z6 w g t cs)(hb:Below w.heap.size w w'):Z6 w' g t cs:=h.below hb h.lt
theorem Z6.grown{row:Option Nat}(h:Z6 w g t cs)(hb:w.grownBy w' row)(hg:some g≠row):Z6 w' g t cs:=(hb.block g h.lt hg).trans h
theorem ZH{base:Nat}{e:TypeId}{size n:Nat}{v:Value}{xs:List Value}(h:w.ownsRow base e size v n xs){k:Nat}(hk:v.ownBlock=some k):base<=k:=by
 rcases h.2 with ⟨rfl,_⟩|⟨g',cap,cur,rfl,hb,_⟩
 · simp [Value.ownBlock] at hk
 · have:g'=k:=(by simpa [Value.ownBlock] using hk);omega
theorem IQ{base:Nat}{e:TypeId}{size n:Nat}{v:Value}{xs:List Value}(h:w.ownsRow base e size v n xs)(hn:0<n):
 ∃ k cap,v=.slice (some ⟨k,0,none⟩) n cap/\base<=k/\k<w.heap.size/\n<=cap:=by
 rcases h.2 with ⟨_,h0⟩|⟨g',cap,cur,rfl,hb,hh,hc,_⟩
 · omega
 · exact ⟨g',cap,rfl,hb,Z6.lt hh,hc⟩
theorem ZM{base:Nat}{e:TypeId}{size n:Nat}{v:Value}{xs:List Value}(h:w.ownsRow base e size v n xs):∃ A cap,v=.slice A n cap/\n<=cap:=by
 rcases h.2 with ⟨rfl,rfl⟩|⟨g',cap,cur,rfl,hb,hh,hc,_⟩
 · exact ⟨none,0,rfl,Nat.le_refl _⟩
 · exact ⟨_,cap,rfl,hc⟩
theorem Zn{base:Nat}{e:TypeId}{size n:Nat}{v:Value}{xs:List Value}(h:w.ownsRow base e size v n xs)(hb:Below w.heap.size w w'):w'.ownsRow base e size v n xs:=by
 refine ⟨h.1,?_⟩;rcases h.2 with h0|⟨g',cap,cur,hv,hb1,hh,r⟩
 · exact .inl h0
 · exact .inr ⟨g',cap,cur,hv,hb1,(hb.block g' (Z6.lt hh)).trans hh,r⟩
end
structure Rg where
 d:Bool
 v:Int
 A:Option Addr
 n:Nat
 c:Nat
def Rg.cells(r:Rg):List Value:=[.bool r.d,.int .i64 r.v,.slice r.A r.n r.c]
def rgCells(rs:List Rg):List Value:=rs.flatMap Rg.cells
theorem Tm(rs:List Rg):(rgCells rs).length=3*rs.length:=by
 induction rs with
 | nil=>rfl
 | cons r rs ih=>simp only [rgCells,List.flatMap_cons,List.length_append,List.length_cons] at *;rw [ih];simp [Rg.cells];omega
theorem PG(rs:List Rg)(i:Nat)(r:Rg)(h:rs[i]?=some r):
 (rgCells rs)[i*3]?=some (.bool r.d)/\(rgCells rs)[i*3+1]?=some (.int .i64 r.v)/\(rgCells rs)[i*3+2]?=some (.slice r.A r.n r.c):=by
 induction rs generalizing i with
 | nil=>simp at h
 | cons q rs ih =>
   have hq:∀ j,(rgCells (q::rs))[j+3]?=(rgCells rs)[j]?:=by
    intro j;show (Rg.cells q++rgCells rs)[j+3]?=_;rw [List.getElem?_append_right (by simp [Rg.cells])];simp [Rg.cells]
   cases i with
   | zero =>
     simp only [List.getElem?_cons_zero,Option.some.injEq] at h;subst h;exact ⟨rfl,rfl,rfl⟩
   | succ i =>
     have h':rs[i]?=some r:=(by simpa using h);have:=ih i h';have e:(i+1)*3=i*3+3:=(by omega);rw [e];refine ⟨by rw [hq];exact this.1,?_,?_⟩
     · rw [show i*3+3+1=i*3+1+3 by omega,hq];exact this.2.1
     · rw [show i*3+3+2=i*3+2+3 by omega,hq];exact this.2.2
theorem Sl.rg{w:World}{B:Nat}{A:Option Addr}{rs:List Rg}(h:Sl w B A (rgCells rs)){k:Nat}{r:Rg}(hk:rs[k]?=some r):
 ∃ b off,A=some ⟨b,off,none⟩/\b<B/\w.cell? ⟨b,off+k*3,none⟩=some (.bool r.d)/\w.cell? ⟨b,off+k*3+1,none⟩=some (.int .i64 r.v)/\w.cell? ⟨b,off+k*3+2,none⟩=some (.slice r.A r.n r.c):=by
 have hlt:k<rs.length:=(List.getElem?_eq_some_iff.1 hk).1;obtain ⟨b,off,rfl,hB,hc⟩:=h.open_ (by rw [Tm];omega);obtain ⟨h0,h1,h2⟩:=PG rs k r hk;exact ⟨b,off,rfl,hB,hc _ _ h0,hc _ _ h1,hc _ _ h2⟩
theorem any_take_succ{α:Type}(l:List α)(p:α->Bool)(k:Nat)(r:α)(h:l[k]?=some r):(l.take (k+1)).any p=((l.take k).any p || p r):=by
 rw [List.take_add_one,h];simp
theorem Mk{α:Type}(l:List α)(p:α->Bool)(k:Nat)(r:α)(h:l[k]?=some r)(hp:p r=true):l.any p=true :=
 List.any_eq_true.2 ⟨r,List.mem_of_getElem? h,hp⟩
theorem Z6.new2(w:World)(o:Obj)(t:TypeId)(cs:Array Value):Z6 ((w.alloc o).alloc (.cells cs t)) (w.heap.size+1) t cs:=by
 have h:=Z6.new (w.alloc o) t cs;simpa using h
theorem IU{w:World}{base base':Nat}{e:TypeId}{size n:Nat}{v:Value}{xs:List Value}(h:w.ownsRow base e size v n xs)(hb:base'<=base):w.ownsRow base' e size v n xs:=by
 refine ⟨h.1,?_⟩;rcases h.2 with h0|⟨g',cap,cur,hv,hb1,r⟩
 · exact .inl h0
 · exact .inr ⟨g',cap,cur,hv,by omega,r⟩
theorem Ns{w:World}{base g:Nat}{e:TypeId}{size n:Nat}{xs:List Value}(h:Z6 w g e xs.toArray)(hg:base<=g)(hl:xs.length=n*size)(hn:n<=maxLen):
 w.ownsRow base e size (.slice (some ⟨g,0,none⟩) n n) n xs :=
 ⟨hl,.inr ⟨g,n,xs.toArray,rfl,hg,h,Nat.le_refl _,hn,by simpa using hl,by rw [<- hl];simp⟩⟩
theorem YW{w:World}{g:Nat}{t:TypeId}{xs:List Value}(h:Z6 w g t xs.toArray):∀ j u,xs[j]?=some u->w.cell? ((⟨g,0,none⟩:Addr).add j)=some u:=by
 intro j u hu;have e:(⟨g,0,none⟩:Addr).add j=⟨g,j,none⟩:=by unfold Addr.add;split <;> simp_all
 rw [e];exact h.cell (by simpa using hu)
theorem W9{w:World}{base:Nat}{e:TypeId}{size n:Nat}{v:Value}{xs:List Value}(h:w.ownsRow base e size v n xs){p:Addr}(hp:v.ownBlock≠some p.block)(u:Value):(w.setCell p u).ownsRow base e size v n xs:=by
 refine ⟨h.1,?_⟩;rcases h.2 with h0|⟨g',cap,cur,rfl,hb1,hh,r⟩
 · exact .inl h0
 · refine .inr ⟨g',cap,cur,rfl,hb1,(Below.heap_setCell w p u g' ?_).trans hh,r⟩;intro e1;apply hp;rw [<- e1];rfl
theorem ZG{w:World}{b o:Nat}{v:Value}(h:w.cell? ⟨b,o,none⟩=some v):b<w.heap.size:=by
 rcases Nat.lt_or_ge b w.heap.size with h1|h1
 · exact h1
 · simp [World.cell?,Array.getElem?_eq_none h1] at h
theorem BZ{w:World}{base:Nat}{e:TypeId}{size n:Nat}{v:Value}{xs:List Value}(h:w.ownsRow base e size v n xs){k:Nat}(hk:v.ownBlock=some k):k<w.heap.size:=by
 rcases h.2 with ⟨rfl,_⟩|⟨g',cap,cur,rfl,hb,hh,_⟩
 · simp [Value.ownBlock] at hk
 · have:g'=k:=(by simpa [Value.ownBlock] using hk);subst this;exact Z6.lt hh
theorem Sl.at_{w w':World}{B:Nat}{A:Option Addr}{xs:List Value}(h:Sl w B A xs)(hb:∀ b,b<B->(xs≠[]->∀ x,A=some x->x.block=b->w'.heap[b]?=w.heap[b]?)):Sl w' B A xs:=by
 rcases h with h|⟨b,off,hA,hlt,hc⟩
 · exact .inl h
 · refine .inr ⟨b,off,hA,hlt,fun j u hu=>?_⟩;have hx:xs≠[]:=fun e=>by rw [e] at hu;simp at hu
   rw [World.cell?_of_block (hb b hlt hx _ hA rfl)];exact hc j u hu
theorem Sl.far{w:World}{B:Nat}{A:Option Addr}{xs:List Value}(h:Sl w B A xs){p:Addr}(hp:xs≠[]->∀ x,A=some x->x.block≠p.block)(u:Value):Sl (w.setCell p u) B A xs :=
 h.at_ fun b _ hx x hA hxb=>Below.heap_setCell w p u b (by rw [<- hxb];exact hp hx x hA)
theorem LU{w w':World}{xs:List Value}{base:Nat}{e:TypeId}{size n:Nat}{v:Value}(h:w.ownsRow base e size v n xs)(hk:∀ k,v.ownBlock=some k->w'.heap[k]?=w.heap[k]?):w'.ownsRow base e size v n xs:=by
 refine ⟨h.1,?_⟩;rcases h.2 with h0|⟨g',cap,cur,rfl,hb1,hh,r⟩
 · exact .inl h0
 · exact .inr ⟨g',cap,cur,rfl,hb1,(hk g' rfl).trans hh,r⟩
end
section
open Go.RowKit
def Zd(v:Int):Int:=if v=0 then 3 else if 3<=v/\v<=64 then v else 0
theorem Yc(d:Bool)(A:Option Addr)(n c:Nat)(w:World):
 Calls prog 265 #[.agg #[.bool d,.int .i64 0,.slice A n c]] w fun e w'=>e=.returned (.iface 379 (.agg #[.bool d,.int .i64 0,.slice A n c]))/\Below w.heap.size w w':=by
 go_enter func265,ntmps265;go_wp2;go_ret;exact ⟨rfl,(Below.refl _ _).alloc (Nat.le_refl _) _⟩
theorem Yn(d:Bool)(v:Int)(hv:(v == 0)=false)(A:Option Addr)(n c:Nat)(w:World):
 Calls prog 265 #[.agg #[.bool d,.int .i64 v,.slice A n c]] w fun e w'=>e=.returned (.iface 380 (.agg #[.bool d,.int .i64 v,.slice A n c]))/\Below w.heap.size w w':=by
 go_enter func265,ntmps265;go_wp2;go_ret;exact ⟨rfl,(Below.refl _ _).alloc (Nat.le_refl _) _⟩
theorem KV(d:Bool)(v:Int)(A:Option Addr)(n c:Nat)(w:World):
 Calls prog 371 #[.agg #[.bool d,.int .i64 v,.slice A n c]] w fun e w'=>e=.returned (.int .i64 3)/\Below w.heap.size w w':=by
 go_enter func371,ntmps371;go_wp2;go_ret;exact ⟨rfl,(Below.refl _ _).alloc (Nat.le_refl _) _⟩
theorem MG(d:Bool)(v:Int)(A:Option Addr)(n c:Nat)(w:World)(hv:v≠0):
 Calls prog 378 #[.agg #[.bool d,.int .i64 v,.slice A n c]] w fun e w'=>e=.returned (.int .i64 (Zd v))/\Below w.heap.size w w':=by
 go_enter func378,ntmps378;go_wp2
 all_goals go_ret
 all_goals exact ⟨Xb (by unfold Zd;rw [if_neg hv];first|rw [if_pos ⟨by omega,by omega⟩]|rw [if_neg (by omega)]),(Below.refl _ _).alloc (Nat.le_refl _) _⟩
theorem Nh(d : Bool)(v : Int)(A : Option Addr)(n c : Nat)(w : World): (method 519 379 (.agg #[.bool d, .int .i64 v, .slice A n c]) "geofence/fence.size").run prog w = .ok (371, .agg #[.bool d, .int .i64 v, .slice A n c]) w := by kernel_rfl
theorem Pp(d : Bool)(v : Int)(A : Option Addr)(n c : Nat)(w : World): (method 519 380 (.agg #[.bool d, .int .i64 v, .slice A n c]) "geofence/fence.size").run prog w = .ok (378, .agg #[.bool d, .int .i64 v, .slice A n c]) w := by kernel_rfl
theorem Je(d:Bool)(v:Int)(A:Option Addr)(n c:Nat)(w:World):
 Calls prog 215 #[.agg #[.bool d,.int .i64 v,.slice A n c]] w fun e w'=>e=.returned (.int .i64 (Zd v))/\Below w.heap.size w w':=by
 have hmr:=Nh;have hmc:=Pp;go_enter func215,ntmps215
 by_cases h0:v=0
 · subst h0;go_wp2_with fail;refine (Yc _ _ _ _ _).mono ?_;rintro e w1 ⟨rfl,hb⟩;go_wp2_with fail;refine (KV _ _ _ _ _ _).mono ?_;rintro e w2 ⟨rfl,hb2⟩;go_wp2;go_ret;exact ⟨rfl,((Below.refl _ _).alloc (Nat.le_refl _) _).trans ((hb.mono (by simp)).trans (hb2.mono (by have:=hb.size;simp at this;omega)))⟩
 · have hv:(v == 0)=false:=(by simpa using h0);go_wp2_with fail;refine (Yn _ _ hv _ _ _ _).mono ?_;rintro e w1 ⟨rfl,hb⟩;go_wp2_with fail;refine (MG _ _ _ _ _ _ h0).mono ?_;rintro e w2 ⟨rfl,hb2⟩;go_wp2;go_ret;exact ⟨rfl,((Below.refl _ _).alloc (Nat.le_refl _) _).trans ((hb.mono (by simp)).trans (hb2.mono (by have:=hb.size;simp at this;omega)))⟩
end
section
open Go.RowKit
def FP(r:Rg):Bool:=Zd r.v == 0
def zL(r:Rg):Bool:=decide (0<r.n)
def Ed(op vs n XQ:Int)(q1 q2:Bool):Int :=
 if op<1\/5<op then 5
 else if op=3/\(vs<3\/64<vs) then 6
 else if (op=4\/op=5)/\(n<1\/64<n) then 6
 else bif decide (op=4\/op=5) && q1 then 7
 else if op=5/\(XQ<1\/4096<XQ) then 6
 else if (op≠3/\vs≠0)\/(op<4/\0<n)\/(op≠5/\XQ≠0) then 2
 else bif q2 then 2 else 0
def M5(op vs:Int)(rs:List Rg)(XQ:Int):Int:=Ed op vs rs.length XQ (rs.any FP) (rs.any zL)
section
variable (vs:Int)(rs:List Rg)(A:Option Addr)(c:Nat)(XQ:Int)(w:World)
variable (hs:Sl w w.heap.size A (rgCells rs))(hn:rs.length<=maxLen)
include hs hn
end
end
section
open Go.RowKit
theorem Im{l:Nat}{J:Act->World->Prop}{Q:Exit->Act->World->Prop}{a:Act}{w:World}:Exit.jump l J Q .ret a w=Q .ret a w:=rfl
theorem Pb{l:Nat}{J:Act->World->Prop}{Q:Exit->Act->World->Prop}{a:Act}{w:World}:Exit.jump l J Q .normal a w=Q .normal a w:=rfl
theorem Kw{l i:Nat}{J:Act->World->Prop}{Q:Exit->Act->World->Prop}{a:Act}{w:World}:Exit.jump l J Q (.exit i) a w=Q (.exit i) a w:=rfl
theorem Nb{l:Nat}{ch:List PanicEntry}{J:Act->World->Prop}{Q:Exit->Act->World->Prop}{a:Act}{w:World}:Exit.jump l J Q (.panic ch) a w=Q (.panic ch) a w:=rfl
attribute [go_sem] Im Pb Kw Nb
def WT(bs:List Int):List Value:=bs.map (Value.int .u8)
theorem Sm(bs:List Int):(WT bs).length=bs.length:=by simp [WT]
theorem Sl.Lu{w:World}{B:Nat}{A:Option Addr}{bs:List Int}(h:Sl w B A (WT bs))(hn:0<bs.length):
 ∃ b off,A=some ⟨b,off,none⟩/\b<B/\∀ j x,bs[j]?=some x->w.cell? ⟨b,off+j,none⟩=some (.int .u8 x):=by
 obtain ⟨b,off,hA,hB,hc⟩:=h.open_ (by rw [Sm];exact hn);exact ⟨b,off,hA,hB,fun j x hx=>hc j _ (by simp [WT,hx])⟩
end
section
open Go.RowKit
def uH(op vs:Int)(rs:List Rg)(XQ:Int):Int:=if M5 op vs rs XQ=0 then (if op=5 then 4+XQ*9 else 2) else 0
structure PH where
 op:Int
 vs:Int
 rs:List Rg
 XQ:Int
def Ca:PH:=⟨0,0,[],0⟩
end
section
open Go.RowKit
def Fixed(w:World):Prop:=∀ j:Nat,j<6->w.cell? ⟨9,j,none⟩=some (.int .i64 ([0,3,4,1,1,0].getD j 0))
theorem Fixed.below{w w':World}(h:Fixed w)(hb:Below w.heap.size w w')(hg:9<w.heap.size):Fixed w':=fun j hj=>(hb.cell (p:=⟨9,j,none⟩) hg).trans (h j hj)
section
variable (vs:Int)(rs:List Rg)(A:Option Addr)(c:Nat)(XQ:Int)(w:World)
variable (hs:Sl w w.heap.size A (rgCells rs))(hn:rs.length<=maxLen)
include hs hn
variable (hfix:Fixed w)(hg:9<w.heap.size)
include hfix hg
end
end
section
open Go.RowKit
def Rg.key(r:Rg):Bool × Int × Nat:=(r.d,r.v,r.n)
def ZU(c:Bool):Int:=bif c then 18446744073709551615 else 0
theorem Yt(c:Bool):0<=ZU c/\ZU c<18446744073709551616:=by cases c <;> decide
theorem ET(y:Nat)(h:y<18446744073709551616):18446744073709551615 ^^^ y=18446744073709551615 - y:=by
 have h1:=congrArg BitVec.toNat (BitVec.allOnes_xor (x:=BitVec.ofNat 64 y));rw [BitVec.toNat_xor,BitVec.toNat_not,BitVec.toNat_allOnes,BitVec.toNat_ofNat,Nat.mod_eq_of_lt (show y<2 ^ 64 by simpa using h)] at h1;exact h1
theorem DU(y:Int)(h0:0<=y)(h1:y<18446744073709551616):bits BinOp.xor IntKind.u64 IntKind.u64.max y=18446744073709551615 - y:=by
 have e:IntKind.u64.max=18446744073709551615:=rfl;rw [e,u64_xor _ y (by omega) (by omega) h0 h1];have:=ET y.toNat (by omega);rw [show (18446744073709551615:Int).toNat=18446744073709551615 from rfl,this];omega
theorem GI(x:Int)(h0:0<=x)(h1:x<18446744073709551616):bits BinOp.and IntKind.u64 x 1=x % 2:=by
 rw [u64_and x 1 h0 h1 (by omega) (by omega),show (1:Int).toNat=1 from rfl,Nat.and_one_is_mod];omega
theorem E8(x:Int)(h0:0<=x)(h1:x<18446744073709551616):IntKind.u64.wrap (-bits BinOp.and IntKind.u64 x 1)=ZU (decide (x % 2=1)):=by
 rw [GI x h0 h1,IntKind.wrap_u64];have:x % 2=0\/x % 2=1:=by omega
 rcases this with h|h <;> rw [h] <;> decide
theorem Lg(x:Int)(h0:0<=x)(h1:x<18446744073709551616):bits BinOp.xor IntKind.u64 IntKind.u64.max (bits BinOp.or IntKind.u64 x (IntKind.u64.wrap (-x))) / 9223372036854775808=if x=0 then 1 else 0:=by
 rw [IntKind.wrap_u64]
 by_cases hx:x=0
 · subst hx;rw [if_pos rfl];decide +kernel
 · rw [if_neg hx,show (-x) % 18446744073709551616=18446744073709551616 - x by omega,u64_or x _ h0 h1 (by omega) (by omega)];have hl:x.toNat<=x.toNat ||| (18446744073709551616 - x).toNat:=Nat.left_le_or
   have hr:(18446744073709551616 - x).toNat<=x.toNat ||| (18446744073709551616 - x).toNat:=Nat.right_le_or
   have hb:x.toNat ||| (18446744073709551616 - x).toNat<2 ^ 64:=Nat.or_lt_two_pow (by omega) (by omega)
   generalize x.toNat ||| (18446744073709551616 - x).toNat=y at hl hr hb ⊢
   rw [DU y (by omega) (by omega)];omega
theorem Wu(c:Bool)(a b:Int)(h0:0<=a)(h1:a<18446744073709551616)(h2:0<=b)(h3:b<18446744073709551616):bits BinOp.xor IntKind.u64 b (bits BinOp.and IntKind.u64 (ZU c) (bits BinOp.xor IntKind.u64 a b))=bif c then a else b:=by
 rw [u64_xor a b h0 h1 h2 h3];have hx:a.toNat ^^^ b.toNat<2 ^ 64:=Nat.xor_lt_two_pow (by omega) (by omega);obtain ⟨A,rfl⟩:=Int.eq_ofNat_of_zero_le h0;obtain ⟨B,rfl⟩:=Int.eq_ofNat_of_zero_le h2;simp only [Int.toNat_natCast] at hx ⊢;cases c
 · rw [u64_and _ _ (Yt _).1 (Yt _).2 (by omega) (by omega)];show bits _ _ _ (((0:Nat) &&& _:Nat):Int)=(B:Int);rw [Nat.zero_and,u64_xor _ _ (by omega) (by omega) (by omega) (by omega)];simp
 · rw [u64_and _ _ (Yt _).1 (Yt _).2 (by omega) (by omega)];have e:(ZU true).toNat &&& ((A ^^^ B:Nat):Int).toNat=A ^^^ B:=by
    rw [Int.toNat_natCast,show (ZU true).toNat=2 ^ 64 - 1 from rfl,Nat.and_comm,Nat.and_two_pow_sub_one_eq_mod,Nat.mod_eq_of_lt hx]
   rw [e,u64_xor _ _ (by omega) (by omega) (by omega) (by omega),Int.toNat_natCast,Int.toNat_natCast,Nat.xor_comm A B,<- Nat.xor_assoc,Nat.xor_self,Nat.zero_xor];rfl
theorem Vs(x:Int)(h0:0<=x)(h1:x<18446744073709551616)(w:World):Calls prog 262 #[.int .u64 x] w fun e w'=>e=.returned (.int .u64 (ZU (decide (x % 2=1))))/\w=w':=by
 have h:=E8 x h0 h1;go_enter func262,ntmps262;go_wp2;go_ret;exact ⟨by simp,rfl⟩
theorem EL(c:Bool):decide (ZU c % 2=1)=c:=by cases c <;> decide
theorem BU(c:Bool)(w:World):Calls prog 262 #[.int .u64 (ZU c)] w fun e w'=>e=.returned (.int .u64 (ZU c))/\w=w':=by
 have h:=Vs (ZU c) (Yt c).1 (Yt c).2 w;rw [EL] at h;exact h
theorem Xq(x:Int)(h0:0<=x)(h1:x<18446744073709551616)(w:World):Calls prog 247 #[.int .u64 x] w fun e w'=>e=.returned (.int .u64 (ZU (decide (x=0))))/\w=w':=by
 have h:=Lg x h0 h1;have HO:=Vs (if x=0 then 1 else 0) (by split <;> omega) (by split <;> omega) w;have e:decide ((if x=0 then (1:Int) else 0) % 2=1)=decide (x=0):=by by_cases hx:x=0 <;> simp [hx]
 rw [e] at HO;obtain ⟨z,hz⟩:=eE ((if x=0 then (1:Int) else 0));rw [<- hz] at h HO;have H:=hide h;clear hz e h;go_enter func247,ntmps247;go_wp2_with fail;rw [H.out];refine HO.mono ?_;rintro e w' ⟨rfl,rfl⟩;go_wp2;go_ret;exact ⟨rfl,rfl⟩
theorem YZ(x:Int)(h0:-9223372036854775808<=x)(h1:x<9223372036854775808)(w:World):Calls prog 263 #[.int .i64 x] w fun e w'=>e=.returned (.int .u64 (ZU (decide (x<0))))/\w=w':=by
 have h:IntKind.u64.wrap (x / 9223372036854775808)=ZU (decide (x<0)):=by
  rw [IntKind.wrap_u64]
  by_cases hx:x<0
  · rw [show x / 9223372036854775808=-1 by omega,decide_eq_true hx];decide
  · rw [show x / 9223372036854775808=0 by omega,decide_eq_false hx];decide
 go_enter func263,ntmps263;go_wp2;go_ret;exact ⟨by simp,rfl⟩
theorem OM(x:Int)(h0:0<=x)(h1:x<18446744073709551616)(w:World):Calls prog 246 #[.int .u64 x] w fun e w'=>e=.returned (.int .u64 (ZU (decide (9223372036854775808<=x))))/\w=w':=by
 have HO:=Vs (x / 9223372036854775808) (by omega) (by omega) w;have e:decide (x / 9223372036854775808 % 2=1)=decide (9223372036854775808<=x):=by
  by_cases hx:9223372036854775808<=x
  · rw [decide_eq_true hx,decide_eq_true (by omega)]
  · rw [decide_eq_false hx,decide_eq_false (by omega)]
 rw [e] at HO;go_enter func246,ntmps246;go_wp2_with fail;refine HO.mono ?_;rintro e w' ⟨rfl,rfl⟩;go_wp2;go_ret;exact ⟨rfl,rfl⟩
theorem Tt(c:Bool)(a b:Int)(h0:0<=a)(h1:a<18446744073709551616)(h2:0<=b)(h3:b<18446744073709551616)(w:World):Calls prog 261 #[.int .u64 (ZU c),.int .u64 a,.int .u64 b] w fun e w'=>e=.returned (.int .u64 (bif c then a else b))/\w=w':=by
 have h:=Wu c a b h0 h1 h2 h3;go_enter func261,ntmps261;go_wp2;go_ret;exact ⟨by simp,rfl⟩
def XF(w:World):Prop:=w.cell? ⟨8,0,none⟩=some (.int .u64 9223372036854775808)/\w.cell? ⟨8,1,none⟩=some (.int .u64 18446744073709551615)
def NI(n z:Bool):Int:=bif n then -1 else bif z then 0 else 1
theorem Ru(n z:Bool)(w:World)(hw:XF w):Calls prog 245 #[.int .u64 (ZU n),.int .u64 (ZU z)] w fun e w'=>e=.returned (.int .i64 (NI n z))/\∃ m,w'=w.drewN m:=by
 obtain ⟨_,hw1⟩:=hw;have h1:bits BinOp.and IntKind.u64 (bits BinOp.xor IntKind.u64 IntKind.u64.max (ZU z)) 1=bif z then 0 else 1:=by
  rw [DU _ (Yt z).1 (Yt z).2,GI _ (by have:=Yt z;omega) (by have:=Yt z;omega)];cases z <;> decide
 have h2:wrap64 (bif n then 18446744073709551615 else (bif z then 0 else 1))=NI n z:=by cases n <;> cases z <;> decide +kernel
 obtain ⟨y,hy⟩:∃ y:Int,y=bif z then 0 else 1:=⟨_,rfl⟩;have hyb:0<=y/\y<=1:=by rw [hy];cases z <;> decide
 rw [<- hy] at h1 h2
 have HS:∀ k,Calls prog 261 #[.int .u64 (ZU n),.int .u64 18446744073709551615,.int .u64 (bits BinOp.and IntKind.u64 (bits BinOp.xor IntKind.u64 (if IntKind.u64.signed=true then -1 else IntKind.u64.max) (ZU z)) 1)] (w.drewN k) fun e w'=>e=.returned (.int .u64 (bif n then 18446744073709551615 else y))/\w.drewN k=w':=fun k=>by
  have h1':bits BinOp.and IntKind.u64 (bits BinOp.xor IntKind.u64 (if IntKind.u64.signed=true then -1 else IntKind.u64.max) (ZU z)) 1=y:=h1;rw [h1'];exact Tt n _ y (by omega) (by omega) hyb.1 (by omega) _
 have gq:=hide HS;have HY:=hide hy;have H2:=hide h2;clear HS hy h1 h2 hyb;go_enter func245,ntmps245;go_wp2
 go_quiet ((first|(go_at_call 262;exact Calls.quiet_of_same ((BU _ _).mono fun _ _ ⟨a,b⟩=>⟨a,b.symm⟩))|(go_at_call 261;exact Calls.quiet_of_same ((gq.out _).mono fun _ _ ⟨a,b⟩=>⟨a,b.symm⟩))))
 go_wp2;go_ret;exact ⟨Xb H2.out,_,rfl⟩
def Zh:List Rg->Int
 | []=>0
 | r::rs=>if Zd r.v=0 then 7 else if Zd r.v=(r.n:Int) then Zh rs else 8
def Zt(rs:List Rg):Int:=if rs.length<1\/64<rs.length then 6 else Zh rs
theorem Qq(rs:List Rg)(k:Nat)(r:Rg)(h:rs[k]?=some r):Zh (rs.drop k)=if Zd r.v=0 then 7 else if Zd r.v=(r.n:Int) then Zh (rs.drop (k+1)) else 8:=by
 obtain ⟨hlt,he⟩:=List.getElem?_eq_some_iff.1 h;rw [List.drop_eq_getElem_cons hlt,he];rfl
theorem Vo(rs:List Rg)(A:Option Addr)(c:Nat)(w:World)(hs:Sl w w.heap.size A (rgCells rs)):
 Calls prog 264 #[.slice A rs.length c] w fun e w'=>e=.returned (.int .i64 (Zt rs))/\Below w.heap.size w w':=by
 have HS:=hide hs;clear hs
 by_cases hc:rs.length<1\/64<rs.length
 · have hf:Zt rs=6:=(by unfold Zt;rw [if_pos hc]);rw [hf];have hci:((rs.length:Nat):Int)<1\/(¬ ((rs.length:Nat):Int)<1/\(64:Int)<((rs.length:Nat):Int)):=(by omega);clear hf hc;rcases hci with h|⟨h,h2⟩
   · go_enter func264,ntmps264;go_wp2;go_ret;exact ⟨rfl,Below.refl _ _⟩
   · go_enter func264,ntmps264;go_wp2;go_ret;exact ⟨rfl,Below.refl _ _⟩
 · have hf:Zt rs=Zh rs:=(by unfold Zt;rw [if_neg hc]);rw [hf];have h1:¬ ((rs.length:Nat):Int)<1:=(by omega);have h2:¬ (64:Int)<((rs.length:Nat):Int):=(by omega);clear hf hc;go_enter func264,ntmps264;go_wp2
   go_loopw [15] (fun i wr=>∃ k:Nat,k<=rs.length/\i=.int .i64 k/\Hid (Zh rs=Zh (rs.drop k))/\Below w.heap.size w wr)
    (fun i _=>rs.length - (intOf i).toNat)
   case atStart=>exact ⟨0,Nat.zero_le _,rfl,hide (by simp),Below.refl _ _⟩
   case round =>
    obtain ⟨k,hk,rfl,hF,hb⟩:=hrel
    by_cases hlt:k<rs.length
    · obtain ⟨r,hr⟩:∃ r,rs[k]?=some r:=⟨_,List.getElem?_eq_getElem hlt⟩;obtain ⟨b,off,rfl,hB,c0,c1,c2⟩:=(HS.out.below hb).rg hr;have hD:=hide (hF.out.trans (Qq rs k r hr));have RZ:((k:Nat):Int)<((rs.length:Nat):Int):=(by omega);obtain ⟨d,v,A,n,c⟩:=r;dsimp only at *;clear hr hF;obtain ⟨w1,hw1⟩:=eE (wr.alloc (.cells #[.bool d,.int .i64 v,.slice A n c] 38));have hb1:Below wr.heap.size wr w1:=(by rw [hw1];exact ZY (Below.refl _ _) _);have B1:Z6 w1 wr.heap.size 38 #[.bool d,.int .i64 v,.slice A n c]:=(by rw [hw1];exact Z6.new _ _ _);go_wp2_with fail;rw [<- hw1];clear hw1;refine (Je d v A n c w1).mono ?_;rintro e w2 ⟨rfl,hb2⟩;have B2:=B1.step hb2;have z2:w2.cell? ⟨wr.heap.size,2,none⟩=some (.slice A n c):=B2.q2 rfl;have hbb:Below w.heap.size w w2:=Z8 (Z8 hb hb1) hb2;clear B1 B2 hb1 hb2 c0 c1 c2;obtain ⟨z,hz⟩:=eE (Zd v);rw [<- hz] at hD;rw [<- hz];clear hz
      by_cases h0:z=0
      · have hD':Hid (Zh rs=7):=hide (hD.out.trans (if_pos h0));clear hD;subst h0;go_wp2;go_ret;exact ⟨Xb hD'.out.symm,hbb⟩
      · by_cases h3:z=(n:Int)
        · have hD':Hid (Zh rs=Zh (rs.drop (k+1))):=hide (hD.out.trans ((if_neg h0).trans (if_pos h3)));clear hD;go_wp2;go_roundw
          case rel=>exact ⟨k+1,by omega,by go_num,hD',hbb⟩
          case measure=>simp [intOf];omega
        · have hD':Hid (Zh rs=8):=hide (hD.out.trans ((if_neg h0).trans (if_neg h3)));clear hD;go_wp2;go_ret;exact ⟨Xb hD'.out.symm,hbb⟩
    · obtain rfl:k=rs.length:=(by omega);have hD':Hid (Zh rs=0):=hide (hF.out.trans (by rw [List.drop_length];rfl));go_wp2;go_ret;exact ⟨Xb hD'.out.symm,hb⟩
theorem Jf(w:World):Calls prog 12 #[] w fun e w'=>e=.returned (.pointer (some ⟨w.heap.size,0,none⟩))/\w'=w.alloc (.cells #[.slice none 0 0,.slice none 0 0] 70):=by
 go_enter func12,ntmps12;go_wp2;go_ret;exact ⟨rfl,rfl⟩
end
end Go.Proofs.YthnenedoblncjaaGreatDoor