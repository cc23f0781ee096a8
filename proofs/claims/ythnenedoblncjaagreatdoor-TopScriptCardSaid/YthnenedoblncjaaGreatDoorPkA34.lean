/- RecRow BatchMath Sort -/
import Derived.Test.YthnenedoblncjaaGreatDoorPkA07
import Derived.Test.YthnenedoblncjaaGreatDoorPkA31
import Derived.Test.YthnenedoblncjaaGreatDoorPkA32
import Derived.Test.YthnenedoblncjaaGreatDoorPkA33
set_option maxRecDepth 1000000
set_option maxHeartbeats 8000000
namespace Go.Proofs.YthnenedoblncjaaGreatDoor
open Go.Proofs.Tryz
open List (getElem_toArray getElem_cons_succ getElem_cons_zero setIfInBounds_toArray set_cons_zero set_cons_succ)
section
open Go.RowKit
def RO(l:List (Int × Int)):Array Value:=(ZA l).toArray
theorem Ql(l:List (Int × Int)):(RO l).size=l.length*2:=by
 unfold RO;rw [List.size_toArray];exact YE (fun p:Int × Int=>[Value.int .u64 p.1,.int .u64 p.2]) 2 (fun _=>rfl) l
theorem VB{l:List (Int × Int)}{k:Nat}{r:Int × Int}(h:l[k]?=some r):(RO l)[k*2]?=some (.int .u64 r.1)/\(RO l)[k*2+1]?=some (.int .u64 r.2):=by
 have h0:=flat_get (fun p:Int × Int=>[Value.int .u64 p.1,.int .u64 p.2]) 2 (fun _=>rfl) l k r h;have e0:=h0 0 (by omega);have e1:=h0 1 (by omega);rw [Nat.add_zero] at e0;unfold RO;rw [List.getElem?_toArray,List.getElem?_toArray];exact ⟨e0,e1⟩
theorem IE{cs:Array Value}{l:List (Int × Int)}(hs:cs.size=l.length*2)(h:∀ k r,l[k]?=some r->cs[k*2]?=some (.int .u64 r.1)/\cs[k*2+1]?=some (.int .u64 r.2)):cs=RO l:=by
 refine Array.ext_getElem? fun i=>?_
 by_cases hi:i<l.length*2
 · have hk:i / 2<l.length:=(by omega);have h1:=h (i / 2) l[i / 2] (List.getElem?_eq_getElem hk);have h2:=VB (List.getElem?_eq_getElem hk);rcases Nat.mod_two_eq_zero_or_one i with hm|hm
   · have e:i=i / 2*2:=(by omega);rw [e,h1.1,h2.1]
   · have e:i=i / 2*2+1:=(by omega);rw [e,h1.2,h2.2]
 · rw [Array.getElem?_eq_none (by omega),Array.getElem?_eq_none (by rw [Ql];omega)]
theorem lX {w w':World} {g lo hi:Nat} {t:TypeId} {l:List (Int × Int)} {x y:Int × Int} (hx:l[lo]?=some x) (hy:l[hi]?=some y) (hne:lo≠hi)
 (h:ExQ w g t (RO l) (lo*2) (hi*2) (if Zm y<Zm x then y else x) (if Zm y<Zm x then x else y) w'):Z6 w' g t (RO (QG Zm l (lo,hi)))/\w.grownBy w' (some g):=by
 obtain ⟨cs,B,s1,a1,a2,a3,a4,a5,hg⟩:=h;have hlo:lo<l.length:=(List.getElem?_eq_some_iff.1 hx).1;have hhi:hi<l.length:=(List.getElem?_eq_some_iff.1 hy).1;refine ⟨?_,hg⟩;have e:cs=RO (QG Zm l (lo,hi)):=by
  refine IE (by rw [s1,Ql,NW]) fun k r hk=>?_;unfold QG at hk;dsimp only at hk;rw [hx,hy] at hk;dsimp only at hk
  by_cases hlt:Zm y<Zm x
  · rw [if_pos hlt] at hk a1 a2 a3 a4
    by_cases k1:k=hi
    · subst k1;rw [List.getElem?_set_self (by rw [List.length_set];exact hhi)] at hk;cases hk;exact ⟨a3,a4⟩
    · rw [List.getElem?_set_ne (Ne.symm k1)] at hk
      by_cases k2:k=lo
      · subst k2;rw [List.getElem?_set_self hlo] at hk;cases hk;exact ⟨a1,a2⟩
      · rw [List.getElem?_set_ne (Ne.symm k2)] at hk;have h2:=VB hk;exact ⟨(a5 _ (by omega) (by omega) (by omega) (by omega)).trans h2.1,(a5 _ (by omega) (by omega) (by omega) (by omega)).trans h2.2⟩
  · rw [if_neg hlt] at hk a1 a2 a3 a4
    by_cases k1:k=hi
    · subst k1;rw [hy] at hk;cases hk;exact ⟨a3,a4⟩
    · by_cases k2:k=lo
      · subst k2;rw [hx] at hk;cases hk;exact ⟨a1,a2⟩
      · have h2:=VB hk;exact ⟨(a5 _ (by omega) (by omega) (by omega) (by omega)).trans h2.1,(a5 _ (by omega) (by omega) (by omega) (by omega)).trans h2.2⟩
 rw [<- e];exact B
theorem oU(l:List (Int × Int))(N:Nat)(h:l.length<=N):
 ((madeCells #[.int .u64 0,.int .u64 0] (N*2)).toList.take 0++ZA l++(madeCells #[.int .u64 0,.int .u64 0] (N*2)).toList.drop (0+(ZA l).length)).toArray=RO (l++List.replicate (N - l.length) (0,0)):=by
 have hl:(ZA l).length=l.length*2:=YE (fun p:Int × Int=>[Value.int .u64 p.1,.int .u64 p.2]) 2 (fun _=>rfl) l
 have hz:∀ i,i<N*2->(madeCells #[.int .u64 0,.int .u64 0] (N*2))[i]?=some (.int .u64 0):=fun i hi=>by
  have:i % 2=0\/i % 2=1:=by omega
  unfold madeCells;rw [Array.getElem?_map,Array.getElem?_range];rw [if_pos hi];rcases this with h|h <;> simp [h]
 refine IE (by simp [size_madeCells,hl];omega) fun k r hk=>?_;rw [List.take_zero,List.nil_append,Nat.zero_add,List.getElem?_toArray,List.getElem?_toArray]
 by_cases hkl:k<l.length
 · rw [List.getElem?_append_left hkl] at hk;have h0:=VB hk;unfold RO at h0;rw [List.getElem?_toArray,List.getElem?_toArray] at h0;rw [List.getElem?_append_left (by omega),List.getElem?_append_left (by omega)];exact h0
 · rw [List.getElem?_append_right (by omega)] at hk;have hk2:=List.getElem?_eq_some_iff.1 hk;obtain ⟨hk3,hk4⟩:=hk2;rw [List.length_replicate] at hk3;rw [List.getElem_replicate] at hk4;subst hk4;rw [List.getElem?_append_right (by omega),List.getElem?_append_right (by omega),List.getElem?_drop,List.getElem?_drop,Array.getElem?_toList,Array.getElem?_toList];exact ⟨hz _ (by omega),hz _ (by omega)⟩
theorem Z6.same{w:World}{g:Nat}{t:TypeId}{cs:Array Value}(h:Z6 w g t cs){i:Nat}{u:Value}(hi:cs[i]?=some u):Z6 (w.setCell ⟨g,i,none⟩ u) g t cs:=by
 have h1:=h.set i u;have e:cs.setIfInBounds i u=cs:=by
  refine Array.ext_getElem? fun j=>?_;rw [Array.getElem?_setIfInBounds]
  by_cases hj:i=j
  · subst hj;rw [if_pos rfl,if_pos (Array.getElem?_eq_some_iff.1 hi).1,hi]
  · rw [if_neg hj]
 rw [e] at h1;exact h1
theorem zx(l:List (Int × Int)):∀ v∈ZA l,v.oneCell'=true:=by
 intro v hv;obtain ⟨r,_,hr⟩:=List.mem_flatMap.1 hv;simp at hr;rcases hr with rfl|rfl <;> rfl
def hrec(gs:List Gr)(q:(Int × Int) × Int):Int × Int:=if (Zc gs && XZ gs q.1)=true then (1,q.2) else (0,0)
def Zb(gs:List Gr)(qs:List ((Int × Int) × Int)):List (Int × Int):=qs.map (hrec gs)
def XQ(rs:List (Int × Int)):Nat:=(rs.map fun r=>r.1.toNat).sum
def Yl(gs:List Gr)(n:Nat):Int:=if Zi (gs.map (·.1))≠0 then Zi (gs.map (·.1)) else if n<1\/4096<n then 6 else 0
def YW(gs:List Gr)(qs:List ((Int × Int) × Int)):qd × Int :=
 if Yl gs qs.length≠0 then (Xk,Yl gs qs.length) else (⟨bif Zc gs then 1 else 0,XQ (Zb gs qs),Yi Zm (Zb gs qs)⟩,0)
def XV(gs:List Gr)(n:Nat):List Ev:=(List.range n).flatMap fun (i:Nat)=>(8,(i:Int),0)::YD gs
def UY(n:Nat):List Ev:=(List.range n).map fun (i:Nat)=>(1,(i:Int),0)
def WM(cs:List (Nat × Nat)):List Ev:=cs.map fun c=>(3,(c.1:Int),(c.2:Int))
def Xl(gs:List Gr)(n:Nat):List Ev:=if Yl gs n≠0 then [] else Zf gs++XV gs n++UY n++WM (Xv (lg n))
theorem uf(gs:List Gr){q:(Int × Int) × Int}(h:Vo q.2):Qw (hrec gs q):=by
 unfold hrec;split
 · exact .inl ⟨rfl,h.1,h.2⟩
 · exact .inr rfl
theorem Ui(gs:List Gr){qs:List ((Int × Int) × Int)}(h:∀ q∈qs,Vo q.2):∀ r∈Zb gs qs,Qw r:=by
 intro r hr;obtain ⟨q,hq,rfl⟩:=List.mem_map.1 hr;exact uf gs (h q hq)
theorem Ho{r:Int × Int}(h:Qw r):Vo r.1/\Vo r.2:=by
 rcases h with ⟨h1,h2,h3⟩|h
 · exact ⟨by rw [h1];exact ⟨by decide,by decide⟩,h2,h3⟩
 · rw [h];exact ⟨⟨by decide,by decide⟩,by decide,by decide⟩
theorem xW{l r:List (Int × Int)}(h:l.Perm r):XQ l=XQ r:=(h.map _).sum_nat
theorem RF:∀ l:List (Int × Int),(∀ r∈l,Qw r)->XQ l<=l.length
 | [],_=>Nat.le_refl _
 | r::l,h=>by
   have h1:=RF l fun x hx=>h x (List.mem_cons_of_mem _ hx);have h2:r.1.toNat<=1:=by
    rcases h r (List.mem_cons_self ..) with ⟨h,_⟩|h
    · rw [h];decide
    · rw [h];decide
   unfold XQ at h1 ⊢;rw [List.map_cons,List.sum_cons,List.length_cons];omega
theorem lU{a r:Int × Int}(hr:Qw r)(ha:a=(0,0))(h:Zm a<=Zm r):r=(0,0):=by
 rcases hr with ⟨h1,h2,h3⟩|h1
 · rw [ha] at h;unfold Zm at h;rw [if_neg (by decide),if_pos h1] at h;omega
 · exact h1
theorem Og(c:Int):∀ (l:List (Int × Int)) (i:Nat),(∀ r∈l,r=(0,0))->c<=(i:Int)->XI c i l=true
 | [],_,_,_=>rfl
 | r::l,i,h,hc=>by
   have h1:=Og c l (i+1) (fun x hx=>h x (List.mem_cons_of_mem _ hx)) (by omega);have h2:=h r (List.mem_cons_self ..);subst h2;unfold XI XF;rw [h1,if_neg (by omega)];rfl
theorem OQ:∀ (l:List (Int × Int)),(∀ r∈l,r=(0,0))->XQ l=0
 | [],_=>rfl
 | r::l,h=>by
   have h1:=OQ l fun x hx=>h x (List.mem_cons_of_mem _ hx);have h2:=h r (List.mem_cons_self ..);subst h2;unfold XQ at h1 ⊢;rw [List.map_cons,List.sum_cons,h1];rfl
theorem Rb:∀ (l:List (Int × Int)) (i:Nat),(∀ r∈l,Qw r)->l.Pairwise (fun a b=>Zm a<=Zm b)->XI ((i+XQ l:Nat):Int) i l=true
 | [],_,_,_=>rfl
 | r::l,i,hc,hs=>by
   have hs':=List.pairwise_cons.1 hs;have hcl:∀ x∈l,Qw x:=fun x hx=>hc x (List.mem_cons_of_mem _ hx);rcases hc r (List.mem_cons_self ..) with ⟨h1,h2,h3⟩|h1
   · have ih:=Rb l (i+1) hcl hs'.2;have e:i+XQ (r::l)=i+1+XQ l:=by
      unfold XQ;rw [List.map_cons,List.sum_cons,h1];show i+(1+_)=_;omega
     rw [e];unfold XI XF;rw [if_pos (by omega),ih,h1];rfl
   · have hd:∀ x∈r::l,x=(0,0):=fun x hx=>by
      rcases List.mem_cons.1 hx with rfl|hx
      · exact h1
      · exact lU (hcl x hx) h1 (hs'.1 x hx)
     rw [OQ _ hd];exact Og _ _ _ hd (by omega)
theorem xX(l:List (Int × Int)):XQ (Yi Zm l)=XQ l:=xW (Xe Zm l)
theorem EL{gs:List Gr}{qs:List ((Int × Int) × Int)}(hq:∀ q∈qs,Vo q.2)(h:Yl gs qs.length=0):
 WQ 5 (qs.length:Int) (YW gs qs).1.val (YW gs qs).1.cnt (YW gs qs).1.recs=true:=by
 have hb:YW gs qs=(⟨bif Zc gs then 1 else 0,XQ (Zb gs qs),Yi Zm (Zb gs qs)⟩,0):=by unfold YW;rw [if_neg (by simpa using h)]
 have hcl:=Ui gs hq;have hle:=RF _ hcl;have hlen:(Zb gs qs).length=qs.length:=by unfold Zb;rw [List.length_map]
 rw [hb];dsimp only;have hok:=Rb (Yi Zm (Zb gs qs)) 0 (fun r hr=>hcl r ((Xe Zm _).mem_iff.1 hr)) (Qf Zm _);rw [xX,Nat.zero_add] at hok;unfold WQ;rw [hok,Vf,hlen];cases hv:Zc gs
 · have h0:XQ (Zb gs qs)=0:=OQ _ fun r hr=>by
    obtain ⟨q,_,rfl⟩:=List.mem_map.1 hr;unfold hrec;rw [hv];rfl
   rw [h0];simp [most,OO]
 · simp [most,OO];omega
end
section
open Go.RowKit Go.Shelf
attribute [local go_sem] Oper.semAt_some
def zM(l:List (Int × Int))(cs:List (Nat × Nat)):List (Int × Int):=cs.foldl (QG Zm) l
def Vh(rs:List (Int × Int)):List (Int × Int):=rs++List.replicate (2 ^ lg rs.length - rs.length) (0,0)
theorem wC(l:List (Int × Int))(cs:List (Nat × Nat))(c:Nat × Nat):zM l (cs++[c])=QG Zm (zM l cs) c:=by simp [zM]
theorem F8(cs:List (Nat × Nat))(c:Nat × Nat):WM (cs++[c])=WM cs++[(3,(c.1:Int),(c.2:Int))]:=by simp [WM]
theorem vM{rs:List (Int × Int)}(h:∀ r∈rs,Qw r):∀ r∈Vh rs,Qw r:=fun r hr=>by
 rcases List.mem_append.1 hr with hr|hr
 · exact h r hr
 · rw [List.eq_of_mem_replicate hr];exact .inr rfl
theorem F7{rs:List (Int × Int)}(h:rs.length<=4096):(Vh rs).length=2 ^ lg rs.length:=by
 have:=kC h;unfold Vh;rw [List.length_append,List.length_replicate];omega
theorem MH(l:List (Int × Int))(cs:List (Nat × Nat)):(zM l cs).Perm l:=RI Zm cs l
section
variable {F:Fence}{n:Nat}{P:Program}{ops:Array Oper}{Q:Exit->Act->World->Prop}{S:World->Prop}
def EG(K:Act->World->Prop):Exit->Act->World->Prop
 | .normal,a,w=>K a w
 | _,_,_=>False
theorem EG.intro{K:Act->World->Prop}{a:Act}{w:World}(h:K a w):EG K .normal a w:=h
theorem jm (sk:Nat) {id:Nat} {a:Act} {w:World} (hm:P.follows .mixedOrders=true)
 (h:YP F n P .any ops (EG (Q .normal)) S sk ops.size (Array.replicate ops.size false) a w.drew):(Code.region id ops true).wpIn F n P Q a w:=by
 refine wpIn_mono (Xy sk (Q:=EG (Q .normal)) hm h) ?_;intro e a w he;cases e with
 | normal=>exact he
 | _=>exact he.elim
end
theorem Dl(P:Nat->Prop)(t:Option (Nat × Nat))(es:List Ev)(k a b:Int)(w:World)(hP:∀ j,P j->j<w.heap.size)(ht:Tp w P t es)(hl:t=none\/es.length<=1000000)(hk:QB k):
 Calls prog 259 #[.pointer (Zz t),.int .i64 k,.int .i64 a,.int .i64 b] w fun e w'=>e=.returned (.tuple #[])/\Z8 P w w'/\Xd t w w'/\Tp w' P t (es++[(k,a,b)]):=by
 rcases hl with rfl|hl
 · refine (Vy P none [] k a b w hP trivial (by simp) hk).mono ?_;rintro e w' ⟨h1,h2,h3,_⟩;exact ⟨h1,h2,h3,trivial⟩
 · exact Vy P t es k a b w hP ht hl hk
theorem addr_add(b off j:Nat):(⟨b,off,none⟩:Addr).add j=⟨b,off+j,none⟩:=by unfold Addr.add;split <;> simp_all
theorem wB(P:Nat->Prop)(t:Option (Nat × Nat))(es:List Ev)(rs:List (Int × Int))(hcl:∀ r∈rs,Qw r)(h1:1<=rs.length)(h2:rs.length<=4096)(A:Option Addr)(c:Nat)(w:World)(hP:∀ k,P k->k<w.heap.size)(hs:UU w P A (ZA rs))(ht:Tp w P t es)(hl:t=none\/es.length+(Xv (lg rs.length)).length<=1000000):
 Calls prog 208 #[.pointer (Zz t),.slice A rs.length c] w fun e w'=>∃ b,e=.returned (.slice (some ⟨b,0,none⟩) rs.length rs.length)/\Z8 P w w'/\Tp w' P t (es++WM (Xv (lg rs.length)))/\¬ P b/\Sl w' w'.heap.size (some ⟨b,0,none⟩) (ZA (Yi Zm rs)):=by
 have hL:=kD h2;have hge:=kC h2;have mF:=Qj hL;have Va:=hide (fun w=>zf rs.length h1 h2 w);have Ap:=F7 h2;have ztp:=vM hcl;obtain ⟨L,hLe⟩:=eE (lg rs.length);have qQ:=hide hLe;rw [<- hLe] at hL hge mF Va Ap hl ⊢;obtain ⟨N,hN⟩:=eE (2 ^ L);have HN:=hide hN;rw [<- hN] at hge mF Va Ap;have hN0:¬ (N:Int)=0:=by omega
 have hmk:=fun w=>JZ N (by omega) w;obtain ⟨tb,htb⟩:=eE w.heap.size;obtain ⟨w0,hw0⟩:=eE (w.alloc (.cells #[.pointer (Zz t)] 193));clear hLe hN;have hz0:w0.heap.size=tb+1:=by rw [hw0,htb];simp
 have T0:Z6 w0 tb 193 #[.pointer (Zz t)]:=by rw [hw0,htb];exact Z6.new _ _ _
 have hb0:=bE hw0;obtain ⟨W1,hW1⟩:∃ W1,(w0.alloc (.cells (madeCells #[.int .u64 0,.int .u64 0] (N*2)) 148)).alloc (.cells #[.slice (some ⟨tb+1,0,none⟩) N N] 110)=W1:=⟨_,rfl⟩;have R1:Z6 W1 (tb+1) 148 (madeCells #[.int .u64 0,.int .u64 0] (N*2)):=by rw [<- hW1,<- hz0];exact (Z6.new _ _ _).alloc _
 have O1:Z6 W1 (tb+1+1) 110 #[.slice (some ⟨tb+1,0,none⟩) N N]:=by
  have h:=Z6.new2 w0 (.cells (madeCells #[.int .u64 0,.int .u64 0] (N*2)) 148) 110 #[.slice (some ⟨tb+1,0,none⟩) N N];rw [hz0,hW1] at h;exact h
 have yG:Below w0.heap.size w0 W1:=by rw [<- hW1];exact Z7 (bA) _
 have T1:=T0.step yG;have hz1:W1.heap.size=tb+3:=by rw [<- hW1];simp [hz0]
 have hB1:=Z9 hb0 yG;have hs1:=(hs.kept (Z8.of_below hB1 hP)).sl (fun k hk=>Nat.lt_of_lt_of_le (hP k hk) hB1.size);obtain ⟨b,off,rfl,hbb,hcs⟩:=hs1.open_ (by have:=YE (fun p:Int × Int=>[Value.int .u64 p.1,.int .u64 p.2]) 2 (fun _=>rfl) rs;unfold ZA;rw [this];omega);have hrl:(ZA rs).length=rs.length*2:=YE (fun p:Int × Int=>[Value.int .u64 p.1,.int .u64 p.2]) 2 (fun _=>rfl) rs;have hmin:Nat.min rs.length N=rs.length:=Nat.min_eq_left hge;have hrun:=SX (P:=prog) W1 110 110 3 148 2 (tb+1) 0 N N ⟨b,off,none⟩ rs.length c _ 148 (ZA rs) underlying110 (by kernel_rfl) R1 (by rw [hmin,hrl]) (fun j v hv=>by rw [addr_add];exact hcs j v hv) (by rw [size_madeCells,hrl];omega) (zx rs);have jW:=setRow_heap W1 (tb+1) (madeCells #[.int .u64 0,.int .u64 0] (N*2)) ((madeCells #[.int .u64 0,.int .u64 0] (N*2)).toList.take 0++ZA rs++(madeCells #[.int .u64 0,.int .u64 0] (N*2)).toList.drop (0+(ZA rs).length)).toArray 148 _ R1;have Nq:Below w.heap.size w (W1.setRow (tb+1) ((madeCells #[.int .u64 0,.int .u64 0] (N*2)).toList.take 0++ZA rs++(madeCells #[.int .u64 0,.int .u64 0] (N*2)).toList.drop (0+(ZA rs).length)).toArray):=below_setRow hB1 (by omega) _;have JR:∀ k,k≠tb+1->(W1.setRow (tb+1) ((madeCells #[.int .u64 0,.int .u64 0] (N*2)).toList.take 0++ZA rs++(madeCells #[.int .u64 0,.int .u64 0] (N*2)).toList.drop (0+(ZA rs).length)).toArray).heap[k]?=W1.heap[k]?:=fun k hk=>setRow_other W1 (tb+1) k _ hk;rw [oU rs N hge] at hrun jW Nq JR;rw [hmin] at hrun;have zto:rs++List.replicate (N - rs.length) (0,0)=Vh rs:=by unfold Vh;rw [<- qQ.out,<- HN.out]
 rw [zto] at hrun jW Nq JR;obtain ⟨W2,hW2⟩:=eE (W1.setRow (tb+1) (RO (Vh rs)));rw [<- hW2] at hrun jW Nq JR;have R2:Z6 W2 (tb+1) 148 (RO (Vh rs)):=jW;have O2:Z6 W2 (tb+1+1) 110 #[.slice (some ⟨tb+1,0,none⟩) N N]:=(JR _ (by omega)).trans O1;have T2:Z6 W2 tb 193 #[.pointer (Zz t)]:=(JR _ (by omega)).trans T1;have hz2:W2.heap.size=tb+3:=by rw [hW2,<- hz1];simp [World.setRow]
 have Bt:=hide hrun;have HZ2:=hide hz2;have OE:=hide hcl;have HPC:=hide ztp;have wY:=hide Ap;have HS:=hide hs;have HP:=hide hP;have HT:=hide ht;have xD:=hide Nq;clear hrun jW JR hcs R1 O1 T1 yG hB1 hz1 hmin zto hbb T0 hb0 hrl hs1 hz2 hcl ztp Ap hs hP ht Nq;refine (callsIn_wide (n:=6)).1 ?_;refine callsIn_of_wp_marks func208 rfl trivial ?_ rfl;simp only [ntmps208,List.size_toArray,List.length_cons,List.length_nil,Nat.reduceAdd,Nat.reduceSub,Array.replicate_succ,Array.replicate_zero,List.push_toArray,List.append_toArray,List.nil_append,List.cons_append];gi_wp2_with fail;rw [<- hw0,<- htb];have qA:=hide htb;have HZ0:=hide hz0;have HW1:=hide hW1;have HW2:=hide hW2;clear hw0 htb hz0 hW1 hW2;refine ⟨trivial,?_⟩;refine (callsIn_wide.2 (Va.out _)).mono ?_;rintro e w1 ⟨rfl,rfl⟩;gi_wp2_with fail;rw [HZ0.out,HW1.out,Bt.out];clear Bt HW1 HW2 hmk;have o2:=O2.q0 rfl;have NI:=hide (Z8.of_below xD.out HP.out);have HT2:=hide (HT.out.more xD.out);have aJ:=hide (Yw HP.out xD.out);gi_wp2_with fail
 gi_loopw [21] (fun i wr=>∃ k:Nat,k<=N/\i=.int .i64 k/\(Z6 wr tb 193 #[.pointer (Zz t)]/\Z6 wr (tb+1+1) 110 #[.slice (some ⟨tb+1,0,none⟩) N N]/\Z6 wr (tb+1) 148 (RO (Vh rs)))/\Z8 P W2 wr/\Tp wr (More P w W2) t es)
  (fun i _=>N - (intOf i).toNat)
 case atStart=>exact ⟨0,Nat.zero_le _,rfl,⟨T2,O2,R2⟩,Z8.refl _ _,HT2.out⟩
 case round =>
  clear T2 O2 R2 o2;obtain ⟨k,hk,rfl,⟨Tr,Or,Rr⟩,hkr,htr⟩:=hrel;have or:=Or.q0 rfl
  by_cases hlt:k<N
  · have Sv:(k:Int)<(N:Int):=(by omega);obtain ⟨r,hr⟩:∃ r,(Vh rs)[k]?=some r:=⟨_,List.getElem?_eq_getElem (by rw [wY.out];exact hlt)⟩;have hrc:=HPC.out r (List.mem_of_getElem? hr);have hu:=Ho hrc;have HC:=hide (fun wk=>Rz r.1 r.2 hu.1.1 hu.1.2 hu.2.1 hu.2.2 wk);rw [Dw hrc] at HC;obtain ⟨g0,g1⟩:=VB hr;have K6:=hide g0;have jA:=hide g1;have c0:=Rr.cell g0;have c1:=Rr.cell g1;obtain ⟨x1,x2⟩:=r;dsimp only at *;have hNP:¬ P (tb+1):=fun h=>by have:=HP.out _ h;have:=qA.out;omega
    have HRR:=hide Rr;have HTR:=hide Tr;have EA:=hide Or;have qm:=hide hkr;have HTT:=hide htr;have Tq:=hide hNP;clear hrc hu hr g0 g1 Rr Tr Or hkr htr hNP;have V5:prog.follows .mixedOrders=true:=(by kernel_rfl);gi_wp2_with fail;refine jm 8 (S:=fun w'=>Z6 w' (tb+1+1) 110 #[.slice (some ⟨tb+1,0,none⟩) N N]/\Z6 w' (tb+1) 148 (RO (Vh rs))) V5 ?_;have hS:Z6 wr.drew (tb+1+1) 110 #[.slice (some ⟨tb+1,0,none⟩) N N]/\Z6 wr.drew (tb+1) 148 (RO (Vh rs)):=⟨EA.out.drew,HRR.out.drew⟩;refine' ZV (i:=0) rfl ?P8 hS ?M8
    case P8 =>
     intro w' hSw;obtain ⟨s1,s2⟩:=hSw;have z1:=s1.q0 rfl;have z2:=s2.cell K6.out;have z3:=s2.cell jA.out;go_simp;rfl
    simp only [Act.put,getElem_toArray,getElem_cons_zero,setIfInBounds_toArray,set_cons_zero,set_cons_succ];refine' ZV (i:=1) rfl ?Qa hS ?M9
    case Qa =>
     intro w' hSw;go_simp;rfl
    simp only [Act.put,ZW];refine' ZV (i:=2) rfl ?Qb hS ?Na
    case Qb =>
     intro w' hSw;obtain ⟨s1,s2⟩:=hSw;have z1:=s1.q0 rfl;have z2:=s2.cell K6.out;have z3:=s2.cell jA.out;go_simp;rfl
    simp only [Act.put,ZW];refine' ZV (i:=3) rfl ?Qc hS ?Nb
    case Qc =>
     intro w' hSw;go_simp;rfl
    simp only [Act.put,ZW];refine' ZV (i:=4) rfl ?LW hS ?IJ
    case LW =>
     intro w' hSw;obtain ⟨s1,s2⟩:=hSw;have z1:=s1.q0 rfl;have z2:=s2.cell K6.out;have z3:=s2.cell jA.out;go_simp;rfl
    simp only [Act.put,ZW];refine' ZV (i:=5) rfl ?LX hS ?IK
    case LX =>
     intro w' hSw;obtain ⟨s1,s2⟩:=hSw;have z1:=s1.q0 rfl;have z2:=s2.cell K6.out;have z3:=s2.cell jA.out;go_simp;rfl
    simp only [Act.put,ZW];refine Yj (i:=6) (by kernel_rfl) rfl ?_;intro K hK;rw [if_pos (by rfl)];go_simp;refine ⟨trivial,?_⟩;refine (callsIn_wide.2 (HC.out _)).mono ?_;rintro e w3 ⟨rfl,hb3⟩;have Am:Z6 w3 (tb+1+1) 110 #[.slice (some ⟨tb+1,0,none⟩) N N]/\Z6 w3 (tb+1) 148 (RO (Vh rs)):=⟨EA.out.drew.step hb3,HRR.out.drew.step hb3⟩;refine hK.out _ _ (fun _=>Am) ?_;clear hK K
    (try simp only [Act.put,ZW])
    refine' ZV (i:=7) rfl ?uM Am ?o9
    case uM =>
     intro w' hSw;obtain ⟨s1,s2⟩:=hSw;have z1:=s1.q0 rfl;have z2:=s2.cell K6.out;have z3:=s2.cell jA.out;go_simp;rfl
    simp only [Act.put,ZW];have B3:=Am.2;have c0:=B3.cell K6.out;have c1:=B3.cell jA.out;have f0:=B3.frozen (k*2);have f1:=B3.frozen (k*2+1);refine Yj (i:=8) (by kernel_rfl) rfl ?_;intro K hK;rw [if_pos (by rfl)];go_simp;refine hK.out _ _ (fun h=>absurd rfl h) ?_;clear hK K;refine WI (by kernel_rfl) ?_ _;refine EG.intro ?_
    have Cq:Z6 ((w3.setCell ⟨tb+1,k*2,none⟩ (.int .u64 x1)).setCell ⟨tb+1,k*2+1,none⟩ (.int .u64 x2)) tb 193 #[.pointer (Zz t)]/\Z6 ((w3.setCell ⟨tb+1,k*2,none⟩ (.int .u64 x1)).setCell ⟨tb+1,k*2+1,none⟩ (.int .u64 x2)) (tb+1+1) 110 #[.slice (some ⟨tb+1,0,none⟩) N N]/\Z6 ((w3.setCell ⟨tb+1,k*2,none⟩ (.int .u64 x1)).setCell ⟨tb+1,k*2+1,none⟩ (.int .u64 x2)) (tb+1) 148 (RO (Vh rs)) :=
     ⟨((HTR.out.drew.step hb3).far (p:=⟨tb+1,k*2,none⟩) (by dsimp only;omega) _).far (p:=⟨tb+1,k*2+1,none⟩) (by dsimp only;omega) _,(Am.1.far (p:=⟨tb+1,k*2,none⟩) (by dsimp only;omega) _).far (p:=⟨tb+1,k*2+1,none⟩) (by dsimp only;omega) _,(Am.2.same K6.out).same jA.out⟩
    have hk5:Z8 P W2 ((w3.setCell ⟨tb+1,k*2,none⟩ (.int .u64 x1)).setCell ⟨tb+1,k*2+1,none⟩ (.int .u64 x2)) :=
     (qm.out.trans ((Z8.drew _ _).trans (Z8.of_below hb3 fun j hj=>Nat.lt_of_lt_of_le (HP.out j hj) (NI.out.trans qm.out).size))).trans ((Z8.setCell Tq.out _ _ _).trans (Z8.setCell Tq.out _ _ _))
    have hmem:More P w W2 (tb+1):=.inr ⟨by have:=qA.out;omega,by have:=HZ2.out;omega⟩;have Sz:Tp ((w3.setCell ⟨tb+1,k*2,none⟩ (.int .u64 x1)).setCell ⟨tb+1,k*2+1,none⟩ (.int .u64 x2)) (More P w W2) t es:=((HTT.out.drew.step hb3).set hmem _ _).set hmem _ _;have Uv:=hide (And.intro Cq (And.intro hk5 Sz));clear Cq hk5 Sz Am hS hb3 B3 c0 c1 f0 f1 or;gi_wp2;go_roundw
    case rel=>exact ⟨k+1,by omega,by go_num,Uv.out⟩
    case measure=>simp [intOf];omega
  · obtain rfl:N=k:=(by omega);obtain ⟨g,hg⟩:=eE wr.heap.size;have qJ:=hide (fun wk=>vB (N:Int) wk);have HTR:=hide Tr;have EA:=hide Or;have HRR:=hide Rr;have qm:=hide hkr;have HTT:=hide htr;have HGG:=hide hg;clear Tr Or Rr hkr htr or;gi_wp2_with fail;refine ⟨trivial,?_⟩;refine (callsIn_wide.2 (qJ.out _)).mono ?_;rintro e w3 ⟨rfl,rfl⟩;obtain ⟨W4,sS⟩:∃ W4,wr.alloc (.cells #[.int .i64 (N:Int)] 3)=W4:=⟨_,rfl⟩;rw [<- hg,sS];clear hg;have hb4:Below wr.heap.size wr W4:=(by rw [<- sS];exact bA);have G4:Z6 W4 g 3 #[.int .i64 ((2 ^ L:Nat):Int)]:=(by rw [<- sS,HGG.out,<- HN.out];exact Z6.new _ _ _);have T4:=HTR.out.step hb4;have O4:=EA.out.step hb4;have R4:=HRR.out.step hb4;have hz4:W4.heap.size=g+1:=(by rw [<- sS,HGG.out];simp);have hgt:tb+3<=g:=(by have:=qm.out.size;have:=HZ2.out;have:=HGG.out;omega);have Cn:∀ k,P k->k<tb:=fun k hk=>by have:=HP.out k hk;have:=qA.out;omega
    have MZ:∀ k,Also P g k->k<W4.heap.size:=fun k hk=>by
     rcases hk with hk|hk
     · have:=Cn k hk;omega
     · omega
    have hQ:∀ k,Also (More P w W2) g k->k<W4.heap.size:=fun k hk=>by
     rcases hk with hk|hk
     · have:=aJ.out k hk;have:=HZ2.out;omega
     · omega
    have KL:Tp W4 (Also (More P w W2) g) t es:=(HTT.out.add (R:=Also (More P w W2) g) fun j hj=>by
     rcases hj with hj|hj
     · exact .inl hj
     · exact .inr (by have:=HGG.out;omega)).step hb4
    have hmb:∀ u,t=some u->u.2<W4.heap.size:=KL.iE;have hM:∀ k,tb<=k->k<tb+3->Also (More P w W2) g k:=fun k h1 h2=>.inl (.inr ⟨by have:=qA.out;omega,by have:=HZ2.out;omega⟩);have qw:=hide (hM tb (by omega) (by omega));have HMR:=hide (hM (tb+1) (by omega) (by omega));have wX:=hide (hM (tb+1+1) (by omega) (by omega));have HMG:Hid (Also (More P w W2) g g):=.inr rfl
    have HPI:Hid (∀ k,Also P g k->Also (More P w W2) g k):=fun k hk=>by
     rcases hk with hk|hk
     · exact .inl (.inl hk)
     · exact .inr hk
    have OG:Hid (¬ Also P g (tb+1)):=fun h=>by
     rcases h with h|h
     · have:=Cn _ h;omega
     · omega
    have HK4:=hide (NI.out.trans (qm.out.trans (Z8.of_below hb4 fun j hj=>by have:=Cn j hj;have:=HGG.out;omega)));have MP:=hide MZ;have HQ:=hide hQ;have HT4:=hide KL;have Bo:=hide hmb;have HGT:=hide hgt;have HZ4:=hide hz4;have zlj:=hide Cn;have HG4:=hide G4;clear hb4 hz4 hgt Cn MZ hQ KL hmb hM sS qJ G4 qm HTT HTR EA HRR hlt hk;gi_wp2_with fail
    refine wpIn_rangeFunc_ownH rfl (by omega) (gf:=310) (lb:=#[.pointer (some ⟨g,0,none⟩)]) rfl trivial (enters_of func310 (by kernel_rfl) rfl)
     (za 5 (by omega) g (Also P g) L hL W4 MP.out (.inr rfl) HG4.out) Z8.trans (fun W l o o' hl _ _ _=>Z8.putObj o' (fun h=>by have:=MP.out _ h;omega) W) (Below.refl _ _) (fun _=>rfl)
     (fun pre W=>(((Z6 W tb 193 #[.pointer (Zz t)]/\Z6 W (tb+1+1) 110 #[.slice (some ⟨tb+1,0,none⟩) N N])/\Z6 W (tb+1) 148 (RO (zM (Vh rs) (TB pre))))/\(Z8 (Also P g) W4 W/\Tp W (Also (More P w W2) g) t (es++WM (TB pre)))))
     (fun _ _ _=>False)
     (OwnFrom.and (OwnFrom.and (OwnFrom.and (Own.from (XH _ _ _) _) (Own.from (XH _ _ _) _)) (Own.from (XH _ _ _) _)) (OwnFrom.and (UC (fun k hk=>⟨MP.out k hk,MP.out k hk⟩)) (WE _ (Also (More P w W2) g) t (fun pre:List (kJ L)=>es++WM (TB pre)) Bo.out)))
     (fun _ _ _ _ _ hs _ _=>hs)
     ⟨⟨⟨T4,O4⟩,R4⟩,Z8.refl _ _,by simpa [WM,TB] using HT4.out⟩
     (fun x a' W=>∃ Bx es',g<Bx/\Tp W (Also (Also (More P w W2) g) Bx) t es'/\Z6 W Bx 326 #[.int .i64 (x.1.1:Int),.int .i64 (x.1.2:Int)]/\a'={ tmps:=#[.pointer (Zz t),.slice (some ⟨b,off,none⟩) rs.length c,.pointer (some ⟨tb,0,none⟩),undef,.slice none 0 0,.int .i64 (N:Int),.pointer (some ⟨tb+1+1,0,none⟩),u7,.pointer (some ⟨Bx,0,none⟩),.slice (some ⟨b,off,none⟩) rs.length c,.int .i64 (rs.length:Int),.int .i64 (N:Int),.int .i64 (N:Int),.bool false,.int .i64 (N:Int),.slice (some ⟨tb+1,0,none⟩) N N,.slice (some ⟨tb+1,0,none⟩) N N,.slice (some ⟨b,off,none⟩) rs.length c,.int .i64 (rs.length:Int),.slice (some ⟨tb+1,0,none⟩) N N,.int .i64 (N:Int),.int .i64 (N:Int),.bool false,u23,u24,u25,u26,u27,u28,u29,u30,u31,u32,.int .i64 (N:Int),.func (.func 310) #[] #[.pointer (some ⟨g,0,none⟩)],.agg #[.int .i64 (x.1.1:Int),.int .i64 (x.1.2:Int)],undef,undef,undef,undef,undef,undef,undef,undef,undef,undef,undef,undef,undef,undef,undef,undef,undef,undef,undef,undef,undef],defers:=[] })
     (fun x a' _ X Y row hs hg hr=>by obtain ⟨Bx,es',h1,hT,h2,h3⟩:=hs;exact ⟨Bx,es',h1,WE _ _ t (fun _:Unit=>es') Bo.out () X Y row hT hg hr,XH Bx 326 (fun (_:Unit)=>#[.int .i64 (x.1.1:Int),.int .i64 (x.1.2:Int)]) () X Y row h2 hg (fun r e=>(hr r e).2),h3⟩)
     ?assign ?body ?done ?stop
    case assign =>
     rintro l pre x W K ⟨⟨⟨T1,O1⟩,R1⟩,hB1,hT1⟩ hK;have hWz:W4.heap.size<=W.heap.size:=hB1.size;unfold rY;gi_wp2;have jS:∀ k,Also P g k->k<W.heap.size:=fun k hk=>Nat.lt_of_lt_of_le (MP.out k hk) hWz;refine hK _ _ ((KeepsOthers.alloc _ _).from _) (Z8.of_below (bA) jS) ⟨⟨⟨T1.alloc _,O1.alloc _⟩,R1.alloc _⟩,hB1.trans (Z8.of_below (bA) jS),hT1.step (bA)⟩ ⟨W.heap.size,es++WM (TB pre),by have:=HZ4.out;omega,?_,Z6.new _ _ _,rfl⟩;refine (hT1.add (R:=Also (Also (More P w W2) g) W.heap.size) fun k hk=>?_).step (bA);rcases hk with hk|hk
     · exact .inl hk
     · exact .inr (by omega)
    case body =>
     rintro l pre x a' W hl' _ ⟨⟨⟨T1,O1⟩,R1⟩,hB1,hT1⟩ ⟨Bx,es',hBx,hTx,bX,rfl⟩ hpl;have hszW:W4.heap.size<=W.heap.size:=hB1.size;have yF:=hT1.with hTx
     clear hT1 hTx;have V5:prog.follows .mixedOrders=true:=(by kernel_rfl);obtain ⟨⟨lo,hi⟩,hin1,hin2,l9⟩:=x;dsimp only at *;have hsl:(zM (Vh rs) (TB pre)).length=N:=(by rw [(MH _ _).length_eq];exact wY.out);have zth:lo<N:=(by rw [HN.out];exact hin1);have ztd:hi<N:=(by rw [HN.out];exact hin2);obtain ⟨xr,hxr⟩:∃ xr,(zM (Vh rs) (TB pre))[lo]?=some xr:=⟨_,List.getElem?_eq_getElem (by rw [hsl];exact zth)⟩;obtain ⟨yr,hyr⟩:∃ yr,(zM (Vh rs) (TB pre))[hi]?=some yr:=⟨_,List.getElem?_eq_getElem (by rw [hsl];exact ztd)⟩;have hxc:=HPC.out xr ((MH _ _).mem_iff.1 (List.mem_of_getElem? hxr));have ko:=HPC.out yr ((MH _ _).mem_iff.1 (List.mem_of_getElem? hyr));have hle:t=none\/(es++WM (TB pre)).length<=1000000:=by
      rcases hl with h|h
      · exact .inl h
      · refine .inr ?_;rw [List.length_append,WM,List.length_map,TB,List.length_map];omega
     have zmr:(lo:Int)<(N:Int):=(by omega);have zmg:(hi:Int)<(N:Int):=(by omega);have qx:=hide (wC (Vh rs) (TB pre) (lo,hi));have HPX:=hide (F8 (TB pre) (lo,hi));have HCU:Hid (TB (pre++[⟨(lo,hi),hin1,hin2,l9⟩])=TB pre++[(lo,hi)]):=Ld _ _
     have hQ2:∀ k,Also (Also (More P w W2) g) Bx k->k<W.heap.size:=fun k hk=>by
      rcases hk with hk|hk
      · exact Nat.lt_of_lt_of_le (HQ.out k hk) hszW
      · subst hk;exact bX.lt
     have Td:=hide (Dl (Also (Also (More P w W2) g) Bx) t (es++WM (TB pre)) 3 (lo:Int) (hi:Int) W hQ2 yF hle (by unfold QB;omega))
     have HEX:Hid (∀ wk,Z6 wk (tb+1) 148 (RO (zM (Vh rs) (TB pre)))->Calls prog 279 #[.pointer (some ⟨tb+1,lo*2,none⟩),.pointer (some ⟨tb+1,hi*2,none⟩)] wk fun e w'=>e=.returned (.tuple #[])/\Z6 w' (tb+1) 148 (RO (zM (Vh rs) (TB pre++[(lo,hi)])))/\wk.grownBy w' (some (tb+1))):=hide fun wk hB=>by
      refine (H7 (tb+1) 148 _ (lo*2) (hi*2) xr yr hxc ko wk hB (VB hxr).1 (VB hxr).2 (VB hyr).1 (VB hyr).2 (by omega)).mono ?_;rintro e w' ⟨rfl,hq⟩;rw [qx.out];exact ⟨rfl,lX hxr hyr l9 hq⟩
     have t1:=T1.q0 rfl;have x0:=bX.q0 rfl;have x1:=bX.q1 rfl;have HT1:=hide T1;have HO1:=hide O1;have HR1:=hide R1;have Em:=hide bX;have HB1:=hide hB1;have zoc:=hide hBx;have Va:=hide hszW;clear T1 O1 R1 bX hB1 yF hxr hyr hxc ko hle hQ2 hsl hBx hszW zth ztd hpl qx;gi_wp2_with fail;refine ⟨trivial,?_⟩;refine (CallsIn.inRound l (callsIn_wide.2 Td.out)).mono ?_;rintro e wn ⟨rfl,hkk,hmm,htn⟩;have Tn:=HT1.out.kept hkk (.inl qw.out);have On:=HO1.out.kept hkk (.inl wX.out);have Rn:=HR1.out.kept hkk (.inl HMR.out);have Xn:=Em.out.kept hkk (.inr rfl);have HTN:=hide Tn;have qz:=hide Rn;have HKK:=hide hkk;have HMM:=hide hmm;have zow:=hide htn;clear t1 x0 x1 Tn Rn hkk hmm htn Td;gi_wp2_with fail;refine Xy 1000 (S:=fun w'=>Z6 w' (tb+1+1) 110 #[.slice (some ⟨tb+1,0,none⟩) N N]/\Z6 w' Bx 326 #[.int .i64 (lo:Int),.int .i64 (hi:Int)]) V5 ?_;have hS:Z6 wn.drew (tb+1+1) 110 #[.slice (some ⟨tb+1,0,none⟩) N N]/\Z6 wn.drew Bx 326 #[.int .i64 (lo:Int),.int .i64 (hi:Int)]:=⟨On.drew,Xn.drew⟩;refine' ZV (i:=0) rfl ?dK hS ?zvh
     case dK =>
      intro w' hSw;obtain ⟨s1,s2⟩:=hSw;have z1:=s1.q0 rfl;have z2:=s2.q0 rfl;have z3:=s2.q1 rfl;go_simp;rfl
     simp only [Act.put,getElem_toArray,getElem_cons_zero,setIfInBounds_toArray,set_cons_zero,set_cons_succ];refine' ZV (i:=1) rfl ?dY hS ?zvu
     case dY =>
      intro w' hSw;go_simp;rfl
     simp only [Act.put,ZW];refine' ZV (i:=2) rfl ?eT hS ?zwe
     case eT =>
      intro w' hSw;obtain ⟨s1,s2⟩:=hSw;have z1:=s1.q0 rfl;have z2:=s2.q0 rfl;have z3:=s2.q1 rfl;go_simp;rfl
     simp only [Act.put,ZW];refine' ZV (i:=3) rfl ?fD hS ?zwo
     case fD =>
      intro w' hSw;go_simp;rfl
     simp only [Act.put,ZW];refine' ZV (i:=4) rfl ?fI hS ?zwt
     case fI =>
      intro w' hSw;obtain ⟨s1,s2⟩:=hSw;have z1:=s1.q0 rfl;have z2:=s2.q0 rfl;have z3:=s2.q1 rfl;go_simp;rfl
     simp only [Act.put,ZW];refine' ZV (i:=5) rfl ?fT hS ?zxa
     case fT =>
      intro w' hSw;go_simp;rfl
     simp only [Act.put,ZW];refine' ZV (i:=6) rfl ?gD hS ?zxh
     case gD =>
      intro w' hSw;obtain ⟨s1,s2⟩:=hSw;have z1:=s1.q0 rfl;have z2:=s2.q0 rfl;have z3:=s2.q1 rfl;go_simp;rfl
     simp only [Act.put,ZW];refine' ZV (i:=7) rfl ?gH hS ?zxk
     case gH =>
      intro w' hSw;go_simp;rfl
     simp only [Act.put,ZW];refine Yj (i:=8) (by kernel_rfl) rfl ?_;intro K hK;rw [if_pos (by rfl)];go_simp;refine ⟨trivial,?_⟩;refine (CallsIn.inRound l (callsIn_wide.2 (HEX.out _ qz.out.drew))).mono ?_;rintro e w5 ⟨rfl,hR5,hg5⟩;have hS5:Z6 w5 (tb+1+1) 110 #[.slice (some ⟨tb+1,0,none⟩) N N]/\Z6 w5 Bx 326 #[.int .i64 (lo:Int),.int .i64 (hi:Int)]:=⟨On.drew.grown hg5 (by intro h;injection h;omega),Xn.drew.grown hg5 (by intro h;cases h;have:=zoc.out;have:=HGT.out;omega)⟩;refine hK.out _ _ (fun _=>hS5) ?_;clear hK K;refine WI (by kernel_rfl) ?_ _;have hT5:Z6 w5 tb 193 #[.pointer (Zz t)]:=HTN.out.drew.grown hg5 (by intro h;injection h;omega);have hk5:Z8 (Also P g) W w5:=(HKK.out.mono fun j hj=>.inl (HPI.out j hj)).trans ((Z8.drew _ _).trans ⟨hg5.os,hg5.tape,hg5.output,hg5.size,fun j hj=>hg5.block j (Nat.lt_of_lt_of_le (MP.out j hj) (Nat.le_trans Va.out HKK.out.size)) (fun h=>OG.out (by cases h;exact hj))⟩);have hf5:KeepsFrom W4.heap.size W w5:=(HMM.out.from Bo.out).trans ((KeepsFrom.of_below (ZU (Below.refl _ _))).trans ⟨hg5.size,fun j o hj hi ho=>(hg5.block j (Array.getElem?_eq_some_iff.1 hi).1 (fun h=>by cases h;have:=HZ4.out;have:=HGT.out;omega)).trans hi⟩);have Sz:Tp w5 (Also (More P w W2) g) t (es++WM (TB pre++[(lo,hi)])):=by
      rw [HPX.out,<- List.append_assoc];exact ((zow.out.drew.kept hg5 (.inl HMR.out)).mono fun j hj=>.inl hj)
     have G7:=hide (show KeepsFrom W4.heap.size W w5/\Z8 (Also P g) W w5/\(((Z6 w5 tb 193 #[.pointer (Zz t)]/\Z6 w5 (tb+1+1) 110 #[.slice (some ⟨tb+1,0,none⟩) N N])/\Z6 w5 (tb+1) 148 (RO (zM (Vh rs) (TB (pre++[⟨(lo,hi),hin1,hin2,l9⟩])))))/\(Z8 (Also P g) W4 w5/\Tp w5 (Also (More P w W2) g) t (es++WM (TB (pre++[⟨(lo,hi),hin1,hin2,l9⟩]))))) from ⟨hf5,hk5,⟨⟨hT5,hS5.1⟩,by rw [HCU.out];exact hR5⟩,HB1.out.trans hk5,by rw [HCU.out];exact Sz⟩);clear hf5 hk5 hT5 hS5 hR5 Sz hS hg5 On Xn;gi_wp2;exact G7.out
    case done =>
     rintro D zs W hD hzs ⟨⟨⟨T1,O1⟩,R1⟩,hB1,hT1⟩ hK;have o1:=O1.q0 rfl;rw [hzs] at R1 hT1;have hni:=Di L rs OE.out (by rw [<- HN.out];exact hge);have j3:Vh rs=rs++List.replicate (2 ^ L - rs.length) (0,0):=(by unfold Vh;rw [<- qQ.out]);have hsr:zM (Vh rs) (Xv L)=Yi Zm rs++List.replicate (2 ^ L - rs.length) (0,0):=(by unfold zM;rw [j3];exact hni);rw [hsr] at R1
     have hSL:Sl W W.heap.size (some ⟨tb+1,0,none⟩) (ZA (Yi Zm rs)):=UK R1 fun j u hu=>by
      unfold ZA at hu;unfold RO ZA;rw [List.flatMap_append,List.getElem?_toArray,List.getElem?_append_left (List.getElem?_eq_some_iff.1 hu).1];exact hu
     have hkk:Z8 P w W:=HK4.out.trans (hB1.mono fun j hj=>.inl hj);have HSL:=hide hSL;have HKK:=hide hkk;have HT1:=hide hT1;clear T1 O1 R1 hB1 hT1 hni j3 hsr hSL hkk;have hlen:(rs.length:Int)<=(N:Int):=(by omega);gi_wp2;refine ⟨by simp,.inl ⟨_,_,rfl,run_takeDeferred hK,?_⟩⟩;have hDP:¬ P D:=fun h=>by have:=MP.out D (.inl h);omega
     have hDt:D≠tb+1:=(by have:=HZ4.out;have:=HGT.out;omega);have zpd:¬ P (tb+1):=fun h=>OG.out (.inl h);refine ⟨_,results_tmp rfl _ _ _,tb+1,rfl,HKK.out.trans (Z8.putObj _ hDP _),?_,zpd,?_⟩
     · exact (HT1.out.mono (R:=P) fun k h=>.inl (.inl h)).putObj (fun u hu=>Nat.lt_of_lt_of_le (Bo.out u hu) hD) hK rfl _
     · refine (HSL.out.at_ fun k hk _ x hx hxb=>?_).more (by simp);cases hx;subst hxb;exact World.putObj_heap_other (Ne.symm hDt)
    case stop =>
     rintro D c pre W _ _ h _;exact h.elim
end
end Go.Proofs.YthnenedoblncjaaGreatDoor