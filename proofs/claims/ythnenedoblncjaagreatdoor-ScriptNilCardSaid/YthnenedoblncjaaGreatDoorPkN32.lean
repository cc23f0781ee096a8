/- BatchMath Sort HeldSk -/
import Derived.BigQuiet
import Derived.ChangeAlike
import Derived.Deep.QuietTactic
import Derived.Test.YthnenedoblncjaaGreatDoorPkN29
import Derived.Test.YthnenedoblncjaaGreatDoorPkN30
import Derived.Test.YthnenedoblncjaaGreatDoorPkN31
set_option maxRecDepth 1000000
set_option maxHeartbeats 8000000
namespace Go.Proofs.YthnenedoblncjaaGreatDoor
open Go.Proofs.Tryz
open List (getElem_toArray getElem_cons_succ getElem_cons_zero setIfInBounds_toArray set_cons_zero set_cons_succ)
section
open Go.RowKit
def hrec(gs:List Gr)(q:(Int × Int) × Int):Int × Int:=if (Zx gs && YA gs q.1)=true then (1,q.2) else (0,0)
def ZB(gs:List Gr)(qs:List ((Int × Int) × Int)):List (Int × Int):=qs.map (hrec gs)
def U5(rs:List (Int × Int)):Nat:=(rs.map fun r=>r.1.toNat).sum
def Y3(gs:List Gr)(n:Nat):Int:=if Zt (gs.map (·.1))≠0 then Zt (gs.map (·.1)) else if n<1\/4096<n then 6 else 0
def Yi(gs:List Gr)(qs:List ((Int × Int) × Int)):xL × Int :=
 if Y3 gs qs.length≠0 then (WR,Y3 gs qs.length) else (⟨bif Zx gs then 1 else 0,U5 (ZB gs qs),WH ZC (ZB gs qs)⟩,0)
def Y9(gs:List Gr)(n:Nat):List Ev:=(List.range n).flatMap fun (i:Nat)=>(8,(i:Int),0)::Zl gs
def XH(n:Nat):List Ev:=(List.range n).map fun (i:Nat)=>(1,(i:Int),0)
def YT(cs:List (Nat × Nat)):List Ev:=cs.map fun c=>(3,(c.1:Int),(c.2:Int))
def UY(gs:List Gr)(n:Nat):List Ev:=if Y3 gs n≠0 then [] else ZK gs++Y9 gs n++XH n++YT (Y5 (lg n))
theorem Ih(gs:List Gr){q:(Int × Int) × Int}(h:Uk q.2):Sb (hrec gs q):=by
 unfold hrec;split
 · exact .inl ⟨rfl,h.1,h.2⟩
 · exact .inr rfl
theorem Rm(gs:List Gr){qs:List ((Int × Int) × Int)}(h:∀ q∈qs,Uk q.2):∀ r∈ZB gs qs,Sb r:=by
 intro r hr;obtain ⟨q,hq,rfl⟩:=List.mem_map.1 hr;exact Ih gs (h q hq)
theorem Lv{r:Int × Int}(h:Sb r):Uk r.1/\Uk r.2:=by
 rcases h with ⟨h1,h2,h3⟩|h
 · exact ⟨by rw [h1];exact ⟨by decide,by decide⟩,h2,h3⟩
 · rw [h];exact ⟨⟨by decide,by decide⟩,by decide,by decide⟩
theorem TH:∀ l:List (Int × Int),(∀ r∈l,Sb r)->U5 l<=l.length
 | [],_=>Nat.le_refl _
 | r::l,h=>by
   have h1:=TH l fun x hx=>h x (List.mem_cons_of_mem _ hx);have h2:r.1.toNat<=1:=by
    rcases h r (List.mem_cons_self ..) with ⟨h,_⟩|h
    · rw [h];decide
    · rw [h];decide
   unfold U5 at h1 ⊢;rw [List.map_cons,List.sum_cons,List.length_cons];omega
end
section
open Go.RowKit Go.Shelf
attribute [local go_sem] Oper.semAt_some
def K8(l:List (Int × Int))(cs:List (Nat × Nat)):List (Int × Int):=cs.foldl (Vn ZC) l
def X8(rs:List (Int × Int)):List (Int × Int):=rs++List.replicate (2 ^ lg rs.length - rs.length) (0,0)
theorem Jh(l:List (Int × Int))(cs:List (Nat × Nat))(c:Nat × Nat):K8 l (cs++[c])=Vn ZC (K8 l cs) c:=by simp [K8]
theorem Px(cs:List (Nat × Nat))(c:Nat × Nat):YT (cs++[c])=YT cs++[(3,(c.1:Int),(c.2:Int))]:=by simp [YT]
theorem IV{rs:List (Int × Int)}(h:∀ r∈rs,Sb r):∀ r∈X8 rs,Sb r:=fun r hr=>by
 rcases List.mem_append.1 hr with hr|hr
 · exact h r hr
 · rw [List.eq_of_mem_replicate hr];exact .inr rfl
theorem Pw{rs:List (Int × Int)}(h:rs.length<=4096):(X8 rs).length=2 ^ lg rs.length:=by
 have:=Dn h;unfold X8;rw [List.length_append,List.length_replicate];omega
theorem Tz(l:List (Int × Int))(cs:List (Nat × Nat)):(K8 l cs).Perm l:=VR ZC cs l
section
variable {F:Fence}{n:Nat}{P:Program}{ops:Array Oper}{Q:Exit->Act->World->Prop}{S:World->Prop}
def Vx(K:Act->World->Prop):Exit->Act->World->Prop
 | .normal,a,w=>K a w
 | _,_,_=>False
theorem Vx.intro{K:Act->World->Prop}{a:Act}{w:World}(h:K a w):Vx K .normal a w:=h
theorem Jj (sk:Nat) {id:Nat} {a:Act} {w:World} (hm:P.follows .mixedOrders=true)
 (h:Zg F n P .any ops (Vx (Q .normal)) S sk ops.size (Array.replicate ops.size false) a w.drew):(Code.region id ops true).wpIn F n P Q a w:=by
 refine wpIn_mono (YO sk (Q:=Vx (Q .normal)) hm h) ?_;intro e a w he;cases e with
 | normal=>exact he
 | _=>exact he.elim
end
theorem Nr(P:Nat->Prop)(t:Option (Nat × Nat))(es:List Ev)(k a b:Int)(w:World)(hP:∀ j,P j->j<w.heap.size)(ht:Tp w P t es)(hl:t=none\/es.length<=1000000)(hk:Zj k):
 Calls prog 259 #[.pointer (ZT t),.int .i64 k,.int .i64 a,.int .i64 b] w fun e w'=>e=.returned (.tuple #[])/\Z9 P w w'/\Y2 t w w'/\Tp w' P t (es++[(k,a,b)]):=by
 rcases hl with rfl|hl
 · refine (Yl P none [] k a b w hP trivial (by simp) hk).mono ?_;rintro e w' ⟨h1,h2,h3,_⟩;exact ⟨h1,h2,h3,trivial⟩
 · exact Yl P t es k a b w hP ht hl hk
theorem addr_add(b off j:Nat):(⟨b,off,none⟩:Addr).add j=⟨b,off+j,none⟩:=by unfold Addr.add;split <;> simp_all
theorem Jg(P:Nat->Prop)(t:Option (Nat × Nat))(es:List Ev)(rs:List (Int × Int))(hcl:∀ r∈rs,Sb r)(h1:1<=rs.length)(h2:rs.length<=4096)(A:Option Addr)(c:Nat)(w:World)(hP:∀ k,P k->k<w.heap.size)(hs:Wx w P A (ZE rs))(ht:Tp w P t es)(hl:t=none\/es.length+(Y5 (lg rs.length)).length<=1000000):
 Calls prog 208 #[.pointer (ZT t),.slice A rs.length c] w fun e w'=>∃ b,e=.returned (.slice (some ⟨b,0,none⟩) rs.length rs.length)/\Z9 P w w'/\Tp w' P t (es++YT (Y5 (lg rs.length)))/\¬ P b/\Sl w' w'.heap.size (some ⟨b,0,none⟩) (ZE (WH ZC rs)):=by
 have hL:=Dp h2;have hge:=Dn h2;have El:=Ve hL;have Sg:=hide (fun w=>KI rs.length h1 h2 w);have LH:=Pw h2;have uF:=IV hcl;obtain ⟨L,og⟩:=eE (lg rs.length);have rE:=hide og;rw [<- og] at hL hge El Sg LH hl ⊢;obtain ⟨N,hN⟩:=eE (2 ^ L);have HN:=hide hN;rw [<- hN] at hge El Sg LH;have hN0:¬ (N:Int)=0:=by omega
 have hmk:=fun w=>Rp N (by omega) w;obtain ⟨tb,htb⟩:=eE w.heap.size;obtain ⟨w0,hw0⟩:=eE (w.alloc (.cells #[.pointer (ZT t)] 193));clear og hN;have hz0:w0.heap.size=tb+1:=by rw [hw0,htb];simp
 have T0:Z6 w0 tb 193 #[.pointer (ZT t)]:=by rw [hw0,htb];exact Z6.new _ _ _
 have hb0:=bE hw0;obtain ⟨W1,hW1⟩:∃ W1,(w0.alloc (.cells (madeCells #[.int .u64 0,.int .u64 0] (N*2)) 148)).alloc (.cells #[.slice (some ⟨tb+1,0,none⟩) N N] 110)=W1:=⟨_,rfl⟩;have R1:Z6 W1 (tb+1) 148 (madeCells #[.int .u64 0,.int .u64 0] (N*2)):=by rw [<- hW1,<- hz0];exact (Z6.new _ _ _).alloc _
 have O1:Z6 W1 (tb+1+1) 110 #[.slice (some ⟨tb+1,0,none⟩) N N]:=by
  have h:=Z6.new2 w0 (.cells (madeCells #[.int .u64 0,.int .u64 0] (N*2)) 148) 110 #[.slice (some ⟨tb+1,0,none⟩) N N];rw [hz0,hW1] at h;exact h
 have zP:Below w0.heap.size w0 W1:=by rw [<- hW1];exact ZY (bA) _
 have T1:=T0.step zP;have hz1:W1.heap.size=tb+3:=by rw [<- hW1];simp [hz0]
 have hB1:=Z8 hb0 zP;have hs1:=(hs.kept (Z9.of_below hB1 hP)).sl (fun k hk=>Nat.lt_of_lt_of_le (hP k hk) hB1.size);obtain ⟨b,off,rfl,hbb,hcs⟩:=hs1.open_ (by have:=Zm (fun p:Int × Int=>[Value.int .u64 p.1,.int .u64 p.2]) 2 (fun _=>rfl) rs;unfold ZE;rw [this];omega);have hrl:(ZE rs).length=rs.length*2:=Zm (fun p:Int × Int=>[Value.int .u64 p.1,.int .u64 p.2]) 2 (fun _=>rfl) rs;have hmin:Nat.min rs.length N=rs.length:=Nat.min_eq_left hge;have hrun:=Wt (P:=prog) W1 110 110 3 148 2 (tb+1) 0 N N ⟨b,off,none⟩ rs.length c _ 148 (ZE rs) underlying110 (by kernel_rfl) R1 (by rw [hmin,hrl]) (fun j v hv=>by rw [addr_add];exact hcs j v hv) (by rw [size_madeCells,hrl];omega) (KR rs);have Da:=setRow_heap W1 (tb+1) (madeCells #[.int .u64 0,.int .u64 0] (N*2)) ((madeCells #[.int .u64 0,.int .u64 0] (N*2)).toList.take 0++ZE rs++(madeCells #[.int .u64 0,.int .u64 0] (N*2)).toList.drop (0+(ZE rs).length)).toArray 148 _ R1;have Xx:Below w.heap.size w (W1.setRow (tb+1) ((madeCells #[.int .u64 0,.int .u64 0] (N*2)).toList.take 0++ZE rs++(madeCells #[.int .u64 0,.int .u64 0] (N*2)).toList.drop (0+(ZE rs).length)).toArray):=below_setRow hB1 (by omega) _;have Rl:∀ k,k≠tb+1->(W1.setRow (tb+1) ((madeCells #[.int .u64 0,.int .u64 0] (N*2)).toList.take 0++ZE rs++(madeCells #[.int .u64 0,.int .u64 0] (N*2)).toList.drop (0+(ZE rs).length)).toArray).heap[k]?=W1.heap[k]?:=fun k hk=>setRow_other W1 (tb+1) k _ hk;rw [Fg rs N hge] at hrun Da Xx Rl;rw [hmin] at hrun;have uE:rs++List.replicate (N - rs.length) (0,0)=X8 rs:=by unfold X8;rw [<- rE.out,<- HN.out]
 rw [uE] at hrun Da Xx Rl;obtain ⟨W2,hW2⟩:=eE (W1.setRow (tb+1) (VY (X8 rs)));rw [<- hW2] at hrun Da Xx Rl;have R2:Z6 W2 (tb+1) 148 (VY (X8 rs)):=Da;have O2:Z6 W2 (tb+1+1) 110 #[.slice (some ⟨tb+1,0,none⟩) N N]:=(Rl _ (by omega)).trans O1;have T2:Z6 W2 tb 193 #[.pointer (ZT t)]:=(Rl _ (by omega)).trans T1;have hz2:W2.heap.size=tb+3:=by rw [hW2,<- hz1];simp [World.setRow]
 have rV:=hide hrun;have HZ2:=hide hz2;have Gf:=hide hcl;have mU:=hide uF;have jQ:=hide LH;have HS:=hide hs;have HP:=hide hP;have HT:=hide ht;have yP:=hide Xx;clear hrun Da Rl hcs R1 O1 T1 zP hB1 hz1 hmin uE hbb T0 hb0 hrl hs1 hz2 hcl uF LH hs hP ht Xx;refine (callsIn_wide (n:=6)).1 ?_;refine callsIn_of_wp_marks func208 rfl trivial ?_ rfl;simp only [ntmps208,List.size_toArray,List.length_cons,List.length_nil,Nat.reduceAdd,Nat.reduceSub,Array.replicate_succ,Array.replicate_zero,List.push_toArray,List.append_toArray,List.nil_append,List.cons_append];gi_wp2_with fail;rw [<- hw0,<- htb];have zf:=hide htb;have HZ0:=hide hz0;have HW1:=hide hW1;have HW2:=hide hW2;clear hw0 htb hz0 hW1 hW2;refine ⟨trivial,?_⟩;refine (callsIn_wide.2 (Sg.out _)).mono ?_;rintro e w1 ⟨rfl,rfl⟩;gi_wp2_with fail;rw [HZ0.out,HW1.out,rV.out];clear rV HW1 HW2 hmk;have o2:=O2.q0 rfl;have Ui:=hide (Z9.of_below yP.out HP.out);have HT2:=hide (HT.out.more yP.out);have yY:=hide (XZ HP.out yP.out);gi_wp2_with fail
 gi_loopw [21] (fun i wr=>∃ k:Nat,k<=N/\i=.int .i64 k/\(Z6 wr tb 193 #[.pointer (ZT t)]/\Z6 wr (tb+1+1) 110 #[.slice (some ⟨tb+1,0,none⟩) N N]/\Z6 wr (tb+1) 148 (VY (X8 rs)))/\Z9 P W2 wr/\Tp wr (More P w W2) t es)
  (fun i _=>N - (intOf i).toNat)
 case atStart=>exact ⟨0,Nat.zero_le _,rfl,⟨T2,O2,R2⟩,Z9.refl _ _,HT2.out⟩
 case round =>
  clear T2 O2 R2 o2;obtain ⟨k,hk,rfl,⟨Tr,Or,Rr⟩,hkr,htr⟩:=hrel;have or:=Or.q0 rfl
  by_cases hlt:k<N
  · have RZ:(k:Int)<(N:Int):=(by omega);obtain ⟨r,hr⟩:∃ r,(X8 rs)[k]?=some r:=⟨_,List.getElem?_eq_getElem (by rw [jQ.out];exact hlt)⟩;have hrc:=mU.out r (List.mem_of_getElem? hr);have hu:=Lv hrc;have HC:=hide (fun wk=>VN r.1 r.2 hu.1.1 hu.1.2 hu.2.1 hu.2.2 wk);rw [Nz hrc] at HC;obtain ⟨g0,g1⟩:=Ym hr;have Sj:=hide g0;have yT:=hide g1;have c0:=Rr.cell g0;have c1:=Rr.cell g1;obtain ⟨x1,x2⟩:=r;dsimp only at *;have hNP:¬ P (tb+1):=fun h=>by have:=HP.out _ h;have:=zf.out;omega
    have HRR:=hide Rr;have zh:=hide Tr;have Gh:=hide Or;have Cu:=hide hkr;have pW:=hide htr;have Jy:=hide hNP;clear hrc hu hr g0 g1 Rr Tr Or hkr htr hNP;have YD:prog.follows .mixedOrders=true:=(by kernel_rfl);gi_wp2_with fail;refine Jj 8 (S:=fun w'=>Z6 w' (tb+1+1) 110 #[.slice (some ⟨tb+1,0,none⟩) N N]/\Z6 w' (tb+1) 148 (VY (X8 rs))) YD ?_;have hS:Z6 wr.drew (tb+1+1) 110 #[.slice (some ⟨tb+1,0,none⟩) N N]/\Z6 wr.drew (tb+1) 148 (VY (X8 rs)):=⟨Gh.out.drew,HRR.out.drew⟩;refine' ZW (i:=0) rfl ?Xg hS ?VZ
    case Xg =>
     intro w' hSw;obtain ⟨s1,s2⟩:=hSw;have z1:=s1.q0 rfl;have z2:=s2.cell Sj.out;have z3:=s2.cell yT.out;go_simp;rfl
    simp only [Act.put,getElem_toArray,getElem_cons_zero,setIfInBounds_toArray,set_cons_zero,set_cons_succ];refine' ZW (i:=1) rfl ?Xh hS ?V3
    case Xh =>
     intro w' hSw;go_simp;rfl
    simp only [Act.put,Z4];refine' ZW (i:=2) rfl ?Xj hS ?V4
    case Xj =>
     intro w' hSw;obtain ⟨s1,s2⟩:=hSw;have z1:=s1.q0 rfl;have z2:=s2.cell Sj.out;have z3:=s2.cell yT.out;go_simp;rfl
    simp only [Act.put,Z4];refine' ZW (i:=3) rfl ?Wm hS ?Vg
    case Wm =>
     intro w' hSw;go_simp;rfl
    simp only [Act.put,Z4];refine' ZW (i:=4) rfl ?SN hS ?QH
    case SN =>
     intro w' hSw;obtain ⟨s1,s2⟩:=hSw;have z1:=s1.q0 rfl;have z2:=s2.cell Sj.out;have z3:=s2.cell yT.out;go_simp;rfl
    simp only [Act.put,Z4];refine' ZW (i:=5) rfl ?SQ hS ?QJ
    case SQ =>
     intro w' hSw;obtain ⟨s1,s2⟩:=hSw;have z1:=s1.q0 rfl;have z2:=s2.cell Sj.out;have z3:=s2.cell yT.out;go_simp;rfl
    simp only [Act.put,Z4];refine Zc (i:=6) (by kernel_rfl) rfl ?_;intro K hK;rw [if_pos (by rfl)];go_simp;refine ⟨trivial,?_⟩;refine (callsIn_wide.2 (HC.out _)).mono ?_;rintro e w3 ⟨rfl,hb3⟩;have x9:Z6 w3 (tb+1+1) 110 #[.slice (some ⟨tb+1,0,none⟩) N N]/\Z6 w3 (tb+1) 148 (VY (X8 rs)):=⟨Gh.out.drew.step hb3,HRR.out.drew.step hb3⟩;refine hK.out _ _ (fun _=>x9) ?_;clear hK K
    (try simp only [Act.put,Z4])
    refine' ZW (i:=7) rfl ?OY x9 ?LZ
    case OY =>
     intro w' hSw;obtain ⟨s1,s2⟩:=hSw;have z1:=s1.q0 rfl;have z2:=s2.cell Sj.out;have z3:=s2.cell yT.out;go_simp;rfl
    simp only [Act.put,Z4];have B3:=x9.2;have c0:=B3.cell Sj.out;have c1:=B3.cell yT.out;have f0:=B3.frozen (k*2);have f1:=B3.frozen (k*2+1);refine Zc (i:=8) (by kernel_rfl) rfl ?_;intro K hK;rw [if_pos (by rfl)];go_simp;refine hK.out _ _ (fun h=>absurd rfl h) ?_;clear hK K;refine Ye (by kernel_rfl) ?_ _;refine Vx.intro ?_
    have tq:Z6 ((w3.setCell ⟨tb+1,k*2,none⟩ (.int .u64 x1)).setCell ⟨tb+1,k*2+1,none⟩ (.int .u64 x2)) tb 193 #[.pointer (ZT t)]/\Z6 ((w3.setCell ⟨tb+1,k*2,none⟩ (.int .u64 x1)).setCell ⟨tb+1,k*2+1,none⟩ (.int .u64 x2)) (tb+1+1) 110 #[.slice (some ⟨tb+1,0,none⟩) N N]/\Z6 ((w3.setCell ⟨tb+1,k*2,none⟩ (.int .u64 x1)).setCell ⟨tb+1,k*2+1,none⟩ (.int .u64 x2)) (tb+1) 148 (VY (X8 rs)) :=
     ⟨((zh.out.drew.step hb3).far (p:=⟨tb+1,k*2,none⟩) (by dsimp only;omega) _).far (p:=⟨tb+1,k*2+1,none⟩) (by dsimp only;omega) _,(x9.1.far (p:=⟨tb+1,k*2,none⟩) (by dsimp only;omega) _).far (p:=⟨tb+1,k*2+1,none⟩) (by dsimp only;omega) _,(x9.2.same Sj.out).same yT.out⟩
    have hk5:Z9 P W2 ((w3.setCell ⟨tb+1,k*2,none⟩ (.int .u64 x1)).setCell ⟨tb+1,k*2+1,none⟩ (.int .u64 x2)) :=
     (Cu.out.trans ((Z9.drew _ _).trans (Z9.of_below hb3 fun j hj=>Nat.lt_of_lt_of_le (HP.out j hj) (Ui.out.trans Cu.out).size))).trans ((Z9.setCell Jy.out _ _ _).trans (Z9.setCell Jy.out _ _ _))
    have hmem:More P w W2 (tb+1):=.inr ⟨by have:=zf.out;omega,by have:=HZ2.out;omega⟩;have VB:Tp ((w3.setCell ⟨tb+1,k*2,none⟩ (.int .u64 x1)).setCell ⟨tb+1,k*2+1,none⟩ (.int .u64 x2)) (More P w W2) t es:=((pW.out.drew.step hb3).set hmem _ _).set hmem _ _;have Xt:=hide (And.intro tq (And.intro hk5 VB));clear tq hk5 VB x9 hS hb3 B3 c0 c1 f0 f1 or;gi_wp2;go_roundw
    case rel=>exact ⟨k+1,by omega,by go_num,Xt.out⟩
    case measure=>simp [intOf];omega
  · obtain rfl:N=k:=(by omega);obtain ⟨g,hg⟩:=eE wr.heap.size;have Mc:=hide (fun wk=>IE (N:Int) wk);have zh:=hide Tr;have Gh:=hide Or;have HRR:=hide Rr;have Cu:=hide hkr;have pW:=hide htr;have ru:=hide hg;clear Tr Or Rr hkr htr or;gi_wp2_with fail;refine ⟨trivial,?_⟩;refine (callsIn_wide.2 (Mc.out _)).mono ?_;rintro e w3 ⟨rfl,rfl⟩;obtain ⟨W4,Hw⟩:∃ W4,wr.alloc (.cells #[.int .i64 (N:Int)] 3)=W4:=⟨_,rfl⟩;rw [<- hg,Hw];clear hg;have hb4:Below wr.heap.size wr W4:=(by rw [<- Hw];exact bA);have G4:Z6 W4 g 3 #[.int .i64 ((2 ^ L:Nat):Int)]:=(by rw [<- Hw,ru.out,<- HN.out];exact Z6.new _ _ _);have T4:=zh.out.step hb4;have O4:=Gh.out.step hb4;have R4:=HRR.out.step hb4;have lT:W4.heap.size=g+1:=(by rw [<- Hw,ru.out];simp);have hgt:tb+3<=g:=(by have:=Cu.out.size;have:=HZ2.out;have:=ru.out;omega);have Hu:∀ k,P k->k<tb:=fun k hk=>by have:=HP.out k hk;have:=zf.out;omega
    have TK:∀ k,Also P g k->k<W4.heap.size:=fun k hk=>by
     rcases hk with hk|hk
     · have:=Hu k hk;omega
     · omega
    have hQ:∀ k,Also (More P w W2) g k->k<W4.heap.size:=fun k hk=>by
     rcases hk with hk|hk
     · have:=yY.out k hk;have:=HZ2.out;omega
     · omega
    have Qc:Tp W4 (Also (More P w W2) g) t es:=(pW.out.add (R:=Also (More P w W2) g) fun j hj=>by
     rcases hj with hj|hj
     · exact .inl hj
     · exact .inr (by have:=ru.out;omega)).step hb4
    have hmb:∀ u,t=some u->u.2<W4.heap.size:=Qc.BR;have hM:∀ k,tb<=k->k<tb+3->Also (More P w W2) g k:=fun k h1 h2=>.inl (.inr ⟨by have:=zf.out;omega,by have:=HZ2.out;omega⟩);have FY:=hide (hM tb (by omega) (by omega));have jM:=hide (hM (tb+1) (by omega) (by omega));have Jw:=hide (hM (tb+1+1) (by omega) (by omega));have pI:Hid (Also (More P w W2) g g):=.inr rfl
    have fJ:Hid (∀ k,Also P g k->Also (More P w W2) g k):=fun k hk=>by
     rcases hk with hk|hk
     · exact .inl (.inl hk)
     · exact .inr hk
    have TV:Hid (¬ Also P g (tb+1)):=fun h=>by
     rcases h with h|h
     · have:=Hu _ h;omega
     · omega
    have eU:=hide (Ui.out.trans (Cu.out.trans (Z9.of_below hb4 fun j hj=>by have:=Hu j hj;have:=ru.out;omega)));have Sd:=hide TK;have HQ:=hide hQ;have r9:=hide Qc;have Md:=hide hmb;have mF:=hide hgt;have nG:=hide lT;have fM:=hide Hu;have eB:=hide G4;clear hb4 lT hgt Hu TK hQ Qc hmb hM Hw Mc G4 Cu pW zh Gh HRR hlt hk;gi_wp2_with fail
    refine wpIn_rangeFunc_ownH rfl (by omega) (gf:=310) (lb:=#[.pointer (some ⟨g,0,none⟩)]) rfl trivial (enters_of func310 (by kernel_rfl) rfl)
     (KH 5 (by omega) g (Also P g) L hL W4 Sd.out (.inr rfl) eB.out) Z9.trans (fun W l o o' hl _ _ _=>Z9.putObj o' (fun h=>by have:=Sd.out _ h;omega) W) (Below.refl _ _) (fun _=>rfl)
     (fun pre W=>(((Z6 W tb 193 #[.pointer (ZT t)]/\Z6 W (tb+1+1) 110 #[.slice (some ⟨tb+1,0,none⟩) N N])/\Z6 W (tb+1) 148 (VY (K8 (X8 rs) (WU pre))))/\(Z9 (Also P g) W4 W/\Tp W (Also (More P w W2) g) t (es++YT (WU pre)))))
     (fun _ _ _=>False)
     (OwnFrom.and (OwnFrom.and (OwnFrom.and (Own.from (Y8 _ _ _) _) (Own.from (Y8 _ _ _) _)) (Own.from (Y8 _ _ _) _)) (OwnFrom.and (Xz (fun k hk=>⟨Sd.out k hk,Sd.out k hk⟩)) (YP _ (Also (More P w W2) g) t (fun pre:List (Dt L)=>es++YT (WU pre)) Md.out)))
     (fun _ _ _ _ _ hs _ _=>hs)
     ⟨⟨⟨T4,O4⟩,R4⟩,Z9.refl _ _,by simpa [YT,WU] using r9.out⟩
     (fun x a' W=>∃ Bx es',g<Bx/\Tp W (Also (Also (More P w W2) g) Bx) t es'/\Z6 W Bx 326 #[.int .i64 (x.1.1:Int),.int .i64 (x.1.2:Int)]/\a'={ tmps:=#[.pointer (ZT t),.slice (some ⟨b,off,none⟩) rs.length c,.pointer (some ⟨tb,0,none⟩),undef,.slice none 0 0,.int .i64 (N:Int),.pointer (some ⟨tb+1+1,0,none⟩),u7,.pointer (some ⟨Bx,0,none⟩),.slice (some ⟨b,off,none⟩) rs.length c,.int .i64 (rs.length:Int),.int .i64 (N:Int),.int .i64 (N:Int),.bool false,.int .i64 (N:Int),.slice (some ⟨tb+1,0,none⟩) N N,.slice (some ⟨tb+1,0,none⟩) N N,.slice (some ⟨b,off,none⟩) rs.length c,.int .i64 (rs.length:Int),.slice (some ⟨tb+1,0,none⟩) N N,.int .i64 (N:Int),.int .i64 (N:Int),.bool false,u23,u24,u25,u26,u27,u28,u29,u30,u31,u32,.int .i64 (N:Int),.func (.func 310) #[] #[.pointer (some ⟨g,0,none⟩)],.agg #[.int .i64 (x.1.1:Int),.int .i64 (x.1.2:Int)],undef,undef,undef,undef,undef,undef,undef,undef,undef,undef,undef,undef,undef,undef,undef,undef,undef,undef,undef,undef,undef],defers:=[] })
     (fun x a' _ X Y row hs hg hr=>by obtain ⟨Bx,es',h1,hT,h2,h3⟩:=hs;exact ⟨Bx,es',h1,YP _ _ t (fun _:Unit=>es') Md.out () X Y row hT hg hr,Y8 Bx 326 (fun (_:Unit)=>#[.int .i64 (x.1.1:Int),.int .i64 (x.1.2:Int)]) () X Y row h2 hg (fun r e=>(hr r e).2),h3⟩)
     ?assign ?body ?done ?stop
    case assign =>
     rintro l pre x W K ⟨⟨⟨T1,O1⟩,R1⟩,hB1,hT1⟩ hK;have iM:W4.heap.size<=W.heap.size:=hB1.size;unfold G7;gi_wp2;have CW:∀ k,Also P g k->k<W.heap.size:=fun k hk=>Nat.lt_of_lt_of_le (Sd.out k hk) iM;refine hK _ _ ((KeepsOthers.alloc _ _).from _) (Z9.of_below (bA) CW) ⟨⟨⟨T1.alloc _,O1.alloc _⟩,R1.alloc _⟩,hB1.trans (Z9.of_below (bA) CW),hT1.step (bA)⟩ ⟨W.heap.size,es++YT (WU pre),by have:=nG.out;omega,?_,Z6.new _ _ _,rfl⟩;refine (hT1.add (R:=Also (Also (More P w W2) g) W.heap.size) fun k hk=>?_).step (bA);rcases hk with hk|hk
     · exact .inl hk
     · exact .inr (by omega)
    case body =>
     rintro l pre x a' W hl' _ ⟨⟨⟨T1,O1⟩,R1⟩,hB1,hT1⟩ ⟨Bx,es',hBx,hTx,bX,rfl⟩ hpl;have hszW:W4.heap.size<=W.heap.size:=hB1.size;have Eb:=hT1.with hTx
     clear hT1 hTx;have YD:prog.follows .mixedOrders=true:=(by kernel_rfl);obtain ⟨⟨lo,hi⟩,hin1,hin2,Ee⟩:=x;dsimp only at *;have hsl:(K8 (X8 rs) (WU pre)).length=N:=(by rw [(Tz _ _).length_eq];exact jQ.out);have uo:lo<N:=(by rw [HN.out];exact hin1);have uj:hi<N:=(by rw [HN.out];exact hin2);obtain ⟨xr,uM⟩:∃ xr,(K8 (X8 rs) (WU pre))[lo]?=some xr:=⟨_,List.getElem?_eq_getElem (by rw [hsl];exact uo)⟩;obtain ⟨yr,vB⟩:∃ yr,(K8 (X8 rs) (WU pre))[hi]?=some yr:=⟨_,List.getElem?_eq_getElem (by rw [hsl];exact uj)⟩;have hxc:=mU.out xr ((Tz _ _).mem_iff.1 (List.mem_of_getElem? uM));have vw:=mU.out yr ((Tz _ _).mem_iff.1 (List.mem_of_getElem? vB));have hle:t=none\/(es++YT (WU pre)).length<=1000000:=by
      rcases hl with h|h
      · exact .inl h
      · refine .inr ?_;rw [List.length_append,YT,List.length_map,WU,List.length_map];omega
     have iX:(lo:Int)<(N:Int):=(by omega);have iT:(hi:Int)<(N:Int):=(by omega);have Gg:=hide (Jh (X8 rs) (WU pre) (lo,hi));have fP:=hide (Px (WU pre) (lo,hi));have jE:Hid (WU (pre++[⟨(lo,hi),hin1,hin2,Ee⟩])=WU pre++[(lo,hi)]):=Sq _ _
     have sU:∀ k,Also (Also (More P w W2) g) Bx k->k<W.heap.size:=fun k hk=>by
      rcases hk with hk|hk
      · exact Nat.lt_of_lt_of_le (HQ.out k hk) hszW
      · subst hk;exact bX.lt
     have Ww:=hide (Nr (Also (Also (More P w W2) g) Bx) t (es++YT (WU pre)) 3 (lo:Int) (hi:Int) W sU Eb hle (by unfold Zj;omega))
     have xQ:Hid (∀ wk,Z6 wk (tb+1) 148 (VY (K8 (X8 rs) (WU pre)))->Calls prog 279 #[.pointer (some ⟨tb+1,lo*2,none⟩),.pointer (some ⟨tb+1,hi*2,none⟩)] wk fun e w'=>e=.returned (.tuple #[])/\Z6 w' (tb+1) 148 (VY (K8 (X8 rs) (WU pre++[(lo,hi)])))/\wk.grownBy w' (some (tb+1))):=hide fun wk hB=>by
      refine (Qp (tb+1) 148 _ (lo*2) (hi*2) xr yr hxc vw wk hB (Ym uM).1 (Ym uM).2 (Ym vB).1 (Ym vB).2 (by omega)).mono ?_;rintro e w' ⟨rfl,hq⟩;rw [Gg.out];exact ⟨rfl,D8 uM vB Ee hq⟩
     have t1:=T1.q0 rfl;have x0:=bX.q0 rfl;have x1:=bX.q1 rfl;have HT1:=hide T1;have Cx:=hide O1;have HR1:=hide R1;have FU:=hide bX;have HB1:=hide hB1;have l8:=hide hBx;have Sg:=hide hszW;clear T1 O1 R1 bX hB1 Eb uM vB hxc vw hle sU hsl hBx hszW uo uj hpl Gg;gi_wp2_with fail;refine ⟨trivial,?_⟩;refine (CallsIn.inRound l (callsIn_wide.2 Ww.out)).mono ?_;rintro e wn ⟨rfl,hkk,hmm,htn⟩;have Tn:=HT1.out.kept hkk (.inl FY.out);have On:=Cx.out.kept hkk (.inl Jw.out);have Rn:=HR1.out.kept hkk (.inl jM.out);have Xn:=FU.out.kept hkk (.inr rfl);have gD:=hide Tn;have fU:=hide Rn;have HKK:=hide hkk;have fq:=hide hmm;have nk:=hide htn;clear t1 x0 x1 Tn Rn hkk hmm htn Ww;gi_wp2_with fail;refine YO 1000 (S:=fun w'=>Z6 w' (tb+1+1) 110 #[.slice (some ⟨tb+1,0,none⟩) N N]/\Z6 w' Bx 326 #[.int .i64 (lo:Int),.int .i64 (hi:Int)]) YD ?_;have hS:Z6 wn.drew (tb+1+1) 110 #[.slice (some ⟨tb+1,0,none⟩) N N]/\Z6 wn.drew Bx 326 #[.int .i64 (lo:Int),.int .i64 (hi:Int)]:=⟨On.drew,Xn.drew⟩;refine' ZW (i:=0) rfl ?Aj hS ?vM
     case Aj =>
      intro w' hSw;obtain ⟨s1,s2⟩:=hSw;have z1:=s1.q0 rfl;have z2:=s2.q0 rfl;have z3:=s2.q1 rfl;go_simp;rfl
     simp only [Act.put,getElem_toArray,getElem_cons_zero,setIfInBounds_toArray,set_cons_zero,set_cons_succ];refine' ZW (i:=1) rfl ?Aw hS ?vY
     case Aw =>
      intro w' hSw;go_simp;rfl
     simp only [Act.put,Z4];refine' ZW (i:=2) rfl ?AJ hS ?wz
     case AJ =>
      intro w' hSw;obtain ⟨s1,s2⟩:=hSw;have z1:=s1.q0 rfl;have z2:=s2.q0 rfl;have z3:=s2.q1 rfl;go_simp;rfl
     simp only [Act.put,Z4];refine' ZW (i:=3) rfl ?AU hS ?wF
     case AU =>
      intro w' hSw;go_simp;rfl
     simp only [Act.put,Z4];refine' ZW (i:=4) rfl ?AX hS ?wH
     case AX =>
      intro w' hSw;obtain ⟨s1,s2⟩:=hSw;have z1:=s1.q0 rfl;have z2:=s2.q0 rfl;have z3:=s2.q1 rfl;go_simp;rfl
     simp only [Act.put,Z4];refine' ZW (i:=5) rfl ?Bc hS ?wM
     case Bc =>
      intro w' hSw;go_simp;rfl
     simp only [Act.put,Z4];refine' ZW (i:=6) rfl ?Bj hS ?wR
     case Bj =>
      intro w' hSw;obtain ⟨s1,s2⟩:=hSw;have z1:=s1.q0 rfl;have z2:=s2.q0 rfl;have z3:=s2.q1 rfl;go_simp;rfl
     simp only [Act.put,Z4];refine' ZW (i:=7) rfl ?Bo hS ?wT
     case Bo =>
      intro w' hSw;go_simp;rfl
     simp only [Act.put,Z4];refine Zc (i:=8) (by kernel_rfl) rfl ?_;intro K hK;rw [if_pos (by rfl)];go_simp;refine ⟨trivial,?_⟩;refine (CallsIn.inRound l (callsIn_wide.2 (xQ.out _ fU.out.drew))).mono ?_;rintro e w5 ⟨rfl,kK,hg5⟩;have hS5:Z6 w5 (tb+1+1) 110 #[.slice (some ⟨tb+1,0,none⟩) N N]/\Z6 w5 Bx 326 #[.int .i64 (lo:Int),.int .i64 (hi:Int)]:=⟨On.drew.grown hg5 (by intro h;injection h;omega),Xn.drew.grown hg5 (by intro h;cases h;have:=l8.out;have:=mF.out;omega)⟩;refine hK.out _ _ (fun _=>hS5) ?_;clear hK K;refine Ye (by kernel_rfl) ?_ _;have kP:Z6 w5 tb 193 #[.pointer (ZT t)]:=gD.out.drew.grown hg5 (by intro h;injection h;omega);have hk5:Z9 (Also P g) W w5:=(HKK.out.mono fun j hj=>.inl (fJ.out j hj)).trans ((Z9.drew _ _).trans ⟨hg5.os,hg5.tape,hg5.output,hg5.size,fun j hj=>hg5.block j (Nat.lt_of_lt_of_le (Sd.out j hj) (Nat.le_trans Sg.out HKK.out.size)) (fun h=>TV.out (by cases h;exact hj))⟩);have kT:KeepsFrom W4.heap.size W w5:=(fq.out.from Md.out).trans ((KeepsFrom.of_below (ZV (Below.refl _ _))).trans ⟨hg5.size,fun j o hj hi ho=>(hg5.block j (Array.getElem?_eq_some_iff.1 hi).1 (fun h=>by cases h;have:=nG.out;have:=mF.out;omega)).trans hi⟩);have VB:Tp w5 (Also (More P w W2) g) t (es++YT (WU pre++[(lo,hi)])):=by
      rw [fP.out,<- List.append_assoc];exact ((nk.out.drew.kept hg5 (.inl jM.out)).mono fun j hj=>.inl hj)
     have yS:=hide (show KeepsFrom W4.heap.size W w5/\Z9 (Also P g) W w5/\(((Z6 w5 tb 193 #[.pointer (ZT t)]/\Z6 w5 (tb+1+1) 110 #[.slice (some ⟨tb+1,0,none⟩) N N])/\Z6 w5 (tb+1) 148 (VY (K8 (X8 rs) (WU (pre++[⟨(lo,hi),hin1,hin2,Ee⟩])))))/\(Z9 (Also P g) W4 w5/\Tp w5 (Also (More P w W2) g) t (es++YT (WU (pre++[⟨(lo,hi),hin1,hin2,Ee⟩]))))) from ⟨kT,hk5,⟨⟨kP,hS5.1⟩,by rw [jE.out];exact kK⟩,HB1.out.trans hk5,by rw [jE.out];exact VB⟩);clear kT hk5 kP hS5 kK VB hS hg5 On Xn;gi_wp2;exact yS.out
    case done =>
     rintro D zs W hD hzs ⟨⟨⟨T1,O1⟩,R1⟩,hB1,hT1⟩ hK;have o1:=O1.q0 rfl;rw [hzs] at R1 hT1;have hni:=Np L rs Gf.out (by rw [<- HN.out];exact hge);have lu:X8 rs=rs++List.replicate (2 ^ L - rs.length) (0,0):=(by unfold X8;rw [<- rE.out]);have hsr:K8 (X8 rs) (Y5 L)=WH ZC rs++List.replicate (2 ^ L - rs.length) (0,0):=(by unfold K8;rw [lu];exact hni);rw [hsr] at R1
     have kM:Sl W W.heap.size (some ⟨tb+1,0,none⟩) (ZE (WH ZC rs)):=PO R1 fun j u hu=>by
      unfold ZE at hu;unfold VY ZE;rw [List.flatMap_append,List.getElem?_toArray,List.getElem?_append_left (List.getElem?_eq_some_iff.1 hu).1];exact hu
     have hkk:Z9 P w W:=eU.out.trans (hB1.mono fun j hj=>.inl hj);have HSL:=hide kM;have HKK:=hide hkk;have HT1:=hide hT1;clear T1 O1 R1 hB1 hT1 hni lu hsr kM hkk;have hlen:(rs.length:Int)<=(N:Int):=(by omega);gi_wp2;refine ⟨by simp,.inl ⟨_,_,rfl,run_takeDeferred hK,?_⟩⟩;have iI:¬ P D:=fun h=>by have:=Sd.out D (.inl h);omega
     have iJ:D≠tb+1:=(by have:=nG.out;have:=mF.out;omega);have oh:¬ P (tb+1):=fun h=>TV.out (.inl h);refine ⟨_,results_tmp rfl _ _ _,tb+1,rfl,HKK.out.trans (Z9.putObj _ iI _),?_,oh,?_⟩
     · exact (HT1.out.mono (R:=P) fun k h=>.inl (.inl h)).putObj (fun u hu=>Nat.lt_of_lt_of_le (Md.out u hu) hD) hK rfl _
     · refine (HSL.out.at_ fun k hk _ x hx hxb=>?_).more (by simp);cases hx;subst hxb;exact World.putObj_heap_other (Ne.symm iJ)
    case stop =>
     rintro D c pre W _ _ h _;exact h.elim
end
section
open Go.RowKit
section
variable {F:Fence}{n:Nat}{P:Program}{ops:Array Oper}{Q:Exit->Act->World->Prop}{md:Region.Mode}{S:World->Prop}
def sI(md:Region.Mode)(ops:Array Oper)(i:Nat):List Bool:=ops.toList.foldl (fun acc o=>acc++[o.after.toList.any fun e=>Region.binds md e && (e.on == i || acc.getD e.on false)]) []
def NZ(md:Region.Mode)(ops:Array Oper)(sk i:Nat)(listed:Array Bool)(dep:List Bool):Bool :=
 ((List.range ops.size).all fun j=>!dep.getD j false || (ops[j]?).any fun o=>o.after.toList.any fun e=>Region.binds md e && (e.on == i || dep.getD e.on false)) &&
 ((List.range ops.size).all fun j=>decide (j<sk) || dep.getD j false) && ((List.range dep.length).all fun k=>!listed.getD k false || !dep.getD k false)
structure Mi(md:Region.Mode)(ops:Array Oper)(sk i:Nat)(listed:Array Bool)(dep:List Bool):Prop where
 why:∀ (j:Nat) (o:Oper),ops[j]?=some o->dep.getD j false=true->∃ e∈o.after,Region.binds md e=true/\(e.on=i\/dep.getD e.on false=true)
 far:∀ (j:Nat) (o:Oper),ops[j]?=some o->sk<=j->dep.getD j false=true
 un:∀ k,listed.getD k false=true->dep.getD k false=false
theorem Qa{sk i:Nat}{listed:Array Bool}{dep:List Bool}(h:NZ md ops sk i listed dep=true):Mi md ops sk i listed dep:=by
 unfold NZ at h;rw [Bool.and_eq_true,Bool.and_eq_true] at h;obtain ⟨⟨h1,h2⟩,h3⟩:=h;refine ⟨fun j o ho hd=>?_,fun j o ho hj=>?_,fun k hk=>?_⟩
 · have h:=List.all_eq_true.1 h1 j (List.mem_range.2 (Array.getElem?_eq_some_iff.1 ho).1);rw [hd,ho] at h;simp only [Bool.not_true,Bool.false_or,Option.any_some] at h;obtain ⟨e,he,hb⟩:=List.any_eq_true.1 h;rw [Bool.and_eq_true,Bool.or_eq_true,beq_iff_eq] at hb;exact ⟨e,by simpa using he,hb.1,hb.2⟩
 · have h:=List.all_eq_true.1 h2 j (List.mem_range.2 (Array.getElem?_eq_some_iff.1 ho).1);rw [Bool.or_eq_true,decide_eq_true_eq] at h;rcases h with h|h
   · omega
   · exact h
 · by_cases hl:k<dep.length
   · have h:=List.all_eq_true.1 h3 k (List.mem_range.2 hl);rw [hk] at h;simpa using h
   · rw [List.getD_eq_getElem?_getD,List.getElem?_eq_none (by omega)];rfl
def XR(F:Fence)(n:Nat)(P:Program)(md:Region.Mode)(ops:Array Oper)(Q:Exit->Act->World->Prop)(S:World->Prop)(sk:Nat):Nat->Array Bool->Act->World->Prop
 | 0,listed,a,w=>Region.ready md ops listed=[]/\Q .normal a w
 | fuel+1,listed,a,w =>
   (Region.ready md ops listed=[]->Q .normal a w) /\
   ∀ i∈Region.ready md ops listed,wpOpIn F n P ops Q i (fun a' w'=>(i<sk->S w')/\XR F n P md ops Q S sk fuel (listed.setIfInBounds i true) a' w') a w
theorem Xp{sk:Nat}:∀ (fuel:Nat) (listed:Array Bool) (a:Act) (w:World),XR F n P md ops Q S sk fuel listed a w->wpAnyIn F n P md ops Q fuel listed a w
 | 0,_,_,_,h=>h
 | fuel+1,_,_,_,h=>⟨h.1,fun i hi=>wpOpIn_mono (fun a' w' h'=>Xp fuel _ a' w' h'.2) (h.2 i hi)⟩
theorem QS {i sk:Nat} {oi:Oper} {v:Value} (hnd:XC ops) (hi:ops[i]?=some oi) (hsel:∀ (j:Nat) (o:Oper) cs b,ops[j]?=some o->o.op≠.select cs b)
 (hQ:∀ c a w,Q (.panic c) (a.put oi.dst v) w->Q (.panic c) a w) (dep:List Bool) :
 ∀ (fuel:Nat) (listed:Array Bool) (a:Act) (w:World),
   (∀ j oj,ops[j]?=some oj->j≠i->listed.getD j true=false->(∀ e∈oj.after,Region.binds md e=true->e.on≠i)->oi.apart ops oj=true) ->
   i∈Region.ready md ops listed->Mi md ops sk i listed dep->ZA P ops S oi v a->S w ->
   XR F n P md ops Q S sk fuel (listed.setIfInBounds i true) (a.put oi.dst v) w->XR F n P md ops Q S sk (fuel+1) listed a w:=by
 intro fuel
 induction fuel with
 | zero =>
   intro listed a w _ hr _ hy hS H;refine ⟨fun h=>(by rw [h] at hr;cases hr),fun j hj=>?_⟩
   by_cases hji:j=i
   · subst hji;exact hy.wpOpIn hnd hi hS ⟨fun _=>hS,H⟩
   · have:=ready_mono hj hji;rw [H.1] at this;cases this
 | succ fuel ih =>
   intro listed a w hfree hr hwt hy hS H;refine ⟨fun h=>(by rw [h] at hr;cases hr),fun j hj=>?_⟩
   by_cases hji:j=i
   · subst hji;exact hy.wpOpIn hnd hi hS ⟨fun _=>hS,H⟩
   · have h1:=H.2 j (ready_mono hj hji);obtain ⟨hjun,oj,hoj,hall⟩:=mem_ready.1 hj
     have hnot:∀ e∈oj.after,Region.binds md e=true->e.on≠i:=fun e he hb heq=>by
      have h1:=hall e he hb;have h0:=(mem_ready.1 hr).1;rw [heq] at h1;rcases Nat.lt_or_ge i listed.size with h'|h'
      · simp [h'] at h0 h1;rw [h0] at h1;cases h1
      · simp [Array.getElem?_eq_none h'] at h1
     have h2:=UA hnd hoj (hfree j oj hoj hji hjun hnot) (fun cs b=>hsel i oi cs b hi) (fun cs b=>hsel j oj cs b hoj) hQ hy h1
     have hfree':∀ k ok,ops[k]?=some ok->k≠i->(listed.setIfInBounds j true).getD k true=false ->
      (∀ e∈ok.after,Region.binds md e=true->e.on≠i)->oi.apart ops ok=true:=fun k ok hk hki hun hno=>by
      refine hfree k ok hk hki ?_ hno
      by_cases hjk:j=k
      · subst hjk;exact hjun
      · rw [getD_set_ne true hjk] at hun;exact hun
     have hdj:dep.getD j false=false:=by
      cases hd:dep.getD j false with
      | false=>rfl
      | true =>
        obtain ⟨e,he,hb,hon|hon⟩:=hwt.why j oj hoj hd
        · exact absurd hon (hnot e he hb)
        · have h1:=hwt.un e.on (by simpa using hall e he hb);rw [h1] at hon;cases hon
     have hjs:j<sk:=Classical.byContradiction fun e=>by
      have h1:=hwt.far j oj hoj (by omega);rw [hdj] at h1;cases h1
     have oP:Mi md ops sk i (listed.setIfInBounds j true) dep:=⟨hwt.why,hwt.far,fun k hk=>by
      by_cases hjk:j=k
      · subst hjk;exact hdj
      · rw [getD_set_ne false hjk] at hk;exact hwt.un k hk⟩
     refine wpOpIn_mono (fun a' w' h3=>⟨h3.2.1,ih (listed.setIfInBounds j true) a' w' hfree' (ready_mono hr (Ne.symm hji)) oP h3.1 (h3.2.1 hjs) ?_⟩) h2;rw [Array.setIfInBounds_comm _ _ hji];exact h3.2.2
theorem Xo {i sk:Nat} {oi:Oper} {v:Value} {fuel:Nat} {listed:Array Bool} {a:Act} {w:World} (hnd:XC ops) (hi:ops[i]?=some oi)
 (hs:Region.noSelect ops=true) (hf:Region.free md ops listed i=true) (hr:(Region.ready md ops listed).contains i=true)
 (hQ:∀ c a w,Q (.panic c) (a.put oi.dst v) w->Q (.panic c) a w) (hsk:NZ md ops sk i listed (sI md ops i)=true) (hy:ZA P ops S oi v a) (hS:S w)
 (h:XR F n P md ops Q S sk fuel (listed.setIfInBounds i true) (a.put oi.dst v) w):XR F n P md ops Q S sk (fuel+1) listed a w :=
 QS hnd hi (Region.noSelect_spec hs) hQ (sI md ops i) fuel listed a w (Region.free_spec hi hf) (by simpa using hr) (Qa hsk) hy hS h
theorem Pq {i sk:Nat} {o:Oper} {fuel:Nat} {listed:Array Bool} {a:Act} {w:World} (hr:Region.ready md ops listed=[i]) (ho:ops[i]?=some o)
 (h:∀ K:Act->World->Prop,Shut (∀ a w,(i<sk->S w)->XR F n P md ops Q S sk fuel (listed.setIfInBounds i true) a w->K a w)->if Region.wanted o (yielded ops a.tmps)=true then Oper.wpIn F n P o a w K Q else (∀ f,o.about P w a.eval=some f->F.fn f)/\K (a.put o.dst undef) w) :
 XR F n P md ops Q S sk (fuel+1) listed a w :=
 ⟨fun h0=>(by rw [hr] at h0;cases h0),fun j hj=>by
   rw [hr] at hj;obtain rfl:j=i:=by simpa using hj
   exact wpOpIn_step ho (fun K' hK=>h K' (fun a w hS hW=>hK a w ⟨hS,hW⟩))⟩
theorem CQ{sk:Nat}{listed:Array Bool}{a:Act}{w:World}(hr:Region.ready md ops listed=[])(h:Q .normal a w):
 ∀ fuel,XR F n P md ops Q S sk fuel listed a w
 | 0=>⟨hr,h⟩
 | _+1=>⟨fun _=>h,by rw [hr];simp⟩
theorem Ck (sk:Nat) {id:Nat} {a:Act} {w:World} (hm:P.follows .mixedOrders=true)
 (h:XR F n P .any ops Q S sk ops.size (Array.replicate ops.size false) a w.drew):(Code.region id ops true).wpIn F n P Q a w :=
 wpIn_region_any hm (Xp _ _ _ _ h)
theorem L8 (sk:Nat) {id:Nat} {a:Act} {w:World} (hm:P.follows .mixedOrders=true)
 (h:XR F n P .any ops (Vx (Q .normal)) S sk ops.size (Array.replicate ops.size false) a w.drew):(Code.region id ops true).wpIn F n P Q a w:=by
 refine wpIn_mono (Ck sk (Q:=Vx (Q .normal)) hm h) ?_;intro e a w he;cases e with
 | normal=>exact he
 | _=>exact he.elim
end
end
end Go.Proofs.YthnenedoblncjaaGreatDoor