/- ScrPts Exactly -/
import Derived.BigQuiet
import Derived.ChangeAlike
import Derived.Deep.QuietTactic
import Derived.Laws.BytesArg
import Derived.Test.YthnenedoblncjaaGreatDoorPkN17
import Derived.Test.YthnenedoblncjaaGreatDoorPkN20
import Derived.Test.YthnenedoblncjaaGreatDoorPkN32
set_option maxRecDepth 1000000
set_option maxHeartbeats 8000000
namespace Go.Proofs.YthnenedoblncjaaGreatDoor
open Go.Proofs.Tryz
open List (getElem_toArray getElem_cons_succ getElem_cons_zero setIfInBounds_toArray set_cons_zero set_cons_succ)
section
open Go.RowKit Go.Shelf
attribute [local go_sem] Oper.semAt_some
theorem Ot {F:Fence} {n:Nat} {P:Program} {o:Oper} {a:Act} {K:Act->World->Prop} {Q:Exit->Act->World->Prop} {w:World} (s x:Operand) (t:TypeId)
 (hop:o.op=Op.call { callee:=Callee.builtin Builtin.append,args:=#[s,x],argTypes:=#[t,t] }) (v xv:Value) (hs:a.eval s=v) (hx:a.eval x=xv) {v':Value} {w':World}
 (hrun:(Builtin.append_ #[t,t] o.type #[v,xv]).run P w=.ok v' w') (h:K (a.put o.dst v') w'):Oper.wpIn F n P o a w K Q:=by
 unfold Oper.wpIn;refine ⟨?_,?_⟩
 · simp [Oper.about,hop,resolve,Target.leads,Sem.run_pure]
 · rw [Oper.semAt_plain F _ _ (by rw [hop];intro c hc';cases hc')];simp [execOp,hop,resolve,invoke,builtin,hs,hx,hrun,Result.andThen];exact h
theorem Tj {fn:Func} {p q:Tmp} {t1 t2:TypeId} {tmps:Array Value} {w:World} {g k:Nat} {v u:Value} (h:fn.results=#[.cell p t1,.cell q t2])
 (h1:∀ w,(isAgg t1).run prog w=.ok false w) (h2:∀ w,(isAgg t2).run prog w=.ok false w)
 (hp:tmps.getD p undef=.pointer (some ⟨g,0,none⟩)) (hq:tmps.getD q undef=.pointer (some ⟨k,0,none⟩)) (hb:w.cell? ⟨g,0,none⟩=some v) (hk:w.cell? ⟨k,0,none⟩=some u) :
 (results fn tmps).run prog w=.ok (.tuple #[v,u]) w:=by
 have hp':tmps[p]?.getD undef=.pointer (some ⟨g,0,none⟩):=by rw [<- hp];simp
 have hq':tmps[q]?.getD undef=.pointer (some ⟨k,0,none⟩):=by rw [<- hq];simp
 simp [results,h,hp',hq',go_sem,hb,hk,h1,h2]
theorem KN(ps:List Pt)(p:Pt):Y7 (ps++[p])=Y7 ps++[.int .i64 p.1,.int .i64 p.2]:=by
 simp [Y7]
structure Ll(w:World)(l:List (List UInt8))(b2 b3 b4 lo:Nat)(R:Nat->Prop)(pre:List Nat)(X:World):Prop where
 box:∃ v ps,Xl (Ws l) pre=some ps/\(ps=[]->v=.slice none 0 0)/\Z6 X b4 36 #[v]/\X.ownsRow lo 41 2 v ps.length (Y7 ps)/\∀ b,v.ownBlock=some b->¬ R b
 r2:Z6 X b2 36 #[.slice none 0 0]
 r3:Z6 X b3 4 #[.bool false]
 nR:¬ R b2/\¬ R b3/\¬ R b4
 bl:Below w.heap.size w X
structure Qg(w:World)(l:List (List UInt8))(b2 b3:Nat)(R:Nat->Prop)(X:World):Prop where
 bad:Zb l=none
 r2:Z6 X b2 36 #[.slice none 0 0]
 r3:Z6 X b3 4 #[.bool false]
 nR:¬ R b2/\¬ R b3
 bl:Below w.heap.size w X
theorem Tf{X Y:World}{base:Nat}{e:TypeId}{size:Nat}{v:Value}{k B:Nat}{xs:List Value}{R Z:Nat->Prop}(h:X.ownsRow base e size v k xs)(hst:Zy B Z R X Y)(hz:∀ b,v.ownBlock=some b->¬ Z b)(hn:∀ b,v.ownBlock=some b->¬ R b):Y.ownsRow base e size v k xs:=by
 refine ⟨h.1,?_⟩;rcases h.2 with h0|⟨g',cap,cur,hv,hb1,hh,r⟩
 · exact .inl h0
 · exact .inr ⟨g',cap,cur,hv,hb1,(hst.block g' (Z6.lt hh) (hz g' (by rw [hv];simp [Value.ownBlock])) (.inr ⟨hn g' (by rw [hv];simp [Value.ownBlock]),_,hh,rfl⟩)).trans hh,r⟩
theorem U1{w X Y:World}{B:Nat}{Z R:Nat->Prop}(hbl:Below w.heap.size w X)(hst:Zy B Z R X Y)(hB:w.heap.size<=B)(hz:∀ k,Z k->w.heap.size<=k):Below w.heap.size w Y :=
 ⟨hst.os.trans hbl.os,hst.tape.trans hbl.tape,hst.output.trans hbl.output,Nat.le_trans hbl.size hst.size,fun k hk=>(hst.block k (Nat.lt_of_lt_of_le hk hbl.size) (fun h=>by have:=hz k h;omega) (.inl (by omega))).trans (hbl.block k hk)⟩
theorem KO(w:World)(l:List (List UInt8))(b2 b3 b4 lo B:Nat)(h1:w.heap.size<=B)(h2:b2<B/\b3<B/\b4<B):Vj B (fun _=>False) (Ll w l b2 b3 b4 lo):=by
 rintro R R' es X Y ⟨⟨v,ps,hps,h0,hb,ZO,hv⟩,r2,r3,hn,hbl⟩ hst hR
 have hnR:∀ k,k<X.heap.size->¬ R k->¬ R' k:=fun k hk hr h=>by
  rcases (hR k h).1 with h|h
  · exact hr h
  · omega
 exact ⟨⟨v,ps,hps,h0,(hst.block b4 hb.lt (fun h=>h) (.inl h2.2.2)).trans hb,Tf ZO hst (fun _ _ h=>h) hv,fun b e=>hnR b (WZ ZO e) (hv b e)⟩,
  (hst.block b2 r2.lt (fun h=>h) (.inl h2.1)).trans r2,(hst.block b3 r3.lt (fun h=>h) (.inl h2.2.1)).trans r3,⟨hnR b2 r2.lt hn.1,hnR b3 r3.lt hn.2.1,hnR b4 hb.lt hn.2.2⟩,U1 hbl hst h1 (fun _ h=>h.elim)⟩
theorem JW(w:World)(l:List (List UInt8))(b2 b3 B:Nat)(h1:w.heap.size<=B)(h2:b2<B/\b3<B)(c:Code):Vj B (fun _=>False) (fun R (_:List Nat) X=>c=.ret/\Qg w l b2 b3 R X):=by
 rintro R R' es X Y ⟨hc,hbad,r2,r3,hn,hbl⟩ hst hR
 have hnR:∀ k,k<X.heap.size->¬ R k->¬ R' k:=fun k hk hr h=>by
  rcases (hR k h).1 with h|h
  · exact hr h
  · omega
 exact ⟨hc,hbad,(hst.block b2 r2.lt (fun h=>h) (.inl h2.1)).trans r2,(hst.block b3 r3.lt (fun h=>h) (.inl h2.2)).trans r3,⟨hnR b2 r2.lt hn.1,hnR b3 r3.lt hn.2⟩,U1 hbl hst h1 (fun _ h=>h.elim)⟩
theorem LV(a:List UInt8)(ha:a.length<=1000000)(X:World)(hw:MW X):Calls prog 144 #[.string (strOf a),.int .i64 1] X fun e X'=>Below X.heap.size X X' /\
 ∃ A n c,e=.returned (.tuple #[.slice A n c,.int .i64 (YN a 1)])/\(YN a 1=0->n=1/\∃ bx ox z,A=some ⟨bx,ox,none⟩/\X'.cell? ⟨bx,ox,none⟩=some (.int .u64 z)/\bx<X'.heap.size/\IntKind.i64.wrap z=pVal a):=by
 refine (RD (strOf a) 1 (by rw [ZQ];unfold maxLen;omega) X hw.1 hw.2).mono ?_;rintro e X' ⟨hb,h⟩;have e0:(strOf a).data.toList=a:=rfl;rw [e0] at h;refine ⟨hb,?_⟩;rcases h with ⟨h0,A,c,rfl,hs⟩|⟨h0,rfl⟩
 · refine ⟨A,_,c,by rw [h0];rfl,fun _=>⟨rfl,?_⟩⟩;obtain ⟨bx,ox,rfl,hbx,hcx⟩:=hs.u (by rw [Z0];decide);have hf:=MP (VX h0);refine ⟨bx,ox,_,rfl,hcx 0 _ (Zu _ (by decide)),hbx,?_⟩;unfold lim;rw [IntKind.wrap_i64];simp only [Int.pow_zero,Int.ediv_one];omega
 · exact ⟨none,0,0,rfl,fun h=>absurd h h0⟩
theorem Vt{l:List (List UInt8)}{x:Nat}(hx:x<Y4 l.length)(h:Ws l x=none):Zb l=none:=by
 have:IZ l=none:=Rx (Ws l) h (List.mem_range.2 hx);unfold Zb;rw [this]
theorem Wv{l:List (List UInt8)}{b off k B:Nat}{a:List UInt8}{Y:World}(h:Sl Y B (some ⟨b,off,none⟩) (ZN l))(ha:l[k]?=some a):Y.cell? ⟨b,off+k,none⟩=some (.string (strOf a)):=by
 rcases h with h|⟨b',off',hA,_,hc⟩
 · have h2:=Vh ha;rw [h] at h2;cases h2
 · injection hA with hA;injection hA with h1 h2 _;subst h1;subst h2;exact hc k _ (Vh ha)
theorem KP {w:World} {l:List (List UInt8)} {b2 b3 s:Nat} {R:Nat->Prop} {X2 X3:World} (hb:Below X2.heap.size X2 X3) (hbad:Zb l=none) (r2:Z6 X2 b2 36 #[.slice none 0 0]) (r3:Z6 X2 b3 4 #[.bool false])
 (h2:¬ R b2/\b2≠s/\b2≠s+1) (h3:¬ R b3/\b3≠s/\b3≠s+1) (h23:b2≠b3) (hw:w.heap.size<=b2/\w.heap.size<=b3) (hR:∀ k,Bk R s k->k<X2.heap.size) (hbl:Below w.heap.size w X2) :
 Z9 (Bk R s) X2 ((X3.setCell ⟨b2,0,none⟩ (.slice none 0 0)).setCell ⟨b3,0,none⟩ (.bool false))/\Qg w l b2 b3 R ((X3.setCell ⟨b2,0,none⟩ (.slice none 0 0)).setCell ⟨b3,0,none⟩ (.bool false)):=by
 have n2:¬ Bk R s b2:=fun h=>by rcases h with h|h|h;exact h2.1 h;exact h2.2.1 h;exact h2.2.2 h
 have n3:¬ Bk R s b3:=fun h=>by rcases h with h|h|h;exact h3.1 h;exact h3.2.1 h;exact h3.2.2 h
 refine ⟨((Z9.of_below hb hR).trans (Z9.setCell n2 _ _ _)).trans (Z9.setCell n3 _ _ _),hbad,?_,?_,⟨h2.1,h3.1⟩,?_⟩
 · exact (((r2.step hb).set 0 (.slice none 0 0))).far (p:=⟨b3,0,none⟩) h23 _
 · exact (((r3.step hb).far (p:=⟨b2,0,none⟩) (Ne.symm h23) _).set 0 (.bool false))
 · exact ((Z8 hbl hb).setCell hw.1 _).setCell hw.2 _
def Qh(l:List (List UInt8))(w:World)(e:Ending)(w':World):Prop :=
 Below w.heap.size w w'/\((∃ ps v,Zb l=some ps/\e=.returned (.tuple #[v,.bool true])/\w'.ownsRow w.heap.size 41 2 v ps.length (Y7 ps))\/(Zb l=none/\e=.returned (.tuple #[.slice none 0 0,.bool false])))
section
variable (l:List (List UInt8))(b off c:Nat)(hc:l.length<=c)(hl:∀ x∈l,x.length<=1000000)(hn:l.length<=1000000)(w:World)(hs:Sl w w.heap.size (some ⟨b,off,none⟩) (ZN l))(hw:MW w)
include hc hl hn hs hw
theorem Xa:Calls prog 139 #[.slice (some ⟨b,off,none⟩) l.length c] w (Qh l w):=by
 have YD:prog.follows .mixedOrders=true:=by kernel_rfl
 obtain ⟨b2,hb2⟩:∃ z,z=w.heap.size:=⟨_,rfl⟩;obtain ⟨b3,hb3⟩:∃ z,z=w.heap.size+1:=⟨_,rfl⟩;obtain ⟨b4,hb4⟩:∃ z,z=w.heap.size+1+1:=⟨_,rfl⟩;obtain ⟨s1,hs1⟩:∃ z,z=w.heap.size+1+1+1:=⟨_,rfl⟩;obtain ⟨s2,hs2⟩:∃ z,z=s1+1:=⟨_,rfl⟩;obtain ⟨w1,hw1⟩:=eE (((w.alloc (.cells #[.slice none 0 0] 36)).alloc (.cells #[.bool false] 4)).alloc (.cells #[.slice none 0 0] 36));have tJ:Below w.heap.size w w1:=by rw [hw1];exact ZY (ZY (bA) _) _
 have hz1:w1.heap.size=s1:=by rw [hw1,hs1];simp
 have R2:Z6 w1 b2 36 #[.slice none 0 0]:=by rw [hw1,hb2];exact ((Z6.new _ _ _).alloc _).alloc _
 have R3:Z6 w1 b3 4 #[.bool false]:=by rw [hw1,hb3];exact (Z6.new2 _ _ _ _).alloc _
 have R4:Z6 w1 b4 36 #[.slice none 0 0]:=by
  rw [hw1,hb4];have h:=Z6.new ((w.alloc (.cells #[.slice none 0 0] 36)).alloc (.cells #[.bool false] 4)) 36 #[.slice none 0 0];simp only [World.size_alloc] at h;exact h
 obtain ⟨w2,hw2⟩:=eE ((w1.alloc (.cells #[.slice (some ⟨b,off,none⟩) l.length c] 28)).alloc (.cells #[.int .i64 2] 3));have OT:=bF hw2;have S1:Z6 w2 s1 28 #[.slice (some ⟨b,off,none⟩) l.length c]:=by rw [hw2,<- hz1];exact (Z6.new _ _ _).alloc _
 have S2:Z6 w2 s2 3 #[.int .i64 2]:=by rw [hw2,hs2,<- hz1];exact Z6.new2 _ _ _ _
 have hz2:w2.heap.size=b2+5:=by rw [hw2];simp [hz1];omega
 have M0:=Z8 tJ OT;have CK:=hide (J3 (some ⟨b,off,none⟩) l.length c w1);rw [<- hw2,hz1,<- hs2] at CK
 have DC:Hid (Gt prog (fun x=>x<Y4 l.length) (D6 b off l.length) (fun k=>k<b2\/k=s1\/k=s2) (fun _=>False) 255 #[.pointer (some ⟨s1,0,none⟩),.pointer (some ⟨s2,0,none⟩)] (fun ys=>ys=List.range (Y4 l.length)) (Y4 l.length) w2) :=
  hide (J2 _ s1 s2 b off l.length c hc hn (.inr (.inl rfl)) (.inr (.inr rfl)) w2 S1 S2)
 have F4:Hid (Ll w l b2 b3 b4 (b2+7) (fun k=>k<b2\/k=s1\/k=s2) [] w2):=hide
  ⟨⟨_,[],rfl,fun _=>rfl,R4.step OT,World.ownsRow_nil _ _ _ _,fun _ h=>(by cases h)⟩,R2.step OT,R3.step OT,⟨by omega,by omega,by omega⟩,M0⟩
 have HS:=hide hs;have jN:=hide hw;have yX:=hide hl;have HZ:Hid (b2=w.heap.size/\b3=b2+1/\b4=b2+2/\s1=b2+3/\s2=b2+4/\w2.heap.size=b2+5):=hide (by omega);have qZ:=hide M0;have tV:∀ args w,(callFunc 255 args).run prog w=.ok (.enter 255 args) w:=enters_of func255 (by kernel_rfl) rfl;have mD:=hide tV;obtain ⟨n,hnn⟩:=eE l.length;have HN:=hide hnn;have rF:=hide hn;rw [<- hnn] at DC CK ⊢;have tH:=hide hb4;have tF:=hide hb3;have hb2':=hide hb2;clear hc hl hn hs hw tJ hz1 R2 R3 R4 hw2 OT S1 S2 hz2 M0 tV hnn hb2 hb3 hb4 hs1 hs2;refine (callsIn_wide (n:=6)).1 ?_;refine callsIn_of_wp_marks func139 rfl trivial ?_ rfl;simp only [ntmps139,List.size_toArray,List.length_cons,List.length_nil,Nat.reduceAdd,Nat.reduceSub,Array.replicate_succ,Array.replicate_zero,List.push_toArray,List.append_toArray,List.nil_append,List.cons_append];gi_wp2_with fail;rw [<- hw1,<- tH.out,<- tF.out,<- hb2'.out];clear hw1 tH tF hb2';refine ⟨trivial,?_⟩;refine (callsIn_wide.2 CK.out).mono ?_;rintro e w' ⟨rfl,rfl⟩;clear CK;gi_wp2_with fail;refine WM (K:=fun k=>k<b2\/k=s1\/k=s2) rfl mD.out DC.out (fun _ h=>h.elim) (fun k h=>by have:=HZ.out;omega) (fun _=>rfl) (Ll w l b2 b3 b4 (b2+7)) (fun c R X=>c=.ret/\Qg w l b2 b3 R X) ?h1 ?h2 F4.out ?round ?done ?stop
 case h1=>exact KO w l b2 b3 b4 (b2+7) _ qZ.out.size (by have:=HZ.out;omega)
 case h2=>exact JW w l b2 b3 _ qZ.out.size (by have:=HZ.out;omega)
 case stop =>
  rintro cc X ⟨rfl,hbad,r2,r3,-,hbl⟩ hD -;have c2:=r2.q0 rfl;have c3:=r3.q0 rfl;have Ga:=hide hbl;have HD:=hide hD;have HBAD:=hide hbad;have H2:Hid (Z6 (X.putObj w'.heap.size (.deferred none)) b2 36 #[.slice none 0 0]):=hide ((World.putObj_heap_other (by have:=HZ.out;omega)).trans r2);have H3:Hid (Z6 (X.putObj w'.heap.size (.deferred none)) b3 4 #[.bool false]):=hide ((World.putObj_heap_other (by have:=HZ.out;omega)).trans r3);clear r2 r3 hbl hD hbad;gi_wp2;refine ⟨by simp,.inl ⟨_,_,rfl,run_takeDeferred HD.out,?_⟩⟩;have g:=grownBy_putObj' X w'.heap.size (.deferred none);refine ⟨_,Tj rfl (fun w=>by kernel_rfl) (fun w=>by kernel_rfl) rfl rfl (H2.out.q0 rfl) (H3.out.q0 rfl),?_⟩;exact ⟨Ga.out.grown g Ga.out.size (fun k e=>by cases e;have:=HZ.out;omega),.inr ⟨HBAD.out,rfl⟩⟩
 case done =>
  rintro ys X rfl ⟨⟨v,ps,hps,h0,hb,ZO,hv⟩,r2,r3,-,hbl⟩ hD -;obtain ⟨VA,vc,rfl,yA⟩:=ZM ZO;have c4:=hb.q0 rfl;have c2:=r2.q0 rfl;have c3:=r3.q0 rfl;have f2:=r2.frozen 0;have f3:=r3.frozen 0;obtain ⟨m,hm⟩:=eE ps.length;obtain ⟨ok,hok⟩:=eE (decide (0<m));have hfin:∃ v',((Zb l=some ps/\ok=true)\/(Zb l=none/\ok=false/\VA=none/\m=0/\vc=0))/\v'=Value.slice VA m vc:=by
   refine ⟨_,?_,rfl⟩;have hw:IZ l=some ps:=(by unfold IZ;rw [<- HN.out];exact hps);cases ps with
   | nil =>
     right
     have hm0:m=0:=hm;refine ⟨by unfold Zb;rw [hw],by rw [hok,hm0];rfl,?_⟩;have h:=h0 rfl;injection h with h1 h2 h3;exact ⟨h1,hm0,h3⟩
   | cons p r =>
     left
     refine ⟨by unfold Zb;rw [hw],by rw [hok,hm];simp⟩
  obtain ⟨v',hfin,hv'⟩:=hfin;have hok':decide (0<m)=ok:=hok.symm;rw [<- hm] at c4;have HOWN:Hid (X.ownsRow (b2+7) 41 2 v' ps.length (Y7 ps)):=hide (by rw [hv',hm];exact ZO);have HF:=hide hfin;have HV:=hide hv';have HD:=hide hD;have Ga:=hide hbl;have HR2:=hide r2;have HR3:=hide r3;clear hps h0 hb ZO hv hm hok hfin hv' hD hbl r2 r3 yA;gi_wp2;have hS0:X.drew.cell? ⟨b4,0,none⟩=some (.slice VA m vc):=c4;have bU:X.drew.cell? ⟨b2,0,none⟩=some (.slice none 0 0):=c2;have bY:X.drew.frozen? ⟨b2,0,none⟩=false:=f2;have h32:b3≠b2/\b4≠b2/\b4≠b3:=by have:=HZ.out;omega
  obtain ⟨X4,CZ⟩:=eE (X.drew.setCell ⟨b2,0,none⟩ (.slice VA m vc));obtain ⟨X5,Qb⟩:=eE (X4.setCell ⟨b3,0,none⟩ (.bool ok));have Q2:Z6 X4 b2 36 #[.slice VA m vc]:=by rw [CZ];exact HR2.out.drew.set 0 _
  have Q3:Z6 X4 b3 4 #[.bool false]:=by rw [CZ];exact HR3.out.drew.far (p:=⟨b2,0,none⟩) h32.1 _
  have bV:=Q3.q0 rfl;have bZ:=Q3.frozen 0;have kL:X4.cell? ⟨b4,0,none⟩=some (.slice VA m vc):=by rw [CZ];exact (World.cell?_setCell_other _ _ _ _ (fun e=>by injection e with e;exact h32.2.1 e.symm)).trans hS0
  have hS5:X5.cell? ⟨b4,0,none⟩=some (.slice VA m vc):=by rw [Qb];exact (World.cell?_setCell_other _ _ _ _ (fun e=>by injection e with e;exact h32.2.2 e.symm)).trans kL
  have mW:Hid (Z6 X5 b2 36 #[.slice VA m vc]):=hide (by rw [Qb];exact Q2.far (p:=⟨b3,0,none⟩) (Ne.symm h32.1) _);have fQ:Hid (Z6 X5 b3 4 #[.bool ok]):=hide (by rw [Qb];exact Q3.set 0 _)
  have Dv:Hid (Below w.heap.size w X5):=hide (by
   rw [Qb,CZ]
   exact ((ZV Ga.out).setCell (by have:=HZ.out;dsimp only;omega) _).setCell (by have:=HZ.out;dsimp only;omega) _)
  have jP:Hid (X5.ownsRow (b2+7) 41 2 v' ps.length (Y7 ps)):=hide (by
   rw [Qb,CZ];refine W9 (W9 (Zn HOWN.out (ZV (Below.refl _ _))) (fun e=>?_) _) (fun e=>?_) _
   · have h:=ZH HOWN.out e;dsimp only at h;omega
   · have h:=ZH HOWN.out e;have:=HZ.out;dsimp only at h;omega)
  have HD5:Hid (X5.heap[w'.heap.size]?=some (.deferred (some []))):=hide (by
   rw [Qb,CZ]
   exact (Below.heap_setCell _ ⟨b3,0,none⟩ _ _ (by have:=HZ.out;dsimp only;omega)).trans ((Below.heap_setCell _ ⟨b2,0,none⟩ _ _ (by have:=HZ.out;dsimp only;omega)).trans HD.out))
  have iN:=CZ.symm;have tu:=Qb.symm;clear CZ Qb Q2 Q3 c2 c3 f2 f3 c4;refine Jj 1000 (S:=fun w'=>w'.cell? ⟨b4,0,none⟩=some (.slice VA m vc)) YD ?_;generalize X.drew=u0 at *;refine' ZW (i:=0) rfl ?Xg hS0 ?VZ
  case Xg =>
   intro w' hSw;go_simp;rfl
  simp only [Act.put,getElem_toArray,getElem_cons_zero,setIfInBounds_toArray,set_cons_zero,set_cons_succ];refine' ZW (i:=1) rfl ?Xh hS0 ?V3
  case Xh =>
   intro w' hSw;go_simp;rfl
  simp only [Act.put,Z4];refine' ZW (i:=2) rfl ?Xj hS0 ?V4
  case Xj =>
   intro w' hSw;go_simp;rfl
  simp only [Act.put,Z4];refine' ZW (i:=3) rfl ?Wm hS0 ?Vg
  case Wm =>
   intro w' hSw;go_simp;rfl
  simp only [Act.put,Z4];refine Zc (i:=4) (by kernel_rfl) rfl ?_;intro K hK;rw [if_pos (by rfl)];go_simp;refine hK.out _ _ (fun _=>kL) ?_;clear hK K
  (try simp only [Act.put,Z4])
  refine Zc (i:=5) (by kernel_rfl) rfl ?_;intro K hK;rw [if_pos (by rfl)];go_simp;refine hK.out _ _ (fun _=>hS5) ?_;clear hK K
  (try simp only [Act.put,Z4])
  refine Ye (by kernel_rfl) ?_ _;refine Vx.intro ?_;gi_wp2;refine ⟨by simp,.inl ⟨_,_,rfl,run_takeDeferred HD5.out,?_⟩⟩;have g:=grownBy_putObj' X5 w'.heap.size (.deferred none);have e2:Z6 (X5.putObj w'.heap.size (.deferred none)) b2 36 #[.slice VA m vc]:=(World.putObj_heap_other (by have:=HZ.out;omega)).trans mW.out;have e3:Z6 (X5.putObj w'.heap.size (.deferred none)) b3 4 #[.bool ok]:=(World.putObj_heap_other (by have:=HZ.out;omega)).trans fQ.out;refine ⟨_,Tj rfl (fun w=>by kernel_rfl) (fun w=>by kernel_rfl) rfl rfl (e2.q0 rfl) (e3.q0 rfl),?_⟩;refine ⟨Dv.out.grown g Dv.out.size (fun k e=>by cases e;have:=HZ.out;omega),?_⟩;have qh:v'.ownBlock≠some w'.heap.size:=fun e=>by have h:=ZH jP.out e;have:=HZ.out;omega
  have Yz:=jP.out.kept g (.inr qh);rcases HF.out with ⟨h1,rfl⟩|⟨h1,rfl,rfl,rfl,rfl⟩
  · refine .inl ⟨ps,v',h1,by rw [HV.out];rfl,Yz.1,?_⟩;rcases Yz.2 with h0|⟨g',cap,cur,q1,q2,r⟩
    · exact .inl h0
    · exact .inr ⟨g',cap,cur,q1,by have:=HZ.out;omega,r⟩
  · exact .inr ⟨h1,rfl⟩
 case round =>
  rintro R pre x X hR hnl SL ⟨rec,hrec⟩ ⟨⟨v,ps,hps,h0,hb,ZO,hv⟩,r2,r3,⟨n2,n3,n4⟩,hbl⟩ hpre hx;have hz:=HZ.out;unfold D6;obtain ⟨q,hq⟩:=eE (if 2*x+1<n then 2 else 1);obtain ⟨m,hm⟩:=eE (off+2*x);rw [<- hq,<- hm];have qh:v.ownBlock≠some (w'.heap.size+1):=fun e=>by have h:=ZH ZO e;omega
  have Mc:=hide (And.intro hR (And.intro hnl (And.intro SL (And.intro hrec (And.intro hps (And.intro h0 (And.intro hb (And.intro ZO (And.intro hv (And.intro r2 (And.intro r3 (And.intro n2 (And.intro n3 (And.intro n4 hbl))))))))))))));have Sg:Hid (b2+7<=X.heap.size):=hide (by omega);have HQ:=hide hq;have HM:=hide hm;have HX:=hide hx;have Gm:=hide hpre;have gG:=hide qh;clear hR hnl SL hrec hps h0 hb ZO hv r2 r3 n2 n3 n4 hbl hz hq hm hx hpre qh;gi_wp2;refine ⟨Z9.refl _ _,fun o=>?_⟩;obtain ⟨hR,hnl,SL,hrec,hps,h0,hb,ZO,hv,r2,r3,n2,n3,n4,hbl⟩:=Mc.out;clear Mc;have hz:=HZ.out;obtain ⟨X2,hX2⟩:=eE (X.putObj (w'.heap.size+1) (.loop o));have zW:X.grownBy X2 (some (w'.heap.size+1)):=by rw [hX2];exact grownBy_putObj' _ _ _
  have rY:Hid (b2+7<=X2.heap.size):=hide (Nat.le_trans Sg.out zW.size);have hb':Z6 X2 b4 36 #[v]:=by rw [hX2];exact (World.putObj_heap_other (by omega)).trans hb
  have r2':Z6 X2 b2 36 #[.slice none 0 0]:=by rw [hX2];exact (World.putObj_heap_other (by omega)).trans r2
  have r3':Z6 X2 b3 4 #[.bool false]:=by rw [hX2];exact (World.putObj_heap_other (by omega)).trans r3
  have hown':=ZO.kept zW (.inr gG.out);have zS:Below w.heap.size w X2:=hbl.grown zW hbl.size (fun j e=>by cases e;omega)
  have hR':∀ k,Bk R w'.heap.size k->k<X2.heap.size:=fun k hk=>by
   have:=zW.size;rcases hk with hk|hk|hk
   · have:=hR k hk;omega
   · omega
   · omega
  rw [<- hX2]
  have HBAD:Hid (∀ X3,Below X2.heap.size X2 X3->Zb l=none->Z9 (Bk R w'.heap.size) X2 ((X3.setCell ⟨b2,0,none⟩ (.slice none 0 0)).setCell ⟨b3,0,none⟩ (.bool false))/\Qg w l b2 b3 R ((X3.setCell ⟨b2,0,none⟩ (.slice none 0 0)).setCell ⟨b3,0,none⟩ (.bool false))) :=
   hide fun X3 h1 h2=>KP h1 h2 r2' r3' ⟨n2,by omega,by omega⟩ ⟨n3,by omega,by omega⟩ (by omega) (by omega) hR' zS
  have h23:b2≠b3:=by omega
  have HST:Hid (∀ X3,Below X2.heap.size X2 X3->X3.cell? ⟨b2,0,none⟩=some (.slice none 0 0)/\X3.frozen? ⟨b2,0,none⟩=false/\(X3.setCell ⟨b2,0,none⟩ (.slice none 0 0)).cell? ⟨b3,0,none⟩=some (.bool false)/\(X3.setCell ⟨b2,0,none⟩ (.slice none 0 0)).frozen? ⟨b3,0,none⟩=false) :=
   hide fun X3 h1=>⟨(r2'.step h1).q0 rfl,(r2'.step h1).frozen 0,((r3'.step h1).far (p:=⟨b2,0,none⟩) (Ne.symm h23) _).q0 rfl,((r3'.step h1).far (p:=⟨b2,0,none⟩) (Ne.symm h23) _).frozen 0⟩
  have HOWN:=hide hown';have Du:=hide hb';have Ga:=hide zS;have HRR:=hide hR';have Og:=hide hps;have H0:=hide h0;have HV:=hide hv;have fF:=hide (And.intro n2 (And.intro n3 n4));have F5:=hide (And.intro r2' r3');clear hR hnl SL hrec hps h0 hb ZO hv r2 r3 n2 n3 n4 hbl hz hX2 zW hb' r2' r3' hown' zS hR' h23
  by_cases hq1:2*x+1<n
  · obtain rfl:q=2:=(by rw [HQ.out,if_pos hq1]);obtain ⟨a,ha⟩:∃ a,l[2*x]?=some a:=⟨_,List.getElem?_eq_getElem (by rw [<- HN.out];omega)⟩;obtain ⟨d,hd⟩:∃ d,l[2*x+1]?=some d:=⟨_,List.getElem?_eq_getElem (by rw [<- HN.out];omega)⟩;have hat:=Py ha hd;have oo:Sl X2 X2.heap.size (some ⟨b,off,none⟩) (ZN l):=(HS.out.below Ga.out).more Ga.out.size;have ca:=Wv oo ha;rw [<- HM.out] at ca;have P1:=hide (LV a (yX.out a (List.mem_of_getElem? ha)) X2 (jN.out.step Ga.out));have P2:=hide (fun X3 (h:Below X2.heap.size X2 X3)=>LV d (yX.out d (List.mem_of_getElem? hd)) X3 (jN.out.step (Z8 Ga.out h)))
    have CD:Hid (∀ X3,Below X2.heap.size X2 X3->X3.cell? ⟨b,m+1,none⟩=some (.string (strOf d))):=hide fun X3 h=>by
     have:=Wv ((oo.below h).more h.size) hd;rw [show off+(2*x+1)=m+1 from by rw [HM.out];omega] at this;exact this
    obtain ⟨E1,hE1⟩:∃ E,E=YN a 1:=⟨_,rfl⟩;obtain ⟨E2,hE2⟩:∃ E,E=YN d 1:=⟨_,rfl⟩;obtain ⟨V1,hV1⟩:∃ E,E=pVal a:=⟨_,rfl⟩;obtain ⟨V2,hV2⟩:∃ E,E=pVal d:=⟨_,rfl⟩;obtain ⟨T1,hT1⟩:∃ T,T=strOf a:=⟨_,rfl⟩;obtain ⟨T2,kN⟩:∃ T,T=strOf d:=⟨_,rfl⟩;rw [<- hE1,<- hE2,<- hV1,<- hV2] at hat;rw [<- hT1] at ca P1;rw [<- hE1,<- hV1] at P1;rw [<- kN] at P2 CD;rw [<- hE2,<- hV2] at P2;have HAT:=hide hat;clear hq1 ha hd hat oo hE1 hE2 hV1 hV2 hT1 kN;gi_wp2_with fail;refine ⟨trivial,?_⟩;refine (CallsIn.inRound _ (callsIn_wide.2 P1.out)).mono ?_;rintro e X3 ⟨hb3,A1,n1,c1,rfl,h1⟩;have HB3:=hide hb3;have eD:=hide h1;have cd:=CD.out X3 hb3;clear hb3 h1 ca P1 CD;gi_wp2_with fail;refine ⟨trivial,?_⟩;refine (CallsIn.inRound _ (callsIn_wide.2 (P2.out X3 HB3.out))).mono ?_;rintro e X4 ⟨hb4,A2,n2,c2,rfl,h2⟩;have qX:=hide hb4;have Co:=hide (Z8 HB3.out hb4);have eF:=hide h2;clear hb4 h2 cd P2
    by_cases e1:E1=0
    · subst e1
      by_cases e2:E2=0
      · subst e2;obtain ⟨rfl,bx,ox,z1,rfl,cx,hbx,wx⟩:=eD.out rfl;obtain ⟨rfl,Lu,oy,z2,rfl,cy,hby,wy⟩:=eF.out rfl;have nT:X4.cell? ⟨bx,ox,none⟩=some (.int .u64 z1):=(World.cell?_of_block (qX.out.block bx hbx)).trans cx;have hz:=HZ.out;have c4:X4.cell? ⟨b4,0,none⟩=some v:=(Du.out.step Co.out).q0 rfl;obtain ⟨X5,Qb⟩:=eE (X4.drew.alloc (.cells #[.int .i64 V1,.int .i64 V2] 41));obtain ⟨g5,hg5⟩:=eE X4.drew.heap.size;have Ec:Below X4.heap.size X4 X5:=(by rw [Qb];exact ZY (ZV (Below.refl _ _)) _);have N5:Z6 X5 g5 41 #[.int .i64 V1,.int .i64 V2]:=(by rw [Qb,hg5];exact Z6.new _ _ _);have SI:=Z8 Co.out Ec;have Yz:=Zn HOWN.out SI;have hpl:ps.length=pre.length:=Td _ Og.out;have hpn:ps.length<=1000000:=(by have:=Gm.out;have:=rF.out;have:=HN.out;unfold Y4 at *;omega);obtain ⟨i0,hi,hz0,hz1,hz2⟩:=info_parts LX;obtain ⟨g6,c6,X6,oJ,WE,SK,OV,zZ⟩:=run_append_lies (P:=prog) X5 36 36 (b2+7) 41 i0 (.agg #[.int .i64 0,.int .i64 0]) 2 16 underlying36 hi hz0 hz1 hz2 rfl (by decide) v ps.length (Y7 ps) Yz ⟨g5,0,none⟩ 1 1 [.int .i64 V1,.int .i64 V2] rfl (YW N5) (by simp [Value.oneCell']) (by omega) (by unfold maxLen;omega) (by omega) (Nat.le_trans rY.out SI.size) _ rfl;have hvB:v.ownBlock≠some b4:=fun e=>by have h:=ZH HOWN.out e;omega
        have JB:=Du.out.step SI;have pY:Z6 X6 b4 36 #[v]:=JB.grown SK (Ne.symm hvB);obtain ⟨lU,lV,oV⟩:=fF.out;have Kr:¬ R g6/\b2+7<=g6:=by
         have hs2:=SI.size;rcases OV with h|h
         · exact ⟨HV.out g6 h,ZH HOWN.out h⟩
         · refine ⟨fun hr=>?_,?_⟩
           · have:=HRR.out g6 (.inl hr);omega
           · have:=rY.out;omega
        obtain ⟨X7,MZ⟩:=eE (X6.setCell ⟨b4,0,none⟩ (.slice (some ⟨g6,0,none⟩) (ps.length+1) c6));have kG:Z6 X7 b4 36 #[.slice (some ⟨g6,0,none⟩) (ps.length+1) c6]:=(by rw [MZ];exact pY.set 0 _);have WG:X7.ownsRow (b2+7) 41 2 (.slice (some ⟨g6,0,none⟩) (ps.length+1) c6) (ps++[(V1,V2)]).length (Y7 (ps++[(V1,V2)])):=by
         have e:(ps++[(V1,V2)]).length=ps.length+1:=(by simp);rw [KN,e,MZ];exact W9 WE (by simp [Value.ownBlock];omega) _
        have hk5:Z9 (Bk R w'.heap.size) X2 X5:=Z9.of_below SI HRR.out
        have Xe:Z9 (Bk R w'.heap.size) X5 X6:=⟨SK.os,SK.tape,SK.output,SK.size,fun j hj=>SK.block j (Nat.lt_of_lt_of_le (HRR.out j hj) SI.size) (fun e=>by
         rcases hj with hj|hj|hj
         · exact HV.out j e.symm hj
         · have h:=ZH HOWN.out e.symm;omega
         · have h:=ZH HOWN.out e.symm;omega)⟩
        have Db:Z9 (Bk R w'.heap.size) X2 X7:=by
         rw [MZ];refine (hk5.trans Xe).trans (Z9.setCell ?_ _ _ _);rintro (hj|hj|hj)
         · exact oV hj
         · omega
         · omega
        have M4:Below w.heap.size w X6:=(Z8 Ga.out SI).grown SK (Z8 Ga.out SI).size (fun j e=>by have h:=ZH HOWN.out e;omega);obtain ⟨r2,r3⟩:=F5.out
        have HF:Hid (Z9 (Bk R w'.heap.size) X2 X7/\Ll w l b2 b3 b4 (b2+7) R (pre++[x]) X7):=hide ⟨Db,⟨⟨_,_,Ry (Ws l) x (by rw [HAT.out,if_pos ⟨rfl,rfl⟩]) Og.out,fun h=>(by simp at h),kG,WG,fun j e=>by
         have:g6=j:=(by have:some g6=some j:=e;exact Option.some.inj this);subst this
         exact Kr.1⟩,
         by rw [MZ];exact (((r2.step SI).grown SK (fun e=>by have h:=ZH HOWN.out e.symm;omega)).far (p:=⟨b4,0,none⟩) (by dsimp only;omega) _),
         by rw [MZ];exact (((r3.step SI).grown SK (fun e=>by have h:=ZH HOWN.out e.symm;omega)).far (p:=⟨b4,0,none⟩) (by dsimp only;omega) _),⟨lU,lV,oV⟩,
         by rw [MZ];exact M4.setCell (by dsimp only;omega) _⟩⟩
        have c46:=pY.q0 rfl;have f46:=pY.frozen 0;have tu:=Qb.symm;have oq:=MZ.symm;have S0:X4.drew.cell? ⟨b4,0,none⟩=some v/\X4.drew.cell? ⟨bx,ox,none⟩=some (.int .u64 z1)/\X4.drew.cell? ⟨Lu,oy,none⟩=some (.int .u64 z2):=⟨c4,nT,cy⟩;have S5:X5.cell? ⟨b4,0,none⟩=some v/\X5.cell? ⟨bx,ox,none⟩=some (.int .u64 z1)/\X5.cell? ⟨Lu,oy,none⟩=some (.int .u64 z2):=⟨JB.q0 rfl,(World.cell?_of_block (Ec.block bx (Nat.lt_of_lt_of_le hbx qX.out.size))).trans nT,(World.cell?_of_block (Ec.block Lu hby)).trans cy⟩;clear Qb MZ Ec N5 SI Yz hpl hpn hi hz0 hz1 hz2 i0 WE SK OV zZ hvB JB pY Kr kG WG hk5 Xe Db M4 r2 r3 lU lV oV cx cy nT c4 hbx hby hz;gi_wp2;refine L8 11 (S:=fun Y=>Y.cell? ⟨b4,0,none⟩=some v/\Y.cell? ⟨bx,ox,none⟩=some (.int .u64 z1)/\Y.cell? ⟨Lu,oy,none⟩=some (.int .u64 z2)) YD ?_;have oz:=hg5.symm;clear hg5;generalize X4.drew=u0 at *;refine' Xo (i:=0) (v:=_) (ZF (by kernel_rfl)) rfl (by kernel_rfl) (by kernel_rfl) (by kernel_rfl) (fun _ _ _ h=>h) (by kernel_rfl) ⟨Or.inl ⟨by rfl,?uN⟩,fun _=>rfl⟩ S0 ?qy
        case uN =>
         intro w' hSw;obtain ⟨q0,q1,q2⟩:=hSw;go_simp;rfl
        simp only [Act.put,getElem_toArray,getElem_cons_zero,setIfInBounds_toArray,set_cons_zero,set_cons_succ];refine' Xo (i:=1) (v:=_) (ZF (by kernel_rfl)) rfl (by kernel_rfl) (by kernel_rfl) (by kernel_rfl) (fun _ _ _ h=>h) (by kernel_rfl) ⟨Or.inl ⟨by rfl,?uQ⟩,fun _=>rfl⟩ S0 ?qB
        case uQ =>
         intro w' hSw;obtain ⟨q0,q1,q2⟩:=hSw;go_simp;rfl
        simp only [Act.put,Z4];refine' Xo (i:=2) (v:=_) (ZF (by kernel_rfl)) rfl (by kernel_rfl) (by kernel_rfl) (by kernel_rfl) (fun _ _ _ h=>h) (by kernel_rfl) ⟨Or.inl ⟨by rfl,?uS⟩,fun _=>rfl⟩ S0 ?qD
        case uS =>
         intro w' hSw;obtain ⟨q0,q1,q2⟩:=hSw;go_simp;rfl
        simp only [Act.put,Z4];refine' Xo (i:=3) (v:=_) (ZF (by kernel_rfl)) rfl (by kernel_rfl) (by kernel_rfl) (by kernel_rfl) (fun _ _ _ h=>h) (by kernel_rfl) ⟨Or.inl ⟨by rfl,?uU⟩,fun _=>rfl⟩ S0 ?qF
        case uU =>
         intro w' hSw;obtain ⟨q0,q1,q2⟩:=hSw;go_simp;rfl
        simp only [Act.put,Z4];refine' Xo (i:=4) (v:=_) (ZF (by kernel_rfl)) rfl (by kernel_rfl) (by kernel_rfl) (by kernel_rfl) (fun _ _ _ h=>h) (by kernel_rfl) ⟨Or.inl ⟨by rfl,?uW⟩,fun _=>rfl⟩ S0 ?qH
        case uW =>
         intro w' hSw;obtain ⟨q0,q1,q2⟩:=hSw;go_simp;rfl
        simp only [Act.put,Z4];refine' Xo (i:=5) (v:=_) (ZF (by kernel_rfl)) rfl (by kernel_rfl) (by kernel_rfl) (by kernel_rfl) (fun _ _ _ h=>h) (by kernel_rfl) ⟨Or.inl ⟨by rfl,?AY⟩,fun _=>rfl⟩ S0 ?wI
        case AY =>
         intro w' hSw;obtain ⟨q0,q1,q2⟩:=hSw;go_simp;rfl
        simp only [Act.put,Z4];refine' Xo (i:=6) (v:=_) (ZF (by kernel_rfl)) rfl (by kernel_rfl) (by kernel_rfl) (by kernel_rfl) (fun _ _ _ h=>h) (by kernel_rfl) ⟨Or.inl ⟨by rfl,?Bd⟩,fun _=>rfl⟩ S0 ?wN
        case Bd =>
         intro w' hSw;obtain ⟨q0,q1,q2⟩:=hSw;go_simp;rfl
        simp only [Act.put,Z4];refine' Xo (i:=7) (v:=_) (ZF (by kernel_rfl)) rfl (by kernel_rfl) (by kernel_rfl) (by kernel_rfl) (fun _ _ _ h=>h) (by kernel_rfl) ⟨Or.inl ⟨by rfl,?Bl⟩,fun _=>rfl⟩ S0 ?wS
        case Bl =>
         intro w' hSw;obtain ⟨q0,q1,q2⟩:=hSw;go_simp;rfl
        simp only [Act.put,Z4];refine' Xo (i:=8) (v:=_) (ZF (by kernel_rfl)) rfl (by kernel_rfl) (by kernel_rfl) (by kernel_rfl) (fun _ _ _ h=>h) (by kernel_rfl) ⟨Or.inl ⟨by rfl,?Bp⟩,fun _=>rfl⟩ S0 ?wU
        case Bp =>
         intro w' hSw;obtain ⟨q0,q1,q2⟩:=hSw;go_simp;rfl
        simp only [Act.put,Z4];refine' Xo (i:=9) (v:=_) (ZF (by kernel_rfl)) rfl (by kernel_rfl) (by kernel_rfl) (by kernel_rfl) (fun _ _ _ h=>h) (by kernel_rfl) ⟨Or.inl ⟨by rfl,?Bq⟩,fun _=>rfl⟩ S0 ?wV
        case Bq =>
         intro w' hSw;obtain ⟨q0,q1,q2⟩:=hSw;go_simp;rfl
        simp only [Act.put,Z4];refine Pq (i:=10) (by kernel_rfl) rfl ?_;intro K hK;rw [if_pos (by rfl)];go_simp;refine hK.out _ _ (fun _=>S5) ?_;clear hK K
        (try simp only [Act.put,Z4])
        refine Pq (i:=11) (by kernel_rfl) rfl ?_;intro K hK;rw [if_pos (by rfl)];refine Ot (.tmp 36) (.tmp 46) 36 rfl v _ rfl rfl oJ ?_;refine hK.out _ _ (fun h=>absurd h (by decide)) ?_;clear hK K
        (try simp only [Act.put,Z4])
        refine Pq (i:=12) (by kernel_rfl) rfl ?_;intro K hK;rw [if_pos (by rfl)];go_simp;refine hK.out _ _ (fun h=>absurd h (by decide)) ?_;clear hK K
        (try simp only [Act.put,Z4])
        refine CQ (by kernel_rfl) ?_ _;refine Vx.intro ?_;exact HF.out
      · have he2:(E2 == 0)=false:=beq_eq_false_iff_ne.2 e2;have hbad:Zb l=none:=Vt (by rw [<- HN.out];exact HX.out) (by rw [HAT.out,if_neg fun h=>e2 h.2]);obtain ⟨k1,k2,k3,k4⟩:=HST.out X4 Co.out;have HF:=hide (HBAD.out X4 Co.out hbad);clear hbad;gi_wp2;exact ⟨HF.out.1,rfl,HF.out.2⟩
    · have he1:(E1 == 0)=false:=beq_eq_false_iff_ne.2 e1;have hbad:Zb l=none:=Vt (by rw [<- HN.out];exact HX.out) (by rw [HAT.out,if_neg fun h=>e1 h.1]);obtain ⟨k1,k2,k3,k4⟩:=HST.out X4 Co.out;have HF:=hide (HBAD.out X4 Co.out hbad);clear hbad;gi_wp2;exact ⟨HF.out.1,rfl,HF.out.2⟩
  · obtain rfl:q=1:=(by rw [HQ.out,if_neg hq1]);have hbad:Zb l=none:=Vt (by rw [<- HN.out];exact HX.out) (Uu (by rw [<- HN.out];exact hq1));obtain ⟨k1,k2,k3,k4⟩:=HST.out X2 (Below.refl _ _);have HF:=hide (HBAD.out X2 (Below.refl _ _) hbad);clear hbad hq1;gi_wp2;exact ⟨HF.out.1,rfl,HF.out.2⟩
end
end
section
open Go.RowKit Go.Shelf
def qQ(l:List (List UInt8))(k:Int)(w:World)(e:Ending)(w':World):Prop :=
 Below w.heap.size w w'/\((∃ ps v,Zb l=some ps/\(ps.length:Int)=k/\e=.returned (.tuple #[v,.bool true])/\w'.ownsRow w.heap.size 41 2 v ps.length (Y7 ps))\/((∀ ps,Zb l=some ps->(ps.length:Int)≠k)/\∃ v,e=.returned (.tuple #[v,.bool false])))
theorem OL(l:List (List UInt8))(b off c:Nat)(hc:l.length<=c)(hl:∀ x∈l,x.length<=1000000)(hn:l.length<=1000000)(k:Int)(w:World)(hs:Sl w w.heap.size (some ⟨b,off,none⟩) (ZN l))(hw:MW w):
 Calls prog 136 #[.slice (some ⟨b,off,none⟩) l.length c,.int .i64 k] w (qQ l k w):=by
 have HP:=hide (Xa l b off c hc hl hn w hs hw);obtain ⟨n,hnn⟩:=eE l.length;rw [<- hnn] at HP ⊢;clear hc hn hs hw hnn hl;go_enter func136,ntmps136;go_wp2_with fail;refine HP.out.mono ?_;rintro e w' ⟨hb,⟨ps,v,h1,rfl,ZO⟩|⟨h1,rfl⟩⟩
 · obtain ⟨VA,vc,rfl,yA⟩:=ZM ZO
   by_cases hk:(ps.length:Int)=k
   · obtain ⟨m,hm⟩:=eE ps.length;have HO:=hide ZO;have HB:=hide hb;have H1:=hide h1;rw [<- hm] at hk;have HM:=hide hm;rw [<- hm];clear ZO hb h1 hm yA;subst hk;go_wp2;go_ret2;exact ⟨HB.out,.inl ⟨ps,_,H1.out,by rw [HM.out],rfl,by rw [HM.out];exact HO.out⟩⟩
   · obtain ⟨m,hm⟩:=eE ps.length;have HB:=hide hb;have H1:=hide h1;rw [<- hm] at hk;have HM:=hide hm;rw [<- hm];clear ZO hb h1 hm yA;go_wp2;go_ret2;have hkb:((m:Int) == k)=false:=beq_eq_false_iff_ne.2 hk;refine ⟨HB.out,.inr ⟨fun ps' h=>?_,_,by rw [<- hkb];rfl⟩⟩;rw [H1.out] at h;cases h;rw [<- HM.out];exact hk
 · have HB:=hide hb;have H1:=hide h1;clear hb h1;go_wp2;go_ret2;exact ⟨HB.out,.inr ⟨fun ps h=>(by rw [H1.out] at h;cases h),_,rfl⟩⟩
end
end Go.Proofs.YthnenedoblncjaaGreatDoor