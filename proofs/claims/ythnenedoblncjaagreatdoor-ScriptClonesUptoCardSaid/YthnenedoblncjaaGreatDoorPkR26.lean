/- Chunk ScrPts Exactly -/
import Derived.Laws.BytesArg
import Derived.Test.YthnenedoblncjaaGreatDoorPkR18
import Derived.Test.YthnenedoblncjaaGreatDoorPkR19
import Derived.Test.YthnenedoblncjaaGreatDoorPkR21
import Derived.Test.YthnenedoblncjaaGreatDoorPkR25
set_option maxRecDepth 1000000
set_option maxHeartbeats 8000000
namespace Go.Proofs.YthnenedoblncjaaGreatDoor
open Go.Proofs.Tryz
open List (getElem_toArray getElem_cons_succ getElem_cons_zero setIfInBounds_toArray set_cons_zero set_cons_succ)
section
open Go.RowKit Go.Shelf
attribute [local go_sem] Oper.semAt_some
def zxj(b off n:Nat)(k:Nat):Array Value:=#[.slice (some ⟨b,off+2*k,none⟩) (if 2*k+1<n then 2 else 1) (if 2*k+1<n then 2 else 1)]
theorem og(K:Nat->Prop)(Bs Bn b off n c:Nat)(hc:n<=c)(hn:n<=1000000)(hKs:K Bs)(hKn:K Bn)(w:World)(B1:Z7 w Bs 28 #[.slice (some ⟨b,off,none⟩) n c])(B2:Z7 w Bn 3 #[.int .i64 2]):
 eX prog (fun x=>x<XH n) (zxj b off n) K (fun _=>False) 255 #[.pointer (some ⟨Bs,0,none⟩),.pointer (some ⟨Bn,0,none⟩)] (fun ys=>ys=List.range (XH n)) (XH n) w:=by
 intro l J Jx R W hk zR GQ hJ hJx hY h0;have HB1:=hide (B1.kept hk hKs);have HB2:=hide (B2.kept hk hKn);have HJ:=hide hJ;have HY:=hide hY;have HRs:Hid (R Bs):=hide (zR _ hKs);have HRn:Hid (R Bn):=hide (zR _ hKn);have HRW:=hide GQ;have c1:=HB1.out.q0 rfl;clear hk zR GQ hJ hJx hY B1 B2 hKs hKn;refine (callsIn_wide (n:=6)).1 ?_;refine callsIn_of_wp func255 rfl trivial ?_ rfl;simp only [ntmps255,List.size_toArray,List.length_cons,List.length_nil,Nat.reduceAdd,Nat.reduceSub,Array.replicate_succ,Array.replicate_zero,List.push_toArray,List.append_toArray,List.nil_append,List.cons_append];gi_wp2
 gi_loopw [4] (fun i wr=>∃ k:Nat,k<=XH n/\i=.int .i64 ((2*k:Nat):Int)/\J R (List.range k) wr/\Z9 R W wr)
  (fun i _=>n+2 - (intOf i).toNat)
 case atStart=>exact ⟨0,Nat.zero_le _,rfl,h0,Z9.refl _ _⟩
 case round =>
  clear c1;obtain ⟨k,hk,rfl,hJs,hkp⟩:=hrel;have cs:wr.cell? ⟨Bs,0,none⟩=some (.slice (some ⟨b,off,none⟩) n c):=(HB1.out.kept hkp HRs.out).q0 rfl;have cn:wr.cell? ⟨Bn,0,none⟩=some (.int .i64 2):=(HB2.out.kept hkp HRn.out).q0 rfl;have mP:=hide hkp;clear hkp
  by_cases hlt:2*k<n
  · have hkn:k<XH n:=(by unfold XH;omega);have hRl:∀ j,R j->j<wr.drew.heap.size:=fun j hj=>Nat.lt_of_lt_of_le (HRW.out j hj) mP.out.size;have hJd:J R (List.range k) wr.drew:=HJ.out R R _ wr wr.drew hJs (YC.of_below (ZV (Below.refl _ _)) _ _ _) (fun j hj=>⟨.inl hj,hRl j hj⟩);obtain ⟨fn,tmps,assign,body,hy,hR⟩:=HY.out 5 R (List.range k) k wr.drew hRl hJd (by simpa using hkn) hkn
    have hR2:=hide (hR.mono (R':=fun e W'=>∃ r,e=.returned (.bool r)/\(r=true->J R (List.range (k+1)) W'/\Z9 R wr W')/\(r=false->Jx R W')) (by
     rintro e W' (⟨rfl,h1,h2⟩|⟨rfl,h1,h2⟩)
     · exact ⟨true,rfl,fun _=>⟨by rw [List.range_succ];exact h1,(Z9.drew R wr).trans h2⟩,fun h=>by cases h⟩
     · exact ⟨false,rfl,(fun h=>by cases h),fun _=>h1⟩))
    obtain ⟨m,hm⟩:=eE (2*k);obtain ⟨q,hq⟩:∃ q:Nat,q=if 2*k+1<n then 2 else 1:=⟨_,rfl⟩;unfold zxj at hy;rw [<- hq,<- hm] at hy;rw [<- hm] at hlt ⊢;have Nv:(m:Int)<(n:Int):=(by omega);have hmc:m<=n:=(by omega);have Yv:prog.follows .mixedOrders=true:=(by kernel_rfl);have hq2:q=1/\n=m+1\/q=2/\m+1<n:=(by rw [hq];split <;> omega);have hmin:min (2:Int) ((n - m:Nat):Int)=(q:Int):=(by omega);obtain ⟨e,he⟩:=eE (m+q);have hwq:IntKind.i64.wrap ((m:Int)+(q:Int))=(e:Int):=(by rw [IntKind.wrap_i64];omega);have hem:e - m=q:=(by omega);have hec:e<=c:=(by omega);have hme:m<=e:=(by omega);have hmk:((m:Nat):Int).toNat+2<=n+2:=(by omega);have HM:=hide hm;have zP:Hid (((m:Nat):Int)+2=((2*(k+1):Nat):Int)):=hide (by omega);clear hR hJd hJs hRl hm hq hq2 he;gi_wp2
    gi_region_with_o fail
    all_goals
     gi_wp2_with fail;refine hR2.out.mono ?_;rintro e W3 ⟨r,rfl,hr1,hr2⟩;have HR1:=hide hr1;have HR2:=hide hr2;clear hr1 hr2 hy hR2 cs cn;cases r with
     | false =>
       have mW:=hide (HR2.out rfl);clear HR1 HR2;gi_wp2;refine bodyPost_ret (results_none rfl _ _ _) rfl ?_;exact ⟨⟨_,rfl⟩,.inr mW.out⟩
     | true =>
       have Pp:=hide (mP.out.trans (HR1.out rfl).2);have HJ3:=hide (HR1.out rfl).1;clear HR1 HR2;have cn3:W3.cell? ⟨Bn,0,none⟩=some (.int .i64 2):=(HB2.out.kept Pp.out HRn.out).q0 rfl;gi_wp2;go_roundw
       case rel=>exact ⟨k+1,hkn,by rw [<- zP.out],HJ3.out,Pp.out⟩
       case measure=>simp [intOf];omega
  · obtain rfl:k=XH n:=(by unfold XH at hk ⊢;omega);have Nv:¬ ((2*XH n:Nat):Int)<(n:Int):=(by omega);gi_wp2;go_end0;exact ⟨⟨_,rfl⟩,.inl hJs⟩
theorem oh(A:Option Addr)(n c:Nat)(w:World):Calls prog 189 #[.slice A n c,.int .i64 2] w fun e w' =>
 e=.returned (.func (.func 255) #[] #[.pointer (some ⟨w.heap.size,0,none⟩),.pointer (some ⟨w.heap.size+1,0,none⟩)]) /\
 w'=(w.alloc (.cells #[.slice A n c] 28)).alloc (.cells #[.int .i64 2] 3):=by
 have c1:=(Z7.new2 w (.cells #[.slice A n c] 28) 3 #[.int .i64 2]).q0 rfl;go_enter func189,ntmps189;go_wp2;go_ret;exact ⟨rfl,rfl⟩
end
section
open Go.RowKit Go.Shelf
attribute [local go_sem] Oper.semAt_some
theorem Ai {F:Fence} {n:Nat} {P:Program} {o:Oper} {a:Act} {K:Act->World->Prop} {Q:Exit->Act->World->Prop} {w:World} (s x:Operand) (t:TypeId)
 (hop:o.op=Op.call { callee:=Callee.builtin Builtin.append,args:=#[s,x],argTypes:=#[t,t] }) (v xv:Value) (hs:a.eval s=v) (hx:a.eval x=xv) {v':Value} {w':World}
 (hrun:(Builtin.append_ #[t,t] o.type #[v,xv]).run P w=.ok v' w') (h:K (a.put o.dst v') w'):Oper.wpIn F n P o a w K Q:=by
 unfold Oper.wpIn;refine ⟨?_,?_⟩
 · simp [Oper.about,hop,resolve,Target.leads,Sem.run_pure]
 · rw [Oper.semAt_plain F _ _ (by rw [hop];intro c hc';cases hc')];simp [execOp,hop,resolve,invoke,builtin,hs,hx,hrun,Result.andThen];exact h
theorem KR {fn:Func} {p q:Tmp} {t1 t2:TypeId} {tmps:Array Value} {w:World} {g k:Nat} {v u:Value} (h:fn.results=#[.cell p t1,.cell q t2])
 (h1:∀ w,(isAgg t1).run prog w=.ok false w) (h2:∀ w,(isAgg t2).run prog w=.ok false w)
 (hp:tmps.getD p undef=.pointer (some ⟨g,0,none⟩)) (hq:tmps.getD q undef=.pointer (some ⟨k,0,none⟩)) (hb:w.cell? ⟨g,0,none⟩=some v) (hk:w.cell? ⟨k,0,none⟩=some u) :
 (results fn tmps).run prog w=.ok (.tuple #[v,u]) w:=by
 have hp':tmps[p]?.getD undef=.pointer (some ⟨g,0,none⟩):=by rw [<- hp];simp
 have hq':tmps[q]?.getD undef=.pointer (some ⟨k,0,none⟩):=by rw [<- hq];simp
 simp [results,h,hp',hq',go_sem,hb,hk,h1,h2]
theorem kM:(prog.info? 41).map (fun i=>(i.zero,i.size,i.bytes))=some (some (.agg #[.int .i64 0,.int .i64 0]),2,16):=by kernel_rfl
theorem qP(ps:List Pt)(p:Pt):Zl (ps++[p])=Zl ps++[.int .i64 p.1,.int .i64 p.2]:=by
 simp [Zl]
structure sZ(w:World)(l:List (List UInt8))(b2 b3 b4 lo:Nat)(R:Nat->Prop)(pre:List Nat)(X:World):Prop where
 box:∃ v ps,TP (Ru l) pre=some ps/\(ps=[]->v=.slice none 0 0)/\Z7 X b4 36 #[v]/\X.ownsRow lo 41 2 v ps.length (Zl ps)/\∀ b,v.ownBlock=some b->¬ R b
 r2:Z7 X b2 36 #[.slice none 0 0]
 r3:Z7 X b3 4 #[.bool false]
 nR:¬ R b2/\¬ R b3/\¬ R b4
 bl:Below w.heap.size w X
structure El(w:World)(l:List (List UInt8))(b2 b3:Nat)(R:Nat->Prop)(X:World):Prop where
 bad:Yp l=none
 r2:Z7 X b2 36 #[.slice none 0 0]
 r3:Z7 X b3 4 #[.bool false]
 nR:¬ R b2/\¬ R b3
 bl:Below w.heap.size w X
theorem KG{X Y:World}{base:Nat}{e:TypeId}{size:Nat}{v:Value}{k B:Nat}{xs:List Value}{R Z:Nat->Prop}(h:X.ownsRow base e size v k xs)(hst:YC B Z R X Y)(hz:∀ b,v.ownBlock=some b->¬ Z b)(hn:∀ b,v.ownBlock=some b->¬ R b):Y.ownsRow base e size v k xs:=by
 refine ⟨h.1,?_⟩;rcases h.2 with h0|⟨g',cap,cur,hv,hb1,hh,r⟩
 · exact .inl h0
 · exact .inr ⟨g',cap,cur,hv,hb1,(hst.block g' (Z7.lt hh) (hz g' (by rw [hv];simp [Value.ownBlock])) (.inr ⟨hn g' (by rw [hv];simp [Value.ownBlock]),_,hh,rfl⟩)).trans hh,r⟩
theorem Og{w X Y:World}{B:Nat}{Z R:Nat->Prop}(hbl:Below w.heap.size w X)(hst:YC B Z R X Y)(hB:w.heap.size<=B)(hz:∀ k,Z k->w.heap.size<=k):Below w.heap.size w Y :=
 ⟨hst.os.trans hbl.os,hst.tape.trans hbl.tape,hst.output.trans hbl.output,Nat.le_trans hbl.size hst.size,fun k hk=>(hst.block k (Nat.lt_of_lt_of_le hk hbl.size) (fun h=>by have:=hz k h;omega) (.inl (by omega))).trans (hbl.block k hk)⟩
theorem qR(w:World)(l:List (List UInt8))(b2 b3 b4 lo B:Nat)(h1:w.heap.size<=B)(h2:b2<B/\b3<B/\b4<B):Pq B (fun _=>False) (sZ w l b2 b3 b4 lo):=by
 rintro R R' es X Y ⟨⟨v,ps,hps,h0,hb,ZT,hv⟩,r2,r3,hn,hbl⟩ hst hR
 have hnR:∀ k,k<X.heap.size->¬ R k->¬ R' k:=fun k hk hr h=>by
  rcases (hR k h).1 with h|h
  · exact hr h
  · omega
 exact ⟨⟨v,ps,hps,h0,(hst.block b4 hb.lt (fun h=>h) (.inl h2.2.2)).trans hb,KG ZT hst (fun _ _ h=>h) hv,fun b e=>hnR b (Yk ZT e) (hv b e)⟩,
  (hst.block b2 r2.lt (fun h=>h) (.inl h2.1)).trans r2,(hst.block b3 r3.lt (fun h=>h) (.inl h2.2.1)).trans r3,⟨hnR b2 r2.lt hn.1,hnR b3 r3.lt hn.2.1,hnR b4 hb.lt hn.2.2⟩,Og hbl hst h1 (fun _ h=>h.elim)⟩
theorem nV(w:World)(l:List (List UInt8))(b2 b3 B:Nat)(h1:w.heap.size<=B)(h2:b2<B/\b3<B)(c:Code):Pq B (fun _=>False) (fun R (_:List Nat) X=>c=.ret/\El w l b2 b3 R X):=by
 rintro R R' es X Y ⟨hc,hbad,r2,r3,hn,hbl⟩ hst hR
 have hnR:∀ k,k<X.heap.size->¬ R k->¬ R' k:=fun k hk hr h=>by
  rcases (hR k h).1 with h|h
  · exact hr h
  · omega
 exact ⟨hc,hbad,(hst.block b2 r2.lt (fun h=>h) (.inl h2.1)).trans r2,(hst.block b3 r3.lt (fun h=>h) (.inl h2.2)).trans r3,⟨hnR b2 r2.lt hn.1,hnR b3 r3.lt hn.2⟩,Og hbl hst h1 (fun _ h=>h.elim)⟩
theorem uO(a:List UInt8)(ha:a.length<=1000000)(X:World)(hw:MW X):Calls prog 144 #[.string (strOf a),.int .i64 1] X fun e X'=>Below X.heap.size X X' /\
 ∃ A n c,e=.returned (.tuple #[.slice A n c,.int .i64 (WX a 1)])/\(WX a 1=0->n=1/\∃ bx ox z,A=some ⟨bx,ox,none⟩/\X'.cell? ⟨bx,ox,none⟩=some (.int .u64 z)/\bx<X'.heap.size/\IntKind.i64.wrap z=pVal a):=by
 refine (H7 (strOf a) 1 (by rw [ZK];unfold maxLen;omega) X hw.1 hw.2).mono ?_;rintro e X' ⟨hb,h⟩;have e0:(strOf a).data.toList=a:=rfl;rw [e0] at h;refine ⟨hb,?_⟩;rcases h with ⟨h0,A,c,rfl,hs⟩|⟨h0,rfl⟩
 · refine ⟨A,_,c,by rw [h0];rfl,fun _=>⟨rfl,?_⟩⟩;obtain ⟨bx,ox,rfl,hbx,hcx⟩:=hs.u (by rw [ZQ];decide);have hf:=wU (QO h0);refine ⟨bx,ox,_,rfl,hcx 0 _ (Yw _ (by decide)),hbx,?_⟩;unfold lim;rw [IntKind.wrap_i64];simp only [Int.pow_zero,Int.ediv_one];omega
 · exact ⟨none,0,0,rfl,fun h=>absurd h h0⟩
theorem PX{l:List (List UInt8)}{x:Nat}(hx:x<XH l.length)(h:Ru l x=none):Yp l=none:=by
 have:kN l=none:=Ht (Ru l) h (List.mem_range.2 hx);unfold Yp;rw [this]
theorem RH{l:List (List UInt8)}{b off k B:Nat}{a:List UInt8}{Y:World}(h:Sl Y B (some ⟨b,off,none⟩) (ZF l))(ha:l[k]?=some a):Y.cell? ⟨b,off+k,none⟩=some (.string (strOf a)):=by
 rcases h with h|⟨b',off',hA,_,hc⟩
 · have h2:=Va ha;rw [h] at h2;cases h2
 · injection hA with hA;injection hA with h1 h2 _;subst h1;subst h2;exact hc k _ (Va ha)
theorem qU {w:World} {l:List (List UInt8)} {b2 b3 s:Nat} {R:Nat->Prop} {X2 X3:World} (hb:Below X2.heap.size X2 X3) (hbad:Yp l=none) (r2:Z7 X2 b2 36 #[.slice none 0 0]) (r3:Z7 X2 b3 4 #[.bool false])
 (h2:¬ R b2/\b2≠s/\b2≠s+1) (h3:¬ R b3/\b3≠s/\b3≠s+1) (h23:b2≠b3) (hw:w.heap.size<=b2/\w.heap.size<=b3) (hR:∀ k,Bk R s k->k<X2.heap.size) (hbl:Below w.heap.size w X2) :
 Z9 (Bk R s) X2 ((X3.setCell ⟨b2,0,none⟩ (.slice none 0 0)).setCell ⟨b3,0,none⟩ (.bool false))/\El w l b2 b3 R ((X3.setCell ⟨b2,0,none⟩ (.slice none 0 0)).setCell ⟨b3,0,none⟩ (.bool false)):=by
 have n2:¬ Bk R s b2:=fun h=>by rcases h with h|h|h;exact h2.1 h;exact h2.2.1 h;exact h2.2.2 h
 have n3:¬ Bk R s b3:=fun h=>by rcases h with h|h|h;exact h3.1 h;exact h3.2.1 h;exact h3.2.2 h
 refine ⟨((Z9.of_below hb hR).trans (Z9.setCell n2 _ _ _)).trans (Z9.setCell n3 _ _ _),hbad,?_,?_,⟨h2.1,h3.1⟩,?_⟩
 · exact (((r2.step hb).set 0 (.slice none 0 0))).far (p:=⟨b3,0,none⟩) h23 _
 · exact (((r3.step hb).far (p:=⟨b2,0,none⟩) (Ne.symm h23) _).set 0 (.bool false))
 · exact ((Z8 hbl hb).setCell hw.1 _).setCell hw.2 _
def Em(l:List (List UInt8))(w:World)(e:Ending)(w':World):Prop :=
 Below w.heap.size w w'/\((∃ ps v,Yp l=some ps/\e=.returned (.tuple #[v,.bool true])/\w'.ownsRow w.heap.size 41 2 v ps.length (Zl ps))\/(Yp l=none/\e=.returned (.tuple #[.slice none 0 0,.bool false])))
section
variable (l:List (List UInt8))(b off c:Nat)(hc:l.length<=c)(hl:∀ x∈l,x.length<=1000000)(hn:l.length<=1000000)(w:World)(hs:Sl w w.heap.size (some ⟨b,off,none⟩) (ZF l))(hw:MW w)
include hc hl hn hs hw
theorem U5:Calls prog 139 #[.slice (some ⟨b,off,none⟩) l.length c] w (Em l w):=by
 have Yv:prog.follows .mixedOrders=true:=by kernel_rfl
 obtain ⟨b2,hb2⟩:∃ z,z=w.heap.size:=⟨_,rfl⟩;obtain ⟨b3,hb3⟩:∃ z,z=w.heap.size+1:=⟨_,rfl⟩;obtain ⟨b4,hb4⟩:∃ z,z=w.heap.size+1+1:=⟨_,rfl⟩;obtain ⟨s1,hs1⟩:∃ z,z=w.heap.size+1+1+1:=⟨_,rfl⟩;obtain ⟨s2,hs2⟩:∃ z,z=s1+1:=⟨_,rfl⟩;obtain ⟨w1,hw1⟩:=eE (((w.alloc (.cells #[.slice none 0 0] 36)).alloc (.cells #[.bool false] 4)).alloc (.cells #[.slice none 0 0] 36));have pF:Below w.heap.size w w1:=by rw [hw1];exact Z5 (Z5 (bA) _) _
 have hz1:w1.heap.size=s1:=by rw [hw1,hs1];simp
 have R2:Z7 w1 b2 36 #[.slice none 0 0]:=by rw [hw1,hb2];exact ((Z7.new _ _ _).alloc _).alloc _
 have R3:Z7 w1 b3 4 #[.bool false]:=by rw [hw1,hb3];exact (Z7.new2 _ _ _ _).alloc _
 have R4:Z7 w1 b4 36 #[.slice none 0 0]:=by
  rw [hw1,hb4];have h:=Z7.new ((w.alloc (.cells #[.slice none 0 0] 36)).alloc (.cells #[.bool false] 4)) 36 #[.slice none 0 0];simp only [World.size_alloc] at h;exact h
 obtain ⟨w2,hw2⟩:=eE ((w1.alloc (.cells #[.slice (some ⟨b,off,none⟩) l.length c] 28)).alloc (.cells #[.int .i64 2] 3));have BG:=bF hw2;have S1:Z7 w2 s1 28 #[.slice (some ⟨b,off,none⟩) l.length c]:=by rw [hw2,<- hz1];exact (Z7.new _ _ _).alloc _
 have S2:Z7 w2 s2 3 #[.int .i64 2]:=by rw [hw2,hs2,<- hz1];exact Z7.new2 _ _ _ _
 have hz2:w2.heap.size=b2+5:=by rw [hw2];simp [hz1];omega
 have Kg:=Z8 pF BG;have CK:=hide (oh (some ⟨b,off,none⟩) l.length c w1);rw [<- hw2,hz1,<- hs2] at CK
 have Jq:Hid (eX prog (fun x=>x<XH l.length) (zxj b off l.length) (fun k=>k<b2\/k=s1\/k=s2) (fun _=>False) 255 #[.pointer (some ⟨s1,0,none⟩),.pointer (some ⟨s2,0,none⟩)] (fun ys=>ys=List.range (XH l.length)) (XH l.length) w2) :=
  hide (og _ s1 s2 b off l.length c hc hn (.inr (.inl rfl)) (.inr (.inr rfl)) w2 S1 S2)
 have II:Hid (sZ w l b2 b3 b4 (b2+7) (fun k=>k<b2\/k=s1\/k=s2) [] w2):=hide
  ⟨⟨_,[],rfl,fun _=>rfl,R4.step BG,World.ownsRow_nil _ _ _ _,fun _ h=>(by cases h)⟩,R2.step BG,R3.step BG,⟨by omega,by omega,by omega⟩,Kg⟩
 have HS:=hide hs;have HMW:=hide hw;have sO:=hide hl;have HZ:Hid (b2=w.heap.size/\b3=b2+1/\b4=b2+2/\s1=b2+3/\s2=b2+4/\w2.heap.size=b2+5):=hide (by omega);have zeu:=hide Kg;have ng:∀ args w,(callFunc 255 args).run prog w=.ok (.enter 255 args) w:=enters_of func255 (by kernel_rfl) rfl;have HEG:=hide ng;obtain ⟨n,hnn⟩:=eE l.length;have HN:=hide hnn;have dV:=hide hn;rw [<- hnn] at Jq CK ⊢;have zgl:=hide hb4;have iI:=hide hb3;have hb2':=hide hb2;clear hc hl hn hs hw pF hz1 R2 R3 R4 hw2 BG S1 S2 hz2 Kg ng hnn hb2 hb3 hb4 hs1 hs2;refine (callsIn_wide (n:=6)).1 ?_;refine callsIn_of_wp_marks func139 rfl trivial ?_ rfl;simp only [ntmps139,List.size_toArray,List.length_cons,List.length_nil,Nat.reduceAdd,Nat.reduceSub,Array.replicate_succ,Array.replicate_zero,List.push_toArray,List.append_toArray,List.nil_append,List.cons_append];gi_wp2_with fail;rw [<- hw1,<- zgl.out,<- iI.out,<- hb2'.out];clear hw1 zgl iI hb2';refine ⟨trivial,?_⟩;refine (callsIn_wide.2 CK.out).mono ?_;rintro e w' ⟨rfl,rfl⟩;clear CK;gi_wp2_with fail;refine SA (K:=fun k=>k<b2\/k=s1\/k=s2) rfl HEG.out Jq.out (fun _ h=>h.elim) (fun k h=>by have:=HZ.out;omega) (fun _=>rfl) (sZ w l b2 b3 b4 (b2+7)) (fun c R X=>c=.ret/\El w l b2 b3 R X) ?h1 ?h2 II.out ?round ?done ?stop
 case h1=>exact qR w l b2 b3 b4 (b2+7) _ zeu.out.size (by have:=HZ.out;omega)
 case h2=>exact nV w l b2 b3 _ zeu.out.size (by have:=HZ.out;omega)
 case stop =>
  rintro cc X ⟨rfl,hbad,r2,r3,-,hbl⟩ hD -;have c2:=r2.q0 rfl;have c3:=r3.q0 rfl;have zX:=hide hbl;have HD:=hide hD;have HBAD:=hide hbad;have H2:Hid (Z7 (X.putObj w'.heap.size (.deferred none)) b2 36 #[.slice none 0 0]):=hide ((World.putObj_heap_other (by have:=HZ.out;omega)).trans r2);have H3:Hid (Z7 (X.putObj w'.heap.size (.deferred none)) b3 4 #[.bool false]):=hide ((World.putObj_heap_other (by have:=HZ.out;omega)).trans r3);clear r2 r3 hbl hD hbad;gi_wp2;refine ⟨by simp,.inl ⟨_,_,rfl,run_takeDeferred HD.out,?_⟩⟩;have g:=grownBy_putObj' X w'.heap.size (.deferred none);refine ⟨_,KR rfl (fun w=>by kernel_rfl) (fun w=>by kernel_rfl) rfl rfl (H2.out.q0 rfl) (H3.out.q0 rfl),?_⟩;exact ⟨zX.out.grown g zX.out.size (fun k e=>by cases e;have:=HZ.out;omega),.inr ⟨HBAD.out,rfl⟩⟩
 case done =>
  rintro ys X rfl ⟨⟨v,ps,hps,h0,hb,ZT,hv⟩,r2,r3,-,hbl⟩ hD -;obtain ⟨VA,vc,rfl,xV⟩:=ZP ZT;have c4:=hb.q0 rfl;have c2:=r2.q0 rfl;have c3:=r3.q0 rfl;have f2:=r2.frozen 0;have f3:=r3.frozen 0;obtain ⟨m,hm⟩:=eE ps.length;obtain ⟨ok,hok⟩:=eE (decide (0<m));have hfin:∃ v',((Yp l=some ps/\ok=true)\/(Yp l=none/\ok=false/\VA=none/\m=0/\vc=0))/\v'=Value.slice VA m vc:=by
   refine ⟨_,?_,rfl⟩;have hw:kN l=some ps:=(by unfold kN;rw [<- HN.out];exact hps);cases ps with
   | nil =>
     right
     have hm0:m=0:=hm;refine ⟨by unfold Yp;rw [hw],by rw [hok,hm0];rfl,?_⟩;have h:=h0 rfl;injection h with h1 h2 h3;exact ⟨h1,hm0,h3⟩
   | cons p r =>
     left
     refine ⟨by unfold Yp;rw [hw],by rw [hok,hm];simp⟩
  obtain ⟨v',hfin,hv'⟩:=hfin;have hok':decide (0<m)=ok:=hok.symm;rw [<- hm] at c4;have HOWN:Hid (X.ownsRow (b2+7) 41 2 v' ps.length (Zl ps)):=hide (by rw [hv',hm];exact ZT);have HF:=hide hfin;have HV:=hide hv';have HD:=hide hD;have zX:=hide hbl;have HR2:=hide r2;have HR3:=hide r3;clear hps h0 hb ZT hv hm hok hfin hv' hD hbl r2 r3 xV;gi_wp2;have hS0:X.drew.cell? ⟨b4,0,none⟩=some (.slice VA m vc):=c4;have c2d:X.drew.cell? ⟨b2,0,none⟩=some (.slice none 0 0):=c2;have f2d:X.drew.frozen? ⟨b2,0,none⟩=false:=f2;have h32:b3≠b2/\b4≠b2/\b4≠b3:=by have:=HZ.out;omega
  obtain ⟨X4,hX4⟩:=eE (X.drew.setCell ⟨b2,0,none⟩ (.slice VA m vc));obtain ⟨X5,Lr⟩:=eE (X4.setCell ⟨b3,0,none⟩ (.bool ok));have Q2:Z7 X4 b2 36 #[.slice VA m vc]:=by rw [hX4];exact HR2.out.drew.set 0 _
  have Q3:Z7 X4 b3 4 #[.bool false]:=by rw [hX4];exact HR3.out.drew.far (p:=⟨b2,0,none⟩) h32.1 _
  have c3d:=Q3.q0 rfl;have f3d:=Q3.frozen 0;have hS4:X4.cell? ⟨b4,0,none⟩=some (.slice VA m vc):=by rw [hX4];exact (World.cell?_setCell_other _ _ _ _ (fun e=>by injection e with e;exact h32.2.1 e.symm)).trans hS0
  have hS5:X5.cell? ⟨b4,0,none⟩=some (.slice VA m vc):=by rw [Lr];exact (World.cell?_setCell_other _ _ _ _ (fun e=>by injection e with e;exact h32.2.2 e.symm)).trans hS4
  have HQ2:Hid (Z7 X5 b2 36 #[.slice VA m vc]):=hide (by rw [Lr];exact Q2.far (p:=⟨b3,0,none⟩) (Ne.symm h32.1) _);have HQ3:Hid (Z7 X5 b3 4 #[.bool ok]):=hide (by rw [Lr];exact Q3.set 0 _)
  have nG:Hid (Below w.heap.size w X5):=hide (by
   rw [Lr,hX4]
   exact ((ZV zX.out).setCell (by have:=HZ.out;dsimp only;omega) _).setCell (by have:=HZ.out;dsimp only;omega) _)
  have cK:Hid (X5.ownsRow (b2+7) 41 2 v' ps.length (Zl ps)):=hide (by
   rw [Lr,hX4];refine Yt (Yt (ZI HOWN.out (ZV (Below.refl _ _))) (fun e=>?_) _) (fun e=>?_) _
   · have h:=ZN HOWN.out e;dsimp only at h;omega
   · have h:=ZN HOWN.out e;have:=HZ.out;dsimp only at h;omega)
  have HD5:Hid (X5.heap[w'.heap.size]?=some (.deferred (some []))):=hide (by
   rw [Lr,hX4]
   exact (Below.heap_setCell _ ⟨b3,0,none⟩ _ _ (by have:=HZ.out;dsimp only;omega)).trans ((Below.heap_setCell _ ⟨b2,0,none⟩ _ _ (by have:=HZ.out;dsimp only;omega)).trans HD.out))
  have yyz:=hX4.symm;have zgi:=Lr.symm;clear hX4 Lr Q2 Q3 c2 c3 f2 f3 c4;refine l9 1000 (S:=fun w'=>w'.cell? ⟨b4,0,none⟩=some (.slice VA m vc)) Yv ?_;generalize X.drew=u0 at *;refine' Z0 (i:=0) rfl ?VK hS0 ?Uz
  case VK =>
   intro w' hSw;go_simp;rfl
  simp only [Act.put,getElem_toArray,getElem_cons_zero,setIfInBounds_toArray,set_cons_zero,set_cons_succ];refine' Z0 (i:=1) rfl ?VL hS0 ?UA
  case VL =>
   intro w' hSw;go_simp;rfl
  simp only [Act.put,Z6];refine' Z0 (i:=2) rfl ?VN hS0 ?UC
  case VN =>
   intro w' hSw;go_simp;rfl
  simp only [Act.put,Z6];refine' Z0 (i:=3) rfl ?U1 hS0 ?Tm
  case U1 =>
   intro w' hSw;go_simp;rfl
  simp only [Act.put,Z6];refine Zc (i:=4) (by kernel_rfl) rfl ?_;intro K hK;rw [if_pos (by rfl)];go_simp;refine hK.out _ _ (fun _=>hS4) ?_;clear hK K
  (try simp only [Act.put,Z6])
  refine Zc (i:=5) (by kernel_rfl) rfl ?_;intro K hK;rw [if_pos (by rfl)];go_simp;refine hK.out _ _ (fun _=>hS5) ?_;clear hK K
  (try simp only [Act.put,Z6])
  refine Yc (by kernel_rfl) ?_ _;refine Qc.intro ?_;gi_wp2;refine ⟨by simp,.inl ⟨_,_,rfl,run_takeDeferred HD5.out,?_⟩⟩;have g:=grownBy_putObj' X5 w'.heap.size (.deferred none);have e2:Z7 (X5.putObj w'.heap.size (.deferred none)) b2 36 #[.slice VA m vc]:=(World.putObj_heap_other (by have:=HZ.out;omega)).trans HQ2.out;have e3:Z7 (X5.putObj w'.heap.size (.deferred none)) b3 4 #[.bool ok]:=(World.putObj_heap_other (by have:=HZ.out;omega)).trans HQ3.out;refine ⟨_,KR rfl (fun w=>by kernel_rfl) (fun w=>by kernel_rfl) rfl rfl (e2.q0 rfl) (e3.q0 rfl),?_⟩;refine ⟨nG.out.grown g nG.out.size (fun k e=>by cases e;have:=HZ.out;omega),?_⟩;have jd:v'.ownBlock≠some w'.heap.size:=fun e=>by have h:=ZN cK.out e;have:=HZ.out;omega
  have WQ:=cK.out.kept g (.inr jd);rcases HF.out with ⟨h1,rfl⟩|⟨h1,rfl,rfl,rfl,rfl⟩
  · refine .inl ⟨ps,v',h1,by rw [HV.out];rfl,WQ.1,?_⟩;rcases WQ.2 with h0|⟨g',cap,cur,q1,q2,r⟩
    · exact .inl h0
    · exact .inr ⟨g',cap,cur,q1,by have:=HZ.out;omega,r⟩
  · exact .inr ⟨h1,rfl⟩
 case round =>
  rintro R pre x X hR hnl Ko ⟨rec,hrec⟩ ⟨⟨v,ps,hps,h0,hb,ZT,hv⟩,r2,r3,⟨n2,n3,n4⟩,hbl⟩ hpre hx;have hz:=HZ.out;unfold zxj;obtain ⟨q,hq⟩:=eE (if 2*x+1<n then 2 else 1);obtain ⟨m,hm⟩:=eE (off+2*x);rw [<- hq,<- hm];have jd:v.ownBlock≠some (w'.heap.size+1):=fun e=>by have h:=ZN ZT e;omega
  have SE:=hide (And.intro hR (And.intro hnl (And.intro Ko (And.intro hrec (And.intro hps (And.intro h0 (And.intro hb (And.intro ZT (And.intro hv (And.intro r2 (And.intro r3 (And.intro n2 (And.intro n3 (And.intro n4 hbl))))))))))))));have Qx:Hid (b2+7<=X.heap.size):=hide (by omega);have HQ:=hide hq;have HM:=hide hm;have HX:=hide hx;have zY:=hide hpre;have HVN:=hide jd;clear hR hnl Ko hrec hps h0 hb ZT hv r2 r3 n2 n3 n4 hbl hz hq hm hx hpre jd;gi_wp2;refine ⟨Z9.refl _ _,fun o=>?_⟩;obtain ⟨hR,hnl,Ko,hrec,hps,h0,hb,ZT,hv,r2,r3,n2,n3,n4,hbl⟩:=SE.out;clear SE;have hz:=HZ.out;obtain ⟨X2,hX2⟩:=eE (X.putObj (w'.heap.size+1) (.loop o));have iO:X.grownBy X2 (some (w'.heap.size+1)):=by rw [hX2];exact grownBy_putObj' _ _ _
  have zfl:Hid (b2+7<=X2.heap.size):=hide (Nat.le_trans Qx.out iO.size);have hb':Z7 X2 b4 36 #[v]:=by rw [hX2];exact (World.putObj_heap_other (by omega)).trans hb
  have r2':Z7 X2 b2 36 #[.slice none 0 0]:=by rw [hX2];exact (World.putObj_heap_other (by omega)).trans r2
  have r3':Z7 X2 b3 4 #[.bool false]:=by rw [hX2];exact (World.putObj_heap_other (by omega)).trans r3
  have hown':=ZT.kept iO (.inr HVN.out);have zqa:Below w.heap.size w X2:=hbl.grown iO hbl.size (fun j e=>by cases e;omega)
  have hR':∀ k,Bk R w'.heap.size k->k<X2.heap.size:=fun k hk=>by
   have:=iO.size;rcases hk with hk|hk|hk
   · have:=hR k hk;omega
   · omega
   · omega
  rw [<- hX2]
  have HBAD:Hid (∀ X3,Below X2.heap.size X2 X3->Yp l=none->Z9 (Bk R w'.heap.size) X2 ((X3.setCell ⟨b2,0,none⟩ (.slice none 0 0)).setCell ⟨b3,0,none⟩ (.bool false))/\El w l b2 b3 R ((X3.setCell ⟨b2,0,none⟩ (.slice none 0 0)).setCell ⟨b3,0,none⟩ (.bool false))) :=
   hide fun X3 h1 h2=>qU h1 h2 r2' r3' ⟨n2,by omega,by omega⟩ ⟨n3,by omega,by omega⟩ (by omega) (by omega) hR' zqa
  have h23:b2≠b3:=by omega
  have HST:Hid (∀ X3,Below X2.heap.size X2 X3->X3.cell? ⟨b2,0,none⟩=some (.slice none 0 0)/\X3.frozen? ⟨b2,0,none⟩=false/\(X3.setCell ⟨b2,0,none⟩ (.slice none 0 0)).cell? ⟨b3,0,none⟩=some (.bool false)/\(X3.setCell ⟨b2,0,none⟩ (.slice none 0 0)).frozen? ⟨b3,0,none⟩=false) :=
   hide fun X3 h1=>⟨(r2'.step h1).q0 rfl,(r2'.step h1).frozen 0,((r3'.step h1).far (p:=⟨b2,0,none⟩) (Ne.symm h23) _).q0 rfl,((r3'.step h1).far (p:=⟨b2,0,none⟩) (Ne.symm h23) _).frozen 0⟩
  have HOWN:=hide hown';have LM:=hide hb';have zX:=hide zqa;have HRR:=hide hR';have Lg:=hide hps;have H0:=hide h0;have HV:=hide hv;have HNR:=hide (And.intro n2 (And.intro n3 n4));have sU:=hide (And.intro r2' r3');clear hR hnl Ko hrec hps h0 hb ZT hv r2 r3 n2 n3 n4 hbl hz hX2 iO hb' r2' r3' hown' zqa hR' h23
  by_cases hq1:2*x+1<n
  · obtain rfl:q=2:=(by rw [HQ.out,if_pos hq1]);obtain ⟨a,ha⟩:∃ a,l[2*x]?=some a:=⟨_,List.getElem?_eq_getElem (by rw [<- HN.out];omega)⟩;obtain ⟨d,hd⟩:∃ d,l[2*x+1]?=some d:=⟨_,List.getElem?_eq_getElem (by rw [<- HN.out];omega)⟩;have hat:=CY ha hd;have hSX:Sl X2 X2.heap.size (some ⟨b,off,none⟩) (ZF l):=(HS.out.below zX.out).more zX.out.size;have ca:=RH hSX ha;rw [<- HM.out] at ca;have P1:=hide (uO a (sO.out a (List.mem_of_getElem? ha)) X2 (HMW.out.step zX.out));have P2:=hide (fun X3 (h:Below X2.heap.size X2 X3)=>uO d (sO.out d (List.mem_of_getElem? hd)) X3 (HMW.out.step (Z8 zX.out h)))
    have CD:Hid (∀ X3,Below X2.heap.size X2 X3->X3.cell? ⟨b,m+1,none⟩=some (.string (strOf d))):=hide fun X3 h=>by
     have:=RH ((hSX.below h).more h.size) hd;rw [show off+(2*x+1)=m+1 from by rw [HM.out];omega] at this;exact this
    obtain ⟨E1,hE1⟩:∃ E,E=WX a 1:=⟨_,rfl⟩;obtain ⟨E2,hE2⟩:∃ E,E=WX d 1:=⟨_,rfl⟩;obtain ⟨V1,hV1⟩:∃ E,E=pVal a:=⟨_,rfl⟩;obtain ⟨V2,hV2⟩:∃ E,E=pVal d:=⟨_,rfl⟩;obtain ⟨T1,hT1⟩:∃ T,T=strOf a:=⟨_,rfl⟩;obtain ⟨T2,hT2⟩:∃ T,T=strOf d:=⟨_,rfl⟩;rw [<- hE1,<- hE2,<- hV1,<- hV2] at hat;rw [<- hT1] at ca P1;rw [<- hE1,<- hV1] at P1;rw [<- hT2] at P2 CD;rw [<- hE2,<- hV2] at P2;have HAT:=hide hat;clear hq1 ha hd hat hSX hE1 hE2 hV1 hV2 hT1 hT2;gi_wp2_with fail;refine ⟨trivial,?_⟩;refine (CallsIn.inRound _ (callsIn_wide.2 P1.out)).mono ?_;rintro e X3 ⟨hb3,A1,n1,c1,rfl,h1⟩;have HB3:=hide hb3;have HH1:=hide h1;have cd:=CD.out X3 hb3;clear hb3 h1 ca P1 CD;gi_wp2_with fail;refine ⟨trivial,?_⟩;refine (CallsIn.inRound _ (callsIn_wide.2 (P2.out X3 HB3.out))).mono ?_;rintro e X4 ⟨hb4,A2,n2,c2,rfl,h2⟩;have zet:=hide hb4;have bV:=hide (Z8 HB3.out hb4);have HH2:=hide h2;clear hb4 h2 cd P2
    by_cases e1:E1=0
    · subst e1
      by_cases e2:E2=0
      · subst e2;obtain ⟨rfl,bx,ox,z1,rfl,cx,hbx,wx⟩:=HH1.out rfl;obtain ⟨rfl,RU,oy,z2,rfl,cy,hby,wy⟩:=HH2.out rfl;have cx4:X4.cell? ⟨bx,ox,none⟩=some (.int .u64 z1):=(World.cell?_of_block (zet.out.block bx hbx)).trans cx;have hz:=HZ.out;have c4:X4.cell? ⟨b4,0,none⟩=some v:=(LM.out.step bV.out).q0 rfl;obtain ⟨X5,Lr⟩:=eE (X4.drew.alloc (.cells #[.int .i64 V1,.int .i64 V2] 41));obtain ⟨g5,hg5⟩:=eE X4.drew.heap.size;have EG:Below X4.heap.size X4 X5:=(by rw [Lr];exact Z5 (ZV (Below.refl _ _)) _);have N5:Z7 X5 g5 41 #[.int .i64 V1,.int .i64 V2]:=(by rw [Lr,hg5];exact Z7.new _ _ _);have Ke:=Z8 bV.out EG;have WQ:=ZI HOWN.out Ke;have hpl:ps.length=pre.length:=KD _ Lg.out;have hpn:ps.length<=1000000:=(by have:=zY.out;have:=dV.out;have:=HN.out;unfold XH at *;omega);obtain ⟨i0,hi,hz0,hz1,hz2⟩:=info_parts kM;obtain ⟨g6,c6,X6,hr6,VJ,N8,BJ,zqk⟩:=run_append_lies (P:=prog) X5 36 36 (b2+7) 41 i0 (.agg #[.int .i64 0,.int .i64 0]) 2 16 underlying36 hi hz0 hz1 hz2 rfl (by decide) v ps.length (Zl ps) WQ ⟨g5,0,none⟩ 1 1 [.int .i64 V1,.int .i64 V2] rfl (ZB N5) (by simp [Value.oneCell']) (by omega) (by unfold maxLen;omega) (by omega) (Nat.le_trans zfl.out Ke.size) _ rfl;have hvB:v.ownBlock≠some b4:=fun e=>by have h:=ZN HOWN.out e;omega
        have uj:=LM.out.step Ke;have hB6:Z7 X6 b4 36 #[v]:=uj.grown N8 (Ne.symm hvB);obtain ⟨nR2,nR3,nR4⟩:=HNR.out;have pO:¬ R g6/\b2+7<=g6:=by
         have hs2:=Ke.size;rcases BJ with h|h
         · exact ⟨HV.out g6 h,ZN HOWN.out h⟩
         · refine ⟨fun hr=>?_,?_⟩
           · have:=HRR.out g6 (.inl hr);omega
           · have:=zfl.out;omega
        obtain ⟨X7,xB⟩:=eE (X6.setCell ⟨b4,0,none⟩ (.slice (some ⟨g6,0,none⟩) (ps.length+1) c6));have hB7:Z7 X7 b4 36 #[.slice (some ⟨g6,0,none⟩) (ps.length+1) c6]:=(by rw [xB];exact hB6.set 0 _);have XU:X7.ownsRow (b2+7) 41 2 (.slice (some ⟨g6,0,none⟩) (ps.length+1) c6) (ps++[(V1,V2)]).length (Zl (ps++[(V1,V2)])):=by
         have e:(ps++[(V1,V2)]).length=ps.length+1:=(by simp);rw [qP,e,xB];exact Yt VJ (by simp [Value.ownBlock];omega) _
        have hk5:Z9 (Bk R w'.heap.size) X2 X5:=Z9.of_below Ke HRR.out
        have Uh:Z9 (Bk R w'.heap.size) X5 X6:=⟨N8.os,N8.tape,N8.output,N8.size,fun j hj=>N8.block j (Nat.lt_of_lt_of_le (HRR.out j hj) Ke.size) (fun e=>by
         rcases hj with hj|hj|hj
         · exact HV.out j e.symm hj
         · have h:=ZN HOWN.out e.symm;omega
         · have h:=ZN HOWN.out e.symm;omega)⟩
        have hk7:Z9 (Bk R w'.heap.size) X2 X7:=by
         rw [xB];refine (hk5.trans Uh).trans (Z9.setCell ?_ _ _ _);rintro (hj|hj|hj)
         · exact nR4 hj
         · omega
         · omega
        have xE:Below w.heap.size w X6:=(Z8 zX.out Ke).grown N8 (Z8 zX.out Ke).size (fun j e=>by have h:=ZN HOWN.out e;omega);obtain ⟨r2,r3⟩:=sU.out
        have HF:Hid (Z9 (Bk R w'.heap.size) X2 X7/\sZ w l b2 b3 b4 (b2+7) R (pre++[x]) X7):=hide ⟨hk7,⟨⟨_,_,Hu (Ru l) x (by rw [HAT.out,if_pos ⟨rfl,rfl⟩]) Lg.out,fun h=>(by simp at h),hB7,XU,fun j e=>by
         have:g6=j:=(by have:some g6=some j:=e;exact Option.some.inj this);subst this
         exact pO.1⟩,
         by rw [xB];exact (((r2.step Ke).grown N8 (fun e=>by have h:=ZN HOWN.out e.symm;omega)).far (p:=⟨b4,0,none⟩) (by dsimp only;omega) _),
         by rw [xB];exact (((r3.step Ke).grown N8 (fun e=>by have h:=ZN HOWN.out e.symm;omega)).far (p:=⟨b4,0,none⟩) (by dsimp only;omega) _),⟨nR2,nR3,nR4⟩,
         by rw [xB];exact xE.setCell (by dsimp only;omega) _⟩⟩
        have c46:=hB6.q0 rfl;have f46:=hB6.frozen 0;have zgi:=Lr.symm;have zcl:=xB.symm;have S0:X4.drew.cell? ⟨b4,0,none⟩=some v/\X4.drew.cell? ⟨bx,ox,none⟩=some (.int .u64 z1)/\X4.drew.cell? ⟨RU,oy,none⟩=some (.int .u64 z2):=⟨c4,cx4,cy⟩;have S5:X5.cell? ⟨b4,0,none⟩=some v/\X5.cell? ⟨bx,ox,none⟩=some (.int .u64 z1)/\X5.cell? ⟨RU,oy,none⟩=some (.int .u64 z2):=⟨uj.q0 rfl,(World.cell?_of_block (EG.block bx (Nat.lt_of_lt_of_le hbx zet.out.size))).trans cx4,(World.cell?_of_block (EG.block RU hby)).trans cy⟩;clear Lr xB EG N5 Ke WQ hpl hpn hi hz0 hz1 hz2 i0 VJ N8 BJ zqk hvB uj hB6 pO hB7 XU hk5 Uh hk7 xE r2 r3 nR2 nR3 nR4 cx cy cx4 c4 hbx hby hz;gi_wp2;refine uY 11 (S:=fun Y=>Y.cell? ⟨b4,0,none⟩=some v/\Y.cell? ⟨bx,ox,none⟩=some (.int .u64 z1)/\Y.cell? ⟨RU,oy,none⟩=some (.int .u64 z2)) Yv ?_;have zcp:=hg5.symm;clear hg5;generalize X4.drew=u0 at *;refine' TV (i:=0) (v:=_) (YU (by kernel_rfl)) rfl (by kernel_rfl) (by kernel_rfl) (by kernel_rfl) (fun _ _ _ h=>h) (by kernel_rfl) ⟨Or.inl ⟨by rfl,?zin⟩,fun _=>rfl⟩ S0 ?zed
        case zin =>
         intro w' hSw;obtain ⟨q0,q1,q2⟩:=hSw;go_simp;rfl
        simp only [Act.put,getElem_toArray,getElem_cons_zero,setIfInBounds_toArray,set_cons_zero,set_cons_succ];refine' TV (i:=1) (v:=_) (YU (by kernel_rfl)) rfl (by kernel_rfl) (by kernel_rfl) (by kernel_rfl) (fun _ _ _ h=>h) (by kernel_rfl) ⟨Or.inl ⟨by rfl,?ziq⟩,fun _=>rfl⟩ S0 ?zef
        case ziq =>
         intro w' hSw;obtain ⟨q0,q1,q2⟩:=hSw;go_simp;rfl
        simp only [Act.put,Z6];refine' TV (i:=2) (v:=_) (YU (by kernel_rfl)) rfl (by kernel_rfl) (by kernel_rfl) (by kernel_rfl) (fun _ _ _ h=>h) (by kernel_rfl) ⟨Or.inl ⟨by rfl,?zir⟩,fun _=>rfl⟩ S0 ?zeg
        case zir =>
         intro w' hSw;obtain ⟨q0,q1,q2⟩:=hSw;go_simp;rfl
        simp only [Act.put,Z6];refine' TV (i:=3) (v:=_) (YU (by kernel_rfl)) rfl (by kernel_rfl) (by kernel_rfl) (by kernel_rfl) (fun _ _ _ h=>h) (by kernel_rfl) ⟨Or.inl ⟨by rfl,?zis⟩,fun _=>rfl⟩ S0 ?zeh
        case zis =>
         intro w' hSw;obtain ⟨q0,q1,q2⟩:=hSw;go_simp;rfl
        simp only [Act.put,Z6];refine' TV (i:=4) (v:=_) (YU (by kernel_rfl)) rfl (by kernel_rfl) (by kernel_rfl) (by kernel_rfl) (fun _ _ _ h=>h) (by kernel_rfl) ⟨Or.inl ⟨by rfl,?zit⟩,fun _=>rfl⟩ S0 ?zei
        case zit =>
         intro w' hSw;obtain ⟨q0,q1,q2⟩:=hSw;go_simp;rfl
        simp only [Act.put,Z6];refine' TV (i:=5) (v:=_) (YU (by kernel_rfl)) rfl (by kernel_rfl) (by kernel_rfl) (by kernel_rfl) (fun _ _ _ h=>h) (by kernel_rfl) ⟨Or.inl ⟨by rfl,?zso⟩,fun _=>rfl⟩ S0 ?zky
        case zso =>
         intro w' hSw;obtain ⟨q0,q1,q2⟩:=hSw;go_simp;rfl
        simp only [Act.put,Z6];refine' TV (i:=6) (v:=_) (YU (by kernel_rfl)) rfl (by kernel_rfl) (by kernel_rfl) (by kernel_rfl) (fun _ _ _ h=>h) (by kernel_rfl) ⟨Or.inl ⟨by rfl,?zsw⟩,fun _=>rfl⟩ S0 ?zlg
        case zsw =>
         intro w' hSw;obtain ⟨q0,q1,q2⟩:=hSw;go_simp;rfl
        simp only [Act.put,Z6];refine' TV (i:=7) (v:=_) (YU (by kernel_rfl)) rfl (by kernel_rfl) (by kernel_rfl) (by kernel_rfl) (fun _ _ _ h=>h) (by kernel_rfl) ⟨Or.inl ⟨by rfl,?zte⟩,fun _=>rfl⟩ S0 ?zlo
        case zte =>
         intro w' hSw;obtain ⟨q0,q1,q2⟩:=hSw;go_simp;rfl
        simp only [Act.put,Z6];refine' TV (i:=8) (v:=_) (YU (by kernel_rfl)) rfl (by kernel_rfl) (by kernel_rfl) (by kernel_rfl) (fun _ _ _ h=>h) (by kernel_rfl) ⟨Or.inl ⟨by rfl,?zti⟩,fun _=>rfl⟩ S0 ?zls
        case zti =>
         intro w' hSw;obtain ⟨q0,q1,q2⟩:=hSw;go_simp;rfl
        simp only [Act.put,Z6];refine' TV (i:=9) (v:=_) (YU (by kernel_rfl)) rfl (by kernel_rfl) (by kernel_rfl) (by kernel_rfl) (fun _ _ _ h=>h) (by kernel_rfl) ⟨Or.inl ⟨by rfl,?ztn⟩,fun _=>rfl⟩ S0 ?zlx
        case ztn =>
         intro w' hSw;obtain ⟨q0,q1,q2⟩:=hSw;go_simp;rfl
        simp only [Act.put,Z6];refine CF (i:=10) (by kernel_rfl) rfl ?_;intro K hK;rw [if_pos (by rfl)];go_simp;refine hK.out _ _ (fun _=>S5) ?_;clear hK K
        (try simp only [Act.put,Z6])
        refine CF (i:=11) (by kernel_rfl) rfl ?_;intro K hK;rw [if_pos (by rfl)];refine Ai (.tmp 36) (.tmp 46) 36 rfl v _ rfl rfl hr6 ?_;refine hK.out _ _ (fun h=>absurd h (by decide)) ?_;clear hK K
        (try simp only [Act.put,Z6])
        refine CF (i:=12) (by kernel_rfl) rfl ?_;intro K hK;rw [if_pos (by rfl)];go_simp;refine hK.out _ _ (fun h=>absurd h (by decide)) ?_;clear hK K
        (try simp only [Act.put,Z6])
        refine zvz (by kernel_rfl) ?_ _;refine Qc.intro ?_;exact HF.out
      · have he2:(E2 == 0)=false:=beq_eq_false_iff_ne.2 e2;have hbad:Yp l=none:=PX (by rw [<- HN.out];exact HX.out) (by rw [HAT.out,if_neg fun h=>e2 h.2]);obtain ⟨k1,k2,k3,k4⟩:=HST.out X4 bV.out;have HF:=hide (HBAD.out X4 bV.out hbad);clear hbad;gi_wp2;exact ⟨HF.out.1,rfl,HF.out.2⟩
    · have he1:(E1 == 0)=false:=beq_eq_false_iff_ne.2 e1;have hbad:Yp l=none:=PX (by rw [<- HN.out];exact HX.out) (by rw [HAT.out,if_neg fun h=>e1 h.1]);obtain ⟨k1,k2,k3,k4⟩:=HST.out X4 bV.out;have HF:=hide (HBAD.out X4 bV.out hbad);clear hbad;gi_wp2;exact ⟨HF.out.1,rfl,HF.out.2⟩
  · obtain rfl:q=1:=(by rw [HQ.out,if_neg hq1]);have hbad:Yp l=none:=PX (by rw [<- HN.out];exact HX.out) (MQ (by rw [<- HN.out];exact hq1));obtain ⟨k1,k2,k3,k4⟩:=HST.out X2 (Below.refl _ _);have HF:=hide (HBAD.out X2 (Below.refl _ _) hbad);clear hbad hq1;gi_wp2;exact ⟨HF.out.1,rfl,HF.out.2⟩
end
end
section
open Go.RowKit Go.Shelf
def zep(l:List (List UInt8))(k:Int)(w:World)(e:Ending)(w':World):Prop :=
 Below w.heap.size w w'/\((∃ ps v,Yp l=some ps/\(ps.length:Int)=k/\e=.returned (.tuple #[v,.bool true])/\w'.ownsRow w.heap.size 41 2 v ps.length (Zl ps))\/((∀ ps,Yp l=some ps->(ps.length:Int)≠k)/\∃ v,e=.returned (.tuple #[v,.bool false])))
theorem QY(l:List (List UInt8))(b off c:Nat)(hc:l.length<=c)(hl:∀ x∈l,x.length<=1000000)(hn:l.length<=1000000)(k:Int)(w:World)(hs:Sl w w.heap.size (some ⟨b,off,none⟩) (ZF l))(hw:MW w):
 Calls prog 136 #[.slice (some ⟨b,off,none⟩) l.length c,.int .i64 k] w (zep l k w):=by
 have HP:=hide (U5 l b off c hc hl hn w hs hw);obtain ⟨n,hnn⟩:=eE l.length;rw [<- hnn] at HP ⊢;clear hc hn hs hw hnn hl;go_enter func136,ntmps136;go_wp2_with fail;refine HP.out.mono ?_;rintro e w' ⟨hb,⟨ps,v,h1,rfl,ZT⟩|⟨h1,rfl⟩⟩
 · obtain ⟨VA,vc,rfl,xV⟩:=ZP ZT
   by_cases hk:(ps.length:Int)=k
   · obtain ⟨m,hm⟩:=eE ps.length;have HO:=hide ZT;have HB:=hide hb;have H1:=hide h1;rw [<- hm] at hk;have HM:=hide hm;rw [<- hm];clear ZT hb h1 hm xV;subst hk;go_wp2;go_ret2;exact ⟨HB.out,.inl ⟨ps,_,H1.out,by rw [HM.out],rfl,by rw [HM.out];exact HO.out⟩⟩
   · obtain ⟨m,hm⟩:=eE ps.length;have HB:=hide hb;have H1:=hide h1;rw [<- hm] at hk;have HM:=hide hm;rw [<- hm];clear ZT hb h1 hm xV;go_wp2;go_ret2;have hkb:((m:Int) == k)=false:=beq_eq_false_iff_ne.2 hk;refine ⟨HB.out,.inr ⟨fun ps' h=>?_,_,by rw [<- hkb];rfl⟩⟩;rw [H1.out] at h;cases h;rw [<- HM.out];exact hk
 · have HB:=hide hb;have H1:=hide h1;clear hb h1;go_wp2;go_ret2;exact ⟨HB.out,.inr ⟨fun ps h=>(by rw [H1.out] at h;cases h),_,rfl⟩⟩
end
end Go.Proofs.YthnenedoblncjaaGreatDoor