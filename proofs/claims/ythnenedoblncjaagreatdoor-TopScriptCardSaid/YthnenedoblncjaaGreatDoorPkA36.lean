/- AnswerE -/
import Derived.Test.YthnenedoblncjaaGreatDoorPkA35
set_option maxRecDepth 1000000
set_option maxHeartbeats 8000000
namespace Go.Proofs.YthnenedoblncjaaGreatDoor
open Go.Proofs.Tryz
open List (getElem_toArray getElem_cons_succ getElem_cons_zero setIfInBounds_toArray set_cons_zero set_cons_succ)
section
open Go.RowKit Go.Shelf
section
variable {F:Fence}{n:Nat}{P:Program}{ops:Array Oper}{Q:Exit->Act->World->Prop}{md:Region.Mode}{S S':World->Prop}
theorem zyl {i j sk:Nat} {oi oj:Oper} {fuel:Nat} {listed:Array Bool} {a:Act} {w:World} (hr:Region.ready md ops listed=[i,j]) (hi:ops[i]?=some oi) (hj:ops[j]?=some oj)
 (h1:∀ K:Act->World->Prop,Shut (∀ a w,(i≠sk->S w)->YP F n P md ops Q S sk fuel (listed.setIfInBounds i true) a w->K a w)->if Region.wanted oi (yielded ops a.tmps)=true then Oper.wpIn F n P oi a w K Q else (∀ f,oi.about P w a.eval=some f->F.fn f)/\K (a.put oi.dst undef) w)
 (h2:∀ K:Act->World->Prop,Shut (∀ a w,(j≠sk->S w)->YP F n P md ops Q S sk fuel (listed.setIfInBounds j true) a w->K a w)->if Region.wanted oj (yielded ops a.tmps)=true then Oper.wpIn F n P oj a w K Q else (∀ f,oj.about P w a.eval=some f->F.fn f)/\K (a.put oj.dst undef) w) :
 YP F n P md ops Q S sk (fuel+1) listed a w :=
 ⟨fun h0=>(by rw [hr] at h0;cases h0),fun l hl=>by
   rw [hr] at hl;rcases (by simpa using hl:l=i\/l=j) with rfl|rfl
   · exact wpOpIn_step hi (fun K' hK'=>h1 K' (fun a w hS hW=>hK' a w ⟨hS,hW⟩))
   · exact wpOpIn_step hj (fun K' hK'=>h2 K' (fun a w hS hW=>hK' a w ⟨hS,hW⟩))⟩
theorem XG{sk:Nat}(hSS:∀ w,S' w->S w):∀ (fuel:Nat) (listed:Array Bool) (a:Act) (w:World),YP F n P md ops Q S' sk fuel listed a w->YP F n P md ops Q S sk fuel listed a w
 | 0,_,_,_,h=>h
 | fuel+1,_,_,_,h=>⟨h.1,fun i hi=>wpOpIn_mono (fun a' w' h'=>⟨fun hs=>hSS _ (h'.1 hs),XG hSS fuel _ a' w' h'.2⟩) (h.2 i hi)⟩
def jP(KP:Act->World->Prop)(Q:Exit->Act->World->Prop):Exit->Act->World->Prop
 | .normal,a,w=>KP a w
 | e,a,w=>Q e a w
theorem wD (sk:Nat) (KP:Act->World->Prop) {id:Nat} {a:Act} {w:World} (hm:P.follows .mixedOrders=true) (hk:∀ a w,KP a w->Q .normal a w)
 (h:YP F n P .any ops (jP KP Q) S sk ops.size (Array.replicate ops.size false) a w.drew):(Code.region id ops true).wpIn F n P Q a w:=by
 refine wpIn_mono (Xy sk (Q:=jP KP Q) hm h) ?_;intro e a w he;cases e with
 | normal=>exact hk a w he
 | _=>exact he
end
def Yu(op:Int)(gs:List Gr)(ps:List Pt):Int :=
 if op=1 then (ZM (Z5 ps 0) (Z5 ps 1) (Z5 ps 2)).sign+1
 else if op=2 then (YI (Z5 ps 0) (Z5 ps 1) (Z5 ps 2) (Z5 ps 3)).sign+1
 else if op=3 then WV (ps.take (ps.length - 1)) (Z5 ps (ps.length - 1))
 else VZ gs (Z5 ps 0)
def Rs(op:Int)(gs:List Gr)(ps:List Pt):List Ev:=if op=3 then Ll (ps.length - 1) else if op=4 then MX gs else []
def TA(op vs:Int)(hrs:List Rg)(Z0:Int)(gs:List Gr)(ps:List Pt)(qs:List ((Int × Int) × Int)):Int × Int :=
 if (ZK op vs hrs Z0 gs ps qs).2≠0 then (0,(ZK op vs hrs Z0 gs ps qs).2) else if op=5 then (0,2) else (Yu op gs ps,0)
def NK(op vs:Int)(hrs:List Rg)(Z0:Int)(gs:List Gr)(ps:List Pt)(qs:List ((Int × Int) × Int)):List Ev :=
 if (ZK op vs hrs Z0 gs ps qs).2≠0 then [] else Rs op gs ps
theorem QN{op vs:Int}{hrs:List Rg}{Z0:Int}{gs:List Gr}{ps:List Pt}{qs:List ((Int × Int) × Int)}(h:(ZK op vs hrs Z0 gs ps qs).2=0):
 ZT op vs hrs Z0=0/\gs.length=hrs.length/\(ps.length:Int)=XT op vs/\(qs.length:Int)=WU op Z0/\(gs.zip hrs).any Vz=false/\(gs.zip hrs).any Wy=false:=by
 unfold ZK at h;split at h
 · rename_i h1;exact absurd h h1
 · rename_i h1
   split at h
   · cases h
   · rename_i h2
     split at h
     · cases h
     · rename_i h3
       split at h
       · cases h
       · rename_i h4
         have a1:ZT op vs hrs Z0=0:=(by simpa using h1);have a2:gs.length=hrs.length:=Classical.byContradiction fun e=>h2 (.inl e);have a3:(ps.length:Int)=XT op vs:=Classical.byContradiction fun e=>h2 (.inr (.inl e));have a4:(qs.length:Int)=WU op Z0:=Classical.byContradiction fun e=>h2 (.inr (.inr e));exact ⟨a1,a2,a3,a4,by simpa using h3,by simpa using h4⟩
theorem SI {fn:Func} {tmps:Array Value} {w:World} {g:Nat} {v0 v1 v2:Value} (h:fn.results=#[.cell 4 175,.tmp 5])
 (hp:tmps.getD 4 undef=.pointer (some ⟨g,0,none⟩)) (hb:Z6 w g 175 #[v0,v1,v2]) :
 (results fn tmps).run prog w=.ok (.tuple #[.agg #[v0,v1,v2],tmps.getD 5 undef]) w:=by
 have c0:=hb.q0 rfl;have c1:=hb.q1 rfl;have c2:=hb.q2 rfl;have hp':tmps[4]?.getD undef=.pointer (some ⟨g,0,none⟩):=by rw [<- hp];simp
 simp [results,h,hp',go_sem,c0,c1,c2]
section
variable (P:Nat->Prop)(t:Option (Nat × Nat))(es:List Ev)(op vs Z0:Int)(hrs:List Rg)(HA:Option Addr)(hc:Nat)(gs:List Gr)(GA:Option Addr)(gc:Nat)(ps:List Pt)(PA:Option Addr)(pc:Nat)(qs:List ((Int × Int) × Int))(QA:Option Addr)(qc:Nat)(w:World)
variable (hP:∀ k,P k->k<w.heap.size)(hg0:P 8)(hw:MW w)(ht:Tp w P t es)(hl:es.length<=600000)(hps:Ub ps)(hs:UU w P PA (Zg ps))(hcap:ps.length<=pc)
variable (hgc:UU w P GA (rgCells (gs.map (·.1))))(hgs:zW w P gs)
include hP hg0 hw ht hl hps hs hcap hgc hgs
theorem vI(n:Nat)(Cy:ZT op vs hrs Z0=0)(hlen:(ps.length:Int)=XT op vs)(hn:op=1/\n=330\/op=2/\n=331\/op=3/\n=332\/op=4/\n=333):
 Calls prog n #[.pointer (Zz t),.agg #[.int .i64 op,.int .i64 vs,.slice HA hrs.length hc,.int .i64 Z0,.slice GA gs.length gc,.slice PA ps.length pc,.slice QA qs.length qc]] w fun e w'=>e=.returned (.int .i64 (Yu op gs ps))/\Z8 P w w'/\Tp w' P t (es++Rs op gs ps):=by
 rcases hn with ⟨rfl,rfl⟩|⟨rfl,rfl⟩|⟨rfl,rfl⟩|⟨rfl,rfl⟩
 · have h3:ps.length=3:=(by have:XT 1 vs=3:=rfl;omega);refine (oL P t 1 vs Z0 HA hrs.length hc gs GA gc ps PA pc QA qs.length qc w hP hw hps hs h3).mono ?_;rintro e w' ⟨rfl,hb⟩;exact ⟨rfl,Z8.of_below hb hP,by rw [show Rs 1 gs ps=[] from rfl,List.append_nil];exact ht.step hb⟩
 · have h4:ps.length=4:=(by have:XT 2 vs=4:=rfl;omega);refine (oM P t 2 vs Z0 HA hrs.length hc gs GA gc ps PA pc QA qs.length qc w hP hw hps hs h4).mono ?_;rintro e w' ⟨rfl,hb⟩;exact ⟨rfl,Z8.of_below hb hP,by rw [show Rs 2 gs ps=[] from rfl,List.append_nil];exact ht.step hb⟩
 · have h3:3<=vs/\vs<=64:=(Zu Cy).2.2.1 rfl;have h4:(ps.length:Int)=vs+1:=hlen;have h5:ps.length=(ps.length - 1)+1:=(by omega);refine (oN P t es 3 vs Z0 HA hrs.length hc gs GA gc ps PA pc QA qs.length qc w hP hg0 hw ht hl hps hs (ps.length - 1) h5 (by omega) (by omega)).mono ?_;rintro e w' ⟨rfl,hk,ht'⟩;exact ⟨rfl,hk,ht'⟩
 · have h1:ps.length=1:=(by have:XT 4 vs=1:=rfl;omega);refine (oO P t es 4 vs Z0 HA hrs.length hc gs GA gc ps PA pc QA qs.length qc w hP hg0 hw ht hl hps hs h1 hgc hgs).mono ?_;rintro e w' ⟨rfl,hk,ht'⟩;exact ⟨rfl,hk,ht'⟩
variable (hh:UU w P HA (rgCells hrs))(hnm:hrs.length<=maxLen)(RL:Sl w w.heap.size QA (Wt qs))
include hh hnm RL
theorem Lb:Calls prog 231 #[.pointer (Zz t),.agg #[.int .i64 op,.int .i64 vs,.slice HA hrs.length hc,.int .i64 Z0,.slice GA gs.length gc,.slice PA ps.length pc,.slice QA qs.length qc]] w fun e w'=>e=.returned (.tuple #[.agg #[.int .i64 (TA op vs hrs Z0 gs ps qs).1,.int .i64 0,.slice none 0 0],.int .i64 (TA op vs hrs Z0 gs ps qs).2])/\Z8 P w w'/\Tp w' P t (es++NK op vs hrs Z0 gs ps qs):=by
 obtain ⟨rb,hrb⟩:=eE w.heap.size;obtain ⟨w0,hw0⟩:=eE ((w.alloc (.cells #[.int .i64 op,.int .i64 vs,.slice HA hrs.length hc,.int .i64 Z0,.slice GA gs.length gc,.slice PA ps.length pc,.slice QA qs.length qc] 182)).alloc (.cells #[.int .i64 0,.int .i64 0,.slice none 0 0] 175));have hb0:=bF hw0;have B0:Z6 w0 rb 182 #[.int .i64 op,.int .i64 vs,.slice HA hrs.length hc,.int .i64 Z0,.slice GA gs.length gc,.slice PA ps.length pc,.slice QA qs.length qc]:=by rw [hw0,hrb];exact (Z6.new _ _ _).alloc _
 have C0:Z6 w0 (rb+1) 175 #[.int .i64 0,.int .i64 0,.slice none 0 0]:=by rw [hw0,hrb];exact Z6.new2 _ _ _ _
 have hk0:Z8 P w w0:=Z8.of_below hb0 hP;have KZ:=Lx op vs Z0 hrs HA hc gs GA gc ps PA pc qs QA qc w0 (((hh.sl hP).below hb0).more hb0.size) (((hgc.sl hP).below hb0).more hb0.size) (fun g hg=>⟨(hgs g hg).1,(((hgs g hg).2.1.sl hP).below hb0).more hb0.size⟩) (((hs.sl hP).below hb0).more hb0.size) ((RL.below hb0).more hb0.size) hnm;have NG:Hid (TA op vs hrs Z0 gs ps qs=if (ZK op vs hrs Z0 gs ps qs).2≠0 then (0,(ZK op vs hrs Z0 gs ps qs).2) else if op=5 then (0,2) else (Yu op gs ps,0)):=rfl;have Qx:Hid (NK op vs hrs Z0 gs ps qs=if (ZK op vs hrs Z0 gs ps qs).2≠0 then [] else Rs op gs ps):=rfl;have UQ:=hide (fun h=>QN (op:=op) (vs:=vs) (hrs:=hrs) (Z0:=Z0) (gs:=gs) (ps:=ps) (qs:=qs) h);obtain ⟨⟨bs,err⟩,hE⟩:∃ E,E=ZK op vs hrs Z0 gs ps qs:=⟨_,rfl⟩;rw [<- hE] at KZ NG Qx UQ;have kR:=hide KZ;have HOP:=hide (fun (P':Nat->Prop) (w':World) (hP':∀ k,P' k->k<w'.heap.size) (hg':P' 8) (hk':Z8 P w w') (Cn:∀ k,P k->P' k) (ht':Tp w' P' t es)=>vI P' t es op vs Z0 hrs HA hc gs GA gc ps PA pc qs QA qc w' hP' hg' (hw.kept hk' hg0) ht' hl hps ((hs.kept hk').mono Cn) hcap ((hgc.kept hk').mono Cn) (fun g hg=>⟨(hgs g hg).1,((hgs g hg).2.1.kept hk').mono Cn,(hgs g hg).2.2⟩));have HP:=hide hP;have HG:=hide hg0;have HT:=hide ht;have HB0:=hide hb0;have V5:prog.follows .mixedOrders=true:=by kernel_rfl
 clear hE KZ hk0 hP hg0 hw ht hps hs hcap hgc hgs hh RL hb0;refine (callsIn_wide (n:=6)).1 ?_;refine callsIn_of_wp func231 rfl trivial ?_ rfl;simp only [ntmps231,List.size_toArray,List.length_cons,List.length_nil,Nat.reduceAdd,Nat.reduceSub,Array.replicate_succ,Array.replicate_zero,List.push_toArray,List.append_toArray,List.nil_append,List.cons_append];gi_wp2_with fail;rw [<- hw0,<- hrb];have HW0:=hide hw0;have Eo:=hide hrb;clear hw0 hrb;refine ⟨trivial,?_⟩;refine (callsIn_wide.2 kR.out).mono ?_;rintro e w1 ⟨v,rfl,hv1,hb1⟩;have B1:=B0.step hb1;have C1:=C0.step hb1;have HB1:=hide hb1;have c10:=C1.q0 rfl;have c11:=C1.q1 rfl;have c12:=C1.q2 rfl;dsimp at c10 c11 c12;have f10:=C1.frozen 0;have f11:=C1.frozen 1;have f12:=C1.frozen 2;dsimp only at *;obtain ⟨VA,UN,rfl,_⟩:=Zl hv1
 by_cases he:err=0
 · subst he;obtain ⟨Cy,hgl,hpl,tX,_,_⟩:=UQ.out rfl;have hop:=Zu Cy;have hop1:=hop.1;have zmw:=hop.2.1;have xC:Hid (TA op vs hrs Z0 gs ps qs=if op=5 then (0,2) else (Yu op gs ps,0)):=hide (NG.out.trans (if_neg (by simp)));have qP:Hid (NK op vs hrs Z0 gs ps qs=Rs op gs ps):=hide (Qx.out.trans (if_neg (by simp)));have zod:=hide Cy;have wY:=hide hpl;clear hop NG Qx UQ Cy hgl hpl tX hv1 kR;gi_wp2_with fail;clear c10 c11 c12 f10 f11 f12
   by_cases h5:op=5
   · subst h5;have zzw:Hid (TA 5 vs hrs Z0 gs ps qs=(0,2)):=hide (xC.out.trans (if_pos rfl));have zog:Hid (NK 5 vs hrs Z0 gs ps qs=[]):=qP;clear xC qP;have Bq:=hide (fun w=>SG w);have hS:Z6 w1.drew rb 182 #[.int .i64 5,.int .i64 vs,.slice HA hrs.length hc,.int .i64 Z0,.slice GA gs.length gc,.slice PA ps.length pc,.slice QA qs.length qc]/\Z6 w1.drew (rb+1) 175 #[.int .i64 0,.int .i64 0,.slice none 0 0]:=⟨B1.drew,C1.drew⟩;clear B0 C0;refine wD 1000 (S:=fun w'=>Z6 w' rb 182 #[.int .i64 5,.int .i64 vs,.slice HA hrs.length hc,.int .i64 Z0,.slice GA gs.length gc,.slice PA ps.length pc,.slice QA qs.length qc]/\Z6 w' (rb+1) 175 #[.int .i64 0,.int .i64 0,.slice none 0 0]) (fun a w'=>∃ ob mb:Nat,a={ tmps:=#[.pointer (Zz t),.agg #[.int .i64 5,.int .i64 vs,.slice HA hrs.length hc,.int .i64 Z0,.slice GA gs.length gc,.slice PA ps.length pc,.slice QA qs.length qc],undef,.pointer (some ⟨rb,0,none⟩),.pointer (some ⟨rb+1,0,none⟩),.int .i64 0,.slice VA bs.length UN,.int .i64 0,.pointer (some ⟨ob,0,none⟩),.bool false,.tuple #[.slice VA bs.length UN,.int .i64 0],.agg #[.int .i64 5,.int .i64 vs,.slice HA hrs.length hc,.int .i64 Z0,.slice GA gs.length gc,.slice PA ps.length pc,.slice QA qs.length qc],.tuple #[.slice VA bs.length UN,.int .i64 0],.slice VA bs.length UN,.int .i64 0,.int .i64 0,.bool false,undef,undef,.tuple #[.agg #[.nilFunc],.bool false],.map (some mb),.pointer (some ⟨rb,0,none⟩),.pointer (some ⟨rb,0,none⟩),.int .i64 5,.tuple #[.agg #[.nilFunc],.bool false],.agg #[.nilFunc],.bool false,undef,undef,undef,undef,undef,undef,undef,undef,undef],defers:=[] }/\(Z6 w' rb 182 #[.int .i64 5,.int .i64 vs,.slice HA hrs.length hc,.int .i64 Z0,.slice GA gs.length gc,.slice PA ps.length pc,.slice QA qs.length qc]/\Z6 w' (rb+1) 175 #[.int .i64 0,.int .i64 0,.slice none 0 0])/\Z6 w' ob 342 #[.nilFunc]/\Below w1.heap.size w1 w') V5 ?znv ?_
     rotate_left
     · skip
       refine' ZV (i:=1) rfl ?dV hS ?zvr
       case dV =>
        intro w' hSw;go_simp;rfl
       simp only [Act.put,ZW];refine' ZV (i:=2) rfl ?eG hS ?zwb
       case eG =>
        intro w' hSw;go_simp;rfl
       simp only [Act.put,ZW];refine' ZV (i:=3) rfl ?fB hS ?zwm
       case fB =>
        intro w' hSw;have z0:=hSw.1.q0 rfl;go_simp;rfl
       simp only [Act.put,ZW];refine zyl (i:=0) (j:=8) (by kernel_rfl) rfl rfl ?_ ?_
       · intro K hK;rw [if_pos (by rfl)];go_simp;refine ⟨trivial,?_⟩;refine (callsIn_wide.2 (Bq.out _)).mono ?_;rintro e w2 ⟨rfl,hb2,ho2⟩;have hS2:Z6 w2 rb 182 #[.int .i64 5,.int .i64 vs,.slice HA hrs.length hc,.int .i64 Z0,.slice GA gs.length gc,.slice PA ps.length pc,.slice QA qs.length qc]/\Z6 w2 (rb+1) 175 #[.int .i64 0,.int .i64 0,.slice none 0 0]:=⟨hS.1.step hb2,hS.2.step hb2⟩;refine hK.out _ _ (fun _=>hS2) ?_;clear hK K;have cZ:K7 w2 w1.heap.size:=ho2;clear ho2;refine XG (S':=fun w'=>(Z6 w' rb 182 #[.int .i64 5,.int .i64 vs,.slice HA hrs.length hc,.int .i64 Z0,.slice GA gs.length gc,.slice PA ps.length pc,.slice QA qs.length qc]/\Z6 w' (rb+1) 175 #[.int .i64 0,.int .i64 0,.slice none 0 0])/\K7 w' w1.heap.size) (fun _ h=>h.1) _ _ _ _ ?_;have hT:(Z6 w2 rb 182 #[.int .i64 5,.int .i64 vs,.slice HA hrs.length hc,.int .i64 Z0,.slice GA gs.length gc,.slice PA ps.length pc,.slice QA qs.length qc]/\Z6 w2 (rb+1) 175 #[.int .i64 0,.int .i64 0,.slice none 0 0])/\K7 w2 w1.heap.size:=⟨hS2,cZ⟩
         (try simp only [Act.put,ZW])
         refine' ZV (i:=4) rfl ?nK hT ?zzk
         case nK =>
          intro w' hSw;have hlk:=F4 hSw.2;go_simp;rfl
         simp only [Act.put,ZW];refine' ZV (i:=5) rfl ?nM hT ?zzm
         case nM =>
          intro w' hSw;go_simp;rfl
         simp only [Act.put,ZW];refine' ZV (i:=6) rfl ?nN hT ?zzn
         case nN =>
          intro w' hSw;go_simp;rfl
         simp only [Act.put,ZW];refine' ZV (i:=7) rfl ?nO hT ?zzo
         case nO =>
          intro w' hSw;go_simp;rfl
         simp only [Act.put,ZW];refine Yj (i:=8) (by kernel_rfl) rfl ?_;intro K hK;rw [if_pos (by rfl)];go_simp;obtain ⟨w3,hw3⟩:=eE (w2.alloc (.cells #[.nilFunc] 342));obtain ⟨ob,Sw⟩:=eE w2.heap.size;have hb3:=bE hw3;have O3:Z6 w3 ob 342 #[.nilFunc]:=(by rw [hw3,Sw];exact Z6.new _ _ _);rw [<- hw3,<- Sw];have hno:rb≠ob/\rb+1≠ob:=(by have:=hT.1.1.lt;have:=hT.1.2.lt;omega);have Eu:w1.heap.size<=ob:=(by have:=hb2.size;have e:w1.drew.heap.size=w1.heap.size:=rfl;omega);clear Sw hw3;have PY:(Z6 w3 rb 182 #[.int .i64 5,.int .i64 vs,.slice HA hrs.length hc,.int .i64 Z0,.slice GA gs.length gc,.slice PA ps.length pc,.slice QA qs.length qc]/\Z6 w3 (rb+1) 175 #[.int .i64 0,.int .i64 0,.slice none 0 0])/\K7 w3 w1.heap.size:=⟨⟨hT.1.1.step hb3,hT.1.2.step hb3⟩,hT.2.step hb3⟩;refine hK.out _ _ (fun _=>PY) ?_;clear hK K
         (try simp only [Act.put,ZW])
         have c3:w3.cell? ⟨ob,0,none⟩=some .nilFunc:=O3.q0 rfl;have f3:=O3.frozen 0;have hst:(store ⟨ob,0,none⟩ (.nilFunc)).run prog w3=.ok () (w3.setCell ⟨ob,0,none⟩ (.nilFunc)):=by
          rw [run_store prog w3 ⟨ob,0,none⟩ (.nilFunc) _ (by rfl),c3];simp [f3]
         refine Yj (i:=9) (by kernel_rfl) rfl ?_;intro K hK;rw [if_pos (by rfl)];go_simp;have KF:(Z6 (w3.setCell ⟨ob,0,none⟩ (.nilFunc)) rb 182 #[.int .i64 5,.int .i64 vs,.slice HA hrs.length hc,.int .i64 Z0,.slice GA gs.length gc,.slice PA ps.length pc,.slice QA qs.length qc]/\Z6 (w3.setCell ⟨ob,0,none⟩ (.nilFunc)) (rb+1) 175 #[.int .i64 0,.int .i64 0,.slice none 0 0])/\K7 (w3.setCell ⟨ob,0,none⟩ (.nilFunc)) w1.heap.size:=⟨⟨PY.1.1.far (by dsimp only;omega) _,PY.1.2.far (by dsimp only;omega) _⟩,World.ownsMap.kept PY.2 (grownBy_setCell' w3 ob (.nilFunc)) (fun e=>by have e2:=Option.some.inj e;obtain ⟨_,_,hq,_⟩:=PY.2;rw [e2,show w3.heap[ob]?=_ from O3] at hq;cases hq)⟩;refine hK.out _ _ (fun _=>KF) ?_;clear hK K
         (try simp only [Act.put,ZW])
         refine' ZV (i:=10) rfl ?uq KF ?iM
         case uq =>
          intro w' hSw;go_simp;rfl
         simp only [Act.put,ZW];refine WI (by kernel_rfl) ?_ _;exact ⟨ob,w1.heap.size,rfl,KF.1,O3.set 0 (.nilFunc),((Z9 (Z9 (ZU (Below.refl _ _)) hb2) hb3).setCell (by dsimp only;omega) _)⟩
       · intro K hK;rw [if_pos (by rfl)];go_simp;obtain ⟨w3',hw3⟩:=eE ((w1.alloc (.cells #[.nilFunc] 342)).drew);obtain ⟨ob,Sw⟩:=eE w1.heap.size;have hb3:Below w1.heap.size w1 w3':=(by rw [hw3];exact ZU (bA));have O3':Z6 w3' ob 342 #[.nilFunc]:=(by rw [hw3,Sw];exact (Z6.new _ _ _).drew);have hno:rb≠ob/\rb+1≠ob:=(by have:=B1.lt;have:=C1.lt;omega);have Eu:w1.heap.size<=ob:=(by omega);rw [<- hw3,<- Sw];clear hw3 Sw;have Am:Z6 w3' rb 182 #[.int .i64 5,.int .i64 vs,.slice HA hrs.length hc,.int .i64 Z0,.slice GA gs.length gc,.slice PA ps.length pc,.slice QA qs.length qc]/\Z6 w3' (rb+1) 175 #[.int .i64 0,.int .i64 0,.slice none 0 0]:=⟨B1.step hb3,C1.step hb3⟩;refine hK.out _ _ (fun _=>Am) ?_;clear hK K
         (try simp only [Act.put,ZW])
         refine Yj (i:=0) (by kernel_rfl) rfl ?_;intro K hK;rw [if_pos (by rfl)];go_simp;refine ⟨trivial,?_⟩;refine (callsIn_wide.2 (Bq.out _)).mono ?_;rintro e w3 ⟨rfl,hb2,ho2⟩;obtain ⟨mb,hmb⟩:=eE w3'.heap.size;have hS2:Z6 w3 rb 182 #[.int .i64 5,.int .i64 vs,.slice HA hrs.length hc,.int .i64 Z0,.slice GA gs.length gc,.slice PA ps.length pc,.slice QA qs.length qc]/\Z6 w3 (rb+1) 175 #[.int .i64 0,.int .i64 0,.slice none 0 0]:=⟨Am.1.step hb2,Am.2.step hb2⟩;have O3:=O3'.step hb2;refine hK.out _ _ (fun _=>hS2) ?_;clear hK K;rw [<- hmb] at ho2;rw [<- hmb];clear hmb;refine XG (S':=fun w'=>(Z6 w' rb 182 #[.int .i64 5,.int .i64 vs,.slice HA hrs.length hc,.int .i64 Z0,.slice GA gs.length gc,.slice PA ps.length pc,.slice QA qs.length qc]/\Z6 w' (rb+1) 175 #[.int .i64 0,.int .i64 0,.slice none 0 0])/\K7 w' mb) (fun _ h=>h.1) _ _ _ _ ?_;have PY:(Z6 w3 rb 182 #[.int .i64 5,.int .i64 vs,.slice HA hrs.length hc,.int .i64 Z0,.slice GA gs.length gc,.slice PA ps.length pc,.slice QA qs.length qc]/\Z6 w3 (rb+1) 175 #[.int .i64 0,.int .i64 0,.slice none 0 0])/\K7 w3 mb:=⟨hS2,ho2⟩
         (try simp only [Act.put,ZW])
         refine' ZV (i:=4) rfl ?nL PY ?zzl
         case nL =>
          intro w' hSw;have hlk:=F4 hSw.2;go_simp;rfl
         simp only [Act.put,ZW];refine' ZV (i:=5) rfl ?uD PY ?iP
         case uD =>
          intro w' hSw;go_simp;rfl
         simp only [Act.put,ZW];refine' ZV (i:=6) rfl ?uG PY ?iT
         case uG =>
          intro w' hSw;go_simp;rfl
         simp only [Act.put,ZW];refine' ZV (i:=7) rfl ?uJ PY ?iW
         case uJ =>
          intro w' hSw;go_simp;rfl
         simp only [Act.put,ZW];have c3:w3.cell? ⟨ob,0,none⟩=some .nilFunc:=O3.q0 rfl;have f3:=O3.frozen 0;have hst:(store ⟨ob,0,none⟩ (.nilFunc)).run prog w3=.ok () (w3.setCell ⟨ob,0,none⟩ (.nilFunc)):=by
          rw [run_store prog w3 ⟨ob,0,none⟩ (.nilFunc) _ (by rfl),c3];simp [f3]
         refine Yj (i:=9) (by kernel_rfl) rfl ?_;intro K hK;rw [if_pos (by rfl)];go_simp;have KF:(Z6 (w3.setCell ⟨ob,0,none⟩ (.nilFunc)) rb 182 #[.int .i64 5,.int .i64 vs,.slice HA hrs.length hc,.int .i64 Z0,.slice GA gs.length gc,.slice PA ps.length pc,.slice QA qs.length qc]/\Z6 (w3.setCell ⟨ob,0,none⟩ (.nilFunc)) (rb+1) 175 #[.int .i64 0,.int .i64 0,.slice none 0 0])/\K7 (w3.setCell ⟨ob,0,none⟩ (.nilFunc)) mb:=⟨⟨PY.1.1.far (by dsimp only;omega) _,PY.1.2.far (by dsimp only;omega) _⟩,World.ownsMap.kept PY.2 (grownBy_setCell' w3 ob (.nilFunc)) (fun e=>by have e2:=Option.some.inj e;obtain ⟨_,_,hq,_⟩:=PY.2;rw [e2,show w3.heap[ob]?=_ from O3] at hq;cases hq)⟩;refine hK.out _ _ (fun _=>KF) ?_;clear hK K
         (try simp only [Act.put,ZW])
         refine' ZV (i:=10) rfl ?yQ KF ?kF
         case yQ =>
          intro w' hSw;go_simp;rfl
         simp only [Act.put,ZW];refine WI (by kernel_rfl) ?_ _;exact ⟨ob,mb,rfl,KF.1,O3.set 0 (.nilFunc),((Z9 hb3 hb2).setCell (by dsimp only;omega) _)⟩
     · rintro a w2 ⟨ob,mb,rfl,⟨B2,C2⟩,O2,hb2⟩;clear hS Bq;have c0:=C2.q0 rfl;have c1:=C2.q1 rfl;have c2:=C2.q2 rfl;dsimp at c0 c1 c2;have f0:=C2.frozen 0;have f1:=C2.frozen 1;have f2:=C2.frozen 2;have hbb:=Z9 (Z9 HB0.out HB1.out) hb2;gi_wp2;have hrw:w.heap.size<=rb+1:=(by rw [Eo.out];exact Nat.le_succ _);have E:Z6 _ (rb+1) 175 #[.int .i64 0,.int .i64 0,.slice none 0 0]:=((C2.set 0 (.int .i64 0)).set 1 (.int .i64 0)).set 2 (.slice none 0 0);have jV:=((hbb.setCell (p:=⟨rb+1,0,none⟩) hrw (.int .i64 0)).setCell (p:=⟨rb+1,1,none⟩) hrw (.int .i64 0)).setCell (p:=⟨rb+1,2,none⟩) hrw (.slice none 0 0);refine bodyPost_ret (SI rfl rfl E) rfl ⟨?_,Z8.of_below jV HP.out,?_⟩
       · rw [zzw.out];rfl
       · rw [zog.out,List.append_nil];exact HT.out.step jV
   · have zzw:Hid (TA op vs hrs Z0 gs ps qs=(Yu op gs ps,0)):=hide (xC.out.trans (if_neg h5));obtain ⟨n,hn⟩:∃ n,op=1/\n=330\/op=2/\n=331\/op=3/\n=332\/op=4/\n=333:=by
      have h:op=1\/op=2\/op=3\/op=4:=(by omega);rcases h with h|h|h|h
      · exact ⟨_,.inl ⟨h,rfl⟩⟩
      · exact ⟨_,.inr (.inl ⟨h,rfl⟩)⟩
      · exact ⟨_,.inr (.inr (.inl ⟨h,rfl⟩))⟩
      · exact ⟨_,.inr (.inr (.inr ⟨h,rfl⟩))⟩
     have HN:=hide hn;clear hn xC h5;have Bq:=hide (fun w=>SG w);have hS:Z6 w1.drew rb 182 #[.int .i64 op,.int .i64 vs,.slice HA hrs.length hc,.int .i64 Z0,.slice GA gs.length gc,.slice PA ps.length pc,.slice QA qs.length qc]/\Z6 w1.drew (rb+1) 175 #[.int .i64 0,.int .i64 0,.slice none 0 0]:=⟨B1.drew,C1.drew⟩;clear B0 C0;refine wD 1000 (S:=fun w'=>Z6 w' rb 182 #[.int .i64 op,.int .i64 vs,.slice HA hrs.length hc,.int .i64 Z0,.slice GA gs.length gc,.slice PA ps.length pc,.slice QA qs.length qc]/\Z6 w' (rb+1) 175 #[.int .i64 0,.int .i64 0,.slice none 0 0]) (fun a w'=>∃ ob mb:Nat,a={ tmps:=#[.pointer (Zz t),.agg #[.int .i64 op,.int .i64 vs,.slice HA hrs.length hc,.int .i64 Z0,.slice GA gs.length gc,.slice PA ps.length pc,.slice QA qs.length qc],undef,.pointer (some ⟨rb,0,none⟩),.pointer (some ⟨rb+1,0,none⟩),.int .i64 0,.slice VA bs.length UN,.int .i64 0,.pointer (some ⟨ob,0,none⟩),.bool true,.tuple #[.slice VA bs.length UN,.int .i64 0],.agg #[.int .i64 op,.int .i64 vs,.slice HA hrs.length hc,.int .i64 Z0,.slice GA gs.length gc,.slice PA ps.length pc,.slice QA qs.length qc],.tuple #[.slice VA bs.length UN,.int .i64 0],.slice VA bs.length UN,.int .i64 0,.int .i64 0,.bool false,undef,undef,.tuple #[.agg #[.func (.func n) #[] #[]],.bool true],.map (some mb),.pointer (some ⟨rb,0,none⟩),.pointer (some ⟨rb,0,none⟩),.int .i64 op,.tuple #[.agg #[.func (.func n) #[] #[]],.bool true],.agg #[.func (.func n) #[] #[]],.bool true,undef,undef,undef,undef,undef,undef,undef,undef,undef],defers:=[] }/\(Z6 w' rb 182 #[.int .i64 op,.int .i64 vs,.slice HA hrs.length hc,.int .i64 Z0,.slice GA gs.length gc,.slice PA ps.length pc,.slice QA qs.length qc]/\Z6 w' (rb+1) 175 #[.int .i64 0,.int .i64 0,.slice none 0 0])/\Z6 w' ob 342 #[.func (.func n) #[] #[]]/\Below w1.heap.size w1 w') V5 ?znu ?_
     rotate_left
     · skip
       refine' ZV (i:=1) rfl ?nH hS ?zzh
       case nH =>
        intro w' hSw;go_simp;rfl
       simp only [Act.put,ZW];refine' ZV (i:=2) rfl ?nI hS ?zzi
       case nI =>
        intro w' hSw;go_simp;rfl
       simp only [Act.put,ZW];refine' ZV (i:=3) rfl ?nJ hS ?zzj
       case nJ =>
        intro w' hSw;have z0:=hSw.1.q0 rfl;go_simp;rfl
       simp only [Act.put,ZW];refine zyl (i:=0) (j:=8) (by kernel_rfl) rfl rfl ?_ ?_
       · intro K hK;rw [if_pos (by rfl)];go_simp;refine ⟨trivial,?_⟩;refine (callsIn_wide.2 (Bq.out _)).mono ?_;rintro e w2 ⟨rfl,hb2,ho2⟩;have hS2:Z6 w2 rb 182 #[.int .i64 op,.int .i64 vs,.slice HA hrs.length hc,.int .i64 Z0,.slice GA gs.length gc,.slice PA ps.length pc,.slice QA qs.length qc]/\Z6 w2 (rb+1) 175 #[.int .i64 0,.int .i64 0,.slice none 0 0]:=⟨hS.1.step hb2,hS.2.step hb2⟩;refine hK.out _ _ (fun _=>hS2) ?_;clear hK K;have cZ:K7 w2 w1.heap.size:=ho2;clear ho2;refine XG (S':=fun w'=>(Z6 w' rb 182 #[.int .i64 op,.int .i64 vs,.slice HA hrs.length hc,.int .i64 Z0,.slice GA gs.length gc,.slice PA ps.length pc,.slice QA qs.length qc]/\Z6 w' (rb+1) 175 #[.int .i64 0,.int .i64 0,.slice none 0 0])/\K7 w' w1.heap.size) (fun _ h=>h.1) _ _ _ _ ?_;have hT:(Z6 w2 rb 182 #[.int .i64 op,.int .i64 vs,.slice HA hrs.length hc,.int .i64 Z0,.slice GA gs.length gc,.slice PA ps.length pc,.slice QA qs.length qc]/\Z6 w2 (rb+1) 175 #[.int .i64 0,.int .i64 0,.slice none 0 0])/\K7 w2 w1.heap.size:=⟨hS2,cZ⟩
         (try simp only [Act.put,ZW])
         refine' ZV (i:=4) rfl ?uw hT ?iN
         case uw =>
          intro w' hSw;have hlk:=F3 hSw.2 op n HN.out;go_simp;rfl
         simp only [Act.put,ZW];refine' ZV (i:=5) rfl ?uE hT ?iQ
         case uE =>
          intro w' hSw;go_simp;rfl
         simp only [Act.put,ZW];refine' ZV (i:=6) rfl ?uH hT ?iU
         case uH =>
          intro w' hSw;go_simp;rfl
         simp only [Act.put,ZW];refine' ZV (i:=7) rfl ?uK hT ?iX
         case uK =>
          intro w' hSw;go_simp;rfl
         simp only [Act.put,ZW];refine Yj (i:=8) (by kernel_rfl) rfl ?_;intro K hK;rw [if_pos (by rfl)];go_simp;obtain ⟨w3,hw3⟩:=eE (w2.alloc (.cells #[.nilFunc] 342));obtain ⟨ob,Sw⟩:=eE w2.heap.size;have hb3:=bE hw3;have O3:Z6 w3 ob 342 #[.nilFunc]:=(by rw [hw3,Sw];exact Z6.new _ _ _);rw [<- hw3,<- Sw];have hno:rb≠ob/\rb+1≠ob:=(by have:=hT.1.1.lt;have:=hT.1.2.lt;omega);have Eu:w1.heap.size<=ob:=(by have:=hb2.size;have e:w1.drew.heap.size=w1.heap.size:=rfl;omega);clear Sw hw3;have PY:(Z6 w3 rb 182 #[.int .i64 op,.int .i64 vs,.slice HA hrs.length hc,.int .i64 Z0,.slice GA gs.length gc,.slice PA ps.length pc,.slice QA qs.length qc]/\Z6 w3 (rb+1) 175 #[.int .i64 0,.int .i64 0,.slice none 0 0])/\K7 w3 w1.heap.size:=⟨⟨hT.1.1.step hb3,hT.1.2.step hb3⟩,hT.2.step hb3⟩;refine hK.out _ _ (fun _=>PY) ?_;clear hK K
         (try simp only [Act.put,ZW])
         have c3:w3.cell? ⟨ob,0,none⟩=some .nilFunc:=O3.q0 rfl;have f3:=O3.frozen 0;have hst:(store ⟨ob,0,none⟩ (.func (.func n) #[] #[])).run prog w3=.ok () (w3.setCell ⟨ob,0,none⟩ (.func (.func n) #[] #[])):=by
          rw [run_store prog w3 ⟨ob,0,none⟩ (.func (.func n) #[] #[]) _ (by rfl),c3];simp [f3]
         refine Yj (i:=9) (by kernel_rfl) rfl ?_;intro K hK;rw [if_pos (by rfl)];go_simp;have KF:(Z6 (w3.setCell ⟨ob,0,none⟩ (.func (.func n) #[] #[])) rb 182 #[.int .i64 op,.int .i64 vs,.slice HA hrs.length hc,.int .i64 Z0,.slice GA gs.length gc,.slice PA ps.length pc,.slice QA qs.length qc]/\Z6 (w3.setCell ⟨ob,0,none⟩ (.func (.func n) #[] #[])) (rb+1) 175 #[.int .i64 0,.int .i64 0,.slice none 0 0])/\K7 (w3.setCell ⟨ob,0,none⟩ (.func (.func n) #[] #[])) w1.heap.size:=⟨⟨PY.1.1.far (by dsimp only;omega) _,PY.1.2.far (by dsimp only;omega) _⟩,World.ownsMap.kept PY.2 (grownBy_setCell' w3 ob (.func (.func n) #[] #[])) (fun e=>by have e2:=Option.some.inj e;obtain ⟨_,_,hq,_⟩:=PY.2;rw [e2,show w3.heap[ob]?=_ from O3] at hq;cases hq)⟩;refine hK.out _ _ (fun _=>KF) ?_;clear hK K
         (try simp only [Act.put,ZW])
         refine' ZV (i:=10) rfl ?yR KF ?kG
         case yR =>
          intro w' hSw;go_simp;rfl
         simp only [Act.put,ZW];refine WI (by kernel_rfl) ?_ _;exact ⟨ob,w1.heap.size,rfl,KF.1,O3.set 0 (.func (.func n) #[] #[]),((Z9 (Z9 (ZU (Below.refl _ _)) hb2) hb3).setCell (by dsimp only;omega) _)⟩
       · intro K hK;rw [if_pos (by rfl)];go_simp;obtain ⟨w3',hw3⟩:=eE ((w1.alloc (.cells #[.nilFunc] 342)).drew);obtain ⟨ob,Sw⟩:=eE w1.heap.size;have hb3:Below w1.heap.size w1 w3':=(by rw [hw3];exact ZU (bA));have O3':Z6 w3' ob 342 #[.nilFunc]:=(by rw [hw3,Sw];exact (Z6.new _ _ _).drew);have hno:rb≠ob/\rb+1≠ob:=(by have:=B1.lt;have:=C1.lt;omega);have Eu:w1.heap.size<=ob:=(by omega);rw [<- hw3,<- Sw];clear hw3 Sw;have Am:Z6 w3' rb 182 #[.int .i64 op,.int .i64 vs,.slice HA hrs.length hc,.int .i64 Z0,.slice GA gs.length gc,.slice PA ps.length pc,.slice QA qs.length qc]/\Z6 w3' (rb+1) 175 #[.int .i64 0,.int .i64 0,.slice none 0 0]:=⟨B1.step hb3,C1.step hb3⟩;refine hK.out _ _ (fun _=>Am) ?_;clear hK K
         (try simp only [Act.put,ZW])
         refine Yj (i:=0) (by kernel_rfl) rfl ?_;intro K hK;rw [if_pos (by rfl)];go_simp;refine ⟨trivial,?_⟩;refine (callsIn_wide.2 (Bq.out _)).mono ?_;rintro e w3 ⟨rfl,hb2,ho2⟩;obtain ⟨mb,hmb⟩:=eE w3'.heap.size;have hS2:Z6 w3 rb 182 #[.int .i64 op,.int .i64 vs,.slice HA hrs.length hc,.int .i64 Z0,.slice GA gs.length gc,.slice PA ps.length pc,.slice QA qs.length qc]/\Z6 w3 (rb+1) 175 #[.int .i64 0,.int .i64 0,.slice none 0 0]:=⟨Am.1.step hb2,Am.2.step hb2⟩;have O3:=O3'.step hb2;refine hK.out _ _ (fun _=>hS2) ?_;clear hK K;rw [<- hmb] at ho2;rw [<- hmb];clear hmb;refine XG (S':=fun w'=>(Z6 w' rb 182 #[.int .i64 op,.int .i64 vs,.slice HA hrs.length hc,.int .i64 Z0,.slice GA gs.length gc,.slice PA ps.length pc,.slice QA qs.length qc]/\Z6 w' (rb+1) 175 #[.int .i64 0,.int .i64 0,.slice none 0 0])/\K7 w' mb) (fun _ h=>h.1) _ _ _ _ ?_;have PY:(Z6 w3 rb 182 #[.int .i64 op,.int .i64 vs,.slice HA hrs.length hc,.int .i64 Z0,.slice GA gs.length gc,.slice PA ps.length pc,.slice QA qs.length qc]/\Z6 w3 (rb+1) 175 #[.int .i64 0,.int .i64 0,.slice none 0 0])/\K7 w3 mb:=⟨hS2,ho2⟩
         (try simp only [Act.put,ZW])
         refine' ZV (i:=4) rfl ?uz PY ?iO
         case uz =>
          intro w' hSw;have hlk:=F3 hSw.2 op n HN.out;go_simp;rfl
         simp only [Act.put,ZW];refine' ZV (i:=5) rfl ?uF PY ?iR
         case uF =>
          intro w' hSw;go_simp;rfl
         simp only [Act.put,ZW];refine' ZV (i:=6) rfl ?uI PY ?iV
         case uI =>
          intro w' hSw;go_simp;rfl
         simp only [Act.put,ZW];refine' ZV (i:=7) rfl ?uL PY ?iY
         case uL =>
          intro w' hSw;go_simp;rfl
         simp only [Act.put,ZW];have c3:w3.cell? ⟨ob,0,none⟩=some .nilFunc:=O3.q0 rfl;have f3:=O3.frozen 0;have hst:(store ⟨ob,0,none⟩ (.func (.func n) #[] #[])).run prog w3=.ok () (w3.setCell ⟨ob,0,none⟩ (.func (.func n) #[] #[])):=by
          rw [run_store prog w3 ⟨ob,0,none⟩ (.func (.func n) #[] #[]) _ (by rfl),c3];simp [f3]
         refine Yj (i:=9) (by kernel_rfl) rfl ?_;intro K hK;rw [if_pos (by rfl)];go_simp;have KF:(Z6 (w3.setCell ⟨ob,0,none⟩ (.func (.func n) #[] #[])) rb 182 #[.int .i64 op,.int .i64 vs,.slice HA hrs.length hc,.int .i64 Z0,.slice GA gs.length gc,.slice PA ps.length pc,.slice QA qs.length qc]/\Z6 (w3.setCell ⟨ob,0,none⟩ (.func (.func n) #[] #[])) (rb+1) 175 #[.int .i64 0,.int .i64 0,.slice none 0 0])/\K7 (w3.setCell ⟨ob,0,none⟩ (.func (.func n) #[] #[])) mb:=⟨⟨PY.1.1.far (by dsimp only;omega) _,PY.1.2.far (by dsimp only;omega) _⟩,World.ownsMap.kept PY.2 (grownBy_setCell' w3 ob (.func (.func n) #[] #[])) (fun e=>by have e2:=Option.some.inj e;obtain ⟨_,_,hq,_⟩:=PY.2;rw [e2,show w3.heap[ob]?=_ from O3] at hq;cases hq)⟩;refine hK.out _ _ (fun _=>KF) ?_;clear hK K
         (try simp only [Act.put,ZW])
         refine' ZV (i:=10) rfl ?yS KF ?kH
         case yS =>
          intro w' hSw;go_simp;rfl
         simp only [Act.put,ZW];refine WI (by kernel_rfl) ?_ _;exact ⟨ob,mb,rfl,KF.1,O3.set 0 (.func (.func n) #[] #[]),((Z9 hb3 hb2).setCell (by dsimp only;omega) _)⟩
     · rintro a w2 ⟨ob,mb,rfl,⟨B2,C2⟩,O2,hb2⟩;clear hS Bq B1 C1;have hbb:=Z9 (Z9 HB0.out HB1.out) hb2;have c0:=C2.q0 rfl;have c1:=C2.q1 rfl;have c2:=C2.q2 rfl;have d0:=O2.q0 rfl;have e0:=B2.q0 rfl;have e1:=B2.q1 rfl;have e2:=B2.q2 rfl;have e3:=B2.q3 rfl;have e4:=B2.q4 rfl;have e5:=B2.q5 rfl;have e6:=B2.q6 rfl;have HC:=hide (HOP.out (More P w w2) w2 (Yw HP.out hbb) (.inl HG.out) (Z8.of_below hbb HP.out) (fun k h=>.inl h) (HT.out.more hbb) n zod.out wY.out HN.out);have HI:Hid (More P w w2 (rb+1)):=.inr ⟨by rw [Eo.out];exact Nat.le_succ _,C2.lt⟩;have Tq:Hid (¬ P (rb+1)):=fun h=>by have h1:=HP.out _ h;have h2:=Eo.out;omega
       have NH:=hide hbb;have OD:=hide C2;have hent:∀ args w,(callFunc n args).run prog w=.ok (.enter n args) w:=by
        rcases HN.out with ⟨_,h⟩|⟨_,h⟩|⟨_,h⟩|⟨_,h⟩
        · rw [h];exact enters_of func330 (by kernel_rfl) rfl
        · rw [h];exact enters_of func331 (by kernel_rfl) rfl
        · rw [h];exact enters_of func332 (by kernel_rfl) rfl
        · rw [h];exact enters_of func333 (by kernel_rfl) rfl
       dsimp at c0 c1 c2 d0 e0 e1 e2 e3 e4 e5 e6;clear hbb hb2 B2 O2 C2;gi_wp2_with fail;refine ⟨trivial,?_⟩;refine (callsIn_wide.2 HC.out).mono ?_;rintro e w3 ⟨rfl,hk3,ht3⟩;have C3:=OD.out.kept hk3 HI.out;have g0:=C3.q0 rfl;have g1:=C3.q1 rfl;have g2:=C3.q2 rfl;have k0:=C3.frozen 0;have k1:=C3.frozen 1;have k2:=C3.frozen 2;dsimp at g0 g1 g2;clear c0 c1 c2 d0 e0 e1 e2 e3 e4 e5 e6;gi_wp2;have E:Z6 _ (rb+1) 175 #[.int .i64 (Yu op gs ps),.int .i64 0,.slice none 0 0]:=((C3.set 0 (.int .i64 (Yu op gs ps))).set 1 (.int .i64 0)).set 2 (.slice none 0 0);have k9:=((Z8.setCell Tq.out 0 (.int .i64 (Yu op gs ps)) w3).trans (Z8.setCell Tq.out 1 (.int .i64 0) _)).trans (Z8.setCell Tq.out 2 (.slice none 0 0) _);have t9:=(((ht3.set HI.out 0 (.int .i64 (Yu op gs ps))).set HI.out 1 (.int .i64 0)).set HI.out 2 (.slice none 0 0)).mono (R:=P) fun k h=>.inl h;refine bodyPost_ret (SI rfl rfl E) rfl ⟨?_,(Z8.more NH.out HP.out hk3).trans k9,?_⟩
       · rw [zzw.out];rfl
       · rw [qP.out];exact t9
 · have xC:Hid (TA op vs hrs Z0 gs ps qs=(0,err)):=hide (NG.out.trans (if_pos he));have qP:Hid (NK op vs hrs Z0 gs ps qs=[]):=hide (Qx.out.trans (if_pos he));clear NG Qx UQ HOP;have hrw:w.heap.size<=rb+1:=(by rw [Eo.out];exact Nat.le_succ _);have HRW:=hide hrw;clear hrw;gi_wp2;have E:Z6 _ (rb+1) 175 #[.int .i64 0,.int .i64 0,.slice none 0 0]:=((C1.set 0 (.int .i64 0)).set 1 (.int .i64 0)).set 2 (.slice none 0 0);have jV:=(((Z9 HB0.out HB1.out).setCell (p:=⟨rb+1,0,none⟩) HRW.out (.int .i64 0)).setCell (p:=⟨rb+1,1,none⟩) HRW.out (.int .i64 0)).setCell (p:=⟨rb+1,2,none⟩) HRW.out (.slice none 0 0);refine bodyPost_ret (SI rfl rfl E) rfl ⟨?_,Z8.of_below jV HP.out,?_⟩
   · rw [xC.out];rfl
   · rw [qP.out,List.append_nil];exact HT.out.step jV
end
end
end Go.Proofs.YthnenedoblncjaaGreatDoor