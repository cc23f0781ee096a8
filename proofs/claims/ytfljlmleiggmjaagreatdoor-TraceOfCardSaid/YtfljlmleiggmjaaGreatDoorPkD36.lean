/- AnswerE -/
import Derived.Test.YtfljlmleiggmjaaGreatDoorPkD35
set_option maxRecDepth 1000000
set_option maxHeartbeats 8000000
namespace Go.Proofs.YtfljlmleiggmjaaGreatDoor
open Go.Proofs.Tryz
open List (getElem_toArray getElem_cons_succ getElem_cons_zero setIfInBounds_toArray set_cons_zero set_cons_succ)
section
open Go.RowKit Go.Shelf
section
variable {F:Fence}{n:Nat}{P:Program}{ops:Array Oper}{Q:Exit->Act->World->Prop}{md:Region.Mode}{S S':World->Prop}
theorem zuf {i j sk:Nat} {oi oj:Oper} {fuel:Nat} {listed:Array Bool} {a:Act} {w:World} (hr:Region.ready md ops listed=[i,j]) (hi:ops[i]?=some oi) (hj:ops[j]?=some oj)
 (h1:∀ K:Act->World->Prop,Shut (∀ a w,(i≠sk->S w)->YD F n P md ops Q S sk fuel (listed.setIfInBounds i true) a w->K a w)->if Region.wanted oi (yielded ops a.tmps)=true then Oper.wpIn F n P oi a w K Q else (∀ f,oi.about P w a.eval=some f->F.fn f)/\K (a.put oi.dst undef) w)
 (h2:∀ K:Act->World->Prop,Shut (∀ a w,(j≠sk->S w)->YD F n P md ops Q S sk fuel (listed.setIfInBounds j true) a w->K a w)->if Region.wanted oj (yielded ops a.tmps)=true then Oper.wpIn F n P oj a w K Q else (∀ f,oj.about P w a.eval=some f->F.fn f)/\K (a.put oj.dst undef) w) :
 YD F n P md ops Q S sk (fuel+1) listed a w :=
 ⟨fun h0=>(by rw [hr] at h0;cases h0),fun l hl=>by
   rw [hr] at hl;rcases (by simpa using hl:l=i\/l=j) with rfl|rfl
   · exact wpOpIn_step hi (fun K' hK'=>h1 K' (fun a w hS hW=>hK' a w ⟨hS,hW⟩))
   · exact wpOpIn_step hj (fun K' hK'=>h2 K' (fun a w hS hW=>hK' a w ⟨hS,hW⟩))⟩
theorem Xf{sk:Nat}(hSS:∀ w,S' w->S w):∀ (fuel:Nat) (listed:Array Bool) (a:Act) (w:World),YD F n P md ops Q S' sk fuel listed a w->YD F n P md ops Q S sk fuel listed a w
 | 0,_,_,_,h=>h
 | fuel+1,_,_,_,h=>⟨h.1,fun i hi=>wpOpIn_mono (fun a' w' h'=>⟨fun hs=>hSS _ (h'.1 hs),Xf hSS fuel _ a' w' h'.2⟩) (h.2 i hi)⟩
def dU(KP:Act->World->Prop)(Q:Exit->Act->World->Prop):Exit->Act->World->Prop
 | .normal,a,w=>KP a w
 | e,a,w=>Q e a w
theorem sG (sk:Nat) (KP:Act->World->Prop) {id:Nat} {a:Act} {w:World} (hm:P.follows .mixedOrders=true) (hk:∀ a w,KP a w->Q .normal a w)
 (h:YD F n P .any ops (dU KP Q) S sk ops.size (Array.replicate ops.size false) a w.drew):(Code.region id ops true).wpIn F n P Q a w:=by
 refine wpIn_mono (Xy sk (Q:=dU KP Q) hm h) ?_;intro e a w he;cases e with
 | normal=>exact hk a w he
 | _=>exact he
end
def Yd(op:Int)(gs:List Gr)(ps:List Pt):Int :=
 if op=1 then (ZF (Z4 ps 0) (Z4 ps 1) (Z4 ps 2)).sign+1
 else if op=2 then (Yq (Z4 ps 0) (Z4 ps 1) (Z4 ps 2) (Z4 ps 3)).sign+1
 else if op=3 then Wt (ps.take (ps.length - 1)) (Z4 ps (ps.length - 1))
 else Vy gs (Z4 ps 0)
def Ro(op:Int)(gs:List Gr)(ps:List Pt):List Ev:=if op=3 then J7 (ps.length - 1) else if op=4 then Oy gs else []
def Sz(op vs:Int)(hrs:List Rg)(Z0:Int)(gs:List Gr)(ps:List Pt)(qs:List ((Int × Int) × Int)):Int × Int :=
 if (ZG op vs hrs Z0 gs ps qs).2≠0 then (0,(ZG op vs hrs Z0 gs ps qs).2) else if op=5 then (0,2) else (Yd op gs ps,0)
def Mx(op vs:Int)(hrs:List Rg)(Z0:Int)(gs:List Gr)(ps:List Pt)(qs:List ((Int × Int) × Int)):List Ev :=
 if (ZG op vs hrs Z0 gs ps qs).2≠0 then [] else Ro op gs ps
theorem Uw{op vs:Int}{hrs:List Rg}{Z0:Int}{gs:List Gr}{ps:List Pt}{qs:List ((Int × Int) × Int)}(h:(ZG op vs hrs Z0 gs ps qs).2=0):
 ZT op vs hrs Z0=0/\gs.length=hrs.length/\(ps.length:Int)=Xu op vs/\(qs.length:Int)=WX op Z0/\(gs.zip hrs).any VL=false/\(gs.zip hrs).any Wp=false:=by
 unfold ZG at h;split at h
 · rename_i h1;exact absurd h h1
 · rename_i h1
   split at h
   · cases h
   · rename_i h2
     split at h
     · cases h
     · rename_i h3
       split at h
       · cases h
       · rename_i h4
         have a1:ZT op vs hrs Z0=0:=(by simpa using h1);have a2:gs.length=hrs.length:=Classical.byContradiction fun e=>h2 (.inl e);have a3:(ps.length:Int)=Xu op vs:=Classical.byContradiction fun e=>h2 (.inr (.inl e));have a4:(qs.length:Int)=WX op Z0:=Classical.byContradiction fun e=>h2 (.inr (.inr e));exact ⟨a1,a2,a3,a4,by simpa using h3,by simpa using h4⟩
theorem Ru {fn:Func} {tmps:Array Value} {w:World} {g:Nat} {v0 v1 v2:Value} (h:fn.results=#[.cell 4 103,.tmp 5])
 (hp:tmps.getD 4 undef=.pointer (some ⟨g,0,none⟩)) (hb:Z6 w g 103 #[v0,v1,v2]) :
 (results fn tmps).run prog w=.ok (.tuple #[.agg #[v0,v1,v2],tmps.getD 5 undef]) w:=by
 have c0:=hb.q0 rfl;have c1:=hb.q1 rfl;have c2:=hb.q2 rfl;have hp':tmps[4]?.getD undef=.pointer (some ⟨g,0,none⟩):=by rw [<- hp];simp
 simp [results,h,hp',go_sem,c0,c1,c2]
section
variable (P:Nat->Prop)(t:Option (Nat × Nat))(es:List Ev)(op vs Z0:Int)(hrs:List Rg)(HA:Option Addr)(hc:Nat)(gs:List Gr)(GA:Option Addr)(gc:Nat)(ps:List Pt)(PA:Option Addr)(pc:Nat)(qs:List ((Int × Int) × Int))(QA:Option Addr)(qc:Nat)(w:World)
variable (hP:∀ k,P k->k<w.heap.size)(hg0:P 3)(hw:MW w)(ht:Tp w P t es)(hl:es.length<=600000)(hps:Tq ps)(hs:U2 w P PA (Zc ps))(hcap:ps.length<=pc)
variable (hgc:U2 w P GA (rgCells (gs.map (·.1))))(hgs:xK w P gs)
include hP hg0 hw ht hl hps hs hcap hgc hgs
theorem ru(n:Nat)(Ai:ZT op vs hrs Z0=0)(hlen:(ps.length:Int)=Xu op vs)(hn:op=1/\n=186\/op=2/\n=188\/op=3/\n=190\/op=4/\n=192):
 Calls prog n #[.pointer (Zu t),.agg #[.int .i64 op,.int .i64 vs,.slice HA hrs.length hc,.int .i64 Z0,.slice GA gs.length gc,.slice PA ps.length pc,.slice QA qs.length qc]] w fun e w'=>e=.returned (.int .i64 (Yd op gs ps))/\Z8 P w w'/\Tp w' P t (es++Ro op gs ps):=by
 rcases hn with ⟨rfl,rfl⟩|⟨rfl,rfl⟩|⟨rfl,rfl⟩|⟨rfl,rfl⟩
 · have h3:ps.length=3:=(by have:Xu 1 vs=3:=rfl;omega);refine (kM P t 1 vs Z0 HA hrs.length hc gs GA gc ps PA pc QA qs.length qc w hP hw hps hs h3).mono ?_;rintro e w' ⟨rfl,hb⟩;exact ⟨rfl,Z8.of_below hb hP,by rw [show Ro 1 gs ps=[] from rfl,List.append_nil];exact ht.step hb⟩
 · have h4:ps.length=4:=(by have:Xu 2 vs=4:=rfl;omega);refine (kN P t 2 vs Z0 HA hrs.length hc gs GA gc ps PA pc QA qs.length qc w hP hw hps hs h4).mono ?_;rintro e w' ⟨rfl,hb⟩;exact ⟨rfl,Z8.of_below hb hP,by rw [show Ro 2 gs ps=[] from rfl,List.append_nil];exact ht.step hb⟩
 · have h3:3<=vs/\vs<=64:=(Zp Ai).2.2.1 rfl;have h4:(ps.length:Int)=vs+1:=hlen;have h5:ps.length=(ps.length - 1)+1:=(by omega);refine (kP P t es 3 vs Z0 HA hrs.length hc gs GA gc ps PA pc QA qs.length qc w hP hg0 hw ht hl hps hs (ps.length - 1) h5 (by omega) (by omega)).mono ?_;rintro e w' ⟨rfl,hk,ht'⟩;exact ⟨rfl,hk,ht'⟩
 · have h1:ps.length=1:=(by have:Xu 4 vs=1:=rfl;omega);refine (kQ P t es 4 vs Z0 HA hrs.length hc gs GA gc ps PA pc QA qs.length qc w hP hg0 hw ht hl hps hs h1 hgc hgs).mono ?_;rintro e w' ⟨rfl,hk,ht'⟩;exact ⟨rfl,hk,ht'⟩
variable (hh:U2 w P HA (rgCells hrs))(hnm:hrs.length<=maxLen)(Qh:Sl w w.heap.size QA (Vs qs))
include hh hnm Qh
theorem JV:Calls prog 105 #[.pointer (Zu t),.agg #[.int .i64 op,.int .i64 vs,.slice HA hrs.length hc,.int .i64 Z0,.slice GA gs.length gc,.slice PA ps.length pc,.slice QA qs.length qc]] w fun e w'=>e=.returned (.tuple #[.agg #[.int .i64 (Sz op vs hrs Z0 gs ps qs).1,.int .i64 0,.slice none 0 0],.int .i64 (Sz op vs hrs Z0 gs ps qs).2])/\Z8 P w w'/\Tp w' P t (es++Mx op vs hrs Z0 gs ps qs):=by
 obtain ⟨rb,hrb⟩:=eE w.heap.size;obtain ⟨w0,hw0⟩:=eE ((w.alloc (.cells #[.int .i64 op,.int .i64 vs,.slice HA hrs.length hc,.int .i64 Z0,.slice GA gs.length gc,.slice PA ps.length pc,.slice QA qs.length qc] 100)).alloc (.cells #[.int .i64 0,.int .i64 0,.slice none 0 0] 103));have hb0:=bF hw0;have B0:Z6 w0 rb 100 #[.int .i64 op,.int .i64 vs,.slice HA hrs.length hc,.int .i64 Z0,.slice GA gs.length gc,.slice PA ps.length pc,.slice QA qs.length qc]:=by rw [hw0,hrb];exact (Z6.new _ _ _).alloc _
 have C0:Z6 w0 (rb+1) 103 #[.int .i64 0,.int .i64 0,.slice none 0 0]:=by rw [hw0,hrb];exact Z6.new2 _ _ _ _
 have hk0:Z8 P w w0:=Z8.of_below hb0 hP;have JM:=Ki op vs Z0 hrs HA hc gs GA gc ps PA pc qs QA qc w0 (((hh.sl hP).below hb0).more hb0.size) (((hgc.sl hP).below hb0).more hb0.size) (fun g hg=>⟨(hgs g hg).1,(((hgs g hg).2.1.sl hP).below hb0).more hb0.size⟩) (((hs.sl hP).below hb0).more hb0.size) ((Qh.below hb0).more hb0.size) hnm;have NY:Hid (Sz op vs hrs Z0 gs ps qs=if (ZG op vs hrs Z0 gs ps qs).2≠0 then (0,(ZG op vs hrs Z0 gs ps qs).2) else if op=5 then (0,2) else (Yd op gs ps,0)):=rfl;have RO:Hid (Mx op vs hrs Z0 gs ps qs=if (ZG op vs hrs Z0 gs ps qs).2≠0 then [] else Ro op gs ps):=rfl;have Uo:=hide (fun h=>Uw (op:=op) (vs:=vs) (hrs:=hrs) (Z0:=Z0) (gs:=gs) (ps:=ps) (qs:=qs) h);obtain ⟨⟨bs,err⟩,hE⟩:∃ E,E=ZG op vs hrs Z0 gs ps qs:=⟨_,rfl⟩;rw [<- hE] at JM NY RO Uo;have fT:=hide JM;have HOP:=hide (fun (P':Nat->Prop) (w':World) (hP':∀ k,P' k->k<w'.heap.size) (hg':P' 3) (hk':Z8 P w w') (Aa:∀ k,P k->P' k) (ht':Tp w' P' t es)=>ru P' t es op vs Z0 hrs HA hc gs GA gc ps PA pc qs QA qc w' hP' hg' (hw.kept hk' hg0) ht' hl hps ((hs.kept hk').mono Aa) hcap ((hgc.kept hk').mono Aa) (fun g hg=>⟨(hgs g hg).1,((hgs g hg).2.1.kept hk').mono Aa,(hgs g hg).2.2⟩));have HP:=hide hP;have HG:=hide hg0;have HT:=hide ht;have HB0:=hide hb0;have Wj:prog.follows .mixedOrders=true:=by kernel_rfl
 clear hE JM hk0 hP hg0 hw ht hps hs hcap hgc hgs hh Qh hb0;refine (callsIn_wide (n:=6)).1 ?_;refine callsIn_of_wp func105 rfl trivial ?_ rfl;simp only [ntmps105,List.size_toArray,List.length_cons,List.length_nil,Nat.reduceAdd,Nat.reduceSub,Array.replicate_succ,Array.replicate_zero,List.push_toArray,List.append_toArray,List.nil_append,List.cons_append];gi_wp2_with fail;rw [<- hw0,<- hrb];have HW0:=hide hw0;have JL:=hide hrb;clear hw0 hrb;refine ⟨trivial,?_⟩;refine (callsIn_wide.2 fT.out).mono ?_;rintro e w1 ⟨v,rfl,hv1,hb1⟩;have B1:=B0.step hb1;have C1:=C0.step hb1;have HB1:=hide hb1;have c10:=C1.q0 rfl;have c11:=C1.q1 rfl;have c12:=C1.q2 rfl;dsimp at c10 c11 c12;have f10:=C1.frozen 0;have f11:=C1.frozen 1;have f12:=C1.frozen 2;dsimp only at *;obtain ⟨VA,Um,rfl,_⟩:=ZJ hv1
 by_cases he:err=0
 · subst he;obtain ⟨Ai,hgl,hpl,vR,_,_⟩:=Uo.out rfl;have hop:=Zp Ai;have hop1:=hop.1;have zhj:=hop.2.1;have um:Hid (Sz op vs hrs Z0 gs ps qs=if op=5 then (0,2) else (Yd op gs ps,0)):=hide (NY.out.trans (if_neg (by simp)));have mQ:Hid (Mx op vs hrs Z0 gs ps qs=Ro op gs ps):=hide (RO.out.trans (if_neg (by simp)));have zil:=hide Ai;have tO:=hide hpl;clear hop NY RO Uo Ai hgl hpl vR hv1 fT;gi_wp2_with fail;clear c10 c11 c12 f10 f11 f12
   by_cases h5:op=5
   · subst h5;have zvq:Hid (Sz 5 vs hrs Z0 gs ps qs=(0,2)):=hide (um.out.trans (if_pos rfl));have ziq:Hid (Mx 5 vs hrs Z0 gs ps qs=[]):=mQ;clear um mQ;have zk:=hide (fun w=>Rp w);have hS:Z6 w1.drew rb 100 #[.int .i64 5,.int .i64 vs,.slice HA hrs.length hc,.int .i64 Z0,.slice GA gs.length gc,.slice PA ps.length pc,.slice QA qs.length qc]/\Z6 w1.drew (rb+1) 103 #[.int .i64 0,.int .i64 0,.slice none 0 0]:=⟨B1.drew,C1.drew⟩;clear B0 C0;refine sG 1000 (S:=fun w'=>Z6 w' rb 100 #[.int .i64 5,.int .i64 vs,.slice HA hrs.length hc,.int .i64 Z0,.slice GA gs.length gc,.slice PA ps.length pc,.slice QA qs.length qc]/\Z6 w' (rb+1) 103 #[.int .i64 0,.int .i64 0,.slice none 0 0]) (fun a w'=>∃ ob mb:Nat,a={ tmps:=#[.pointer (Zu t),.agg #[.int .i64 5,.int .i64 vs,.slice HA hrs.length hc,.int .i64 Z0,.slice GA gs.length gc,.slice PA ps.length pc,.slice QA qs.length qc],undef,.pointer (some ⟨rb,0,none⟩),.pointer (some ⟨rb+1,0,none⟩),.int .i64 0,.slice VA bs.length Um,.int .i64 0,.pointer (some ⟨ob,0,none⟩),.bool false,.tuple #[.slice VA bs.length Um,.int .i64 0],.agg #[.int .i64 5,.int .i64 vs,.slice HA hrs.length hc,.int .i64 Z0,.slice GA gs.length gc,.slice PA ps.length pc,.slice QA qs.length qc],.tuple #[.slice VA bs.length Um,.int .i64 0],.slice VA bs.length Um,.int .i64 0,.int .i64 0,.bool false,undef,undef,.tuple #[.agg #[.nilFunc],.bool false],.map (some mb),.pointer (some ⟨rb,0,none⟩),.pointer (some ⟨rb,0,none⟩),.int .i64 5,.tuple #[.agg #[.nilFunc],.bool false],.agg #[.nilFunc],.bool false,undef,undef,undef,undef,undef,undef,undef,undef,undef],defers:=[] }/\(Z6 w' rb 100 #[.int .i64 5,.int .i64 vs,.slice HA hrs.length hc,.int .i64 Z0,.slice GA gs.length gc,.slice PA ps.length pc,.slice QA qs.length qc]/\Z6 w' (rb+1) 103 #[.int .i64 0,.int .i64 0,.slice none 0 0])/\Z6 w' ob 206 #[.nilFunc]/\Below w1.heap.size w1 w') Wj ?zie ?_
     rotate_left
     · skip
       refine' ZU (i:=1) rfl ?zya hS ?zrh
       case zya =>
        intro w' hSw;go_simp;rfl
       simp only [Act.put,ZX];refine' ZU (i:=2) rfl ?zyk hS ?zrr
       case zyk =>
        intro w' hSw;go_simp;rfl
       simp only [Act.put,ZX];refine' ZU (i:=3) rfl ?zyv hS ?zsc
       case zyv =>
        intro w' hSw;have z0:=hSw.1.q0 rfl;go_simp;rfl
       simp only [Act.put,ZX];refine zuf (i:=0) (j:=8) (by kernel_rfl) rfl rfl ?_ ?_
       · intro K hK;rw [if_pos (by rfl)];go_simp;refine ⟨trivial,?_⟩;refine (callsIn_wide.2 (zk.out _)).mono ?_;rintro e w2 ⟨rfl,hb2,ho2⟩;have hS2:Z6 w2 rb 100 #[.int .i64 5,.int .i64 vs,.slice HA hrs.length hc,.int .i64 Z0,.slice GA gs.length gc,.slice PA ps.length pc,.slice QA qs.length qc]/\Z6 w2 (rb+1) 103 #[.int .i64 0,.int .i64 0,.slice none 0 0]:=⟨hS.1.step hb2,hS.2.step hb2⟩;refine hK.out _ _ (fun _=>hS2) ?_;clear hK K;have zxf:JR w2 w1.heap.size:=ho2;clear ho2;refine Xf (S':=fun w'=>(Z6 w' rb 100 #[.int .i64 5,.int .i64 vs,.slice HA hrs.length hc,.int .i64 Z0,.slice GA gs.length gc,.slice PA ps.length pc,.slice QA qs.length qc]/\Z6 w' (rb+1) 103 #[.int .i64 0,.int .i64 0,.slice none 0 0])/\JR w' w1.heap.size) (fun _ h=>h.1) _ _ _ _ ?_;have hT:(Z6 w2 rb 100 #[.int .i64 5,.int .i64 vs,.slice HA hrs.length hc,.int .i64 Z0,.slice GA gs.length gc,.slice PA ps.length pc,.slice QA qs.length qc]/\Z6 w2 (rb+1) 103 #[.int .i64 0,.int .i64 0,.slice none 0 0])/\JR w2 w1.heap.size:=⟨hS2,zxf⟩
         (try simp only [Act.put,ZX])
         refine' ZU (i:=4) rfl ?jK hT ?zve
         case jK =>
          intro w' hSw;have hlk:=Ea hSw.2;go_simp;rfl
         simp only [Act.put,ZX];refine' ZU (i:=5) rfl ?jM hT ?zvg
         case jM =>
          intro w' hSw;go_simp;rfl
         simp only [Act.put,ZX];refine' ZU (i:=6) rfl ?jN hT ?zvh
         case jN =>
          intro w' hSw;go_simp;rfl
         simp only [Act.put,ZX];refine' ZU (i:=7) rfl ?jO hT ?zvi
         case jO =>
          intro w' hSw;go_simp;rfl
         simp only [Act.put,ZX];refine Yi (i:=8) (by kernel_rfl) rfl ?_;intro K hK;rw [if_pos (by rfl)];go_simp;obtain ⟨w3,hw3⟩:=eE (w2.alloc (.cells #[.nilFunc] 206));obtain ⟨ob,Sj⟩:=eE w2.heap.size;have hb3:=bE hw3;have O3:Z6 w3 ob 206 #[.nilFunc]:=(by rw [hw3,Sj];exact Z6.new _ _ _);rw [<- hw3,<- Sj];have hno:rb≠ob/\rb+1≠ob:=(by have:=hT.1.1.lt;have:=hT.1.2.lt;omega);have CF:w1.heap.size<=ob:=(by have:=hb2.size;have e:w1.drew.heap.size=w1.heap.size:=rfl;omega);clear Sj hw3;have Qe:(Z6 w3 rb 100 #[.int .i64 5,.int .i64 vs,.slice HA hrs.length hc,.int .i64 Z0,.slice GA gs.length gc,.slice PA ps.length pc,.slice QA qs.length qc]/\Z6 w3 (rb+1) 103 #[.int .i64 0,.int .i64 0,.slice none 0 0])/\JR w3 w1.heap.size:=⟨⟨hT.1.1.step hb3,hT.1.2.step hb3⟩,hT.2.step hb3⟩;refine hK.out _ _ (fun _=>Qe) ?_;clear hK K
         (try simp only [Act.put,ZX])
         have c3:w3.cell? ⟨ob,0,none⟩=some .nilFunc:=O3.q0 rfl;have f3:=O3.frozen 0;have hst:(store ⟨ob,0,none⟩ (.nilFunc)).run prog w3=.ok () (w3.setCell ⟨ob,0,none⟩ (.nilFunc)):=by
          rw [run_store prog w3 ⟨ob,0,none⟩ (.nilFunc) _ (by rfl),c3];simp [f3]
         refine Yi (i:=9) (by kernel_rfl) rfl ?_;intro K hK;rw [if_pos (by rfl)];go_simp;have Js:(Z6 (w3.setCell ⟨ob,0,none⟩ (.nilFunc)) rb 100 #[.int .i64 5,.int .i64 vs,.slice HA hrs.length hc,.int .i64 Z0,.slice GA gs.length gc,.slice PA ps.length pc,.slice QA qs.length qc]/\Z6 (w3.setCell ⟨ob,0,none⟩ (.nilFunc)) (rb+1) 103 #[.int .i64 0,.int .i64 0,.slice none 0 0])/\JR (w3.setCell ⟨ob,0,none⟩ (.nilFunc)) w1.heap.size:=⟨⟨Qe.1.1.far (by dsimp only;omega) _,Qe.1.2.far (by dsimp only;omega) _⟩,World.ownsMap.kept Qe.2 (grownBy_setCell' w3 ob (.nilFunc)) (fun e=>by have e2:=Option.some.inj e;obtain ⟨_,_,hq,_⟩:=Qe.2;rw [e2,show w3.heap[ob]?=_ from O3] at hq;cases hq)⟩;refine hK.out _ _ (fun _=>Js) ?_;clear hK K
         (try simp only [Act.put,ZX])
         refine' ZU (i:=10) rfl ?pW Js ?aZ
         case pW =>
          intro w' hSw;go_simp;rfl
         simp only [Act.put,ZX];refine WG (by kernel_rfl) ?_ _;exact ⟨ob,w1.heap.size,rfl,Js.1,O3.set 0 (.nilFunc),((Z9 (Z9 (ZV (Below.refl _ _)) hb2) hb3).setCell (by dsimp only;omega) _)⟩
       · intro K hK;rw [if_pos (by rfl)];go_simp;obtain ⟨w3',hw3⟩:=eE ((w1.alloc (.cells #[.nilFunc] 206)).drew);obtain ⟨ob,Sj⟩:=eE w1.heap.size;have hb3:Below w1.heap.size w1 w3':=(by rw [hw3];exact ZV (bA));have O3':Z6 w3' ob 206 #[.nilFunc]:=(by rw [hw3,Sj];exact (Z6.new _ _ _).drew);have hno:rb≠ob/\rb+1≠ob:=(by have:=B1.lt;have:=C1.lt;omega);have CF:w1.heap.size<=ob:=(by omega);rw [<- hw3,<- Sj];clear hw3 Sj;have Ii:Z6 w3' rb 100 #[.int .i64 5,.int .i64 vs,.slice HA hrs.length hc,.int .i64 Z0,.slice GA gs.length gc,.slice PA ps.length pc,.slice QA qs.length qc]/\Z6 w3' (rb+1) 103 #[.int .i64 0,.int .i64 0,.slice none 0 0]:=⟨B1.step hb3,C1.step hb3⟩;refine hK.out _ _ (fun _=>Ii) ?_;clear hK K
         (try simp only [Act.put,ZX])
         refine Yi (i:=0) (by kernel_rfl) rfl ?_;intro K hK;rw [if_pos (by rfl)];go_simp;refine ⟨trivial,?_⟩;refine (callsIn_wide.2 (zk.out _)).mono ?_;rintro e w3 ⟨rfl,hb2,ho2⟩;obtain ⟨mb,hmb⟩:=eE w3'.heap.size;have hS2:Z6 w3 rb 100 #[.int .i64 5,.int .i64 vs,.slice HA hrs.length hc,.int .i64 Z0,.slice GA gs.length gc,.slice PA ps.length pc,.slice QA qs.length qc]/\Z6 w3 (rb+1) 103 #[.int .i64 0,.int .i64 0,.slice none 0 0]:=⟨Ii.1.step hb2,Ii.2.step hb2⟩;have O3:=O3'.step hb2;refine hK.out _ _ (fun _=>hS2) ?_;clear hK K;rw [<- hmb] at ho2;rw [<- hmb];clear hmb;refine Xf (S':=fun w'=>(Z6 w' rb 100 #[.int .i64 5,.int .i64 vs,.slice HA hrs.length hc,.int .i64 Z0,.slice GA gs.length gc,.slice PA ps.length pc,.slice QA qs.length qc]/\Z6 w' (rb+1) 103 #[.int .i64 0,.int .i64 0,.slice none 0 0])/\JR w' mb) (fun _ h=>h.1) _ _ _ _ ?_;have Qe:(Z6 w3 rb 100 #[.int .i64 5,.int .i64 vs,.slice HA hrs.length hc,.int .i64 Z0,.slice GA gs.length gc,.slice PA ps.length pc,.slice QA qs.length qc]/\Z6 w3 (rb+1) 103 #[.int .i64 0,.int .i64 0,.slice none 0 0])/\JR w3 mb:=⟨hS2,ho2⟩
         (try simp only [Act.put,ZX])
         refine' ZU (i:=4) rfl ?jL Qe ?zvf
         case jL =>
          intro w' hSw;have hlk:=Ea hSw.2;go_simp;rfl
         simp only [Act.put,ZX];refine' ZU (i:=5) rfl ?p8 Qe ?bn
         case p8 =>
          intro w' hSw;go_simp;rfl
         simp only [Act.put,ZX];refine' ZU (i:=6) rfl ?qg Qe ?bD
         case qg =>
          intro w' hSw;go_simp;rfl
         simp only [Act.put,ZX];refine' ZU (i:=7) rfl ?qm Qe ?bI
         case qm =>
          intro w' hSw;go_simp;rfl
         simp only [Act.put,ZX];have c3:w3.cell? ⟨ob,0,none⟩=some .nilFunc:=O3.q0 rfl;have f3:=O3.frozen 0;have hst:(store ⟨ob,0,none⟩ (.nilFunc)).run prog w3=.ok () (w3.setCell ⟨ob,0,none⟩ (.nilFunc)):=by
          rw [run_store prog w3 ⟨ob,0,none⟩ (.nilFunc) _ (by rfl),c3];simp [f3]
         refine Yi (i:=9) (by kernel_rfl) rfl ?_;intro K hK;rw [if_pos (by rfl)];go_simp;have Js:(Z6 (w3.setCell ⟨ob,0,none⟩ (.nilFunc)) rb 100 #[.int .i64 5,.int .i64 vs,.slice HA hrs.length hc,.int .i64 Z0,.slice GA gs.length gc,.slice PA ps.length pc,.slice QA qs.length qc]/\Z6 (w3.setCell ⟨ob,0,none⟩ (.nilFunc)) (rb+1) 103 #[.int .i64 0,.int .i64 0,.slice none 0 0])/\JR (w3.setCell ⟨ob,0,none⟩ (.nilFunc)) mb:=⟨⟨Qe.1.1.far (by dsimp only;omega) _,Qe.1.2.far (by dsimp only;omega) _⟩,World.ownsMap.kept Qe.2 (grownBy_setCell' w3 ob (.nilFunc)) (fun e=>by have e2:=Option.some.inj e;obtain ⟨_,_,hq,_⟩:=Qe.2;rw [e2,show w3.heap[ob]?=_ from O3] at hq;cases hq)⟩;refine hK.out _ _ (fun _=>Js) ?_;clear hK K
         (try simp only [Act.put,ZX])
         refine' ZU (i:=10) rfl ?vW Js ?fE
         case vW =>
          intro w' hSw;go_simp;rfl
         simp only [Act.put,ZX];refine WG (by kernel_rfl) ?_ _;exact ⟨ob,mb,rfl,Js.1,O3.set 0 (.nilFunc),((Z9 hb3 hb2).setCell (by dsimp only;omega) _)⟩
     · rintro a w2 ⟨ob,mb,rfl,⟨B2,C2⟩,O2,hb2⟩;clear hS zk;have c0:=C2.q0 rfl;have c1:=C2.q1 rfl;have c2:=C2.q2 rfl;dsimp at c0 c1 c2;have f0:=C2.frozen 0;have f1:=C2.frozen 1;have f2:=C2.frozen 2;have hbb:=Z9 (Z9 HB0.out HB1.out) hb2;gi_wp2;have hrw:w.heap.size<=rb+1:=(by rw [JL.out];exact Nat.le_succ _);have E:Z6 _ (rb+1) 103 #[.int .i64 0,.int .i64 0,.slice none 0 0]:=((C2.set 0 (.int .i64 0)).set 1 (.int .i64 0)).set 2 (.slice none 0 0);have hb9:=((hbb.setCell (p:=⟨rb+1,0,none⟩) hrw (.int .i64 0)).setCell (p:=⟨rb+1,1,none⟩) hrw (.int .i64 0)).setCell (p:=⟨rb+1,2,none⟩) hrw (.slice none 0 0);refine bodyPost_ret (Ru rfl rfl E) rfl ⟨?_,Z8.of_below hb9 HP.out,?_⟩
       · rw [zvq.out];rfl
       · rw [ziq.out,List.append_nil];exact HT.out.step hb9
   · have zvq:Hid (Sz op vs hrs Z0 gs ps qs=(Yd op gs ps,0)):=hide (um.out.trans (if_neg h5));obtain ⟨n,hn⟩:∃ n,op=1/\n=186\/op=2/\n=188\/op=3/\n=190\/op=4/\n=192:=by
      have h:op=1\/op=2\/op=3\/op=4:=(by omega);rcases h with h|h|h|h
      · exact ⟨_,.inl ⟨h,rfl⟩⟩
      · exact ⟨_,.inr (.inl ⟨h,rfl⟩)⟩
      · exact ⟨_,.inr (.inr (.inl ⟨h,rfl⟩))⟩
      · exact ⟨_,.inr (.inr (.inr ⟨h,rfl⟩))⟩
     have HN:=hide hn;clear hn um h5;have zk:=hide (fun w=>Rp w);have hS:Z6 w1.drew rb 100 #[.int .i64 op,.int .i64 vs,.slice HA hrs.length hc,.int .i64 Z0,.slice GA gs.length gc,.slice PA ps.length pc,.slice QA qs.length qc]/\Z6 w1.drew (rb+1) 103 #[.int .i64 0,.int .i64 0,.slice none 0 0]:=⟨B1.drew,C1.drew⟩;clear B0 C0;refine sG 1000 (S:=fun w'=>Z6 w' rb 100 #[.int .i64 op,.int .i64 vs,.slice HA hrs.length hc,.int .i64 Z0,.slice GA gs.length gc,.slice PA ps.length pc,.slice QA qs.length qc]/\Z6 w' (rb+1) 103 #[.int .i64 0,.int .i64 0,.slice none 0 0]) (fun a w'=>∃ ob mb:Nat,a={ tmps:=#[.pointer (Zu t),.agg #[.int .i64 op,.int .i64 vs,.slice HA hrs.length hc,.int .i64 Z0,.slice GA gs.length gc,.slice PA ps.length pc,.slice QA qs.length qc],undef,.pointer (some ⟨rb,0,none⟩),.pointer (some ⟨rb+1,0,none⟩),.int .i64 0,.slice VA bs.length Um,.int .i64 0,.pointer (some ⟨ob,0,none⟩),.bool true,.tuple #[.slice VA bs.length Um,.int .i64 0],.agg #[.int .i64 op,.int .i64 vs,.slice HA hrs.length hc,.int .i64 Z0,.slice GA gs.length gc,.slice PA ps.length pc,.slice QA qs.length qc],.tuple #[.slice VA bs.length Um,.int .i64 0],.slice VA bs.length Um,.int .i64 0,.int .i64 0,.bool false,undef,undef,.tuple #[.agg #[.func (.func n) #[] #[]],.bool true],.map (some mb),.pointer (some ⟨rb,0,none⟩),.pointer (some ⟨rb,0,none⟩),.int .i64 op,.tuple #[.agg #[.func (.func n) #[] #[]],.bool true],.agg #[.func (.func n) #[] #[]],.bool true,undef,undef,undef,undef,undef,undef,undef,undef,undef],defers:=[] }/\(Z6 w' rb 100 #[.int .i64 op,.int .i64 vs,.slice HA hrs.length hc,.int .i64 Z0,.slice GA gs.length gc,.slice PA ps.length pc,.slice QA qs.length qc]/\Z6 w' (rb+1) 103 #[.int .i64 0,.int .i64 0,.slice none 0 0])/\Z6 w' ob 206 #[.func (.func n) #[] #[]]/\Below w1.heap.size w1 w') Wj ?zid ?_
     rotate_left
     · skip
       refine' ZU (i:=1) rfl ?jH hS ?zvb
       case jH =>
        intro w' hSw;go_simp;rfl
       simp only [Act.put,ZX];refine' ZU (i:=2) rfl ?jI hS ?zvc
       case jI =>
        intro w' hSw;go_simp;rfl
       simp only [Act.put,ZX];refine' ZU (i:=3) rfl ?jJ hS ?zvd
       case jJ =>
        intro w' hSw;have z0:=hSw.1.q0 rfl;go_simp;rfl
       simp only [Act.put,ZX];refine zuf (i:=0) (j:=8) (by kernel_rfl) rfl rfl ?_ ?_
       · intro K hK;rw [if_pos (by rfl)];go_simp;refine ⟨trivial,?_⟩;refine (callsIn_wide.2 (zk.out _)).mono ?_;rintro e w2 ⟨rfl,hb2,ho2⟩;have hS2:Z6 w2 rb 100 #[.int .i64 op,.int .i64 vs,.slice HA hrs.length hc,.int .i64 Z0,.slice GA gs.length gc,.slice PA ps.length pc,.slice QA qs.length qc]/\Z6 w2 (rb+1) 103 #[.int .i64 0,.int .i64 0,.slice none 0 0]:=⟨hS.1.step hb2,hS.2.step hb2⟩;refine hK.out _ _ (fun _=>hS2) ?_;clear hK K;have zxf:JR w2 w1.heap.size:=ho2;clear ho2;refine Xf (S':=fun w'=>(Z6 w' rb 100 #[.int .i64 op,.int .i64 vs,.slice HA hrs.length hc,.int .i64 Z0,.slice GA gs.length gc,.slice PA ps.length pc,.slice QA qs.length qc]/\Z6 w' (rb+1) 103 #[.int .i64 0,.int .i64 0,.slice none 0 0])/\JR w' w1.heap.size) (fun _ h=>h.1) _ _ _ _ ?_;have hT:(Z6 w2 rb 100 #[.int .i64 op,.int .i64 vs,.slice HA hrs.length hc,.int .i64 Z0,.slice GA gs.length gc,.slice PA ps.length pc,.slice QA qs.length qc]/\Z6 w2 (rb+1) 103 #[.int .i64 0,.int .i64 0,.slice none 0 0])/\JR w2 w1.heap.size:=⟨hS2,zxf⟩
         (try simp only [Act.put,ZX])
         refine' ZU (i:=4) rfl ?pX hT ?bf
         case pX =>
          intro w' hSw;have hlk:=D9 hSw.2 op n HN.out;go_simp;rfl
         simp only [Act.put,ZX];refine' ZU (i:=5) rfl ?p9 hT ?bB
         case p9 =>
          intro w' hSw;go_simp;rfl
         simp only [Act.put,ZX];refine' ZU (i:=6) rfl ?qh hT ?bG
         case qh =>
          intro w' hSw;go_simp;rfl
         simp only [Act.put,ZX];refine' ZU (i:=7) rfl ?qo hT ?bJ
         case qo =>
          intro w' hSw;go_simp;rfl
         simp only [Act.put,ZX];refine Yi (i:=8) (by kernel_rfl) rfl ?_;intro K hK;rw [if_pos (by rfl)];go_simp;obtain ⟨w3,hw3⟩:=eE (w2.alloc (.cells #[.nilFunc] 206));obtain ⟨ob,Sj⟩:=eE w2.heap.size;have hb3:=bE hw3;have O3:Z6 w3 ob 206 #[.nilFunc]:=(by rw [hw3,Sj];exact Z6.new _ _ _);rw [<- hw3,<- Sj];have hno:rb≠ob/\rb+1≠ob:=(by have:=hT.1.1.lt;have:=hT.1.2.lt;omega);have CF:w1.heap.size<=ob:=(by have:=hb2.size;have e:w1.drew.heap.size=w1.heap.size:=rfl;omega);clear Sj hw3;have Qe:(Z6 w3 rb 100 #[.int .i64 op,.int .i64 vs,.slice HA hrs.length hc,.int .i64 Z0,.slice GA gs.length gc,.slice PA ps.length pc,.slice QA qs.length qc]/\Z6 w3 (rb+1) 103 #[.int .i64 0,.int .i64 0,.slice none 0 0])/\JR w3 w1.heap.size:=⟨⟨hT.1.1.step hb3,hT.1.2.step hb3⟩,hT.2.step hb3⟩;refine hK.out _ _ (fun _=>Qe) ?_;clear hK K
         (try simp only [Act.put,ZX])
         have c3:w3.cell? ⟨ob,0,none⟩=some .nilFunc:=O3.q0 rfl;have f3:=O3.frozen 0;have hst:(store ⟨ob,0,none⟩ (.func (.func n) #[] #[])).run prog w3=.ok () (w3.setCell ⟨ob,0,none⟩ (.func (.func n) #[] #[])):=by
          rw [run_store prog w3 ⟨ob,0,none⟩ (.func (.func n) #[] #[]) _ (by rfl),c3];simp [f3]
         refine Yi (i:=9) (by kernel_rfl) rfl ?_;intro K hK;rw [if_pos (by rfl)];go_simp;have Js:(Z6 (w3.setCell ⟨ob,0,none⟩ (.func (.func n) #[] #[])) rb 100 #[.int .i64 op,.int .i64 vs,.slice HA hrs.length hc,.int .i64 Z0,.slice GA gs.length gc,.slice PA ps.length pc,.slice QA qs.length qc]/\Z6 (w3.setCell ⟨ob,0,none⟩ (.func (.func n) #[] #[])) (rb+1) 103 #[.int .i64 0,.int .i64 0,.slice none 0 0])/\JR (w3.setCell ⟨ob,0,none⟩ (.func (.func n) #[] #[])) w1.heap.size:=⟨⟨Qe.1.1.far (by dsimp only;omega) _,Qe.1.2.far (by dsimp only;omega) _⟩,World.ownsMap.kept Qe.2 (grownBy_setCell' w3 ob (.func (.func n) #[] #[])) (fun e=>by have e2:=Option.some.inj e;obtain ⟨_,_,hq,_⟩:=Qe.2;rw [e2,show w3.heap[ob]?=_ from O3] at hq;cases hq)⟩;refine hK.out _ _ (fun _=>Js) ?_;clear hK K
         (try simp only [Act.put,ZX])
         refine' ZU (i:=10) rfl ?vX Js ?fF
         case vX =>
          intro w' hSw;go_simp;rfl
         simp only [Act.put,ZX];refine WG (by kernel_rfl) ?_ _;exact ⟨ob,w1.heap.size,rfl,Js.1,O3.set 0 (.func (.func n) #[] #[]),((Z9 (Z9 (ZV (Below.refl _ _)) hb2) hb3).setCell (by dsimp only;omega) _)⟩
       · intro K hK;rw [if_pos (by rfl)];go_simp;obtain ⟨w3',hw3⟩:=eE ((w1.alloc (.cells #[.nilFunc] 206)).drew);obtain ⟨ob,Sj⟩:=eE w1.heap.size;have hb3:Below w1.heap.size w1 w3':=(by rw [hw3];exact ZV (bA));have O3':Z6 w3' ob 206 #[.nilFunc]:=(by rw [hw3,Sj];exact (Z6.new _ _ _).drew);have hno:rb≠ob/\rb+1≠ob:=(by have:=B1.lt;have:=C1.lt;omega);have CF:w1.heap.size<=ob:=(by omega);rw [<- hw3,<- Sj];clear hw3 Sj;have Ii:Z6 w3' rb 100 #[.int .i64 op,.int .i64 vs,.slice HA hrs.length hc,.int .i64 Z0,.slice GA gs.length gc,.slice PA ps.length pc,.slice QA qs.length qc]/\Z6 w3' (rb+1) 103 #[.int .i64 0,.int .i64 0,.slice none 0 0]:=⟨B1.step hb3,C1.step hb3⟩;refine hK.out _ _ (fun _=>Ii) ?_;clear hK K
         (try simp only [Act.put,ZX])
         refine Yi (i:=0) (by kernel_rfl) rfl ?_;intro K hK;rw [if_pos (by rfl)];go_simp;refine ⟨trivial,?_⟩;refine (callsIn_wide.2 (zk.out _)).mono ?_;rintro e w3 ⟨rfl,hb2,ho2⟩;obtain ⟨mb,hmb⟩:=eE w3'.heap.size;have hS2:Z6 w3 rb 100 #[.int .i64 op,.int .i64 vs,.slice HA hrs.length hc,.int .i64 Z0,.slice GA gs.length gc,.slice PA ps.length pc,.slice QA qs.length qc]/\Z6 w3 (rb+1) 103 #[.int .i64 0,.int .i64 0,.slice none 0 0]:=⟨Ii.1.step hb2,Ii.2.step hb2⟩;have O3:=O3'.step hb2;refine hK.out _ _ (fun _=>hS2) ?_;clear hK K;rw [<- hmb] at ho2;rw [<- hmb];clear hmb;refine Xf (S':=fun w'=>(Z6 w' rb 100 #[.int .i64 op,.int .i64 vs,.slice HA hrs.length hc,.int .i64 Z0,.slice GA gs.length gc,.slice PA ps.length pc,.slice QA qs.length qc]/\Z6 w' (rb+1) 103 #[.int .i64 0,.int .i64 0,.slice none 0 0])/\JR w' mb) (fun _ h=>h.1) _ _ _ _ ?_;have Qe:(Z6 w3 rb 100 #[.int .i64 op,.int .i64 vs,.slice HA hrs.length hc,.int .i64 Z0,.slice GA gs.length gc,.slice PA ps.length pc,.slice QA qs.length qc]/\Z6 w3 (rb+1) 103 #[.int .i64 0,.int .i64 0,.slice none 0 0])/\JR w3 mb:=⟨hS2,ho2⟩
         (try simp only [Act.put,ZX])
         refine' ZU (i:=4) rfl ?pY Qe ?bg
         case pY =>
          intro w' hSw;have hlk:=D9 hSw.2 op n HN.out;go_simp;rfl
         simp only [Act.put,ZX];refine' ZU (i:=5) rfl ?qd Qe ?bC
         case qd =>
          intro w' hSw;go_simp;rfl
         simp only [Act.put,ZX];refine' ZU (i:=6) rfl ?ql Qe ?bH
         case ql =>
          intro w' hSw;go_simp;rfl
         simp only [Act.put,ZX];refine' ZU (i:=7) rfl ?qp Qe ?bK
         case qp =>
          intro w' hSw;go_simp;rfl
         simp only [Act.put,ZX];have c3:w3.cell? ⟨ob,0,none⟩=some .nilFunc:=O3.q0 rfl;have f3:=O3.frozen 0;have hst:(store ⟨ob,0,none⟩ (.func (.func n) #[] #[])).run prog w3=.ok () (w3.setCell ⟨ob,0,none⟩ (.func (.func n) #[] #[])):=by
          rw [run_store prog w3 ⟨ob,0,none⟩ (.func (.func n) #[] #[]) _ (by rfl),c3];simp [f3]
         refine Yi (i:=9) (by kernel_rfl) rfl ?_;intro K hK;rw [if_pos (by rfl)];go_simp;have Js:(Z6 (w3.setCell ⟨ob,0,none⟩ (.func (.func n) #[] #[])) rb 100 #[.int .i64 op,.int .i64 vs,.slice HA hrs.length hc,.int .i64 Z0,.slice GA gs.length gc,.slice PA ps.length pc,.slice QA qs.length qc]/\Z6 (w3.setCell ⟨ob,0,none⟩ (.func (.func n) #[] #[])) (rb+1) 103 #[.int .i64 0,.int .i64 0,.slice none 0 0])/\JR (w3.setCell ⟨ob,0,none⟩ (.func (.func n) #[] #[])) mb:=⟨⟨Qe.1.1.far (by dsimp only;omega) _,Qe.1.2.far (by dsimp only;omega) _⟩,World.ownsMap.kept Qe.2 (grownBy_setCell' w3 ob (.func (.func n) #[] #[])) (fun e=>by have e2:=Option.some.inj e;obtain ⟨_,_,hq,_⟩:=Qe.2;rw [e2,show w3.heap[ob]?=_ from O3] at hq;cases hq)⟩;refine hK.out _ _ (fun _=>Js) ?_;clear hK K
         (try simp only [Act.put,ZX])
         refine' ZU (i:=10) rfl ?vY Js ?fG
         case vY =>
          intro w' hSw;go_simp;rfl
         simp only [Act.put,ZX];refine WG (by kernel_rfl) ?_ _;exact ⟨ob,mb,rfl,Js.1,O3.set 0 (.func (.func n) #[] #[]),((Z9 hb3 hb2).setCell (by dsimp only;omega) _)⟩
     · rintro a w2 ⟨ob,mb,rfl,⟨B2,C2⟩,O2,hb2⟩;clear hS zk B1 C1;have hbb:=Z9 (Z9 HB0.out HB1.out) hb2;have c0:=C2.q0 rfl;have c1:=C2.q1 rfl;have c2:=C2.q2 rfl;have d0:=O2.q0 rfl;have e0:=B2.q0 rfl;have e1:=B2.q1 rfl;have e2:=B2.q2 rfl;have e3:=B2.q3 rfl;have e4:=B2.q4 rfl;have e5:=B2.q5 rfl;have e6:=B2.q6 rfl;have HC:=hide (HOP.out (More P w w2) w2 (Yg HP.out hbb) (.inl HG.out) (Z8.of_below hbb HP.out) (fun k h=>.inl h) (HT.out.more hbb) n zil.out tO.out HN.out);have HI:Hid (More P w w2 (rb+1)):=.inr ⟨by rw [JL.out];exact Nat.le_succ _,C2.lt⟩;have Sb:Hid (¬ P (rb+1)):=fun h=>by have h1:=HP.out _ h;have h2:=JL.out;omega
       have Mt:=hide hbb;have Qp:=hide C2;have hent:∀ args w,(callFunc n args).run prog w=.ok (.enter n args) w:=by
        rcases HN.out with ⟨_,h⟩|⟨_,h⟩|⟨_,h⟩|⟨_,h⟩
        · rw [h];exact enters_of func186 (by kernel_rfl) rfl
        · rw [h];exact enters_of func188 (by kernel_rfl) rfl
        · rw [h];exact enters_of func190 (by kernel_rfl) rfl
        · rw [h];exact enters_of func192 (by kernel_rfl) rfl
       dsimp at c0 c1 c2 d0 e0 e1 e2 e3 e4 e5 e6;clear hbb hb2 B2 O2 C2;gi_wp2_with fail;refine ⟨trivial,?_⟩;refine (callsIn_wide.2 HC.out).mono ?_;rintro e w3 ⟨rfl,hk3,ht3⟩;have C3:=Qp.out.kept hk3 HI.out;have g0:=C3.q0 rfl;have g1:=C3.q1 rfl;have g2:=C3.q2 rfl;have k0:=C3.frozen 0;have k1:=C3.frozen 1;have k2:=C3.frozen 2;dsimp at g0 g1 g2;clear c0 c1 c2 d0 e0 e1 e2 e3 e4 e5 e6;gi_wp2;have E:Z6 _ (rb+1) 103 #[.int .i64 (Yd op gs ps),.int .i64 0,.slice none 0 0]:=((C3.set 0 (.int .i64 (Yd op gs ps))).set 1 (.int .i64 0)).set 2 (.slice none 0 0);have k9:=((Z8.setCell Sb.out 0 (.int .i64 (Yd op gs ps)) w3).trans (Z8.setCell Sb.out 1 (.int .i64 0) _)).trans (Z8.setCell Sb.out 2 (.slice none 0 0) _);have t9:=(((ht3.set HI.out 0 (.int .i64 (Yd op gs ps))).set HI.out 1 (.int .i64 0)).set HI.out 2 (.slice none 0 0)).mono (R:=P) fun k h=>.inl h;refine bodyPost_ret (Ru rfl rfl E) rfl ⟨?_,(Z8.more Mt.out HP.out hk3).trans k9,?_⟩
       · rw [zvq.out];rfl
       · rw [mQ.out];exact t9
 · have um:Hid (Sz op vs hrs Z0 gs ps qs=(0,err)):=hide (NY.out.trans (if_pos he));have mQ:Hid (Mx op vs hrs Z0 gs ps qs=[]):=hide (RO.out.trans (if_pos he));clear NY RO Uo HOP;have hrw:w.heap.size<=rb+1:=(by rw [JL.out];exact Nat.le_succ _);have HRW:=hide hrw;clear hrw;gi_wp2;have E:Z6 _ (rb+1) 103 #[.int .i64 0,.int .i64 0,.slice none 0 0]:=((C1.set 0 (.int .i64 0)).set 1 (.int .i64 0)).set 2 (.slice none 0 0);have hb9:=(((Z9 HB0.out HB1.out).setCell (p:=⟨rb+1,0,none⟩) HRW.out (.int .i64 0)).setCell (p:=⟨rb+1,1,none⟩) HRW.out (.int .i64 0)).setCell (p:=⟨rb+1,2,none⟩) HRW.out (.slice none 0 0);refine bodyPost_ret (Ru rfl rfl E) rfl ⟨?_,Z8.of_below hb9 HP.out,?_⟩
   · rw [um.out];rfl
   · rw [mQ.out,List.append_nil];exact HT.out.step hb9
end
end
end Go.Proofs.YtfljlmleiggmjaaGreatDoor