/- AnswerE -/
import Derived.Test.YtfljlmleiggmjaaGreatDoorPkC38
set_option maxRecDepth 1000000
set_option maxHeartbeats 8000000
namespace Go.Proofs.YtfljlmleiggmjaaGreatDoor
open List (getElem_toArray getElem_cons_succ getElem_cons_zero setIfInBounds_toArray set_cons_zero set_cons_succ)
section
open Go.RowKit Go.Shelf
section
variable {F:Fence} {n:Nat} {P:Program} {ops:Array Oper} {Q:Exit→Act→World→Prop} {md:Region.Mode} {S S':World→Prop}
theorem twoH {i j sk:Nat} {oi oj:Oper} {fuel:Nat} {listed:Array Bool} {a:Act} {w:World} (hr:Region.ready md ops listed=[i,j]) (hi:ops[i]?=some oi) (hj:ops[j]?=some oj)
 (h1:∀ K:Act→World→Prop,Shut (∀ a w,(i≠sk→S w)→wpAnyHIn F n P md ops Q S sk fuel (listed.setIfInBounds i true) a w→K a w)→if Region.wanted oi (yielded ops a.tmps)=true then Oper.wpIn F n P oi a w K Q else (∀ f,oi.about P w a.eval=some f→F.fn f)∧K (a.put oi.dst undef) w)
 (h2:∀ K:Act→World→Prop,Shut (∀ a w,(j≠sk→S w)→wpAnyHIn F n P md ops Q S sk fuel (listed.setIfInBounds j true) a w→K a w)→if Region.wanted oj (yielded ops a.tmps)=true then Oper.wpIn F n P oj a w K Q else (∀ f,oj.about P w a.eval=some f→F.fn f)∧K (a.put oj.dst undef) w) :
 wpAnyHIn F n P md ops Q S sk (fuel+1) listed a w :=
 ⟨fun h0=>(by rw [hr] at h0;cases h0),fun l hl=>by
   rw [hr] at hl
   rcases (by simpa using hl:l=i∨l=j) with rfl | rfl
   · exact wpOpIn_step hi (fun K' hK'=>h1 K' (fun a w hS hW=>hK' a w ⟨hS,hW⟩))
   · exact wpOpIn_step hj (fun K' hK'=>h2 K' (fun a w hS hW=>hK' a w ⟨hS,hW⟩))⟩
theorem wpAnyHIn_weaken {sk:Nat} (hSS:∀ w,S' w→S w):∀ (fuel:Nat) (listed:Array Bool) (a:Act) (w:World),wpAnyHIn F n P md ops Q S' sk fuel listed a w→wpAnyHIn F n P md ops Q S sk fuel listed a w
 | 0,_,_,_,h=>h
 | fuel+1,_,_,_,h=>⟨h.1,fun i hi=>wpOpIn_mono (fun a' w' h'=>⟨fun hs=>hSS _ (h'.1 hs),wpAnyHIn_weaken hSS fuel _ a' w' h'.2⟩) (h.2 i hi)⟩
def ThenK (KP:Act→World→Prop) (Q:Exit→Act→World→Prop):Exit→Act→World→Prop
 | .normal,a,w=>KP a w
 | e,a,w=>Q e a w
theorem startK (sk:Nat) (KP:Act→World→Prop) {id:Nat} {a:Act} {w:World} (hm:P.follows .mixedOrders=true) (hk:∀ a w,KP a w→Q .normal a w)
 (h:wpAnyHIn F n P .any ops (ThenK KP Q) S sk ops.size (Array.replicate ops.size false) a w.drew):(Code.region id ops true).wpIn F n P Q a w:=by
 refine wpIn_mono (startH sk (Q:=ThenK KP Q) hm h) ?_
 intro e a w he
 cases e with
 | normal=>exact hk a w he
 | _=>exact he
end
def ansOp (op:Int) (gs:List Gr) (ps:List Pt):Int :=
 if op=1 then (orientD (ptAt ps 0) (ptAt ps 1) (ptAt ps 2)).sign+1
 else if op=2 then (circleD (ptAt ps 0) (ptAt ps 1) (ptAt ps 2) (ptAt ps 3)).sign+1
 else if op=3 then convexA (ps.take (ps.length - 1)) (ptAt ps (ps.length - 1))
 else fenceA gs (ptAt ps 0)
def opEv (op:Int) (gs:List Gr) (ps:List Pt):List Ev:=if op=3 then convexEv (ps.length - 1) else if op=4 then fenceEv gs else []
def ansV (op vs:Int) (hrs:List Rg) (pts:Int) (gs:List Gr) (ps:List Pt) (qs:List ((Int × Int) × Int)):Int × Int :=
 if (hencode op vs hrs pts gs ps qs).2≠0 then (0,(hencode op vs hrs pts gs ps qs).2) else if op=5 then (0,2) else (ansOp op gs ps,0)
def ansEv (op vs:Int) (hrs:List Rg) (pts:Int) (gs:List Gr) (ps:List Pt) (qs:List ((Int × Int) × Int)):List Ev :=
 if (hencode op vs hrs pts gs ps qs).2≠0 then [] else opEv op gs ps
theorem hencode_ok {op vs:Int} {hrs:List Rg} {pts:Int} {gs:List Gr} {ps:List Pt} {qs:List ((Int × Int) × Int)} (h:(hencode op vs hrs pts gs ps qs).2=0) :
 hcheck op vs hrs pts=0∧gs.length=hrs.length∧(ps.length:Int)=cntP op vs∧(qs.length:Int)=cntQ op pts∧(gs.zip hrs).any szBad=false∧(gs.zip hrs).any kdBad=false:=by
 unfold hencode at h
 split at h
 · rename_i h1;exact absurd h h1
 · rename_i h1
   split at h
   · cases h
   · rename_i h2
     split at h
     · cases h
     · rename_i h3
       split at h
       · cases h
       · rename_i h4
         have a1:hcheck op vs hrs pts=0:=by simpa using h1
         have a2:gs.length=hrs.length:=Classical.byContradiction fun e=>h2 (.inl e)
         have a3:(ps.length:Int)=cntP op vs:=Classical.byContradiction fun e=>h2 (.inr (.inl e))
         have a4:(qs.length:Int)=cntQ op pts:=Classical.byContradiction fun e=>h2 (.inr (.inr e))
         exact ⟨a1,a2,a3,a4,by simpa using h3,by simpa using h4⟩
theorem results_ans {fn:Func} {tmps:Array Value} {w:World} {g:Nat} {v0 v1 v2:Value} (h:fn.results=#[.cell 4 103,.tmp 5])
 (hp:tmps.getD 4 undef=.pointer (some ⟨g,0,none⟩)) (hb:Blk w g 103 #[v0,v1,v2]) :
 (results fn tmps).run Tryz.prog w=.ok (.tuple #[.agg #[v0,v1,v2],tmps.getD 5 undef]) w:=by
 have c0:=hb.cell (i:=0) rfl
 have c1:=hb.cell (i:=1) rfl
 have c2:=hb.cell (i:=2) rfl
 have hp':tmps[4]?.getD undef=.pointer (some ⟨g,0,none⟩):=by rw [← hp];simp
 simp [results,h,hp',go_sem,c0,c1,c2]
section
variable (P:Nat→Prop) (t:Option (Nat × Nat)) (es:List Ev) (op vs pts:Int) (hrs:List Rg) (HA:Option Addr) (hc:Nat) (gs:List Gr) (GA:Option Addr) (gc:Nat) (ps:List Pt) (PA:Option Addr) (pc:Nat) (qs:List ((Int × Int) × Int)) (QA:Option Addr) (qc:Nat) (w:World)
variable (hP:∀ k,P k→k<w.heap.size) (hg0:P 3) (hw:MW w) (ht:Tp w P t es) (hl:es.length≤600000) (hps:PsJ ps) (hs:SlP w P PA (ptCs ps)) (hcap:ps.length≤pc)
variable (hgc:SlP w P GA (rgCells (gs.map (·.1)))) (hgs:GsP w P gs)
include hP hg0 hw ht hl hps hs hcap hgc hgs
theorem opfn_any (n:Nat) (hchk:hcheck op vs hrs pts=0) (hlen:(ps.length:Int)=cntP op vs) (hn:op=1∧n=186∨op=2∧n=188∨op=3∧n=190∨op=4∧n=192) :
 Calls Tryz.prog n #[.pointer (tapeA t),.agg #[.int .i64 op,.int .i64 vs,.slice HA hrs.length hc,.int .i64 pts,.slice GA gs.length gc,.slice PA ps.length pc,.slice QA qs.length qc]] w fun e w'=>e=.returned (.int .i64 (ansOp op gs ps))∧KeepP P w w'∧Tp w' P t (es++opEv op gs ps):=by
 rcases hn with ⟨rfl,rfl⟩ | ⟨rfl,rfl⟩ | ⟨rfl,rfl⟩ | ⟨rfl,rfl⟩
 · have h3:ps.length=3:=by have:cntP 1 vs=3:=rfl;omega
   refine (op1_any P t 1 vs pts HA hrs.length hc gs GA gc ps PA pc QA qs.length qc w hP hw hps hs h3).mono ?_
   rintro e w' ⟨rfl,hb⟩
   exact ⟨rfl,KeepP.of_below hb hP,by rw [show opEv 1 gs ps=[] from rfl,List.append_nil];exact ht.step hb⟩
 · have h4:ps.length=4:=by have:cntP 2 vs=4:=rfl;omega
   refine (op2_any P t 2 vs pts HA hrs.length hc gs GA gc ps PA pc QA qs.length qc w hP hw hps hs h4).mono ?_
   rintro e w' ⟨rfl,hb⟩
   exact ⟨rfl,KeepP.of_below hb hP,by rw [show opEv 2 gs ps=[] from rfl,List.append_nil];exact ht.step hb⟩
 · have h3:3≤vs∧vs≤64:=(hcheck_zero hchk).2.2.1 rfl
   have h4:(ps.length:Int)=vs+1:=hlen
   have h5:ps.length=(ps.length - 1)+1:=by omega
   refine (op3_any P t es 3 vs pts HA hrs.length hc gs GA gc ps PA pc QA qs.length qc w hP hg0 hw ht hl hps hs (ps.length - 1) h5 (by omega) (by omega)).mono ?_
   rintro e w' ⟨rfl,hk,ht'⟩
   exact ⟨rfl,hk,ht'⟩
 · have h1:ps.length=1:=by have:cntP 4 vs=1:=rfl;omega
   refine (op4_any P t es 4 vs pts HA hrs.length hc gs GA gc ps PA pc QA qs.length qc w hP hg0 hw ht hl hps hs h1 hgc hgs).mono ?_
   rintro e w' ⟨rfl,hk,ht'⟩
   exact ⟨rfl,hk,ht'⟩
variable (hh:SlP w P HA (rgCells hrs)) (hnm:hrs.length≤maxLen) (hqs:Sl w w.heap.size QA (quCs qs))
include hh hnm hqs
theorem answer_any:Calls Tryz.prog 105 #[.pointer (tapeA t),.agg #[.int .i64 op,.int .i64 vs,.slice HA hrs.length hc,.int .i64 pts,.slice GA gs.length gc,.slice PA ps.length pc,.slice QA qs.length qc]] w fun e w'=>e=.returned (.tuple #[.agg #[.int .i64 (ansV op vs hrs pts gs ps qs).1,.int .i64 0,.slice none 0 0],.int .i64 (ansV op vs hrs pts gs ps qs).2])∧KeepP P w w'∧Tp w' P t (es++ansEv op vs hrs pts gs ps qs):=by
 obtain ⟨rb,hrb⟩:∃ rb,rb=w.heap.size:=⟨_,rfl⟩
 obtain ⟨w0,hw0⟩:∃ w0,w0=(w.alloc (.cells #[.int .i64 op,.int .i64 vs,.slice HA hrs.length hc,.int .i64 pts,.slice GA gs.length gc,.slice PA ps.length pc,.slice QA qs.length qc] 100)).alloc (.cells #[.int .i64 0,.int .i64 0,.slice none 0 0] 103):=⟨_,rfl⟩
 have hb0:Below w.heap.size w w0:=by rw [hw0];exact bl_alloc (bA) _
 have B0:Blk w0 rb 100 #[.int .i64 op,.int .i64 vs,.slice HA hrs.length hc,.int .i64 pts,.slice GA gs.length gc,.slice PA ps.length pc,.slice QA qs.length qc]:=by rw [hw0,hrb];exact (Blk.new _ _ _).alloc _
 have C0:Blk w0 (rb+1) 103 #[.int .i64 0,.int .i64 0,.slice none 0 0]:=by rw [hw0,hrb];exact Blk.new2 _ _ _ _
 have hk0:KeepP P w w0:=KeepP.of_below hb0 hP
 have HEN0:=encode_any op vs pts hrs HA hc gs GA gc ps PA pc qs QA qc w0 (((hh.sl hP).below hb0).more hb0.size) (((hgc.sl hP).below hb0).more hb0.size) (fun g hg=>⟨(hgs g hg).1,(((hgs g hg).2.1.sl hP).below hb0).more hb0.size⟩) (((hs.sl hP).below hb0).more hb0.size) ((hqs.below hb0).more hb0.size) hnm
 have HAN:Hid (ansV op vs hrs pts gs ps qs=if (hencode op vs hrs pts gs ps qs).2≠0 then (0,(hencode op vs hrs pts gs ps qs).2) else if op=5 then (0,2) else (ansOp op gs ps,0)):=rfl
 have HEV:Hid (ansEv op vs hrs pts gs ps qs=if (hencode op vs hrs pts gs ps qs).2≠0 then [] else opEv op gs ps):=rfl
 have HOK:=hide (fun h=>hencode_ok (op:=op) (vs:=vs) (hrs:=hrs) (pts:=pts) (gs:=gs) (ps:=ps) (qs:=qs) h)
 obtain ⟨⟨bs,err⟩,hE⟩:∃ E,E=hencode op vs hrs pts gs ps qs:=⟨_,rfl⟩
 rw [← hE] at HEN0 HAN HEV HOK
 have HEN:=hide HEN0
 have HOP:=hide (fun (P':Nat→Prop) (w':World) (hP':∀ k,P' k→k<w'.heap.size) (hg':P' 3) (hk':KeepP P w w') (hPP:∀ k,P k→P' k) (ht':Tp w' P' t es)=>opfn_any P' t es op vs pts hrs HA hc gs GA gc ps PA pc qs QA qc w' hP' hg' (hw.kept hk' hg0) ht' hl hps ((hs.kept hk').mono hPP) hcap ((hgc.kept hk').mono hPP) (fun g hg=>⟨(hgs g hg).1,((hgs g hg).2.1.kept hk').mono hPP,(hgs g hg).2.2⟩))
 have HP:=hide hP;have HG:=hide hg0;have HT:=hide ht;have HB0:=hide hb0
 have hmix:Tryz.prog.follows .mixedOrders=true:=by kernel_rfl
 clear hE HEN0 hk0 hP hg0 hw ht hps hs hcap hgc hgs hh hqs hb0
 refine (callsIn_wide (n:=6)).1 ?_
 refine callsIn_of_wp Tryz.func105 rfl trivial ?_ rfl
 simp only [Tryz.ntmps105,List.size_toArray,List.length_cons,List.length_nil,Nat.reduceAdd,Nat.reduceSub,Array.replicate_succ,Array.replicate_zero,List.push_toArray,List.append_toArray,List.nil_append,List.cons_append]
 gi_wp2_with fail
 rw [← hw0,← hrb]
 have HW0:=hide hw0;have HRB:=hide hrb
 clear hw0 hrb
 refine ⟨trivial,?_⟩
 refine (callsIn_wide.2 HEN.out).mono ?_
 rintro e w1 ⟨v,rfl,hv1,hb1⟩
 have B1:=B0.step hb1
 have C1:=C0.step hb1
 have HB1:=hide hb1
 have c10:=C1.cell (i:=0) rfl
 have c11:=C1.cell (i:=1) rfl
 have c12:=C1.cell (i:=2) rfl
 dsimp at c10 c11 c12
 have f10:=C1.frozen 0
 have f11:=C1.frozen 1
 have f12:=C1.frozen 2
 dsimp only at *
 obtain ⟨VA,vcap,rfl,_⟩:=own_slice hv1
 by_cases he:err=0
 · subst he
   obtain ⟨hchk,hgl,hpl,hql,_,_⟩:=HOK.out rfl
   have hop:=hcheck_zero hchk
   have hop1:=hop.1
   have hop5:=hop.2.1
   have HAN2:Hid (ansV op vs hrs pts gs ps qs=if op=5 then (0,2) else (ansOp op gs ps,0)):=hide (HAN.out.trans (if_neg (by simp)))
   have HEV2:Hid (ansEv op vs hrs pts gs ps qs=opEv op gs ps):=hide (HEV.out.trans (if_neg (by simp)))
   have HCHK:=hide hchk;have HPL:=hide hpl
   clear hop HAN HEV HOK hchk hgl hpl hql hv1 HEN
   gi_wp2_with fail
   clear c10 c11 c12 f10 f11 f12
   by_cases h5:op=5
   · subst h5
     have HAN3:Hid (ansV 5 vs hrs pts gs ps qs=(0,2)):=hide (HAN2.out.trans (if_pos rfl))
     have HEV3:Hid (ansEv 5 vs hrs pts gs ps qs=[]):=HEV2
     clear HAN2 HEV2
     have HOPS:=hide (fun w=>operations_any w)
     have hS:Blk w1.drew rb 100 #[.int .i64 5,.int .i64 vs,.slice HA hrs.length hc,.int .i64 pts,.slice GA gs.length gc,.slice PA ps.length pc,.slice QA qs.length qc]∧Blk w1.drew (rb+1) 103 #[.int .i64 0,.int .i64 0,.slice none 0 0]:=⟨B1.drew,C1.drew⟩
     clear B0 C0
     refine startK 1000 (S:=fun w'=>Blk w' rb 100 #[.int .i64 5,.int .i64 vs,.slice HA hrs.length hc,.int .i64 pts,.slice GA gs.length gc,.slice PA ps.length pc,.slice QA qs.length qc]∧Blk w' (rb+1) 103 #[.int .i64 0,.int .i64 0,.slice none 0 0]) (fun a w'=>∃ ob mb:Nat,a={ tmps:=#[.pointer (tapeA t),.agg #[.int .i64 5,.int .i64 vs,.slice HA hrs.length hc,.int .i64 pts,.slice GA gs.length gc,.slice PA ps.length pc,.slice QA qs.length qc],undef,.pointer (some ⟨rb,0,none⟩),.pointer (some ⟨rb+1,0,none⟩),.int .i64 0,.slice VA bs.length vcap,.int .i64 0,.pointer (some ⟨ob,0,none⟩),.bool false,.tuple #[.slice VA bs.length vcap,.int .i64 0],.agg #[.int .i64 5,.int .i64 vs,.slice HA hrs.length hc,.int .i64 pts,.slice GA gs.length gc,.slice PA ps.length pc,.slice QA qs.length qc],.tuple #[.slice VA bs.length vcap,.int .i64 0],.slice VA bs.length vcap,.int .i64 0,.int .i64 0,.bool false,undef,undef,.tuple #[.agg #[.nilFunc],.bool false],.map (some mb),.pointer (some ⟨rb,0,none⟩),.pointer (some ⟨rb,0,none⟩),.int .i64 5,.tuple #[.agg #[.nilFunc],.bool false],.agg #[.nilFunc],.bool false,undef,undef,undef,undef,undef,undef,undef,undef,undef],defers:=[] }∧(Blk w' rb 100 #[.int .i64 5,.int .i64 vs,.slice HA hrs.length hc,.int .i64 pts,.slice GA gs.length gc,.slice PA ps.length pc,.slice QA qs.length qc]∧Blk w' (rb+1) 103 #[.int .i64 0,.int .i64 0,.slice none 0 0])∧Blk w' ob 206 #[.nilFunc]∧Below w1.heap.size w1 w') hmix ?restm ?_
     rotate_left
     · skip
       refine' takeH (i:=1) (v:=_) (noDefer_of (by kernel_rfl)) rfl (by kernel_rfl) (by kernel_rfl) (by kernel_rfl) (fun _ _ _ h=>h) (by kernel_rfl) ⟨Or.inl ⟨by rfl,?hy1k1m⟩,fun _=>rfl⟩ hS ?rest1k1m
       case hy1k1m =>
        intro w' hSw
        go_simp
        rfl
       simp only [Act.put,getElem_toArray,getElem_cons_succ,getElem_cons_zero,setIfInBounds_toArray,set_cons_zero,set_cons_succ]
       refine' takeH (i:=2) (v:=_) (noDefer_of (by kernel_rfl)) rfl (by kernel_rfl) (by kernel_rfl) (by kernel_rfl) (fun _ _ _ h=>h) (by kernel_rfl) ⟨Or.inl ⟨by rfl,?hy2k2m⟩,fun _=>rfl⟩ hS ?rest2k2m
       case hy2k2m =>
        intro w' hSw
        go_simp
        rfl
       simp only [Act.put,getElem_toArray,getElem_cons_succ,getElem_cons_zero,setIfInBounds_toArray,set_cons_zero,set_cons_succ]
       refine' takeH (i:=3) (v:=_) (noDefer_of (by kernel_rfl)) rfl (by kernel_rfl) (by kernel_rfl) (by kernel_rfl) (fun _ _ _ h=>h) (by kernel_rfl) ⟨Or.inl ⟨by rfl,?hy3k3m⟩,fun _=>rfl⟩ hS ?rest3k3m
       case hy3k3m =>
        intro w' hSw
        have z0:=hSw.1.cell (i:=0) rfl
        go_simp
        rfl
       simp only [Act.put,getElem_toArray,getElem_cons_succ,getElem_cons_zero,setIfInBounds_toArray,set_cons_zero,set_cons_succ]
       refine twoH (i:=0) (j:=8) (by kernel_rfl) rfl rfl ?_ ?_
       · intro K hK
         rw [if_pos (by rfl)]
         go_simp
         refine ⟨trivial,?_⟩
         refine (callsIn_wide.2 (HOPS.out _)).mono ?_
         rintro e w2 ⟨rfl,hb2,ho2⟩
         have hS2:Blk w2 rb 100 #[.int .i64 5,.int .i64 vs,.slice HA hrs.length hc,.int .i64 pts,.slice GA gs.length gc,.slice PA ps.length pc,.slice QA qs.length qc]∧Blk w2 (rb+1) 103 #[.int .i64 0,.int .i64 0,.slice none 0 0]:=⟨hS.1.step hb2,hS.2.step hb2⟩
         refine hK.out _ _ (fun _=>hS2) ?_
         clear hK K
         have ho2':Ops w2 w1.heap.size:=ho2
         clear ho2
         refine wpAnyHIn_weaken (S':=fun w'=>(Blk w' rb 100 #[.int .i64 5,.int .i64 vs,.slice HA hrs.length hc,.int .i64 pts,.slice GA gs.length gc,.slice PA ps.length pc,.slice QA qs.length qc]∧Blk w' (rb+1) 103 #[.int .i64 0,.int .i64 0,.slice none 0 0])∧Ops w' w1.heap.size) (fun _ h=>h.1) _ _ _ _ ?_
         have hT:(Blk w2 rb 100 #[.int .i64 5,.int .i64 vs,.slice HA hrs.length hc,.int .i64 pts,.slice GA gs.length gc,.slice PA ps.length pc,.slice QA qs.length qc]∧Blk w2 (rb+1) 103 #[.int .i64 0,.int .i64 0,.slice none 0 0])∧Ops w2 w1.heap.size:=⟨hS2,ho2'⟩
         (try simp only [Act.put,getElem_toArray,getElem_cons_succ,getElem_cons_zero,setIfInBounds_toArray,set_cons_zero,set_cons_succ])
         refine' takeH (i:=4) (v:=_) (noDefer_of (by kernel_rfl)) rfl (by kernel_rfl) (by kernel_rfl) (by kernel_rfl) (fun _ _ _ h=>h) (by kernel_rfl) ⟨Or.inl ⟨by rfl,?hy4k4mA⟩,fun _=>rfl⟩ hT ?rest4k4mA
         case hy4k4mA =>
          intro w' hSw
          have hlk:=ops_miss hSw.2
          go_simp
          rfl
         simp only [Act.put,getElem_toArray,getElem_cons_succ,getElem_cons_zero,setIfInBounds_toArray,set_cons_zero,set_cons_succ]
         refine' takeH (i:=5) (v:=_) (noDefer_of (by kernel_rfl)) rfl (by kernel_rfl) (by kernel_rfl) (by kernel_rfl) (fun _ _ _ h=>h) (by kernel_rfl) ⟨Or.inl ⟨by rfl,?hy5k5mA⟩,fun _=>rfl⟩ hT ?rest5k5mA
         case hy5k5mA =>
          intro w' hSw
          go_simp
          rfl
         simp only [Act.put,getElem_toArray,getElem_cons_succ,getElem_cons_zero,setIfInBounds_toArray,set_cons_zero,set_cons_succ]
         refine' takeH (i:=6) (v:=_) (noDefer_of (by kernel_rfl)) rfl (by kernel_rfl) (by kernel_rfl) (by kernel_rfl) (fun _ _ _ h=>h) (by kernel_rfl) ⟨Or.inl ⟨by rfl,?hy6k6mA⟩,fun _=>rfl⟩ hT ?rest6k6mA
         case hy6k6mA =>
          intro w' hSw
          go_simp
          rfl
         simp only [Act.put,getElem_toArray,getElem_cons_succ,getElem_cons_zero,setIfInBounds_toArray,set_cons_zero,set_cons_succ]
         refine' takeH (i:=7) (v:=_) (noDefer_of (by kernel_rfl)) rfl (by kernel_rfl) (by kernel_rfl) (by kernel_rfl) (fun _ _ _ h=>h) (by kernel_rfl) ⟨Or.inl ⟨by rfl,?hy7k7mA⟩,fun _=>rfl⟩ hT ?rest7k7mA
         case hy7k7mA =>
          intro w' hSw
          go_simp
          rfl
         simp only [Act.put,getElem_toArray,getElem_cons_succ,getElem_cons_zero,setIfInBounds_toArray,set_cons_zero,set_cons_succ]
         refine oneH (i:=8) (by kernel_rfl) rfl ?_
         intro K hK
         rw [if_pos (by rfl)]
         go_simp
         obtain ⟨w3,hw3⟩:∃ w3,w3=w2.alloc (.cells #[.nilFunc] 206):=⟨_,rfl⟩
         obtain ⟨ob,hob⟩:∃ ob,ob=w2.heap.size:=⟨_,rfl⟩
         have hb3:Below w2.heap.size w2 w3:=by rw [hw3];exact bA
         have O3:Blk w3 ob 206 #[.nilFunc]:=by rw [hw3,hob];exact Blk.new _ _ _
         rw [← hw3,← hob]
         have hno:rb≠ob∧rb+1≠ob:=by have:=hT.1.1.lt;have:=hT.1.2.lt;omega
         have hbo:w1.heap.size≤ob:=by have:=hb2.size;have e:w1.drew.heap.size=w1.heap.size:=rfl;omega
         clear hob hw3
         have hT3:(Blk w3 rb 100 #[.int .i64 5,.int .i64 vs,.slice HA hrs.length hc,.int .i64 pts,.slice GA gs.length gc,.slice PA ps.length pc,.slice QA qs.length qc]∧Blk w3 (rb+1) 103 #[.int .i64 0,.int .i64 0,.slice none 0 0])∧Ops w3 w1.heap.size:=⟨⟨hT.1.1.step hb3,hT.1.2.step hb3⟩,hT.2.step hb3⟩
         refine hK.out _ _ (fun _=>hT3) ?_
         clear hK K
         (try simp only [Act.put,getElem_toArray,getElem_cons_succ,getElem_cons_zero,setIfInBounds_toArray,set_cons_zero,set_cons_succ])
         have c3:w3.cell? ⟨ob,0,none⟩=some .nilFunc:=O3.cell (i:=0) rfl
         have f3:=O3.frozen 0
         have hst:(store ⟨ob,0,none⟩ (.nilFunc)).run Tryz.prog w3=.ok () (w3.setCell ⟨ob,0,none⟩ (.nilFunc)):=by
          rw [run_store Tryz.prog w3 ⟨ob,0,none⟩ (.nilFunc) _ (by rfl),c3]
          simp [f3]
         refine oneH (i:=9) (by kernel_rfl) rfl ?_
         intro K hK
         rw [if_pos (by rfl)]
         go_simp
         have hT4:(Blk (w3.setCell ⟨ob,0,none⟩ (.nilFunc)) rb 100 #[.int .i64 5,.int .i64 vs,.slice HA hrs.length hc,.int .i64 pts,.slice GA gs.length gc,.slice PA ps.length pc,.slice QA qs.length qc]∧Blk (w3.setCell ⟨ob,0,none⟩ (.nilFunc)) (rb+1) 103 #[.int .i64 0,.int .i64 0,.slice none 0 0])∧Ops (w3.setCell ⟨ob,0,none⟩ (.nilFunc)) w1.heap.size:=⟨⟨hT3.1.1.far (by dsimp only;omega) _,hT3.1.2.far (by dsimp only;omega) _⟩,World.ownsMap.kept hT3.2 (grownBy_setCell' w3 ob (.nilFunc)) (fun e=>by have e2:=Option.some.inj e;obtain ⟨_,_,hq,_⟩:=hT3.2;rw [e2,show w3.heap[ob]?=_ from O3] at hq;cases hq)⟩
         refine hK.out _ _ (fun _=>hT4) ?_
         clear hK K
         (try simp only [Act.put,getElem_toArray,getElem_cons_succ,getElem_cons_zero,setIfInBounds_toArray,set_cons_zero,set_cons_succ])
         refine' takeH (i:=10) (v:=_) (noDefer_of (by kernel_rfl)) rfl (by kernel_rfl) (by kernel_rfl) (by kernel_rfl) (fun _ _ _ h=>h) (by kernel_rfl) ⟨Or.inl ⟨by rfl,?hy10k8mA⟩,fun _=>rfl⟩ hT4 ?rest10k8mA
         case hy10k8mA =>
          intro w' hSw
          go_simp
          rfl
         simp only [Act.put,getElem_toArray,getElem_cons_succ,getElem_cons_zero,setIfInBounds_toArray,set_cons_zero,set_cons_succ]
         refine doneH (by kernel_rfl) ?_ _
         exact ⟨ob,w1.heap.size,rfl,hT4.1,O3.set 0 (.nilFunc),((bl_step (bl_step (bl_drew (Below.refl _ _)) hb2) hb3).setCell (by dsimp only;omega) _)⟩
       · intro K hK
         rw [if_pos (by rfl)]
         go_simp
         obtain ⟨w3',hw3⟩:∃ w3',w3'=(w1.alloc (.cells #[.nilFunc] 206)).drew:=⟨_,rfl⟩
         obtain ⟨ob,hob⟩:∃ ob,ob=w1.heap.size:=⟨_,rfl⟩
         have hb3:Below w1.heap.size w1 w3':=by rw [hw3];exact bl_drew (bA)
         have O3':Blk w3' ob 206 #[.nilFunc]:=by rw [hw3,hob];exact (Blk.new _ _ _).drew
         have hno:rb≠ob∧rb+1≠ob:=by have:=B1.lt;have:=C1.lt;omega
         have hbo:w1.heap.size≤ob:=by omega
         rw [← hw3,← hob]
         clear hw3 hob
         have hS3:Blk w3' rb 100 #[.int .i64 5,.int .i64 vs,.slice HA hrs.length hc,.int .i64 pts,.slice GA gs.length gc,.slice PA ps.length pc,.slice QA qs.length qc]∧Blk w3' (rb+1) 103 #[.int .i64 0,.int .i64 0,.slice none 0 0]:=⟨B1.step hb3,C1.step hb3⟩
         refine hK.out _ _ (fun _=>hS3) ?_
         clear hK K
         (try simp only [Act.put,getElem_toArray,getElem_cons_succ,getElem_cons_zero,setIfInBounds_toArray,set_cons_zero,set_cons_succ])
         refine oneH (i:=0) (by kernel_rfl) rfl ?_
         intro K hK
         rw [if_pos (by rfl)]
         go_simp
         refine ⟨trivial,?_⟩
         refine (callsIn_wide.2 (HOPS.out _)).mono ?_
         rintro e w3 ⟨rfl,hb2,ho2⟩
         obtain ⟨mb,hmb⟩:∃ mb,mb=w3'.heap.size:=⟨_,rfl⟩
         have hS2:Blk w3 rb 100 #[.int .i64 5,.int .i64 vs,.slice HA hrs.length hc,.int .i64 pts,.slice GA gs.length gc,.slice PA ps.length pc,.slice QA qs.length qc]∧Blk w3 (rb+1) 103 #[.int .i64 0,.int .i64 0,.slice none 0 0]:=⟨hS3.1.step hb2,hS3.2.step hb2⟩
         have O3:=O3'.step hb2
         refine hK.out _ _ (fun _=>hS2) ?_
         clear hK K
         rw [← hmb] at ho2
         rw [← hmb]
         clear hmb
         refine wpAnyHIn_weaken (S':=fun w'=>(Blk w' rb 100 #[.int .i64 5,.int .i64 vs,.slice HA hrs.length hc,.int .i64 pts,.slice GA gs.length gc,.slice PA ps.length pc,.slice QA qs.length qc]∧Blk w' (rb+1) 103 #[.int .i64 0,.int .i64 0,.slice none 0 0])∧Ops w' mb) (fun _ h=>h.1) _ _ _ _ ?_
         have hT3:(Blk w3 rb 100 #[.int .i64 5,.int .i64 vs,.slice HA hrs.length hc,.int .i64 pts,.slice GA gs.length gc,.slice PA ps.length pc,.slice QA qs.length qc]∧Blk w3 (rb+1) 103 #[.int .i64 0,.int .i64 0,.slice none 0 0])∧Ops w3 mb:=⟨hS2,ho2⟩
         (try simp only [Act.put,getElem_toArray,getElem_cons_succ,getElem_cons_zero,setIfInBounds_toArray,set_cons_zero,set_cons_succ])
         refine' takeH (i:=4) (v:=_) (noDefer_of (by kernel_rfl)) rfl (by kernel_rfl) (by kernel_rfl) (by kernel_rfl) (fun _ _ _ h=>h) (by kernel_rfl) ⟨Or.inl ⟨by rfl,?hy4k9mB⟩,fun _=>rfl⟩ hT3 ?rest4k9mB
         case hy4k9mB =>
          intro w' hSw
          have hlk:=ops_miss hSw.2
          go_simp
          rfl
         simp only [Act.put,getElem_toArray,getElem_cons_succ,getElem_cons_zero,setIfInBounds_toArray,set_cons_zero,set_cons_succ]
         refine' takeH (i:=5) (v:=_) (noDefer_of (by kernel_rfl)) rfl (by kernel_rfl) (by kernel_rfl) (by kernel_rfl) (fun _ _ _ h=>h) (by kernel_rfl) ⟨Or.inl ⟨by rfl,?hy5k10mB⟩,fun _=>rfl⟩ hT3 ?rest5k10mB
         case hy5k10mB =>
          intro w' hSw
          go_simp
          rfl
         simp only [Act.put,getElem_toArray,getElem_cons_succ,getElem_cons_zero,setIfInBounds_toArray,set_cons_zero,set_cons_succ]
         refine' takeH (i:=6) (v:=_) (noDefer_of (by kernel_rfl)) rfl (by kernel_rfl) (by kernel_rfl) (by kernel_rfl) (fun _ _ _ h=>h) (by kernel_rfl) ⟨Or.inl ⟨by rfl,?hy6k11mB⟩,fun _=>rfl⟩ hT3 ?rest6k11mB
         case hy6k11mB =>
          intro w' hSw
          go_simp
          rfl
         simp only [Act.put,getElem_toArray,getElem_cons_succ,getElem_cons_zero,setIfInBounds_toArray,set_cons_zero,set_cons_succ]
         refine' takeH (i:=7) (v:=_) (noDefer_of (by kernel_rfl)) rfl (by kernel_rfl) (by kernel_rfl) (by kernel_rfl) (fun _ _ _ h=>h) (by kernel_rfl) ⟨Or.inl ⟨by rfl,?hy7k12mB⟩,fun _=>rfl⟩ hT3 ?rest7k12mB
         case hy7k12mB =>
          intro w' hSw
          go_simp
          rfl
         simp only [Act.put,getElem_toArray,getElem_cons_succ,getElem_cons_zero,setIfInBounds_toArray,set_cons_zero,set_cons_succ]
         have c3:w3.cell? ⟨ob,0,none⟩=some .nilFunc:=O3.cell (i:=0) rfl
         have f3:=O3.frozen 0
         have hst:(store ⟨ob,0,none⟩ (.nilFunc)).run Tryz.prog w3=.ok () (w3.setCell ⟨ob,0,none⟩ (.nilFunc)):=by
          rw [run_store Tryz.prog w3 ⟨ob,0,none⟩ (.nilFunc) _ (by rfl),c3]
          simp [f3]
         refine oneH (i:=9) (by kernel_rfl) rfl ?_
         intro K hK
         rw [if_pos (by rfl)]
         go_simp
         have hT4:(Blk (w3.setCell ⟨ob,0,none⟩ (.nilFunc)) rb 100 #[.int .i64 5,.int .i64 vs,.slice HA hrs.length hc,.int .i64 pts,.slice GA gs.length gc,.slice PA ps.length pc,.slice QA qs.length qc]∧Blk (w3.setCell ⟨ob,0,none⟩ (.nilFunc)) (rb+1) 103 #[.int .i64 0,.int .i64 0,.slice none 0 0])∧Ops (w3.setCell ⟨ob,0,none⟩ (.nilFunc)) mb:=⟨⟨hT3.1.1.far (by dsimp only;omega) _,hT3.1.2.far (by dsimp only;omega) _⟩,World.ownsMap.kept hT3.2 (grownBy_setCell' w3 ob (.nilFunc)) (fun e=>by have e2:=Option.some.inj e;obtain ⟨_,_,hq,_⟩:=hT3.2;rw [e2,show w3.heap[ob]?=_ from O3] at hq;cases hq)⟩
         refine hK.out _ _ (fun _=>hT4) ?_
         clear hK K
         (try simp only [Act.put,getElem_toArray,getElem_cons_succ,getElem_cons_zero,setIfInBounds_toArray,set_cons_zero,set_cons_succ])
         refine' takeH (i:=10) (v:=_) (noDefer_of (by kernel_rfl)) rfl (by kernel_rfl) (by kernel_rfl) (by kernel_rfl) (fun _ _ _ h=>h) (by kernel_rfl) ⟨Or.inl ⟨by rfl,?hy10k13mB⟩,fun _=>rfl⟩ hT4 ?rest10k13mB
         case hy10k13mB =>
          intro w' hSw
          go_simp
          rfl
         simp only [Act.put,getElem_toArray,getElem_cons_succ,getElem_cons_zero,setIfInBounds_toArray,set_cons_zero,set_cons_succ]
         refine doneH (by kernel_rfl) ?_ _
         exact ⟨ob,mb,rfl,hT4.1,O3.set 0 (.nilFunc),((bl_step hb3 hb2).setCell (by dsimp only;omega) _)⟩
     · rintro a w2 ⟨ob,mb,rfl,⟨B2,C2⟩,O2,hb2⟩
       clear hS HOPS
       have c0:=C2.cell (i:=0) rfl
       have c1:=C2.cell (i:=1) rfl
       have c2:=C2.cell (i:=2) rfl
       dsimp at c0 c1 c2
       have f0:=C2.frozen 0
       have f1:=C2.frozen 1
       have f2:=C2.frozen 2
       have hbb:=bl_step (bl_step HB0.out HB1.out) hb2
       gi_wp2
       have hrw:w.heap.size≤rb+1:=by rw [HRB.out];exact Nat.le_succ _
       have E:Blk _ (rb+1) 103 #[.int .i64 0,.int .i64 0,.slice none 0 0]:=((C2.set 0 (.int .i64 0)).set 1 (.int .i64 0)).set 2 (.slice none 0 0)
       have hb9:=((hbb.setCell (p:=⟨rb+1,0,none⟩) hrw (.int .i64 0)).setCell (p:=⟨rb+1,1,none⟩) hrw (.int .i64 0)).setCell (p:=⟨rb+1,2,none⟩) hrw (.slice none 0 0)
       refine bodyPost_ret (results_ans rfl rfl E) rfl ⟨?_,KeepP.of_below hb9 HP.out,?_⟩
       · rw [HAN3.out];rfl
       · rw [HEV3.out,List.append_nil];exact HT.out.step hb9
   · have HAN3:Hid (ansV op vs hrs pts gs ps qs=(ansOp op gs ps,0)):=hide (HAN2.out.trans (if_neg h5))
     obtain ⟨n,hn⟩:∃ n,op=1∧n=186∨op=2∧n=188∨op=3∧n=190∨op=4∧n=192:=by
      have h:op=1∨op=2∨op=3∨op=4:=by omega
      rcases h with h | h | h | h
      · exact ⟨_,.inl ⟨h,rfl⟩⟩
      · exact ⟨_,.inr (.inl ⟨h,rfl⟩)⟩
      · exact ⟨_,.inr (.inr (.inl ⟨h,rfl⟩))⟩
      · exact ⟨_,.inr (.inr (.inr ⟨h,rfl⟩))⟩
     have HN:=hide hn
     clear hn HAN2 h5
     have HOPS:=hide (fun w=>operations_any w)
     have hS:Blk w1.drew rb 100 #[.int .i64 op,.int .i64 vs,.slice HA hrs.length hc,.int .i64 pts,.slice GA gs.length gc,.slice PA ps.length pc,.slice QA qs.length qc]∧Blk w1.drew (rb+1) 103 #[.int .i64 0,.int .i64 0,.slice none 0 0]:=⟨B1.drew,C1.drew⟩
     clear B0 C0
     refine startK 1000 (S:=fun w'=>Blk w' rb 100 #[.int .i64 op,.int .i64 vs,.slice HA hrs.length hc,.int .i64 pts,.slice GA gs.length gc,.slice PA ps.length pc,.slice QA qs.length qc]∧Blk w' (rb+1) 103 #[.int .i64 0,.int .i64 0,.slice none 0 0]) (fun a w'=>∃ ob mb:Nat,a={ tmps:=#[.pointer (tapeA t),.agg #[.int .i64 op,.int .i64 vs,.slice HA hrs.length hc,.int .i64 pts,.slice GA gs.length gc,.slice PA ps.length pc,.slice QA qs.length qc],undef,.pointer (some ⟨rb,0,none⟩),.pointer (some ⟨rb+1,0,none⟩),.int .i64 0,.slice VA bs.length vcap,.int .i64 0,.pointer (some ⟨ob,0,none⟩),.bool true,.tuple #[.slice VA bs.length vcap,.int .i64 0],.agg #[.int .i64 op,.int .i64 vs,.slice HA hrs.length hc,.int .i64 pts,.slice GA gs.length gc,.slice PA ps.length pc,.slice QA qs.length qc],.tuple #[.slice VA bs.length vcap,.int .i64 0],.slice VA bs.length vcap,.int .i64 0,.int .i64 0,.bool false,undef,undef,.tuple #[.agg #[.func (.func n) #[] #[]],.bool true],.map (some mb),.pointer (some ⟨rb,0,none⟩),.pointer (some ⟨rb,0,none⟩),.int .i64 op,.tuple #[.agg #[.func (.func n) #[] #[]],.bool true],.agg #[.func (.func n) #[] #[]],.bool true,undef,undef,undef,undef,undef,undef,undef,undef,undef],defers:=[] }∧(Blk w' rb 100 #[.int .i64 op,.int .i64 vs,.slice HA hrs.length hc,.int .i64 pts,.slice GA gs.length gc,.slice PA ps.length pc,.slice QA qs.length qc]∧Blk w' (rb+1) 103 #[.int .i64 0,.int .i64 0,.slice none 0 0])∧Blk w' ob 206 #[.func (.func n) #[] #[]]∧Below w1.heap.size w1 w') hmix ?resth ?_
     rotate_left
     · skip
       refine' takeH (i:=1) (v:=_) (noDefer_of (by kernel_rfl)) rfl (by kernel_rfl) (by kernel_rfl) (by kernel_rfl) (fun _ _ _ h=>h) (by kernel_rfl) ⟨Or.inl ⟨by rfl,?hy1k14h⟩,fun _=>rfl⟩ hS ?rest1k14h
       case hy1k14h =>
        intro w' hSw
        go_simp
        rfl
       simp only [Act.put,getElem_toArray,getElem_cons_succ,getElem_cons_zero,setIfInBounds_toArray,set_cons_zero,set_cons_succ]
       refine' takeH (i:=2) (v:=_) (noDefer_of (by kernel_rfl)) rfl (by kernel_rfl) (by kernel_rfl) (by kernel_rfl) (fun _ _ _ h=>h) (by kernel_rfl) ⟨Or.inl ⟨by rfl,?hy2k15h⟩,fun _=>rfl⟩ hS ?rest2k15h
       case hy2k15h =>
        intro w' hSw
        go_simp
        rfl
       simp only [Act.put,getElem_toArray,getElem_cons_succ,getElem_cons_zero,setIfInBounds_toArray,set_cons_zero,set_cons_succ]
       refine' takeH (i:=3) (v:=_) (noDefer_of (by kernel_rfl)) rfl (by kernel_rfl) (by kernel_rfl) (by kernel_rfl) (fun _ _ _ h=>h) (by kernel_rfl) ⟨Or.inl ⟨by rfl,?hy3k16h⟩,fun _=>rfl⟩ hS ?rest3k16h
       case hy3k16h =>
        intro w' hSw
        have z0:=hSw.1.cell (i:=0) rfl
        go_simp
        rfl
       simp only [Act.put,getElem_toArray,getElem_cons_succ,getElem_cons_zero,setIfInBounds_toArray,set_cons_zero,set_cons_succ]
       refine twoH (i:=0) (j:=8) (by kernel_rfl) rfl rfl ?_ ?_
       · intro K hK
         rw [if_pos (by rfl)]
         go_simp
         refine ⟨trivial,?_⟩
         refine (callsIn_wide.2 (HOPS.out _)).mono ?_
         rintro e w2 ⟨rfl,hb2,ho2⟩
         have hS2:Blk w2 rb 100 #[.int .i64 op,.int .i64 vs,.slice HA hrs.length hc,.int .i64 pts,.slice GA gs.length gc,.slice PA ps.length pc,.slice QA qs.length qc]∧Blk w2 (rb+1) 103 #[.int .i64 0,.int .i64 0,.slice none 0 0]:=⟨hS.1.step hb2,hS.2.step hb2⟩
         refine hK.out _ _ (fun _=>hS2) ?_
         clear hK K
         have ho2':Ops w2 w1.heap.size:=ho2
         clear ho2
         refine wpAnyHIn_weaken (S':=fun w'=>(Blk w' rb 100 #[.int .i64 op,.int .i64 vs,.slice HA hrs.length hc,.int .i64 pts,.slice GA gs.length gc,.slice PA ps.length pc,.slice QA qs.length qc]∧Blk w' (rb+1) 103 #[.int .i64 0,.int .i64 0,.slice none 0 0])∧Ops w' w1.heap.size) (fun _ h=>h.1) _ _ _ _ ?_
         have hT:(Blk w2 rb 100 #[.int .i64 op,.int .i64 vs,.slice HA hrs.length hc,.int .i64 pts,.slice GA gs.length gc,.slice PA ps.length pc,.slice QA qs.length qc]∧Blk w2 (rb+1) 103 #[.int .i64 0,.int .i64 0,.slice none 0 0])∧Ops w2 w1.heap.size:=⟨hS2,ho2'⟩
         (try simp only [Act.put,getElem_toArray,getElem_cons_succ,getElem_cons_zero,setIfInBounds_toArray,set_cons_zero,set_cons_succ])
         refine' takeH (i:=4) (v:=_) (noDefer_of (by kernel_rfl)) rfl (by kernel_rfl) (by kernel_rfl) (by kernel_rfl) (fun _ _ _ h=>h) (by kernel_rfl) ⟨Or.inl ⟨by rfl,?hy4k17hA⟩,fun _=>rfl⟩ hT ?rest4k17hA
         case hy4k17hA =>
          intro w' hSw
          have hlk:=ops_look hSw.2 op n HN.out
          go_simp
          rfl
         simp only [Act.put,getElem_toArray,getElem_cons_succ,getElem_cons_zero,setIfInBounds_toArray,set_cons_zero,set_cons_succ]
         refine' takeH (i:=5) (v:=_) (noDefer_of (by kernel_rfl)) rfl (by kernel_rfl) (by kernel_rfl) (by kernel_rfl) (fun _ _ _ h=>h) (by kernel_rfl) ⟨Or.inl ⟨by rfl,?hy5k18hA⟩,fun _=>rfl⟩ hT ?rest5k18hA
         case hy5k18hA =>
          intro w' hSw
          go_simp
          rfl
         simp only [Act.put,getElem_toArray,getElem_cons_succ,getElem_cons_zero,setIfInBounds_toArray,set_cons_zero,set_cons_succ]
         refine' takeH (i:=6) (v:=_) (noDefer_of (by kernel_rfl)) rfl (by kernel_rfl) (by kernel_rfl) (by kernel_rfl) (fun _ _ _ h=>h) (by kernel_rfl) ⟨Or.inl ⟨by rfl,?hy6k19hA⟩,fun _=>rfl⟩ hT ?rest6k19hA
         case hy6k19hA =>
          intro w' hSw
          go_simp
          rfl
         simp only [Act.put,getElem_toArray,getElem_cons_succ,getElem_cons_zero,setIfInBounds_toArray,set_cons_zero,set_cons_succ]
         refine' takeH (i:=7) (v:=_) (noDefer_of (by kernel_rfl)) rfl (by kernel_rfl) (by kernel_rfl) (by kernel_rfl) (fun _ _ _ h=>h) (by kernel_rfl) ⟨Or.inl ⟨by rfl,?hy7k20hA⟩,fun _=>rfl⟩ hT ?rest7k20hA
         case hy7k20hA =>
          intro w' hSw
          go_simp
          rfl
         simp only [Act.put,getElem_toArray,getElem_cons_succ,getElem_cons_zero,setIfInBounds_toArray,set_cons_zero,set_cons_succ]
         refine oneH (i:=8) (by kernel_rfl) rfl ?_
         intro K hK
         rw [if_pos (by rfl)]
         go_simp
         obtain ⟨w3,hw3⟩:∃ w3,w3=w2.alloc (.cells #[.nilFunc] 206):=⟨_,rfl⟩
         obtain ⟨ob,hob⟩:∃ ob,ob=w2.heap.size:=⟨_,rfl⟩
         have hb3:Below w2.heap.size w2 w3:=by rw [hw3];exact bA
         have O3:Blk w3 ob 206 #[.nilFunc]:=by rw [hw3,hob];exact Blk.new _ _ _
         rw [← hw3,← hob]
         have hno:rb≠ob∧rb+1≠ob:=by have:=hT.1.1.lt;have:=hT.1.2.lt;omega
         have hbo:w1.heap.size≤ob:=by have:=hb2.size;have e:w1.drew.heap.size=w1.heap.size:=rfl;omega
         clear hob hw3
         have hT3:(Blk w3 rb 100 #[.int .i64 op,.int .i64 vs,.slice HA hrs.length hc,.int .i64 pts,.slice GA gs.length gc,.slice PA ps.length pc,.slice QA qs.length qc]∧Blk w3 (rb+1) 103 #[.int .i64 0,.int .i64 0,.slice none 0 0])∧Ops w3 w1.heap.size:=⟨⟨hT.1.1.step hb3,hT.1.2.step hb3⟩,hT.2.step hb3⟩
         refine hK.out _ _ (fun _=>hT3) ?_
         clear hK K
         (try simp only [Act.put,getElem_toArray,getElem_cons_succ,getElem_cons_zero,setIfInBounds_toArray,set_cons_zero,set_cons_succ])
         have c3:w3.cell? ⟨ob,0,none⟩=some .nilFunc:=O3.cell (i:=0) rfl
         have f3:=O3.frozen 0
         have hst:(store ⟨ob,0,none⟩ (.func (.func n) #[] #[])).run Tryz.prog w3=.ok () (w3.setCell ⟨ob,0,none⟩ (.func (.func n) #[] #[])):=by
          rw [run_store Tryz.prog w3 ⟨ob,0,none⟩ (.func (.func n) #[] #[]) _ (by rfl),c3]
          simp [f3]
         refine oneH (i:=9) (by kernel_rfl) rfl ?_
         intro K hK
         rw [if_pos (by rfl)]
         go_simp
         have hT4:(Blk (w3.setCell ⟨ob,0,none⟩ (.func (.func n) #[] #[])) rb 100 #[.int .i64 op,.int .i64 vs,.slice HA hrs.length hc,.int .i64 pts,.slice GA gs.length gc,.slice PA ps.length pc,.slice QA qs.length qc]∧Blk (w3.setCell ⟨ob,0,none⟩ (.func (.func n) #[] #[])) (rb+1) 103 #[.int .i64 0,.int .i64 0,.slice none 0 0])∧Ops (w3.setCell ⟨ob,0,none⟩ (.func (.func n) #[] #[])) w1.heap.size:=⟨⟨hT3.1.1.far (by dsimp only;omega) _,hT3.1.2.far (by dsimp only;omega) _⟩,World.ownsMap.kept hT3.2 (grownBy_setCell' w3 ob (.func (.func n) #[] #[])) (fun e=>by have e2:=Option.some.inj e;obtain ⟨_,_,hq,_⟩:=hT3.2;rw [e2,show w3.heap[ob]?=_ from O3] at hq;cases hq)⟩
         refine hK.out _ _ (fun _=>hT4) ?_
         clear hK K
         (try simp only [Act.put,getElem_toArray,getElem_cons_succ,getElem_cons_zero,setIfInBounds_toArray,set_cons_zero,set_cons_succ])
         refine' takeH (i:=10) (v:=_) (noDefer_of (by kernel_rfl)) rfl (by kernel_rfl) (by kernel_rfl) (by kernel_rfl) (fun _ _ _ h=>h) (by kernel_rfl) ⟨Or.inl ⟨by rfl,?hy10k21hA⟩,fun _=>rfl⟩ hT4 ?rest10k21hA
         case hy10k21hA =>
          intro w' hSw
          go_simp
          rfl
         simp only [Act.put,getElem_toArray,getElem_cons_succ,getElem_cons_zero,setIfInBounds_toArray,set_cons_zero,set_cons_succ]
         refine doneH (by kernel_rfl) ?_ _
         exact ⟨ob,w1.heap.size,rfl,hT4.1,O3.set 0 (.func (.func n) #[] #[]),((bl_step (bl_step (bl_drew (Below.refl _ _)) hb2) hb3).setCell (by dsimp only;omega) _)⟩
       · intro K hK
         rw [if_pos (by rfl)]
         go_simp
         obtain ⟨w3',hw3⟩:∃ w3',w3'=(w1.alloc (.cells #[.nilFunc] 206)).drew:=⟨_,rfl⟩
         obtain ⟨ob,hob⟩:∃ ob,ob=w1.heap.size:=⟨_,rfl⟩
         have hb3:Below w1.heap.size w1 w3':=by rw [hw3];exact bl_drew (bA)
         have O3':Blk w3' ob 206 #[.nilFunc]:=by rw [hw3,hob];exact (Blk.new _ _ _).drew
         have hno:rb≠ob∧rb+1≠ob:=by have:=B1.lt;have:=C1.lt;omega
         have hbo:w1.heap.size≤ob:=by omega
         rw [← hw3,← hob]
         clear hw3 hob
         have hS3:Blk w3' rb 100 #[.int .i64 op,.int .i64 vs,.slice HA hrs.length hc,.int .i64 pts,.slice GA gs.length gc,.slice PA ps.length pc,.slice QA qs.length qc]∧Blk w3' (rb+1) 103 #[.int .i64 0,.int .i64 0,.slice none 0 0]:=⟨B1.step hb3,C1.step hb3⟩
         refine hK.out _ _ (fun _=>hS3) ?_
         clear hK K
         (try simp only [Act.put,getElem_toArray,getElem_cons_succ,getElem_cons_zero,setIfInBounds_toArray,set_cons_zero,set_cons_succ])
         refine oneH (i:=0) (by kernel_rfl) rfl ?_
         intro K hK
         rw [if_pos (by rfl)]
         go_simp
         refine ⟨trivial,?_⟩
         refine (callsIn_wide.2 (HOPS.out _)).mono ?_
         rintro e w3 ⟨rfl,hb2,ho2⟩
         obtain ⟨mb,hmb⟩:∃ mb,mb=w3'.heap.size:=⟨_,rfl⟩
         have hS2:Blk w3 rb 100 #[.int .i64 op,.int .i64 vs,.slice HA hrs.length hc,.int .i64 pts,.slice GA gs.length gc,.slice PA ps.length pc,.slice QA qs.length qc]∧Blk w3 (rb+1) 103 #[.int .i64 0,.int .i64 0,.slice none 0 0]:=⟨hS3.1.step hb2,hS3.2.step hb2⟩
         have O3:=O3'.step hb2
         refine hK.out _ _ (fun _=>hS2) ?_
         clear hK K
         rw [← hmb] at ho2
         rw [← hmb]
         clear hmb
         refine wpAnyHIn_weaken (S':=fun w'=>(Blk w' rb 100 #[.int .i64 op,.int .i64 vs,.slice HA hrs.length hc,.int .i64 pts,.slice GA gs.length gc,.slice PA ps.length pc,.slice QA qs.length qc]∧Blk w' (rb+1) 103 #[.int .i64 0,.int .i64 0,.slice none 0 0])∧Ops w' mb) (fun _ h=>h.1) _ _ _ _ ?_
         have hT3:(Blk w3 rb 100 #[.int .i64 op,.int .i64 vs,.slice HA hrs.length hc,.int .i64 pts,.slice GA gs.length gc,.slice PA ps.length pc,.slice QA qs.length qc]∧Blk w3 (rb+1) 103 #[.int .i64 0,.int .i64 0,.slice none 0 0])∧Ops w3 mb:=⟨hS2,ho2⟩
         (try simp only [Act.put,getElem_toArray,getElem_cons_succ,getElem_cons_zero,setIfInBounds_toArray,set_cons_zero,set_cons_succ])
         refine' takeH (i:=4) (v:=_) (noDefer_of (by kernel_rfl)) rfl (by kernel_rfl) (by kernel_rfl) (by kernel_rfl) (fun _ _ _ h=>h) (by kernel_rfl) ⟨Or.inl ⟨by rfl,?hy4k22hB⟩,fun _=>rfl⟩ hT3 ?rest4k22hB
         case hy4k22hB =>
          intro w' hSw
          have hlk:=ops_look hSw.2 op n HN.out
          go_simp
          rfl
         simp only [Act.put,getElem_toArray,getElem_cons_succ,getElem_cons_zero,setIfInBounds_toArray,set_cons_zero,set_cons_succ]
         refine' takeH (i:=5) (v:=_) (noDefer_of (by kernel_rfl)) rfl (by kernel_rfl) (by kernel_rfl) (by kernel_rfl) (fun _ _ _ h=>h) (by kernel_rfl) ⟨Or.inl ⟨by rfl,?hy5k23hB⟩,fun _=>rfl⟩ hT3 ?rest5k23hB
         case hy5k23hB =>
          intro w' hSw
          go_simp
          rfl
         simp only [Act.put,getElem_toArray,getElem_cons_succ,getElem_cons_zero,setIfInBounds_toArray,set_cons_zero,set_cons_succ]
         refine' takeH (i:=6) (v:=_) (noDefer_of (by kernel_rfl)) rfl (by kernel_rfl) (by kernel_rfl) (by kernel_rfl) (fun _ _ _ h=>h) (by kernel_rfl) ⟨Or.inl ⟨by rfl,?hy6k24hB⟩,fun _=>rfl⟩ hT3 ?rest6k24hB
         case hy6k24hB =>
          intro w' hSw
          go_simp
          rfl
         simp only [Act.put,getElem_toArray,getElem_cons_succ,getElem_cons_zero,setIfInBounds_toArray,set_cons_zero,set_cons_succ]
         refine' takeH (i:=7) (v:=_) (noDefer_of (by kernel_rfl)) rfl (by kernel_rfl) (by kernel_rfl) (by kernel_rfl) (fun _ _ _ h=>h) (by kernel_rfl) ⟨Or.inl ⟨by rfl,?hy7k25hB⟩,fun _=>rfl⟩ hT3 ?rest7k25hB
         case hy7k25hB =>
          intro w' hSw
          go_simp
          rfl
         simp only [Act.put,getElem_toArray,getElem_cons_succ,getElem_cons_zero,setIfInBounds_toArray,set_cons_zero,set_cons_succ]
         have c3:w3.cell? ⟨ob,0,none⟩=some .nilFunc:=O3.cell (i:=0) rfl
         have f3:=O3.frozen 0
         have hst:(store ⟨ob,0,none⟩ (.func (.func n) #[] #[])).run Tryz.prog w3=.ok () (w3.setCell ⟨ob,0,none⟩ (.func (.func n) #[] #[])):=by
          rw [run_store Tryz.prog w3 ⟨ob,0,none⟩ (.func (.func n) #[] #[]) _ (by rfl),c3]
          simp [f3]
         refine oneH (i:=9) (by kernel_rfl) rfl ?_
         intro K hK
         rw [if_pos (by rfl)]
         go_simp
         have hT4:(Blk (w3.setCell ⟨ob,0,none⟩ (.func (.func n) #[] #[])) rb 100 #[.int .i64 op,.int .i64 vs,.slice HA hrs.length hc,.int .i64 pts,.slice GA gs.length gc,.slice PA ps.length pc,.slice QA qs.length qc]∧Blk (w3.setCell ⟨ob,0,none⟩ (.func (.func n) #[] #[])) (rb+1) 103 #[.int .i64 0,.int .i64 0,.slice none 0 0])∧Ops (w3.setCell ⟨ob,0,none⟩ (.func (.func n) #[] #[])) mb:=⟨⟨hT3.1.1.far (by dsimp only;omega) _,hT3.1.2.far (by dsimp only;omega) _⟩,World.ownsMap.kept hT3.2 (grownBy_setCell' w3 ob (.func (.func n) #[] #[])) (fun e=>by have e2:=Option.some.inj e;obtain ⟨_,_,hq,_⟩:=hT3.2;rw [e2,show w3.heap[ob]?=_ from O3] at hq;cases hq)⟩
         refine hK.out _ _ (fun _=>hT4) ?_
         clear hK K
         (try simp only [Act.put,getElem_toArray,getElem_cons_succ,getElem_cons_zero,setIfInBounds_toArray,set_cons_zero,set_cons_succ])
         refine' takeH (i:=10) (v:=_) (noDefer_of (by kernel_rfl)) rfl (by kernel_rfl) (by kernel_rfl) (by kernel_rfl) (fun _ _ _ h=>h) (by kernel_rfl) ⟨Or.inl ⟨by rfl,?hy10k26hB⟩,fun _=>rfl⟩ hT4 ?rest10k26hB
         case hy10k26hB =>
          intro w' hSw
          go_simp
          rfl
         simp only [Act.put,getElem_toArray,getElem_cons_succ,getElem_cons_zero,setIfInBounds_toArray,set_cons_zero,set_cons_succ]
         refine doneH (by kernel_rfl) ?_ _
         exact ⟨ob,mb,rfl,hT4.1,O3.set 0 (.func (.func n) #[] #[]),((bl_step hb3 hb2).setCell (by dsimp only;omega) _)⟩
     · rintro a w2 ⟨ob,mb,rfl,⟨B2,C2⟩,O2,hb2⟩
       clear hS HOPS B1 C1
       have hbb:=bl_step (bl_step HB0.out HB1.out) hb2
       have c0:=C2.cell (i:=0) rfl
       have c1:=C2.cell (i:=1) rfl
       have c2:=C2.cell (i:=2) rfl
       have d0:=O2.cell (i:=0) rfl
       have e0:=B2.cell (i:=0) rfl
       have e1:=B2.cell (i:=1) rfl
       have e2:=B2.cell (i:=2) rfl
       have e3:=B2.cell (i:=3) rfl
       have e4:=B2.cell (i:=4) rfl
       have e5:=B2.cell (i:=5) rfl
       have e6:=B2.cell (i:=6) rfl
       have HC:=hide (HOP.out (More P w w2) w2 (more_lt HP.out hbb) (.inl HG.out) (KeepP.of_below hbb HP.out) (fun k h=>.inl h) (HT.out.more hbb) n HCHK.out HPL.out HN.out)
       have HI:Hid (More P w w2 (rb+1)):=.inr ⟨by rw [HRB.out];exact Nat.le_succ _,C2.lt⟩
       have HNP:Hid (¬ P (rb+1)):=fun h=>by have h1:=HP.out _ h;have h2:=HRB.out;omega
       have HBB:=hide hbb;have HC2:=hide C2
       have hent:∀ args w,(callFunc n args).run Tryz.prog w=.ok (.enter n args) w:=by
        rcases HN.out with ⟨_,h⟩ | ⟨_,h⟩ | ⟨_,h⟩ | ⟨_,h⟩
        · rw [h];exact enters_of Tryz.func186 (by kernel_rfl) rfl
        · rw [h];exact enters_of Tryz.func188 (by kernel_rfl) rfl
        · rw [h];exact enters_of Tryz.func190 (by kernel_rfl) rfl
        · rw [h];exact enters_of Tryz.func192 (by kernel_rfl) rfl
       dsimp at c0 c1 c2 d0 e0 e1 e2 e3 e4 e5 e6
       clear hbb hb2 B2 O2 C2
       gi_wp2_with fail
       refine ⟨trivial,?_⟩
       refine (callsIn_wide.2 HC.out).mono ?_
       rintro e w3 ⟨rfl,hk3,ht3⟩
       have C3:=HC2.out.kept hk3 HI.out
       have g0:=C3.cell (i:=0) rfl
       have g1:=C3.cell (i:=1) rfl
       have g2:=C3.cell (i:=2) rfl
       have k0:=C3.frozen 0
       have k1:=C3.frozen 1
       have k2:=C3.frozen 2
       dsimp at g0 g1 g2
       clear c0 c1 c2 d0 e0 e1 e2 e3 e4 e5 e6
       gi_wp2
       have E:Blk _ (rb+1) 103 #[.int .i64 (ansOp op gs ps),.int .i64 0,.slice none 0 0]:=((C3.set 0 (.int .i64 (ansOp op gs ps))).set 1 (.int .i64 0)).set 2 (.slice none 0 0)
       have k9:=((KeepP.setCell HNP.out 0 (.int .i64 (ansOp op gs ps)) w3).trans (KeepP.setCell HNP.out 1 (.int .i64 0) _)).trans (KeepP.setCell HNP.out 2 (.slice none 0 0) _)
       have t9:=(((ht3.set HI.out 0 (.int .i64 (ansOp op gs ps))).set HI.out 1 (.int .i64 0)).set HI.out 2 (.slice none 0 0)).mono (R:=P) fun k h=>.inl h
       refine bodyPost_ret (results_ans rfl rfl E) rfl ⟨?_,(KeepP.more HBB.out HP.out hk3).trans k9,?_⟩
       · rw [HAN3.out];rfl
       · rw [HEV2.out];exact t9
 · have HAN2:Hid (ansV op vs hrs pts gs ps qs=(0,err)):=hide (HAN.out.trans (if_pos he))
   have HEV2:Hid (ansEv op vs hrs pts gs ps qs=[]):=hide (HEV.out.trans (if_pos he))
   clear HAN HEV HOK HOP
   have hrw:w.heap.size≤rb+1:=by rw [HRB.out];exact Nat.le_succ _
   have HRW:=hide hrw
   clear hrw
   gi_wp2
   have E:Blk _ (rb+1) 103 #[.int .i64 0,.int .i64 0,.slice none 0 0]:=((C1.set 0 (.int .i64 0)).set 1 (.int .i64 0)).set 2 (.slice none 0 0)
   have hb9:=(((bl_step HB0.out HB1.out).setCell (p:=⟨rb+1,0,none⟩) HRW.out (.int .i64 0)).setCell (p:=⟨rb+1,1,none⟩) HRW.out (.int .i64 0)).setCell (p:=⟨rb+1,2,none⟩) HRW.out (.slice none 0 0)
   refine bodyPost_ret (results_ans rfl rfl E) rfl ⟨?_,KeepP.of_below hb9 HP.out,?_⟩
   · rw [HAN2.out];rfl
   · rw [HEV2.out,List.append_nil];exact HT.out.step hb9
end
end
end Go.Proofs.YtfljlmleiggmjaaGreatDoor
