/- HeldIn Poly RowKit23 RowFacts23 -/
import Derived.ChangeAlike
import Derived.Deep.DeepLaidRun
import Derived.Deep.DeepWitnessRowRef
import Derived.Deep.RegionHeld
import Derived.Lib.ItoaNum
import Derived.Lib.Space
import Derived.OrdersHeld
import Derived.OrdersIn
import Derived.OwnWalkIn
import Derived.Test.YthnenedoblncjaaGreatDoorCards
import Derived.Test.YthnenedoblncjaaGreatDoorTie
import Derived.Test.YthnenedoblncjaaGreatDoorPkP02
import Derived.Test.YthnenedoblncjaaGreatDoorPkP11
set_option maxRecDepth 1000000
set_option maxHeartbeats 8000000
namespace Go.Proofs.YthnenedoblncjaaGreatDoor
section
open Go.RowKit
section
variable {F:Fence} {n:Nat} {P:Program} {ops:Array Oper} {Q:Exit→Act→World→Prop} {md:Region.Mode} {S:World→Prop}
def NoDefer (ops:Array Oper):Prop:=∀ (j:Nat) (o:Oper),ops[j]?=some o→∀ c,o.op≠.defer c
def isDefer (o:Oper):Bool:=match o.op with | .defer _=>true | _=>false
theorem noDefer_of {ops:Array Oper} (h:ops.toList.all (fun o=>!isDefer o)=true):NoDefer ops:=fun j o hj c hc=>by
 have hm:o∈ops.toList:=by
  have:=Array.mem_of_getElem? hj
  simpa using this
 have:=List.all_eq_true.1 h o hm
 simp [isDefer,hc] at this
def YieldsHIn (P:Program) (ops:Array Oper) (S:World→Prop) (o:Oper) (v:Value) (a:Act):Prop:=YieldsIf P ops S o v a∧∀ w,o.about P w a.eval=none
theorem YieldsHIn.wpOpIn {i:Nat} {o:Oper} {v:Value} {a:Act} (hnd:NoDefer ops) (hi:ops[i]?=some o) (hy:YieldsHIn P ops S o v a)
 {K:Act→World→Prop} {w:World} (hS:S w) (h:K (a.put o.dst v) w):wpOpIn F n P ops Q i K a w:=by
 unfold Go.wpOpIn
 simp only [hi]
 have hab:∀ f,o.about P w a.eval=some f→F.fn f:=fun f hf=>by rw [hy.2 w] at hf;cases hf
 rcases hy.1 with ⟨hw,hv⟩ | ⟨hw,rfl⟩
 · simp only [hw,if_true,Oper.wpIn,Oper.semAt_plain F _ _ (hnd i o hi),hv w hS,Oper.uponIn];exact ⟨hab,h⟩
 · simp only [hw,Bool.false_eq_true,if_false];exact ⟨hab,h⟩
theorem YieldsHIn.of_same {o:Oper} {v:Value} {a a':Act} (hy:YieldsHIn P ops S o v a) (he:execOp a'.eval o=execOp a.eval o)
 (hw:Region.wanted o (yielded ops a'.tmps)=Region.wanted o (yielded ops a.tmps)) (hb:∀ w,o.about P w a'.eval=o.about P w a.eval):YieldsHIn P ops S o v a' :=
 ⟨hy.1.of_same he hw,fun w=>by rw [hb w];exact hy.2 w⟩
theorem wpOpIn_putH {j:Nat} {oi oj:Oper} {v:Value} (hnd:NoDefer ops) (hj:ops[j]?=some oj) (hap:oi.apart ops oj=true)
 (hsi:∀ cs b,oi.op≠.select cs b) (hsj:∀ cs b,oj.op≠.select cs b)
 (hQ:∀ c a w,Q (.panic c) (a.put oi.dst v) w→Q (.panic c) a w) {K:Act→World→Prop} {a:Act} {w:World}
 (hy:YieldsHIn P ops S oi v a) (h:wpOpIn F n P ops Q j K (a.put oi.dst v) w) :
 wpOpIn F n P ops Q j (fun a' w'=>YieldsHIn P ops S oi v a'∧K (a'.put oi.dst v) w') a w:=by
 obtain ⟨h1,h2,h3⟩:=Oper.apart_spec hap
 have keep:∀ (a:Act),YieldsHIn P ops S oi v a→∀ u,YieldsHIn P ops S oi v (a.put oj.dst u):=fun a hy u =>
  hy.of_same (execOp_put oi hsi a oj.dst u h3) (wanted_put oi a oj.dst u h3) (fun w=>about_put oi w a oj.dst u h3)
 have keepD:∀ d,YieldsHIn P ops S oi v { a with defers:=d::a.defers }:=fun d=>hy.of_same rfl rfl (fun _=>rfl)
 have hsem:∀ ρ,oj.semAt F.round ρ=execOp ρ oj:=fun ρ=>Oper.semAt_plain F ρ oj (hnd j oj hj)
 unfold wpOpIn at *
 simp only [hj] at *
 rw [wanted_put oj a oi.dst v h1,about_put oj w a oi.dst v h1] at h
 split
 · rename_i hw
   simp only [hw,if_true] at h
   unfold Oper.wpIn at *
   rw [about_put oj w a oi.dst v h1] at h
   refine ⟨h.1,?_⟩
   have h:=h.2
   rw [hsem,execOp_put oj hsj a oi.dst v h1] at h
   rw [hsem]
   generalize (execOp a.eval oj).run P w=r at *
   cases r with
   | ok x w' =>
     cases x <;> simp only [Oper.uponIn] at h ⊢
     case value u=>exact ⟨keep a hy u,by rw [← Act.put_comm a v u h2];exact h⟩
     case skip=>exact ⟨keep a hy _,by rw [← Act.put_comm a v undef h2];exact h⟩
     case defer d =>
      refine ⟨keep _ (keepD d) _,?_⟩
      rw [← Act.put_comm _ v undef h2,← Act.put_defers]
      exact h
     case enter f args =>
      refine ⟨h.1,CallsIn.mono h.2 fun e w'' he=>?_⟩
      cases e with
      | returned u=>exact ⟨keep a hy u,by rw [← Act.put_comm a v u h2];exact he⟩
      | panicked c=>exact hQ _ _ _ he
      | outgrown=>exact he
     case row row args=>exact ⟨h.1,RowsIn.mono h.2 fun u w'' he=>⟨keep a hy u,by rw [← Act.put_comm a v u h2];exact he⟩⟩
     case round l f tmps assign body =>
      refine ⟨h.1,RoundIn.mono h.2 fun e w'' he=>?_⟩
      cases e with
      | returned u=>exact ⟨keep a hy u,by rw [← Act.put_comm a v u h2];exact he⟩
      | panicked c=>exact hQ _ _ _ he
      | outgrown=>exact he
   | halt x w' =>
     cases x <;> simp only [Oper.uponIn] at h ⊢
     case panic u=>exact hQ _ _ _ h
 · rename_i hw
   simp only [hw] at h
   exact ⟨h.1,keep a hy _,by rw [← Act.put_comm a v undef h2];exact h.2⟩
def waits (md:Region.Mode) (ops:Array Oper) (sk i:Nat):Bool:=match ops[sk]? with | none=>true | some o=>o.after.toList.any (fun e=>Region.binds md e && e.on == i)
theorem waits_spec {sk i:Nat} {o:Oper} (h:waits md ops sk i=true) (ho:ops[sk]?=some o):∃ e∈o.after,Region.binds md e=true∧e.on=i:=by
 unfold waits at h
 rw [ho] at h
 obtain ⟨e,he,hb⟩:=List.any_eq_true.1 h
 exact ⟨e,by simpa using he,by simpa using hb⟩
def wpAnyHIn (F:Fence) (n:Nat) (P:Program) (md:Region.Mode) (ops:Array Oper) (Q:Exit→Act→World→Prop) (S:World→Prop) (sk:Nat):Nat→Array Bool→Act→World→Prop
 | 0,listed,a,w=>Region.ready md ops listed=[]∧Q .normal a w
 | fuel+1,listed,a,w =>
   (Region.ready md ops listed=[]→Q .normal a w) ∧
   ∀ i∈Region.ready md ops listed,wpOpIn F n P ops Q i (fun a' w'=>(i≠sk→S w')∧wpAnyHIn F n P md ops Q S sk fuel (listed.setIfInBounds i true) a' w') a w
theorem wpAnyIn_of_held {sk:Nat}:∀ (fuel:Nat) (listed:Array Bool) (a:Act) (w:World),wpAnyHIn F n P md ops Q S sk fuel listed a w→wpAnyIn F n P md ops Q fuel listed a w
 | 0,_,_,_,h=>h
 | fuel+1,_,_,_,h=>⟨h.1,fun i hi=>wpOpIn_mono (fun a' w' h'=>wpAnyIn_of_held fuel _ a' w' h'.2) (h.2 i hi)⟩
theorem wpAnyHIn_first {i sk:Nat} {oi:Oper} {v:Value} (hnd:NoDefer ops) (hi:ops[i]?=some oi) (hsel:∀ (j:Nat) (o:Oper) cs b,ops[j]?=some o→o.op≠.select cs b)
 (hQ:∀ c a w,Q (.panic c) (a.put oi.dst v) w→Q (.panic c) a w) (hsk:waits md ops sk i=true) :
 ∀ (fuel:Nat) (listed:Array Bool) (a:Act) (w:World),
   (∀ j oj,ops[j]?=some oj→j≠i→listed.getD j true=false→(∀ e∈oj.after,Region.binds md e=true→e.on≠i)→oi.apart ops oj=true) →
   i∈Region.ready md ops listed→YieldsHIn P ops S oi v a→S w →
   wpAnyHIn F n P md ops Q S sk fuel (listed.setIfInBounds i true) (a.put oi.dst v) w→wpAnyHIn F n P md ops Q S sk (fuel+1) listed a w:=by
 intro fuel
 induction fuel with
 | zero =>
   intro listed a w _ hr hy hS H
   refine ⟨fun h=>(by rw [h] at hr;cases hr),fun j hj=>?_⟩
   by_cases hji:j=i
   · subst hji;exact hy.wpOpIn hnd hi hS ⟨fun _=>hS,H⟩
   · have:=ready_mono hj hji
     rw [H.1] at this
     cases this
 | succ fuel ih =>
   intro listed a w hfree hr hy hS H
   refine ⟨fun h=>(by rw [h] at hr;cases hr),fun j hj=>?_⟩
   by_cases hji:j=i
   · subst hji;exact hy.wpOpIn hnd hi hS ⟨fun _=>hS,H⟩
   · have h1:=H.2 j (ready_mono hj hji)
     obtain ⟨hjun,oj,hoj,hall⟩:=mem_ready.1 hj
     have hnot:∀ e∈oj.after,Region.binds md e=true→e.on≠i:=fun e he hb heq=>by
      have h1:=hall e he hb
      have h0:=(mem_ready.1 hr).1
      rw [heq] at h1
      rcases Nat.lt_or_ge i listed.size with h' | h'
      · simp [h'] at h0 h1;rw [h0] at h1;cases h1
      · simp [Array.getElem?_eq_none h'] at h1
     have h2:=wpOpIn_putH hnd hoj (hfree j oj hoj hji hjun hnot) (fun cs b=>hsel i oi cs b hi) (fun cs b=>hsel j oj cs b hoj) hQ hy h1
     have hfree':∀ k ok,ops[k]?=some ok→k≠i→(listed.setIfInBounds j true).getD k true=false →
      (∀ e∈ok.after,Region.binds md e=true→e.on≠i)→oi.apart ops ok=true:=fun k ok hk hki hun hno=>by
      refine hfree k ok hk hki ?_ hno
      by_cases hjk:j=k
      · subst hjk;exact hjun
      · rw [getD_set_ne true hjk] at hun;exact hun
     have hjs:j≠sk:=fun e=>by
      subst e
      obtain ⟨e,he,hb,hon⟩:=waits_spec hsk hoj
      exact hnot e he hb hon
     refine wpOpIn_mono (fun a' w' h3=>⟨h3.2.1,ih (listed.setIfInBounds j true) a' w' hfree' (ready_mono hr (Ne.symm hji)) h3.1 (h3.2.1 hjs) ?_⟩) h2
     rw [Array.setIfInBounds_comm _ _ hji]
     exact h3.2.2
theorem takeH {i sk:Nat} {oi:Oper} {v:Value} {fuel:Nat} {listed:Array Bool} {a:Act} {w:World} (hnd:NoDefer ops) (hi:ops[i]?=some oi)
 (hs:Region.noSelect ops=true) (hf:Region.free md ops listed i=true) (hr:(Region.ready md ops listed).contains i=true)
 (hQ:∀ c a w,Q (.panic c) (a.put oi.dst v) w→Q (.panic c) a w) (hsk:waits md ops sk i=true) (hy:YieldsHIn P ops S oi v a) (hS:S w)
 (h:wpAnyHIn F n P md ops Q S sk fuel (listed.setIfInBounds i true) (a.put oi.dst v) w):wpAnyHIn F n P md ops Q S sk (fuel+1) listed a w :=
 wpAnyHIn_first hnd hi (Region.noSelect_spec hs) hQ hsk fuel listed a w (Region.free_spec hi hf) (by simpa using hr) hy hS h
theorem oneH {i sk:Nat} {o:Oper} {fuel:Nat} {listed:Array Bool} {a:Act} {w:World} (hr:Region.ready md ops listed=[i]) (ho:ops[i]?=some o)
 (h:∀ K:Act→World→Prop,Shut (∀ a w,(i≠sk→S w)→wpAnyHIn F n P md ops Q S sk fuel (listed.setIfInBounds i true) a w→K a w)→if Region.wanted o (yielded ops a.tmps)=true then Oper.wpIn F n P o a w K Q else (∀ f,o.about P w a.eval=some f→F.fn f)∧K (a.put o.dst undef) w) :
 wpAnyHIn F n P md ops Q S sk (fuel+1) listed a w :=
 ⟨fun h0=>(by rw [hr] at h0;cases h0),fun j hj=>by
   rw [hr] at hj
   obtain rfl:j=i:=by simpa using hj
   exact wpOpIn_step ho (fun K' hK=>h K' (fun a w hS hW=>hK a w ⟨hS,hW⟩))⟩
theorem doneH {sk:Nat} {listed:Array Bool} {a:Act} {w:World} (hr:Region.ready md ops listed=[]) (h:Q .normal a w) :
 ∀ fuel,wpAnyHIn F n P md ops Q S sk fuel listed a w
 | 0=>⟨hr,h⟩
 | _+1=>⟨fun _=>h,by rw [hr];simp⟩
theorem startH (sk:Nat) {id:Nat} {a:Act} {w:World} (hm:P.follows .mixedOrders=true)
 (h:wpAnyHIn F n P .any ops Q S sk ops.size (Array.replicate ops.size false) a w.drew):(Code.region id ops true).wpIn F n P Q a w :=
 wpIn_region_any hm (wpAnyIn_of_held _ _ _ _ h)
end
end
section
open Go.RowKit
def ptAt (ps:List Pt) (i:Nat):Pt:=ps.getD i (0,0)
def PsJ (ps:List Pt):Prop:=∀ p∈ps,PJ p
theorem PsJ.at_ {ps:List Pt} (h:PsJ ps) (i:Nat):PJ (ptAt ps i):=by
 unfold ptAt
 rw [List.getD_eq_getElem?_getD]
 cases hi:ps[i]? with
 | none=>exact ⟨⟨by decide,by decide⟩,⟨by decide,by decide⟩⟩
 | some p=>exact h p (List.mem_of_getElem? hi)
theorem ptAt_get {ps:List Pt} {i:Nat} (hi:i<ps.length):ps[i]?=some (ptAt ps i):=by
 unfold ptAt
 rw [List.getD_eq_getElem?_getD,List.getElem?_eq_getElem hi]
 rfl
def orientV (ps:List Pt):Int:=if 3≤ps.length∧ps.length≤64 then (orientD (ptAt ps 0) (ptAt ps 1) (ptAt ps 2)).sign else 0
theorem sl_pt {w:World} {B b off:Nat} {ps:List Pt} (h:Sl w B (some ⟨b,off,none⟩) (ptCs ps)) {k:Nat} (hk:k<ps.length) :
 w.cell? ⟨b,off+k*2,none⟩=some (.int .i64 (ptAt ps k).1)∧w.cell? ⟨b,off+k*2+1,none⟩=some (.int .i64 (ptAt ps k).2):=by
 obtain ⟨b',off',e,_,h1,h2⟩:=h.pt (ptAt_get hk)
 cases e
 exact ⟨h1,h2⟩
theorem sl_pts {w:World} {B:Nat} {A:Option Addr} {ps:List Pt} (h:Sl w B A (ptCs ps)) (hn:0<ps.length):∃ b off,A=some ⟨b,off,none⟩∧b<B:=by
 obtain ⟨b,off,e,hb,_,_⟩:=h.pt (ptAt_get hn)
 exact ⟨b,off,e,hb⟩
theorem orientation_any (ps:List Pt) (hps:PsJ ps) (hn:ps.length≤10000) (A:Option Addr) (c:Nat) (w:World) (hs:Sl w w.heap.size A (ptCs ps)) (hw:MW w) :
 Calls Tryz.prog 257 #[.slice A ps.length c] w fun e w'=>e=.returned (.int .i64 (orientV ps))∧Below w.heap.size w w':=by
 by_cases h3:ps.length<3
 · have h3i:((ps.length:Nat):Int)<3:=by omega
   have ho:orientV ps=0:=by unfold orientV;rw [if_neg (by omega)]
   rw [ho]
   clear hps hs hw ho
   go_enter Tryz.func257,Tryz.ntmps257
   go_wp2
   go_ret
   exact ⟨rfl,Below.refl _ _⟩
 · have h3i:¬ ((ps.length:Nat):Int)<3:=by omega
   by_cases h64:64<ps.length
   · have h64i:(64:Int)<((ps.length:Nat):Int):=by omega
     have ho:orientV ps=0:=by unfold orientV;rw [if_neg (by omega)]
     rw [ho]
     clear hps hs hw ho
     go_enter Tryz.func257,Tryz.ntmps257
     go_wp2
     go_ret
     exact ⟨rfl,Below.refl _ _⟩
   · have h64i:¬ (64:Int)<((ps.length:Nat):Int):=by omega
     have ho:orientV ps=(orientD (ptAt ps 0) (ptAt ps 1) (ptAt ps 2)).sign:=by unfold orientV;rw [if_pos (by omega)]
     rw [ho]
     obtain ⟨b,off,rfl,hb⟩:=sl_pts hs (by omega)
     obtain ⟨a0,a1⟩:=sl_pt hs (k:=0) (by omega)
     obtain ⟨b0,b1⟩:=sl_pt hs (k:=1) (by omega)
     obtain ⟨c0,c1⟩:=sl_pt hs (k:=2) (by omega)
     have l0:0<ps.length:=by omega
     have l1:(1:Int)<((ps.length:Nat):Int):=by omega
     have l2:(2:Int)<((ps.length:Nat):Int):=by omega
     have HO:Hid (∀ wk,Below w.heap.size w wk→Calls Tryz.prog 137 #[.agg #[.int .i64 (ptAt ps 0).1,.int .i64 (ptAt ps 0).2],.agg #[.int .i64 (ptAt ps 1).1,.int .i64 (ptAt ps 1).2],.agg #[.int .i64 (ptAt ps 2).1,.int .i64 (ptAt ps 2).2]] wk fun e w'=>e=.returned (.int .i64 (orientD (ptAt ps 0) (ptAt ps 1) (ptAt ps 2)).sign)∧Below wk.heap.size wk w') :=
      hide fun wk hk=>osign_any _ _ _ (hps.at_ 0) (hps.at_ 1) (hps.at_ 2) wk (hw.step hk)
     generalize hos:(orientD (ptAt ps 0) (ptAt ps 1) (ptAt ps 2)).sign=os at *
     generalize hpa:ptAt ps 0=pa at *
     generalize hpb:ptAt ps 1=pb at *
     generalize hpc:ptAt ps 2=pc at *
     obtain ⟨a,a'⟩:=pa
     obtain ⟨b2,b'⟩:=pb
     obtain ⟨c2,c'⟩:=pc
     dsimp only at *
     simp only [Nat.zero_mul,Nat.add_zero,Nat.one_mul,Nat.reduceMul] at a0 a1 b0 b1 c0 c1
     clear hos hpa hpb hpc ho hs hps hw
     have h00:Held3P w b b b a a' b2 b' c2 c' w∨True:=.inr trivial
     clear h00
     have hbd:=bl_drew (Below.refl w.heap.size w)
     go_enter Tryz.func257,Tryz.ntmps257
     go_wp2
     go_region_held3 (fun w'=>(Below w.heap.size w w'∧w'.cell? ⟨b,off,none⟩=some (.int .i64 a)∧w'.cell? ⟨b,off+1,none⟩=some (.int .i64 a'))∧(w'.cell? ⟨b,off+2,none⟩=some (.int .i64 b2)∧w'.cell? ⟨b,off+2+1,none⟩=some (.int .i64 b'))∧w'.cell? ⟨b,off+4,none⟩=some (.int .i64 c2)∧w'.cell? ⟨b,off+4+1,none⟩=some (.int .i64 c'))
      (first | exact ⟨⟨hbd,a0,a1⟩,⟨b0,b1⟩,c0,c1⟩ | exact ⟨⟨bl_step hbd (by assumption),(hb1.cell (p:=⟨b,_,none⟩) hb).trans a0,(hb1.cell (p:=⟨b,_,none⟩) hb).trans a1⟩,⟨(hb1.cell (p:=⟨b,_,none⟩) hb).trans b0,(hb1.cell (p:=⟨b,_,none⟩) hb).trans b1⟩,(hb1.cell (p:=⟨b,_,none⟩) hb).trans c0,(hb1.cell (p:=⟨b,_,none⟩) hb).trans c1⟩)
      (first
        | (go_at_call 137;((with_reducible refine (HO.out _ hbd).mono ?_);rintro e w' ⟨rfl,hb1⟩)))
     all_goals
      go_wp2
      go_ret
      exact ⟨rfl,bl_step hbd hb1⟩
end
section
open Go.ChangeShapes Go.WideShapes Go.ChangeAt Go.RowKit
theorem gWords : Tryz.prog.globalNamed "geofence/mask.words" = some 8 := by kernel_rfl
theorem gWordsType:(Tryz.prog.globals[8]?).map (·.type)=some 311:=by kernel_rfl
theorem cellsWords:Tryz.prog.cellsOf 311=2:=by kernel_rfl
theorem cellsUint64:Tryz.prog.cellsOf 44=1:=by kernel_rfl
theorem gFixed : Tryz.prog.globalNamed "geofence/header.fixed" = some 9 := by kernel_rfl
theorem gFixedType:(Tryz.prog.globals[9]?).map (·.type)=some 192:=by kernel_rfl
theorem cellsFixed:Tryz.prog.cellsOf 192=6:=by kernel_rfl
theorem cellsInt:Tryz.prog.cellsOf 3=1:=by kernel_rfl
theorem laid_tail {P:Program} {x:String × DataW Unit} {l:List (String × DataW Unit)} {W:World} (h:laidMet P (x::l) W):laidMet P l W:=by
 obtain ⟨ps,⟨g',t',cs,fuel,p,q,hg',ht',hvar,hd,hq,hps⟩,hn,hm⟩:=h
 subst hps
 exact ⟨q,hq,(List.nodup_append.1 hn).2.1,fun b off hp=>hm b off (List.mem_append_right _ hp)⟩
theorem gPow : Tryz.prog.globalNamed "internal/strconv.uint64pow10" = some 0 := by kernel_rfl
theorem gPowType:(Tryz.prog.globals[0]?).map (·.type)=some 203:=by kernel_rfl
theorem cellsPow:Tryz.prog.cellsOf 203=20:=by kernel_rfl
theorem gSpace : Tryz.prog.globalNamed "strings.asciiSpace" = some 1 := by kernel_rfl
theorem gSpaceType:(Tryz.prog.globals[1]?).map (·.type)=some 218:=by kernel_rfl
theorem cellsSpace:Tryz.prog.cellsOf 218=256:=by kernel_rfl
theorem cellsUint8:Tryz.prog.cellsOf 5=1:=by kernel_rfl
theorem fixed_of_laid {W : World} (h : laidMetH Tryz.prog [("geofence/mask.words", Rows.laid_geofence_mask_words), ("math/bits.deBruijn32tab", Rows.laid_math_bits_deBruijn32tab), ("math/bits.deBruijn64tab", Rows.laid_math_bits_deBruijn64tab), ("internal/strconv.uint64pow10", Rows.laid_internal_strconv_uint64pow10), ("unicode/utf8.acceptRanges", Rows.laid_unicode_utf8_acceptRanges), ("geofence/header.fixed", Rows.laid_geofence_header_fixed), ("unicode.White_Space", Rows.laid_unicode_White_Space), ("strings.asciiSpace", Rows.laid_strings_asciiSpace), ("unicode/utf8.first", Rows.laid_unicode_utf8_first)] W) : (Fixed W ∧ 9 < W.heap.size) ∧ MW W := by
 have h' : laidMet Tryz.prog [("geofence/mask.words", Rows.laid_geofence_mask_words), ("math/bits.deBruijn32tab", Rows.laid_math_bits_deBruijn32tab), ("math/bits.deBruijn64tab", Rows.laid_math_bits_deBruijn64tab), ("internal/strconv.uint64pow10", Rows.laid_internal_strconv_uint64pow10), ("unicode/utf8.acceptRanges", Rows.laid_unicode_utf8_acceptRanges), ("geofence/header.fixed", Rows.laid_geofence_header_fixed), ("unicode.White_Space", Rows.laid_unicode_White_Space), ("strings.asciiSpace", Rows.laid_strings_asciiSpace), ("unicode/utf8.first", Rows.laid_unicode_utf8_first)] W := h
 have ht : Lib.TabIs Tryz.prog W "geofence/mask.words" .u64 [9223372036854775808, 18446744073709551615] := Lib.tabIs_of_head (rest := [("math/bits.deBruijn32tab", Rows.laid_math_bits_deBruijn32tab), ("math/bits.deBruijn64tab", Rows.laid_math_bits_deBruijn64tab), ("internal/strconv.uint64pow10", Rows.laid_internal_strconv_uint64pow10), ("unicode/utf8.acceptRanges", Rows.laid_unicode_utf8_acceptRanges), ("geofence/header.fixed", Rows.laid_geofence_header_fixed), ("unicode.White_Space", Rows.laid_unicode_White_Space), ("strings.asciiSpace", Rows.laid_strings_asciiSpace), ("unicode/utf8.first", Rows.laid_unicode_utf8_first)]) gWords gWordsType Tryz.underlying311 Tryz.underlying44 cellsUint64 cellsWords h'
 have h5:=laid_tail (laid_tail (laid_tail (laid_tail (laid_tail h'))))
 have hf : Lib.TabIs Tryz.prog W "geofence/header.fixed" .i64 [0, 3, 4, 1, 1, 0] := Lib.tabIs_of_head (rest := [("unicode.White_Space", Rows.laid_unicode_White_Space), ("strings.asciiSpace", Rows.laid_strings_asciiSpace), ("unicode/utf8.first", Rows.laid_unicode_utf8_first)]) gFixed gFixedType Tryz.underlying192 Tryz.underlying3 cellsInt cellsFixed h5
 have h0:=ht.cell gWords 0 (by decide)
 have h1:=ht.cell gWords 1 (by decide)
 have hc:Fixed W:=fun j hj=>hf.cell gFixed j (by simpa using hj)
 exact ⟨⟨hc,block_lt (hc 0 (by omega))⟩,⟨h0,h1⟩,block_lt h0⟩
theorem space_data:(Rows.laid_strings_asciiSpace:DataW Unit)=Lib.tabData .u8 Lib.asciiSpaceTab:=by kernel_rfl
theorem tabs_of_laid {W : World} (h : laidMetH Tryz.prog [("geofence/mask.words", Rows.laid_geofence_mask_words), ("math/bits.deBruijn32tab", Rows.laid_math_bits_deBruijn32tab), ("math/bits.deBruijn64tab", Rows.laid_math_bits_deBruijn64tab), ("internal/strconv.uint64pow10", Rows.laid_internal_strconv_uint64pow10), ("unicode/utf8.acceptRanges", Rows.laid_unicode_utf8_acceptRanges), ("geofence/header.fixed", Rows.laid_geofence_header_fixed), ("unicode.White_Space", Rows.laid_unicode_White_Space), ("strings.asciiSpace", Rows.laid_strings_asciiSpace), ("unicode/utf8.first", Rows.laid_unicode_utf8_first)] W) : Lib.TabIs Tryz.prog W "internal/strconv.uint64pow10" .u64 Lib.pow10Tab ∧ Lib.TabIs Tryz.prog W "strings.asciiSpace" .u8 Lib.asciiSpaceTab := by
 have h' : laidMet Tryz.prog [("geofence/mask.words", Rows.laid_geofence_mask_words), ("math/bits.deBruijn32tab", Rows.laid_math_bits_deBruijn32tab), ("math/bits.deBruijn64tab", Rows.laid_math_bits_deBruijn64tab), ("internal/strconv.uint64pow10", Rows.laid_internal_strconv_uint64pow10), ("unicode/utf8.acceptRanges", Rows.laid_unicode_utf8_acceptRanges), ("geofence/header.fixed", Rows.laid_geofence_header_fixed), ("unicode.White_Space", Rows.laid_unicode_White_Space), ("strings.asciiSpace", Rows.laid_strings_asciiSpace), ("unicode/utf8.first", Rows.laid_unicode_utf8_first)] W := h
 have h3:=laid_tail (laid_tail (laid_tail h'))
 have hp : Lib.TabIs Tryz.prog W "internal/strconv.uint64pow10" .u64 Lib.pow10Tab := Lib.tabIs_of_head (rest := [("unicode/utf8.acceptRanges", Rows.laid_unicode_utf8_acceptRanges), ("geofence/header.fixed", Rows.laid_geofence_header_fixed), ("unicode.White_Space", Rows.laid_unicode_White_Space), ("strings.asciiSpace", Rows.laid_strings_asciiSpace), ("unicode/utf8.first", Rows.laid_unicode_utf8_first)]) gPow gPowType Tryz.underlying203 Tryz.underlying44 cellsUint64 cellsPow h3
 have h7:=laid_tail (laid_tail (laid_tail (laid_tail h3)))
 rw [space_data] at h7
 exact ⟨hp, Lib.tabIs_of_head (rest := [("unicode/utf8.first", Rows.laid_unicode_utf8_first)]) gSpace gSpaceType Tryz.underlying218 Tryz.underlying5 cellsUint8 cellsSpace h7⟩
def litV:DataW Unit→Value
 | .lit (.int k n)=>.int k n
 | _=>undef
def litCells:DataW Unit→List Value
 | .agg ps=>ps.flatMap fun
   | .agg qs=>qs.map litV
   | x=>[litV x]
 | x=>[litV x]
def rangeCells:DataW Unit→List Value
 | .ptr (.agg (.slice es _::_))=>litCells (.agg es)
 | _=>[]
def layCells (cs:List Value):Obj→Obj
 | .cells _ t frozen=>.cells cs.toArray t frozen
 | o=>o
def layTable (d:DataW Unit):Obj→Obj:=layCells (litCells d)
noncomputable def laidWorld (os:Os):World :=
 let N:=(World.settled Tryz.prog os).heap.size
 let w0:=World.holding Tryz.prog os ⟨#[.cells (rangeCells Rows.laid_unicode_White_Space).toArray 369,.cells #[.slice (some ⟨N,0,none⟩) 7 7,.slice none 0 0,.int .i64 2] 366],#[],[]⟩
 { w0 with heap:=(((((((((w0.heap.modify 8 (layTable Rows.laid_geofence_mask_words)).modify 4 (layTable Rows.laid_math_bits_deBruijn32tab)).modify 5 (layTable Rows.laid_math_bits_deBruijn64tab)).modify 0 (layTable Rows.laid_internal_strconv_uint64pow10)).modify 7 (layTable Rows.laid_unicode_utf8_acceptRanges)).modify 9 (layTable Rows.laid_geofence_header_fixed)).modify 1 (layTable Rows.laid_strings_asciiSpace)).modify 6 (layTable Rows.laid_unicode_utf8_first)).modify 3 (layCells [.pointer (some ⟨N+1,0,none⟩)])) }
end
section
open Go.ChangeShapes Go.WideShapes Go.ChangeAt Go.RowKit
theorem and2 {a b:Bool} (ha:a=true) (hb:b=true):(a && b)=true:=by rw [ha,hb];rfl
theorem factLaid:laidOutB Tryz.pinned.checked.prog=true:=by kernel_rfl
theorem factMaps:mapsRowed Tryz.pinned.checked.prog=true:=by kernel_rfl
theorem factKeys:(true == Tryz.pinned.checked.prog.plainKeys)=true:=by kernel_rfl
theorem factStops:Tryz.pinned.checked.prog.stopsHeard=true:=by kernel_rfl
theorem factEnter:Tryz.pinned.checked.prog.mayEnter=true:=by kernel_rfl
end
end Go.Proofs.YthnenedoblncjaaGreatDoor
