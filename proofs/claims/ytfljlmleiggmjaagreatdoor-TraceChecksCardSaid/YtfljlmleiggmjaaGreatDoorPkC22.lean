/- HeldIn -/
import Derived.Deep.RegionHeld
import Derived.OrdersHeld
import Derived.OrdersIn
import Derived.OwnWalkIn
import Derived.Test.YtfljlmleiggmjaaGreatDoorPkC21
set_option maxRecDepth 1000000
set_option maxHeartbeats 8000000
namespace Go.Proofs.YtfljlmleiggmjaaGreatDoor
section
open Go.RowKit
section
variable {F:Fence} {n:Nat} {P:Program} {ops:Array Oper} {Q:Exit→Act→World→Prop} {md:Region.Mode} {S:World→Prop}
def NoDefer (ops:Array Oper):Prop:=∀ (j:Nat) (o:Oper),ops[j]?=some o→∀ c,o.op≠.defer c
def isDefer (o:Oper):Bool:=match o.op with | .defer _=>true | _=>false
theorem noDefer_of {ops:Array Oper} (h:ops.toList.all (fun o=>!isDefer o)=true):NoDefer ops:=fun j o hj c hc=>by
 have hm:o∈ops.toList:=by
  have:=Array.mem_of_getElem? hj
  simpa using this
 have:=List.all_eq_true.1 h o hm
 simp [isDefer,hc] at this
def YieldsHIn (P:Program) (ops:Array Oper) (S:World→Prop) (o:Oper) (v:Value) (a:Act):Prop:=YieldsIf P ops S o v a∧∀ w,o.about P w a.eval=none
theorem YieldsHIn.wpOpIn {i:Nat} {o:Oper} {v:Value} {a:Act} (hnd:NoDefer ops) (hi:ops[i]?=some o) (hy:YieldsHIn P ops S o v a)
 {K:Act→World→Prop} {w:World} (hS:S w) (h:K (a.put o.dst v) w):wpOpIn F n P ops Q i K a w:=by
 unfold Go.wpOpIn
 simp only [hi]
 have hab:∀ f,o.about P w a.eval=some f→F.fn f:=fun f hf=>by rw [hy.2 w] at hf;cases hf
 rcases hy.1 with ⟨hw,hv⟩ | ⟨hw,rfl⟩
 · simp only [hw,if_true,Oper.wpIn,Oper.semAt_plain F _ _ (hnd i o hi),hv w hS,Oper.uponIn];exact ⟨hab,h⟩
 · simp only [hw,Bool.false_eq_true,if_false];exact ⟨hab,h⟩
theorem YieldsHIn.of_same {o:Oper} {v:Value} {a a':Act} (hy:YieldsHIn P ops S o v a) (he:execOp a'.eval o=execOp a.eval o)
 (hw:Region.wanted o (yielded ops a'.tmps)=Region.wanted o (yielded ops a.tmps)) (hb:∀ w,o.about P w a'.eval=o.about P w a.eval):YieldsHIn P ops S o v a' :=
 ⟨hy.1.of_same he hw,fun w=>by rw [hb w];exact hy.2 w⟩
theorem wpOpIn_putH {j:Nat} {oi oj:Oper} {v:Value} (hnd:NoDefer ops) (hj:ops[j]?=some oj) (hap:oi.apart ops oj=true)
 (hsi:∀ cs b,oi.op≠.select cs b) (hsj:∀ cs b,oj.op≠.select cs b)
 (hQ:∀ c a w,Q (.panic c) (a.put oi.dst v) w→Q (.panic c) a w) {K:Act→World→Prop} {a:Act} {w:World}
 (hy:YieldsHIn P ops S oi v a) (h:wpOpIn F n P ops Q j K (a.put oi.dst v) w) :
 wpOpIn F n P ops Q j (fun a' w'=>YieldsHIn P ops S oi v a'∧K (a'.put oi.dst v) w') a w:=by
 obtain ⟨h1,h2,h3⟩:=Oper.apart_spec hap
 have keep:∀ (a:Act),YieldsHIn P ops S oi v a→∀ u,YieldsHIn P ops S oi v (a.put oj.dst u):=fun a hy u =>
  hy.of_same (execOp_put oi hsi a oj.dst u h3) (wanted_put oi a oj.dst u h3) (fun w=>about_put oi w a oj.dst u h3)
 have keepD:∀ d,YieldsHIn P ops S oi v { a with defers:=d::a.defers }:=fun d=>hy.of_same rfl rfl (fun _=>rfl)
 have hsem:∀ ρ,oj.semAt F.round ρ=execOp ρ oj:=fun ρ=>Oper.semAt_plain F ρ oj (hnd j oj hj)
 unfold wpOpIn at *
 simp only [hj] at *
 rw [wanted_put oj a oi.dst v h1,about_put oj w a oi.dst v h1] at h
 split
 · rename_i hw
   simp only [hw,if_true] at h
   unfold Oper.wpIn at *
   rw [about_put oj w a oi.dst v h1] at h
   refine ⟨h.1,?_⟩
   have h:=h.2
   rw [hsem,execOp_put oj hsj a oi.dst v h1] at h
   rw [hsem]
   generalize (execOp a.eval oj).run P w=r at *
   cases r with
   | ok x w' =>
     cases x <;> simp only [Oper.uponIn] at h ⊢
     case value u=>exact ⟨keep a hy u,by rw [← Act.put_comm a v u h2];exact h⟩
     case skip=>exact ⟨keep a hy _,by rw [← Act.put_comm a v undef h2];exact h⟩
     case defer d =>
      refine ⟨keep _ (keepD d) _,?_⟩
      rw [← Act.put_comm _ v undef h2,← Act.put_defers]
      exact h
     case enter f args =>
      refine ⟨h.1,CallsIn.mono h.2 fun e w'' he=>?_⟩
      cases e with
      | returned u=>exact ⟨keep a hy u,by rw [← Act.put_comm a v u h2];exact he⟩
      | panicked c=>exact hQ _ _ _ he
      | outgrown=>exact he
     case row row args=>exact ⟨h.1,RowsIn.mono h.2 fun u w'' he=>⟨keep a hy u,by rw [← Act.put_comm a v u h2];exact he⟩⟩
     case round l f tmps assign body =>
      refine ⟨h.1,RoundIn.mono h.2 fun e w'' he=>?_⟩
      cases e with
      | returned u=>exact ⟨keep a hy u,by rw [← Act.put_comm a v u h2];exact he⟩
      | panicked c=>exact hQ _ _ _ he
      | outgrown=>exact he
   | halt x w' =>
     cases x <;> simp only [Oper.uponIn] at h ⊢
     case panic u=>exact hQ _ _ _ h
 · rename_i hw
   simp only [hw] at h
   exact ⟨h.1,keep a hy _,by rw [← Act.put_comm a v undef h2];exact h.2⟩
def waits (md:Region.Mode) (ops:Array Oper) (sk i:Nat):Bool:=match ops[sk]? with | none=>true | some o=>o.after.toList.any (fun e=>Region.binds md e && e.on == i)
theorem waits_spec {sk i:Nat} {o:Oper} (h:waits md ops sk i=true) (ho:ops[sk]?=some o):∃ e∈o.after,Region.binds md e=true∧e.on=i:=by
 unfold waits at h
 rw [ho] at h
 obtain ⟨e,he,hb⟩:=List.any_eq_true.1 h
 exact ⟨e,by simpa using he,by simpa using hb⟩
def wpAnyHIn (F:Fence) (n:Nat) (P:Program) (md:Region.Mode) (ops:Array Oper) (Q:Exit→Act→World→Prop) (S:World→Prop) (sk:Nat):Nat→Array Bool→Act→World→Prop
 | 0,listed,a,w=>Region.ready md ops listed=[]∧Q .normal a w
 | fuel+1,listed,a,w =>
   (Region.ready md ops listed=[]→Q .normal a w) ∧
   ∀ i∈Region.ready md ops listed,wpOpIn F n P ops Q i (fun a' w'=>(i≠sk→S w')∧wpAnyHIn F n P md ops Q S sk fuel (listed.setIfInBounds i true) a' w') a w
theorem wpAnyIn_of_held {sk:Nat}:∀ (fuel:Nat) (listed:Array Bool) (a:Act) (w:World),wpAnyHIn F n P md ops Q S sk fuel listed a w→wpAnyIn F n P md ops Q fuel listed a w
 | 0,_,_,_,h=>h
 | fuel+1,_,_,_,h=>⟨h.1,fun i hi=>wpOpIn_mono (fun a' w' h'=>wpAnyIn_of_held fuel _ a' w' h'.2) (h.2 i hi)⟩
theorem wpAnyHIn_first {i sk:Nat} {oi:Oper} {v:Value} (hnd:NoDefer ops) (hi:ops[i]?=some oi) (hsel:∀ (j:Nat) (o:Oper) cs b,ops[j]?=some o→o.op≠.select cs b)
 (hQ:∀ c a w,Q (.panic c) (a.put oi.dst v) w→Q (.panic c) a w) (hsk:waits md ops sk i=true) :
 ∀ (fuel:Nat) (listed:Array Bool) (a:Act) (w:World),
   (∀ j oj,ops[j]?=some oj→j≠i→listed.getD j true=false→(∀ e∈oj.after,Region.binds md e=true→e.on≠i)→oi.apart ops oj=true) →
   i∈Region.ready md ops listed→YieldsHIn P ops S oi v a→S w →
   wpAnyHIn F n P md ops Q S sk fuel (listed.setIfInBounds i true) (a.put oi.dst v) w→wpAnyHIn F n P md ops Q S sk (fuel+1) listed a w:=by
 intro fuel
 induction fuel with
 | zero =>
   intro listed a w _ hr hy hS H
   refine ⟨fun h=>(by rw [h] at hr;cases hr),fun j hj=>?_⟩
   by_cases hji:j=i
   · subst hji;exact hy.wpOpIn hnd hi hS ⟨fun _=>hS,H⟩
   · have:=ready_mono hj hji
     rw [H.1] at this
     cases this
 | succ fuel ih =>
   intro listed a w hfree hr hy hS H
   refine ⟨fun h=>(by rw [h] at hr;cases hr),fun j hj=>?_⟩
   by_cases hji:j=i
   · subst hji;exact hy.wpOpIn hnd hi hS ⟨fun _=>hS,H⟩
   · have h1:=H.2 j (ready_mono hj hji)
     obtain ⟨hjun,oj,hoj,hall⟩:=mem_ready.1 hj
     have hnot:∀ e∈oj.after,Region.binds md e=true→e.on≠i:=fun e he hb heq=>by
      have h1:=hall e he hb
      have h0:=(mem_ready.1 hr).1
      rw [heq] at h1
      rcases Nat.lt_or_ge i listed.size with h' | h'
      · simp [h'] at h0 h1;rw [h0] at h1;cases h1
      · simp [Array.getElem?_eq_none h'] at h1
     have h2:=wpOpIn_putH hnd hoj (hfree j oj hoj hji hjun hnot) (fun cs b=>hsel i oi cs b hi) (fun cs b=>hsel j oj cs b hoj) hQ hy h1
     have hfree':∀ k ok,ops[k]?=some ok→k≠i→(listed.setIfInBounds j true).getD k true=false →
      (∀ e∈ok.after,Region.binds md e=true→e.on≠i)→oi.apart ops ok=true:=fun k ok hk hki hun hno=>by
      refine hfree k ok hk hki ?_ hno
      by_cases hjk:j=k
      · subst hjk;exact hjun
      · rw [getD_set_ne true hjk] at hun;exact hun
     have hjs:j≠sk:=fun e=>by
      subst e
      obtain ⟨e,he,hb,hon⟩:=waits_spec hsk hoj
      exact hnot e he hb hon
     refine wpOpIn_mono (fun a' w' h3=>⟨h3.2.1,ih (listed.setIfInBounds j true) a' w' hfree' (ready_mono hr (Ne.symm hji)) h3.1 (h3.2.1 hjs) ?_⟩) h2
     rw [Array.setIfInBounds_comm _ _ hji]
     exact h3.2.2
theorem takeH {i sk:Nat} {oi:Oper} {v:Value} {fuel:Nat} {listed:Array Bool} {a:Act} {w:World} (hnd:NoDefer ops) (hi:ops[i]?=some oi)
 (hs:Region.noSelect ops=true) (hf:Region.free md ops listed i=true) (hr:(Region.ready md ops listed).contains i=true)
 (hQ:∀ c a w,Q (.panic c) (a.put oi.dst v) w→Q (.panic c) a w) (hsk:waits md ops sk i=true) (hy:YieldsHIn P ops S oi v a) (hS:S w)
 (h:wpAnyHIn F n P md ops Q S sk fuel (listed.setIfInBounds i true) (a.put oi.dst v) w):wpAnyHIn F n P md ops Q S sk (fuel+1) listed a w :=
 wpAnyHIn_first hnd hi (Region.noSelect_spec hs) hQ hsk fuel listed a w (Region.free_spec hi hf) (by simpa using hr) hy hS h
theorem oneH {i sk:Nat} {o:Oper} {fuel:Nat} {listed:Array Bool} {a:Act} {w:World} (hr:Region.ready md ops listed=[i]) (ho:ops[i]?=some o)
 (h:∀ K:Act→World→Prop,Shut (∀ a w,(i≠sk→S w)→wpAnyHIn F n P md ops Q S sk fuel (listed.setIfInBounds i true) a w→K a w)→if Region.wanted o (yielded ops a.tmps)=true then Oper.wpIn F n P o a w K Q else (∀ f,o.about P w a.eval=some f→F.fn f)∧K (a.put o.dst undef) w) :
 wpAnyHIn F n P md ops Q S sk (fuel+1) listed a w :=
 ⟨fun h0=>(by rw [hr] at h0;cases h0),fun j hj=>by
   rw [hr] at hj
   obtain rfl:j=i:=by simpa using hj
   exact wpOpIn_step ho (fun K' hK=>h K' (fun a w hS hW=>hK a w ⟨hS,hW⟩))⟩
theorem doneH {sk:Nat} {listed:Array Bool} {a:Act} {w:World} (hr:Region.ready md ops listed=[]) (h:Q .normal a w) :
 ∀ fuel,wpAnyHIn F n P md ops Q S sk fuel listed a w
 | 0=>⟨hr,h⟩
 | _+1=>⟨fun _=>h,by rw [hr];simp⟩
theorem startH (sk:Nat) {id:Nat} {a:Act} {w:World} (hm:P.follows .mixedOrders=true)
 (h:wpAnyHIn F n P .any ops Q S sk ops.size (Array.replicate ops.size false) a w.drew):(Code.region id ops true).wpIn F n P Q a w :=
 wpIn_region_any hm (wpAnyIn_of_held _ _ _ _ h)
end
end
end Go.Proofs.YtfljlmleiggmjaaGreatDoor
