/- RefEvents19 -/
import Derived.Laws.Externs
import Derived.Shelf.Bits.Mul64
import Derived.Shelf.Spec.BitsCarry
import Derived.Test.YtfljlmleiggmjaaGreatDoorPkB42
set_option maxRecDepth 1000000
set_option maxHeartbeats 8000000
namespace Go.Proofs.YtfljlmleiggmjaaGreatDoor
open List (getElem_toArray getElem_cons_succ getElem_cons_zero setIfInBounds_toArray set_cons_zero set_cons_succ)
section
open Go.RowKit Go.Shelf
theorem wpIn_append_of {F:Fence} {n:Nat} {P:Program} {o:Oper} {a:Act} {w:World} {K:Act→World→Prop} {Q:Exit→Act→World→Prop} (s x:Operand) (t:TypeId)
 (hop:o.op=Op.call { callee:=Callee.builtin Builtin.append,args:=#[s,x],argTypes:=#[t,t] }) (v xv:Value) (hs:a.eval s=v) (hx:a.eval x=xv) {v':Value} {w':World}
 (hrun:(Builtin.append_ #[t,t] o.type #[v,xv]).run P w=.ok v' w') (hK:K (a.put o.dst v') w'):Oper.wpIn F n P o a w K Q:=by
 unfold Oper.wpIn
 refine ⟨by simp [Oper.about,hop,resolve,Target.leads,Sem.run_pure],?_⟩
 rw [Oper.semAt_plain F _ _ (by rw [hop];intro c hc';cases hc')]
 simp [execOp,hop,resolve,invoke,builtin,hs,hx,hrun,Result.andThen]
 exact hK
theorem revents_any (op vs pts:Int) (hrs:List Rg) (HA:Option Addr) (hc:Nat) (w:World) (hh:Sl w w.heap.size HA (rgCells hrs)) (h3:op=3→3≤vs∧vs≤64) (h4:op=4→1≤hrs.length∧hrs.length≤64∧∀ r∈hrs,r.v=0∨3≤r.v∧r.v≤64) :
 Calls Tryz.prog 66 #[.agg #[.int .i64 op,.int .i64 vs,.slice HA hrs.length hc,.int .i64 pts]] w (Evs (evH op vs hrs) w):=by
 obtain ⟨i0,hi,hz0',hz1',hz2'⟩:=info_parts ev_info
 have hmix:Tryz.prog.follows .mixedOrders=true:=by kernel_rfl
 obtain ⟨w0,hw0⟩:∃ w0,w0=w.alloc (.cells #[.int .i64 op,.int .i64 vs,.slice HA hrs.length hc,.int .i64 pts] 24):=⟨_,rfl⟩
 have hb0:Below w.heap.size w w0:=by rw [hw0];exact bA
 have B0:Blk w0 w.heap.size 24 #[.int .i64 op,.int .i64 vs,.slice HA hrs.length hc,.int .i64 pts]:=by rw [hw0];exact Blk.new _ _ _
 by_cases o3:op=3
 · obtain ⟨hv3,hv64⟩:=h3 o3
   subst o3
   have hE:evH 3 vs hrs=vEv vs.toNat (List.range (edgeN vs.toNat))++locEv (List.range (edgeN vs.toNat)):=rfl
   rw [hE]
   have HC1:=hide (fun (w':World) (_:Below w0.drew.heap.size w0.drew w')=>rvalEv_any vs w')
   have HC2:=hide (fun (w':World) (_:Below w0.drew.heap.size w0.drew w')=>rlocEv_any vs w')
   have hp:=locEv_pos hv3 hv64
   have hl1:=hvEv1_length vs
   unfold hvEv1 at hl1
   rw [if_neg (by omega)] at hl1
   have hl2:=hmEv1_length vs
   unfold hmEv1 at hl2
   rw [if_neg (by omega)] at hl2
   obtain ⟨es1,he1⟩:∃ es1,es1=vEv vs.toNat (List.range (edgeN vs.toNat)):=⟨_,rfl⟩
   obtain ⟨es2,he2⟩:∃ es2,es2=locEv (List.range (edgeN vs.toNat)):=⟨_,rfl⟩
   rw [← he1] at HC1 hl1
   rw [← he2] at HC2 hp hl2
   rw [← he1,← he2]
   have HPOS:=hide hp
   have HL1:Hid (es1.length≤262208):=hide (by omega)
   have HL2:Hid (es2.length≤262208):=hide (by omega)
   clear he1 he2 hE h3 h4 hh hp hl1 hl2 hv3 hv64
   refine (callsIn_wide (n:=6)).1 ?_
   refine callsIn_of_wp Tryz.func66 rfl trivial ?_ rfl
   simp only [Tryz.ntmps66,List.size_toArray,List.length_cons,List.length_nil,Nat.reduceAdd,Nat.reduceSub,Array.replicate_succ,Array.replicate_zero,List.push_toArray,List.append_toArray,List.nil_append,List.cons_append]
   gi_wp2_with fail
   rw [← hw0]
   clear hw0
   have hS:Blk w0.drew w.heap.size 24 #[.int .i64 3,.int .i64 vs,.slice HA hrs.length hc,.int .i64 pts]:=B0.drew
   refine startH 1000 (S:=fun w'=>Blk w' w.heap.size 24 #[.int .i64 3,.int .i64 vs,.slice HA hrs.length hc,.int .i64 pts]) hmix ?_
   refine' takeH (i:=0) (v:=_) (noDefer_of (by kernel_rfl)) rfl (by kernel_rfl) (by kernel_rfl) (by kernel_rfl) (fun _ _ _ h=>h) (by kernel_rfl) ⟨Or.inl ⟨by rfl,?hy0k1⟩,fun _=>rfl⟩ hS ?rest0k1
   case hy0k1 =>
    intro w' hSw
    go_simp
    rfl
   simp only [Act.put,getElem_toArray,getElem_cons_zero,setIfInBounds_toArray,set_cons_zero,set_cons_succ]
   refine' takeH (i:=1) (v:=_) (noDefer_of (by kernel_rfl)) rfl (by kernel_rfl) (by kernel_rfl) (by kernel_rfl) (fun _ _ _ h=>h) (by kernel_rfl) ⟨Or.inl ⟨by rfl,?hy1k2⟩,fun _=>rfl⟩ hS ?rest1k2
   case hy1k2 =>
    intro w' hSw
    have z0:w'.cell? ⟨w.heap.size,1,none⟩=some (.int .i64 vs):=hSw.cell (i:=1) rfl
    go_simp
    rfl
   simp only [Act.put,getElem_toArray,getElem_cons_succ,getElem_cons_zero,setIfInBounds_toArray,set_cons_zero,set_cons_succ]
   refine' takeH (i:=3) (v:=_) (noDefer_of (by kernel_rfl)) rfl (by kernel_rfl) (by kernel_rfl) (by kernel_rfl) (fun _ _ _ h=>h) (by kernel_rfl) ⟨Or.inl ⟨by rfl,?hy3k3⟩,fun _=>rfl⟩ hS ?rest3k3
   case hy3k3 =>
    intro w' hSw
    go_simp
    rfl
   simp only [Act.put,getElem_toArray,getElem_cons_succ,getElem_cons_zero,setIfInBounds_toArray,set_cons_zero,set_cons_succ]
   refine' takeH (i:=4) (v:=_) (noDefer_of (by kernel_rfl)) rfl (by kernel_rfl) (by kernel_rfl) (by kernel_rfl) (fun _ _ _ h=>h) (by kernel_rfl) ⟨Or.inl ⟨by rfl,?hy4k4⟩,fun _=>rfl⟩ hS ?rest4k4
   case hy4k4 =>
    intro w' hSw
    have z0:w'.cell? ⟨w.heap.size,1,none⟩=some (.int .i64 vs):=hSw.cell (i:=1) rfl
    go_simp
    rfl
   simp only [Act.put,getElem_toArray,getElem_cons_succ,getElem_cons_zero,setIfInBounds_toArray,set_cons_zero,set_cons_succ]
   refine oneH (i:=2) (by kernel_rfl) rfl ?_
   intro K hK
   rw [if_pos (by rfl)]
   go_simp
   refine ⟨trivial,?_⟩
   refine (callsIn_wide.2 (HC1.out w0.drew (Below.refl _ _))).mono ?_
   rintro e w1 ⟨v1,rfl,hown1,hb1⟩
   have hS1:=hS.step hb1
   refine hK.out _ _ (fun _=>hS1) ?_
   clear hK K
   (try simp only [Act.put,getElem_toArray,getElem_cons_succ,getElem_cons_zero,setIfInBounds_toArray,set_cons_zero,set_cons_succ])
   refine oneH (i:=5) (by kernel_rfl) rfl ?_
   intro K hK
   rw [if_pos (by rfl)]
   go_simp
   refine ⟨trivial,?_⟩
   refine (callsIn_wide.2 (HC2.out w1 hb1)).mono ?_
   rintro e w2 ⟨v2,rfl,hown2,hb2⟩
   have hS2:=hS1.step hb2
   refine hK.out _ _ (fun _=>hS2) ?_
   clear hK K
   have hown1':=own_step hown1 hb2
   have HB2:=bl_step (bl_step (bl_drew hb0) hb1) hb2
   have hz:w.heap.size≤w2.heap.size:=HB2.size
   have hz1:w0.drew.heap.size≤w2.heap.size:=Nat.le_trans hb1.size hb2.size
   have hz0:w.heap.size≤w0.heap.size:=hb0.size
   obtain ⟨g2,cap2,rfl,hg2,hgl2,_⟩:=own_form hown2 HPOS.out
   have hcells:∀ j u,(evCs es2)[j]?=some u→w2.cell? ((⟨g2,0,none⟩:Addr).add j)=some u:=fun j u hu=>by
    have h:=Sl.of_own hown2
    rcases h with h | ⟨b',off',hA,_,hc⟩
    · rw [h] at hu;simp at hu
    · cases hA
      have h2:=hc j u hu
      rw [Nat.zero_add] at h2
      rw [add_zero_off]
      exact h2
   obtain ⟨v3,w3,hrun,hown3,hgrow3,_⟩:=run_append_own (P:=Tryz.prog) w2 w0.drew.heap.size 27 27 66 i0 (.agg #[.int .i64 0,.int .i64 0,.int .i64 0]) 3 24 Tryz.underlying27 hi hz0' hz1' hz2' rfl (by decide) v1 es1.length (evCs es1) hown1' ⟨g2,0,none⟩ es2.length cap2 (evCs es2) (evCs_length es2) hcells (evCs_one es2) (by have h1:=HL1.out;have h2:=HL2.out;unfold maxLen;omega) (by have h1:=HL1.out;have h2:=HL2.out;omega) hz1
   have hb3:Below w.heap.size w w3:=HB2.grown hgrow3 hz (fun j hj=>Nat.le_trans hz0 (own_base hown1' hj))
   have hS3:Blk w3 w.heap.size 24 #[.int .i64 3,.int .i64 vs,.slice HA hrs.length hc,.int .i64 pts]:=hS2.grown hgrow3 (fun e=>by have h1:=own_base hown1' e.symm;have h2:=B0.lt;have h3:w0.drew.heap.size=w0.heap.size:=rfl;omega)
   clear hcells hown1 hown2
   (try simp only [Act.put,getElem_toArray,getElem_cons_succ,getElem_cons_zero,setIfInBounds_toArray,set_cons_zero,set_cons_succ])
   refine oneH (i:=6) (by kernel_rfl) rfl ?_
   intro K hK
   rw [if_pos (by rfl)]
   refine wpIn_append_of (.tmp 9) (.tmp 12) 27 rfl v1 (.slice (some ⟨g2,0,none⟩) es2.length cap2) rfl rfl hrun ?_
   refine hK.out _ _ (fun _=>hS3) ?_
   clear hK K
   (try simp only [Act.put,getElem_toArray,getElem_cons_succ,getElem_cons_zero,setIfInBounds_toArray,set_cons_zero,set_cons_succ])
   refine' takeH (i:=7) (v:=_) (noDefer_of (by kernel_rfl)) rfl (by kernel_rfl) (by kernel_rfl) (by kernel_rfl) (fun _ _ _ h=>h) (by kernel_rfl) ⟨Or.inl ⟨by rfl,?hy7k5⟩,fun _=>rfl⟩ hS3 ?rest7k5
   case hy7k5 =>
    intro w' hSw
    go_simp
    rfl
   simp only [Act.put,getElem_toArray,getElem_cons_succ,getElem_cons_zero,setIfInBounds_toArray,set_cons_zero,set_cons_succ]
   refine doneH (by kernel_rfl) ?_ _
   have HFIN:Hid (∃ A c,v3=.slice A (es1++es2).length c∧Sl w3 w3.heap.size A (evCs (es1++es2))):=by
    rw [← evCs_app,← List.length_append] at hown3
    obtain ⟨A3,c3,rfl,_⟩:=own_slice hown3
    exact ⟨A3,c3,rfl,Sl.of_own hown3⟩
   obtain ⟨A3,c3,rfl,hsl3⟩:=HFIN.out
   have HS3:=hide hsl3
   clear hsl3 hown3 hgrow3 hrun HFIN
   gi_wp2
   go_ret
   exact ⟨A3,c3,rfl,HS3.out,hb3⟩
 · by_cases o4:op=4
   · obtain ⟨hn1,hn64,hv⟩:=h4 o4
     subst o4
     have hE:evH 4 vs hrs=hvEv 0 hrs++hmEv 0 hrs:=rfl
     rw [hE]
     have HH:=hide hh
     have HC1:=hide (fun (w':World) (h:Below w0.drew.heap.size w0.drew w')=>rhvEv_any hrs HA hc w' ((HH.out.below (bl_step (bl_drew hb0) h)).more (bl_step (bl_drew hb0) h).size) hn64 hv)
     have HC2:=hide (fun (w':World) (h:Below w0.drew.heap.size w0.drew w')=>rhmEv_any hrs HA hc w' ((HH.out.below (bl_step (bl_drew hb0) h)).more (bl_step (bl_drew hb0) h).size) hn64 hv)
     have hl1:=hvEv_length 0 hrs
     have hl2:=hmEv_length 0 hrs
     have hp:0<(hmEv 0 hrs).length:=by
      cases hrs with
      | nil=>simp at hn1
      | cons r rs=>simp [hmEv]
     obtain ⟨es1,he1⟩:∃ es1,es1=hvEv 0 hrs:=⟨_,rfl⟩
     obtain ⟨es2,he2⟩:∃ es2,es2=hmEv 0 hrs:=⟨_,rfl⟩
     rw [← he1] at HC1 hl1
     rw [← he2] at HC2 hp hl2
     rw [← he1,← he2]
     have HPOS:=hide hp
     have HL1:Hid (es1.length≤262208):=hide (by omega)
     have HL2:Hid (es2.length≤262208):=hide (by omega)
     clear he1 he2 hE h3 h4 hh hp hl1 hl2 hn1 hn64 hv o3
     refine (callsIn_wide (n:=6)).1 ?_
     refine callsIn_of_wp Tryz.func66 rfl trivial ?_ rfl
     simp only [Tryz.ntmps66,List.size_toArray,List.length_cons,List.length_nil,Nat.reduceAdd,Nat.reduceSub,Array.replicate_succ,Array.replicate_zero,List.push_toArray,List.append_toArray,List.nil_append,List.cons_append]
     gi_wp2_with fail
     rw [← hw0]
     clear hw0
     have hS:Blk w0.drew w.heap.size 24 #[.int .i64 4,.int .i64 vs,.slice HA hrs.length hc,.int .i64 pts]:=B0.drew
     refine startH 1000 (S:=fun w'=>Blk w' w.heap.size 24 #[.int .i64 4,.int .i64 vs,.slice HA hrs.length hc,.int .i64 pts]) hmix ?_
     refine' takeH (i:=0) (v:=_) (noDefer_of (by kernel_rfl)) rfl (by kernel_rfl) (by kernel_rfl) (by kernel_rfl) (fun _ _ _ h=>h) (by kernel_rfl) ⟨Or.inl ⟨by rfl,?hy0k6⟩,fun _=>rfl⟩ hS ?rest0k6
     case hy0k6 =>
      intro w' hSw
      go_simp
      rfl
     simp only [Act.put,getElem_toArray,getElem_cons_zero,setIfInBounds_toArray,set_cons_zero,set_cons_succ]
     refine' takeH (i:=1) (v:=_) (noDefer_of (by kernel_rfl)) rfl (by kernel_rfl) (by kernel_rfl) (by kernel_rfl) (fun _ _ _ h=>h) (by kernel_rfl) ⟨Or.inl ⟨by rfl,?hy1k7⟩,fun _=>rfl⟩ hS ?rest1k7
     case hy1k7 =>
      intro w' hSw
      have z0:w'.cell? ⟨w.heap.size,2,none⟩=some (.slice HA hrs.length hc):=hSw.cell (i:=2) rfl
      go_simp
      rfl
     simp only [Act.put,getElem_toArray,getElem_cons_succ,getElem_cons_zero,setIfInBounds_toArray,set_cons_zero,set_cons_succ]
     refine' takeH (i:=3) (v:=_) (noDefer_of (by kernel_rfl)) rfl (by kernel_rfl) (by kernel_rfl) (by kernel_rfl) (fun _ _ _ h=>h) (by kernel_rfl) ⟨Or.inl ⟨by rfl,?hy3k8⟩,fun _=>rfl⟩ hS ?rest3k8
     case hy3k8 =>
      intro w' hSw
      go_simp
      rfl
     simp only [Act.put,getElem_toArray,getElem_cons_succ,getElem_cons_zero,setIfInBounds_toArray,set_cons_zero,set_cons_succ]
     refine' takeH (i:=4) (v:=_) (noDefer_of (by kernel_rfl)) rfl (by kernel_rfl) (by kernel_rfl) (by kernel_rfl) (fun _ _ _ h=>h) (by kernel_rfl) ⟨Or.inl ⟨by rfl,?hy4k9⟩,fun _=>rfl⟩ hS ?rest4k9
     case hy4k9 =>
      intro w' hSw
      have z0:w'.cell? ⟨w.heap.size,2,none⟩=some (.slice HA hrs.length hc):=hSw.cell (i:=2) rfl
      go_simp
      rfl
     simp only [Act.put,getElem_toArray,getElem_cons_succ,getElem_cons_zero,setIfInBounds_toArray,set_cons_zero,set_cons_succ]
     refine oneH (i:=2) (by kernel_rfl) rfl ?_
     intro K hK
     rw [if_pos (by rfl)]
     go_simp
     refine ⟨trivial,?_⟩
     refine (callsIn_wide.2 (HC1.out w0.drew (Below.refl _ _))).mono ?_
     rintro e w1 ⟨v1,rfl,hown1,hb1⟩
     have hS1:=hS.step hb1
     refine hK.out _ _ (fun _=>hS1) ?_
     clear hK K
     (try simp only [Act.put,getElem_toArray,getElem_cons_succ,getElem_cons_zero,setIfInBounds_toArray,set_cons_zero,set_cons_succ])
     refine oneH (i:=5) (by kernel_rfl) rfl ?_
     intro K hK
     rw [if_pos (by rfl)]
     go_simp
     refine ⟨trivial,?_⟩
     refine (callsIn_wide.2 (HC2.out w1 hb1)).mono ?_
     rintro e w2 ⟨v2,rfl,hown2,hb2⟩
     have hS2:=hS1.step hb2
     refine hK.out _ _ (fun _=>hS2) ?_
     clear hK K
     have hown1':=own_step hown1 hb2
     have HB2:=bl_step (bl_step (bl_drew hb0) hb1) hb2
     have hz:w.heap.size≤w2.heap.size:=HB2.size
     have hz1:w0.drew.heap.size≤w2.heap.size:=Nat.le_trans hb1.size hb2.size
     have hz0:w.heap.size≤w0.heap.size:=hb0.size
     obtain ⟨g2,cap2,rfl,hg2,hgl2,_⟩:=own_form hown2 HPOS.out
     have hcells:∀ j u,(evCs es2)[j]?=some u→w2.cell? ((⟨g2,0,none⟩:Addr).add j)=some u:=fun j u hu=>by
      have h:=Sl.of_own hown2
      rcases h with h | ⟨b',off',hA,_,hc⟩
      · rw [h] at hu;simp at hu
      · cases hA
        have h2:=hc j u hu
        rw [Nat.zero_add] at h2
        rw [add_zero_off]
        exact h2
     obtain ⟨v3,w3,hrun,hown3,hgrow3,_⟩:=run_append_own (P:=Tryz.prog) w2 w0.drew.heap.size 27 27 66 i0 (.agg #[.int .i64 0,.int .i64 0,.int .i64 0]) 3 24 Tryz.underlying27 hi hz0' hz1' hz2' rfl (by decide) v1 es1.length (evCs es1) hown1' ⟨g2,0,none⟩ es2.length cap2 (evCs es2) (evCs_length es2) hcells (evCs_one es2) (by have h1:=HL1.out;have h2:=HL2.out;unfold maxLen;omega) (by have h1:=HL1.out;have h2:=HL2.out;omega) hz1
     have hb3:Below w.heap.size w w3:=HB2.grown hgrow3 hz (fun j hj=>Nat.le_trans hz0 (own_base hown1' hj))
     have hS3:Blk w3 w.heap.size 24 #[.int .i64 4,.int .i64 vs,.slice HA hrs.length hc,.int .i64 pts]:=hS2.grown hgrow3 (fun e=>by have h1:=own_base hown1' e.symm;have h2:=B0.lt;have h3:w0.drew.heap.size=w0.heap.size:=rfl;omega)
     clear hcells hown1 hown2
     (try simp only [Act.put,getElem_toArray,getElem_cons_succ,getElem_cons_zero,setIfInBounds_toArray,set_cons_zero,set_cons_succ])
     refine oneH (i:=6) (by kernel_rfl) rfl ?_
     intro K hK
     rw [if_pos (by rfl)]
     refine wpIn_append_of (.tmp 18) (.tmp 21) 27 rfl v1 (.slice (some ⟨g2,0,none⟩) es2.length cap2) rfl rfl hrun ?_
     refine hK.out _ _ (fun _=>hS3) ?_
     clear hK K
     (try simp only [Act.put,getElem_toArray,getElem_cons_succ,getElem_cons_zero,setIfInBounds_toArray,set_cons_zero,set_cons_succ])
     refine' takeH (i:=7) (v:=_) (noDefer_of (by kernel_rfl)) rfl (by kernel_rfl) (by kernel_rfl) (by kernel_rfl) (fun _ _ _ h=>h) (by kernel_rfl) ⟨Or.inl ⟨by rfl,?hy7k10⟩,fun _=>rfl⟩ hS3 ?rest7k10
     case hy7k10 =>
      intro w' hSw
      go_simp
      rfl
     simp only [Act.put,getElem_toArray,getElem_cons_succ,getElem_cons_zero,setIfInBounds_toArray,set_cons_zero,set_cons_succ]
     refine doneH (by kernel_rfl) ?_ _
     have HFIN:Hid (∃ A c,v3=.slice A (es1++es2).length c∧Sl w3 w3.heap.size A (evCs (es1++es2))):=by
      rw [← evCs_app,← List.length_append] at hown3
      obtain ⟨A3,c3,rfl,_⟩:=own_slice hown3
      exact ⟨A3,c3,rfl,Sl.of_own hown3⟩
     obtain ⟨A3,c3,rfl,hsl3⟩:=HFIN.out
     have HS3:=hide hsl3
     clear hsl3 hown3 hgrow3 hrun HFIN
     gi_wp2
     go_ret
     exact ⟨A3,c3,rfl,HS3.out,hb3⟩
   · have hE:evH op vs hrs=[]:=by unfold evH;rw [if_neg o3,if_neg o4]
     rw [hE]
     have e3:(op == 3)=false:=by simpa using o3
     have e4:(op == 4)=false:=by simpa using o4
     have b0:w0.cell? ⟨w.heap.size,0,none⟩=some (.int .i64 op):=B0.cell (i:=0) rfl
     rw [hw0] at b0 hb0
     clear hw0 B0 h3 h4 hh hE
     go_enter Tryz.func66,Tryz.ntmps66
     go_wp2
     go_ret
     exact ⟨none,0,rfl,.inl rfl,hb0⟩
end
end Go.Proofs.YtfljlmleiggmjaaGreatDoor
