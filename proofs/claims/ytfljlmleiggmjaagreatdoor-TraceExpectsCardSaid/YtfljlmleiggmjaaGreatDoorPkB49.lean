/- RefEv20 RefEv20B EvApp2 -/
import Derived.Laws.Externs
import Derived.Shelf.Bits.Mul64
import Derived.Shelf.Spec.BitsCarry
import Derived.Test.YtfljlmleiggmjaaGreatDoorPkB38
import Derived.Test.YtfljlmleiggmjaaGreatDoorPkB40
import Derived.Test.YtfljlmleiggmjaaGreatDoorPkB43
set_option maxRecDepth 1000000
set_option maxHeartbeats 8000000
namespace Go.Proofs.YtfljlmleiggmjaaGreatDoor
section
open Go.RowKit Go.Shelf
theorem cntEv_snoc (k:Nat):cntEv (k+1)=cntEv k++[(1,(k:Int),0)]:=by
 unfold cntEv
 rw [List.range_succ,List.map_append]
 rfl
theorem rcntEv11 (n:Nat) (hn:n≤4096) (w:World):Calls Tryz.prog 110 #[.int .i64 1,.int .i64 (n:Int)] w (Evo (cntEv n) w):=by
 obtain ⟨i0,hi,hz0,hz1,hz2⟩:=info_parts ev_info
 go_enter Tryz.func110,Tryz.ntmps110
 go_wp2
 go_loopw [5,6] (fun o i wr=>∃ k:Nat,k≤n∧i=.int .i64 (k:Int)∧wr.ownsRow w.heap.size 66 3 o k (evCs (cntEv k))∧Below w.heap.size w wr)
  (fun _ i _=>n - (intOf i).toNat)
 case atStart=>exact ⟨0,Nat.zero_le _,rfl,World.ownsRow_nil _ _ _ _,Below.refl _ _⟩
 case round =>
  obtain ⟨k,hk,rfl,hown,hbr⟩:=hrel
  obtain ⟨OA,oc,rfl,hoc⟩:=own_slice hown
  by_cases hkn:k<n
  · have hki:(k:Int)<(n:Int):=by omega
    have hbz:=bl_alloc (Below.refl wr.heap.size wr) (.cells #[.int .i64 1,.int .i64 (k:Int),.int .i64 0] 66)
    have N6:=Blk.new wr 66 #[.int .i64 1,.int .i64 (k:Int),.int .i64 0]
    have hownx:=own_step hown hbz
    have hwx:=bl_step hbr hbz
    obtain ⟨g7,cap7,w7,hrun,hown7,hgrow7,_,_⟩:=run_append_lies (P:=Tryz.prog) (wr.alloc (.cells #[.int .i64 1,.int .i64 (k:Int),.int .i64 0] 66)) 27 27 w.heap.size 66 i0 (.agg #[.int .i64 0,.int .i64 0,.int .i64 0]) 3 24 Tryz.underlying27 hi hz0 hz1 hz2 rfl (by decide) _ k (evCs (cntEv k)) hownx ⟨wr.heap.size,0,none⟩ 1 1 [.int .i64 1,.int .i64 (k:Int),.int .i64 0] rfl (fun j u hu=>by rw [add_zero_off];exact N6.cell (by simpa using hu)) (by simp [Value.oneCell']) (by omega) (by unfold maxLen;omega) (by omega) hwx.size _ rfl
    have hw7:Below w.heap.size w w7:=hwx.grown hgrow7 hwx.size (fun j hj=>own_base hownx hj)
    have HO7:Hid (w7.ownsRow w.heap.size 66 3 (.slice (some ⟨g7,0,none⟩) (k+1) cap7) (k+1) (evCs (cntEv (k+1)))):=hide (by rw [cntEv_snoc,evCs_snoc];exact hown7)
    clear hown7 hgrow7 N6 hownx hwx hbz hown hbr
    go_wp2_with (at_builtin;refine wpList_append_run (.tmp 12) (.tmp 16) 27 rfl rfl _ _ rfl rfl hrun ?_)
    clear hrun
    go_wp2
    go_roundw
    case rel=>exact ⟨k+1,by omega,by go_num,HO7.out,hw7⟩
    case measure=>simp [intOf];omega
  · obtain rfl:k=n:=by omega
    have hki:¬ (k:Int)<(k:Int):=by omega
    go_wp2
    go_ret
    exact ⟨_,rfl,by rw [cntEv_len];exact hown,hbr⟩
end
section
open Go.RowKit Go.Shelf
theorem own_le {w:World} {base base':Nat} {e:TypeId} {size n:Nat} {v:Value} {xs:List Value} (h:w.ownsRow base e size v n xs) (hb:base'≤base):w.ownsRow base' e size v n xs :=
 ⟨h.1,h.2.imp id fun ⟨g,cap,cur,a,b,r⟩=>⟨g,cap,cur,a,Nat.le_trans hb b,r⟩⟩
theorem lg_small:∀ n:Fin 101,lg n.val≤7∧∀ s:Fin 8,s.val<lg n.val→2 ^ s.val<n.val:=by decide +kernel
theorem pairEv_snocR (cs:List (Nat × Nat)) (c:Nat × Nat):pairEv (cs++[c])=pairEv cs++[(3,(c.1:Int),(c.2:Int))]:=by simp [pairEv]
theorem prCs_get:∀ (l:List (Nat × Nat)) (t:Nat) (c:Nat × Nat),l[t]?=some c→(prCs l)[t*2]?=some (.int .i64 (c.1:Int))∧(prCs l)[t*2+1]?=some (.int .i64 (c.2:Int))
 | [],t,c,h=>by simp at h
 | x::l,0,c,h=>by
   cases h
   exact ⟨rfl,rfl⟩
 | x::l,t+1,c,h=>by
   have h2:=prCs_get l t c (by simpa using h)
   have e:prCs (x::l)=Value.int .i64 (x.1:Int)::Value.int .i64 (x.2:Int)::prCs l:=rfl
   rw [e,show (t+1)*2=t*2+1+1 by omega]
   exact h2
theorem rsortEv (n:Nat) (h1:1≤n) (h2:n≤100) (w:World):Calls Tryz.prog 111 #[.int .i64 (n:Int)] w (Evo (pairEv (netw (lg n))) w):=by
 obtain ⟨hl7,hlo⟩:=lg_small ⟨n,by omega⟩
 dsimp only at hl7 hlo
 have HSZ:=hide (rnsize12 n h1 (by omega) (fun s hs=>hlo ⟨s,by omega⟩ hs) w)
 have HCM:=hide (fun w=>rcomps12 (lg n) hl7 w)
 obtain ⟨m,hm⟩:∃ m,m=lg n:=⟨_,rfl⟩
 rw [← hm] at HSZ HCM hl7 ⊢
 have HNL:=hide (netw_len hl7)
 obtain ⟨P,hP⟩:∃ P,P=2 ^ m:=⟨_,rfl⟩
 rw [← hP] at HSZ HCM
 obtain ⟨C,hC⟩:∃ C,C=netw m:=⟨_,rfl⟩
 rw [← hC] at HCM HNL ⊢
 clear hm hlo hP hC
 obtain ⟨i0,hi,hz0,hz1,hz2⟩:=info_parts ev_info
 go_enter Tryz.func111,Tryz.ntmps111
 go_wp2_with fail
 refine HSZ.out.mono ?_
 rintro e w0 ⟨rfl,rfl⟩
 go_wp2_with fail
 refine (HCM.out _).mono ?_
 rintro e w1 ⟨v,rfl,hv,hb1⟩
 obtain ⟨CA,cc,rfl,hcc⟩:=own_slice hv
 have HSL:=hide (Sl.of_own hv)
 clear hv HSZ HCM
 go_wp2
 go_loopw [3,5] (fun o i wr=>∃ k:Nat,k≤C.length∧i=.int .i64 (k:Int)∧wr.ownsRow w1.heap.size 66 3 o k (evCs (pairEv (C.take k)))∧Below w1.heap.size w1 wr)
  (fun _ i _=>C.length - (intOf i).toNat)
 case atStart=>exact ⟨0,Nat.zero_le _,rfl,World.ownsRow_nil _ _ _ _,Below.refl _ _⟩
 case round =>
  obtain ⟨k,hk,rfl,hown,hbr⟩:=hrel
  obtain ⟨OA,oc,rfl,hoc⟩:=own_slice hown
  by_cases hkn:k<C.length
  · have hki:(k:Int)<(C.length:Int):=by omega
    obtain ⟨c,hc⟩:∃ c,C[k]?=some c:=⟨_,List.getElem?_eq_getElem hkn⟩
    obtain ⟨p0,p1⟩:=prCs_get C k c hc
    have hcl:(prCs C).length=C.length*2:=flat_length (fun c:Nat × Nat=>[Value.int .i64 (c.1:Int),.int .i64 (c.2:Int)]) 2 (fun _=>rfl) C
    obtain ⟨b,off,rfl,hb,hcc2⟩:=(HSL.out.below hbr).open_ (by omega)
    have c0:=hcc2 _ _ p0
    have c1:wr.cell? ⟨b,off+k*2+1,none⟩=some (.int .i64 (c.2:Int)):=hcc2 _ _ p1
    have hbl:=cell_lt c0
    have htk:pairEv (C.take (k+1))=pairEv (C.take k)++[(3,(c.1:Int),(c.2:Int))]:=by rw [List.take_add_one,hc];exact pairEv_snocR _ _
    have HTK:=hide htk
    have hk2:=HNL.out
    obtain ⟨ca,cb⟩:=c
    dsimp only at c0 c1 HTK
    clear p0 p1 hcc2 hc htk hcl
    have hbs:=hbr.size
    go_wp2
    go_region_law (first
     | (refine step_append_lies _ (by rfl) (.tmp 15) (.tmp 27) 27 (by rfl) w1.heap.size 66 i0 (.agg #[.int .i64 0,.int .i64 0,.int .i64 0]) 3 24 Tryz.underlying27 hi hz0 hz1 hz2 (by rfl) (by decide) (.slice OA k oc) k _ (by rfl) (own_step hown (bl_drew (bA))) ⟨wr.heap.size,0,none⟩ 1 1 [.int .i64 3,.int .i64 (ca:Int),.int .i64 (cb:Int)] (by rfl) (by rfl) (blk_cells (Blk.new _ _ _).drew) (by simp [Value.oneCell']) (by omega) (by unfold maxLen;omega) (by omega) (by simp;omega) (wr.heap.size+1) (by simp) ?_;intro g' cap w7 hown1 hgrow hat hlt')
     | go_simp)
    all_goals
     have hq:Below w1.heap.size w1 w7:=(bl_step hbr (bl_drew (bA))).grown hgrow (by simp;omega) (fun j hj=>own_base hown hj)
     go_wp2
     go_roundw
     case rel=>exact ⟨k+1,by omega,by go_num,by rw [HTK.out,evCs_snoc];exact hown1,hq⟩
     case measure=>simp [intOf];omega
  · obtain rfl:k=C.length:=by omega
    have hki:¬ (C.length:Int)<(C.length:Int):=by omega
    rw [List.take_length] at hown
    go_wp2
    go_ret
    exact ⟨_,rfl,by rw [pairEv_len];exact own_le hown hb1.size,bl_step hb1 hbr⟩
end
section
open Go.RowKit Go.Shelf
theorem ev_app_own (es1 es2:List Ev) (v1 v2:Value) (B B2:Nat) (w2:World) (h1:w2.ownsRow B 66 3 v1 es1.length (evCs es1)) (h2:w2.ownsRow B2 66 3 v2 es2.length (evCs es2)) (l1:es1.length≤2000000) (l2:es2.length≤2000000) (hB:B≤w2.heap.size) :
 ∃ v3 w3,(Builtin.append_ #[27,27] 27 #[v1,v2]).run Tryz.prog w2=.ok v3 w3∧w3.ownsRow B 66 3 v3 (es1++es2).length (evCs (es1++es2))∧∀ w:World,Below w.heap.size w w2→w.heap.size≤B→Below w.heap.size w w3:=by
 obtain ⟨i0,hi,hz0',hz1',hz2'⟩:=info_parts ev_info
 rcases h2.2 with ⟨rfl,h0⟩ | ⟨g2,cap2,cur,rfl,hb2,hh2,hc2,hm2,_⟩
 · have he:es2=[]:=List.eq_nil_of_length_eq_zero h0
   subst he
   rw [List.append_nil]
   exact ⟨v1,w2,run_append_owned_none (P:=Tryz.prog) w2 B 27 27 66 i0 3 Tryz.underlying27 hi _ _ _ h1,h1,fun w h _=>h⟩
 · have hcells:∀ j u,(evCs es2)[j]?=some u→w2.cell? ((⟨g2,0,none⟩:Addr).add j)=some u:=fun j u hu=>by
    have h:=Sl.of_own h2
    rcases h with h | ⟨b',off',hA,_,hc⟩
    · rw [h] at hu;simp at hu
    · cases hA
      have h2:=hc j u hu
      rw [Nat.zero_add] at h2
      rw [add_zero_off]
      exact h2
   obtain ⟨v3,w3,hrun,hown3,hgrow3,_⟩:=run_append_own (P:=Tryz.prog) w2 B 27 27 66 i0 (.agg #[.int .i64 0,.int .i64 0,.int .i64 0]) 3 24 Tryz.underlying27 hi hz0' hz1' hz2' rfl (by decide) v1 es1.length (evCs es1) h1 ⟨g2,0,none⟩ es2.length cap2 (evCs es2) (evCs_length es2) hcells (evCs_one es2) (by unfold maxLen;omega) (by omega) hB
   rw [← evCs_app,← List.length_append] at hown3
   exact ⟨v3,w3,hrun,hown3,fun w h hwB=>h.grown hgrow3 h.size (fun j hj=>Nat.le_trans hwB (own_base h1 hj))⟩
end
end Go.Proofs.YtfljlmleiggmjaaGreatDoor
