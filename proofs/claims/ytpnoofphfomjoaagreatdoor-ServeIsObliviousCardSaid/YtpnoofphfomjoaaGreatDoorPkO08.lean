/- ObMath21 -/
import Derived.Test.YtpnoofphfomjoaaGreatDoorPkM43
import Derived.Test.YtpnoofphfomjoaaGreatDoorPkO06
import Derived.Test.YtpnoofphfomjoaaGreatDoorPkO07
set_option maxRecDepth 1000000
set_option maxHeartbeats 8000000
namespace Go.Proofs.YtpnoofphfomjoaaGreatDoor
section
open Go.RowKit
theorem bk_wrong (rs:List Rg):(rs.map rgBack).any wrongRg=rs.any wrongRg:=by rw [List.any_map];rfl
theorem bk_full (rs:List Rg):(rs.map rgBack).any fullRg=false:=by
 rw [List.any_eq_false]
 intro r hr
 obtain ⟨q,_,rfl⟩:=List.mem_map.1 hr
 simp [fullRg,rgBack]
theorem bk_size (rs:List Rg):sumSize (rs.map rgBack)=sumSize rs:=by
 unfold sumSize;rw [List.map_map];rfl
theorem bk_check {op vs pts:Int} {rs:List Rg} (h:hcheck op vs rs pts=0):hcheck op vs (rs.map rgBack) pts=0:=by
 have hf:=(hcheck_zero h).2.2.2.2.2.2.2.2
 unfold hcheck at h ⊢
 rw [bk_wrong,bk_full,List.length_map]
 rw [hf] at h
 exact h
theorem bk_pay {op vs pts:Int} {rs:List Rg} (h:hcheck op vs rs pts=0):hpay op vs (rs.map rgBack) pts=hpay op vs rs pts:=by
 unfold hpay
 rw [if_pos h,if_pos (bk_check h),bk_size]
theorem bk_resp {op vs pts:Int} {rs:List Rg} (h:hcheck op vs rs pts=0):hresp op vs (rs.map rgBack) pts=hresp op vs rs pts:=by
 unfold hresp
 rw [if_pos h,if_pos (bk_check h)]
theorem hclass_pay {op vs pts:Int} {rs:List Rg} (h:hcheck op vs rs pts=0) {pl:List Int} (hl:(pl.length:Int)=hpay op vs rs pts):hclass (fbytes op vs rs pts++pl)=0:=by
 unfold hclass
 rw [hparse_format h,if_pos rfl,List.length_append,bk_pay h,if_pos (by push_cast;omega)]
theorem ob_serve {op vs pts:Int} {rs:List Rg} (h:hcheck op vs rs pts=0) {pl:List Int} (hl:(pl.length:Int)=hpay op vs rs pts) (hb:By (fbytes op vs rs pts++pl)) (hp40:pts≤40) :
 serveEv (fbytes op vs rs pts++pl)=evH21 op vs (rs.map rgBack) pts∧((hserve (fbytes op vs rs pts++pl)).length:Int)=hresp op vs rs pts∧(hdecode (fbytes op vs rs pts++pl)).1.qs.length≤40:=by
 have hc:=hclass_pay h hl
 have hpf:=hparse_format h pl
 have h1:=serveEv_head hb hc
 obtain ⟨_,_,_,_,_,_,_,_,h2,_⟩:=serve_ok hb hc
 rw [hpf] at h1 h2
 dsimp only at h1 h2
 rw [bk_resp h] at h2
 refine ⟨h1.1,h2,?_⟩
 have h3:=h1.2.2
 unfold cntQ at h3
 split at h3 <;> omega
theorem FreshT.keep {w w':World} {u:Nat × Nat} {Q:Nat→Prop} (h:FreshT w (some u)) (hk:KeepP Q w w') (h1:Q u.1) (h2:Q u.2):FreshT w' (some u):=by
 obtain ⟨a,b⟩:=h
 refine ⟨a.kept hk h1,?_⟩
 obtain ⟨es',clock,hb,F,hs,hD⟩:=b
 exact ⟨es',clock,(hk.block u.2 h2).trans hb,F,hs,hD⟩
def plB (fs:List Int) (d:Int) (k:Nat):List Int:=(List.range k).map fun i=>fs.getD i d
theorem plB_succ (fs:List Int) (d:Int) (k:Nat):plB fs d (k+1)=plB fs d k++[fs.getD k d]:=by
 unfold plB
 rw [List.range_succ,List.map_append]
 rfl
theorem plB_len (fs:List Int) (d:Int) (k:Nat):(plB fs d k).length=k:=by unfold plB;rw [List.length_map,List.length_range]
theorem plB_by {fs:List Int} {d:Int} (h:By fs) (h0:0≤d) (h1:d≤255) (k:Nat):By (plB fs d k):=by
 intro x hx
 obtain ⟨i,_,rfl⟩:=List.mem_map.1 hx
 rw [List.getD_eq_getElem?_getD]
 cases hi:fs[i]? with
 | none=>exact ⟨h0,h1⟩
 | some y=>exact h y (List.mem_of_getElem? hi)
end
end Go.Proofs.YtpnoofphfomjoaaGreatDoor
