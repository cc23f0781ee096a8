/- ServeFacts -/
import Derived.Test.YthnenedoblncjaaGreatDoorPkR08
import Derived.Test.YthnenedoblncjaaGreatDoorPkR39
set_option maxRecDepth 1000000
set_option maxHeartbeats 8000000
namespace Go.Proofs.YthnenedoblncjaaGreatDoor
section
open Go.RowKit Go.Shelf
theorem zfy(x:Gd):Oq (cg x)=x:=rfl
theorem iw(l:List Gd):(l.map cg).map Oq=l:=by
 rw [List.map_map];exact (List.map_congr_left fun x _=>zfy x).trans (List.map_id l)
theorem kP{q:Rq}(h:∀ x∈q.qs,Ua x.2):∀ r∈(XW q).recs,Ua r.2:=by
 intro r hr;unfold XW at hr;split at hr
 · unfold YO at hr;split at hr
   · simp [Wv] at hr
   · dsimp only at hr;have:=QH (q.gs.map cg) h r ((WU Y9 _).mem_iff.1 hr);rcases this with ⟨_,h1,h2⟩|h1
     · exact ⟨h1,h2⟩
     · rw [h1];exact ⟨by decide,by decide⟩
 · simp at hr
theorem lQ{bs:List Int}(hby:By bs)(hc:Y7 bs=0):
 ∃ val cnt recs t,YE bs=0::val::t/\0<=val/\val<=3/\hread (ZW bs).1.op (ZW bs).1.vs (ZW bs).1.rs (ZW bs).1.ZY (YE bs)=(⟨val,cnt,recs⟩,0)/\((YE bs).length:Int)=Qi (ZW bs).1.op (ZW bs).1.vs (ZW bs).1.rs (ZW bs).1.ZY/\ZM (ZW bs).1.op (ZW bs).1.vs (ZW bs).1.rs (ZW bs).1.ZY=0/\(YE bs).length<=100000/\By (YE bs)/\(ZW bs).1.rs.length<=maxLen:=by
 have hd:Zr bs=(Um (ZW bs).1 (bs.drop (ZW bs).2.1.toNat),0):=by unfold Zr;rw [if_pos hc]
 obtain ⟨q,hq⟩:=eE (Um (ZW bs).1 (bs.drop (ZW bs).2.1.toNat));have hh:q.h=(ZW bs).1:=by rw [hq];rfl
 rw [<- hq] at hd;rw [<- hh];obtain ⟨_,dj2,_,z⟩:=Gs hby hd
 have hn:∀ g∈q.gs.map cg,g.1.n=g.2.length:=fun g hg=>by
  obtain ⟨x,_,rfl⟩:=List.mem_map.1 hg;rfl
 have he:=tV hby hd (hrs:=q.h.rs) (gs:=q.gs.map cg) rfl (iw _) hn;obtain ⟨_,_,k3,k4⟩:=GR (q:=q) (by rw [he]) hn (fun x hx=>(dj2 x hx).2) rfl (iw _).symm rfl rfl;obtain ⟨_,_,_,_,z5,z6,hp5,hpn,_⟩:=ZA z;have hp0:0<=q.h.ZY/\q.h.ZY<=4096/\(q.h.op≠5->q.h.ZY=0):=by
  by_cases h5:q.h.op=5
  · have:=hp5 h5;omega
  · have:=hpn h5;omega
 have hrl:q.h.rs.length<=64:=by
  by_cases h4:4<=q.h.op
  · exact (z5 h4).2.1
  · rw [z6 (by omega)];simp
 obtain ⟨v0,v3,hl,c0,c1,_⟩:=Tc k3 hp0.1;have hs:YE bs=Zn q.h.op (XW q).val (XW q).cnt (XW q).recs:=by unfold YE;rw [hd,if_neg (by simp)]
 have hlen:=Oe q.h.op (XW q).val (XW q).cnt (XW q).recs;have hrd:=FH z k3 (kP fun x hx=>(dj2 x hx).2);obtain ⟨t,ht⟩:∃ t,Zn q.h.op (XW q).val (XW q).cnt (XW q).recs=0::(XW q).val::t:=⟨_,rfl⟩;rw [hs];refine ⟨(XW q).val,(XW q).cnt,(XW q).recs,t,ht,v0,v3,hrd,?_,z,?_,Ag v0 v3 c0 (by omega),by unfold maxLen;omega⟩
 · rw [hlen];unfold Qi;rw [if_pos z]
   by_cases h5:q.h.op=5
   · rw [if_pos h5,if_pos h5];push_cast;omega
   · rw [if_neg h5,if_neg h5];have:=hp0.2.2 h5;push_cast;omega
 · rw [hlen];split <;> omega
theorem rM{bs:List Int}(hc:Y7 bs≠0):YE bs=[Y7 bs]:=by
 have hd:Zr bs=(XM,Y7 bs):=by unfold Zr;rw [if_neg hc]
 unfold YE;rw [hd,if_pos hc]
end
end Go.Proofs.YthnenedoblncjaaGreatDoor