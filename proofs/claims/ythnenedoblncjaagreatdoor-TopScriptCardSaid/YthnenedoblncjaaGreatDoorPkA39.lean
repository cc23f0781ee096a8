/- ServeFacts -/
import Derived.BigQuiet
import Derived.Deep.QuietTactic
import Derived.Lib.SliceRun
import Derived.Test.YthnenedoblncjaaGreatDoorPkA09
import Derived.Test.YthnenedoblncjaaGreatDoorPkA38
set_option maxRecDepth 1000000
set_option maxHeartbeats 8000000
namespace Go.Proofs.YthnenedoblncjaaGreatDoor
section
open Go.RowKit Go.Shelf
theorem zsj(x:Gd):QM (cg x)=x:=rfl
theorem Ib(l:List Gd):(l.map cg).map QM=l:=by
 rw [List.map_map];exact (List.map_congr_left fun x _=>zsj x).trans (List.map_id l)
theorem vR{q:Rq}(h:∀ x∈q.qs,Vo x.2):∀ r∈(YA q).recs,Vo r.2:=by
 intro r hr;unfold YA at hr;split at hr
 · unfold YW at hr;split at hr
   · simp [Xk] at hr
   · dsimp only at hr;have:=Ui (q.gs.map cg) h r ((Xe Zm _).mem_iff.1 hr);rcases this with ⟨_,h1,h2⟩|h1
     · exact ⟨h1,h2⟩
     · rw [h1];exact ⟨by decide,by decide⟩
 · simp at hr
theorem wu{bs:List Int}(hby:By bs)(hc:YX bs=0):
 ∃ val cnt recs t,YZ bs=0::val::t/\0<=val/\val<=3/\hread (ZX bs).1.op (ZX bs).1.vs (ZX bs).1.rs (ZX bs).1.Z0 (YZ bs)=(⟨val,cnt,recs⟩,0)/\((YZ bs).length:Int)=Ra (ZX bs).1.op (ZX bs).1.vs (ZX bs).1.rs (ZX bs).1.Z0/\ZT (ZX bs).1.op (ZX bs).1.vs (ZX bs).1.rs (ZX bs).1.Z0=0/\(YZ bs).length<=100000/\By (YZ bs)/\(ZX bs).1.rs.length<=maxLen:=by
 have hd:Zr bs=(UF (ZX bs).1 (bs.drop (ZX bs).2.1.toNat),0):=by unfold Zr;rw [if_pos hc]
 obtain ⟨q,hq⟩:=eE (UF (ZX bs).1 (bs.drop (ZX bs).2.1.toNat));have hh:q.h=(ZX bs).1:=by rw [hq];rfl
 rw [<- hq] at hd;rw [<- hh];obtain ⟨_,Al,_,z⟩:=Ue hby hd
 have hn:∀ g∈q.gs.map cg,g.1.n=g.2.length:=fun g hg=>by
  obtain ⟨x,_,rfl⟩:=List.mem_map.1 hg;rfl
 have he:=MR hby hd (hrs:=q.h.rs) (gs:=q.gs.map cg) rfl (Ib _) hn;obtain ⟨_,_,k3,k4⟩:=RJ (q:=q) (by rw [he]) hn (fun x hx=>(Al x hx).2) rfl (Ib _).symm rfl rfl;obtain ⟨_,_,_,_,z5,z6,tO,hpn,_⟩:=Zu z;have hp0:0<=q.h.Z0/\q.h.Z0<=4096/\(q.h.op≠5->q.h.Z0=0):=by
  by_cases h5:q.h.op=5
  · have:=tO h5;omega
  · have:=hpn h5;omega
 have hrl:q.h.rs.length<=64:=by
  by_cases h4:4<=q.h.op
  · exact (z5 h4).2.1
  · rw [z6 (by omega)];simp
 obtain ⟨v0,v3,hl,c0,c1,_⟩:=VH k3 hp0.1;have hs:YZ bs=Zp q.h.op (YA q).val (YA q).cnt (YA q).recs:=by unfold YZ;rw [hd,if_neg (by simp)]
 have hlen:=PL q.h.op (YA q).val (YA q).cnt (YA q).recs;have hrd:=II z k3 (vR fun x hx=>(Al x hx).2);obtain ⟨t,ht⟩:∃ t,Zp q.h.op (YA q).val (YA q).cnt (YA q).recs=0::(YA q).val::t:=⟨_,rfl⟩;rw [hs];refine ⟨(YA q).val,(YA q).cnt,(YA q).recs,t,ht,v0,v3,hrd,?_,z,?_,EJ v0 v3 c0 (by omega),by unfold maxLen;omega⟩
 · rw [hlen];unfold Ra;rw [if_pos z]
   by_cases h5:q.h.op=5
   · rw [if_pos h5,if_pos h5];push_cast;omega
   · rw [if_neg h5,if_neg h5];have:=hp0.2.2 h5;push_cast;omega
 · rw [hlen];split <;> omega
theorem Kr{bs:List Int}(hc:YX bs≠0):YZ bs=[YX bs]:=by
 have hd:Zr bs=(Yx,YX bs):=by unfold Zr;rw [if_neg hc]
 unfold YZ;rw [hd,if_pos hc]
end
end Go.Proofs.YthnenedoblncjaaGreatDoor