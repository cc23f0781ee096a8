/- Sess SesAdd Env SesAddQ ScrClear ScrBatch ScrEnv -/
import Derived.BigQuiet
import Derived.ChangeAlike
import Derived.ChangeMaps
import Derived.Deep.QuietTactic
import Derived.Deep.RegionLaw
import Derived.Lib.Space
import Derived.Test.YthnenedoblncjaaGreatDoorPkP13
import Derived.Test.YthnenedoblncjaaGreatDoorPkP16
set_option maxRecDepth 1000000
set_option maxHeartbeats 8000000
namespace Go.Proofs.YthnenedoblncjaaGreatDoor
section
open Go.RowKit Go.Shelf
abbrev St:=List Gd × List ((Int × Int) × Int)
structure Ses (σ:St) (sb:Nat) (gs:List Gr) (vR vQ:Value) (Wr Rd:Nat→Prop) (X:World):Prop where
 data:gs.map gdOf=σ.1
 blk:Blk X sb 70 #[vR,vQ]
 rows:X.ownsRow 0 38 3 vR gs.length (rgCells (gs.map (·.1)))
 qrows:X.ownsRow 0 46 3 vQ σ.2.length (quCs σ.2)
 wb:Wr sb
 wr:∀ k,vR.ownBlock=some k→Wr k∧k≠sb
 wq:∀ k,vQ.ownBlock=some k→Wr k∧k≠sb
 rq:∀ k,vR.ownBlock=some k→vQ.ownBlock≠some k
 pts:∀ g∈gs,g.1.n=g.2.length∧SlP X Rd g.1.A (ptCs g.2)
 apart:∀ k,Rd k→¬ Wr k
 wlt:∀ k,Wr k→k<X.heap.size
 rlt:∀ k,Rd k→k<X.heap.size
 small:(∀ g∈gs,PsJ g.2∧g.2.length≤64)∧(∀ q∈σ.2,PJ q.1∧U64 q.2)∧gs.length≤64∧σ.2.length≤4096
def SesAt (σ:St) (sb:Nat) (Wr Rd:Nat→Prop) (X:World):Prop:=∃ gs vR vQ,Ses σ sb gs vR vQ Wr Rd X
theorem Ses.kept {σ:St} {sb:Nat} {gs:List Gr} {vR vQ:Value} {Wr Rd:Nat→Prop} {X Y:World} (h:Ses σ sb gs vR vQ Wr Rd X) (hk:KeepP (fun k=>Wr k∨Rd k) X Y):Ses σ sb gs vR vQ Wr Rd Y:=by
 have own:∀ {e:TypeId} {size n:Nat} {v:Value} {xs:List Value},X.ownsRow 0 e size v n xs→(∀ k,v.ownBlock=some k→Wr k∧k≠sb)→Y.ownsRow 0 e size v n xs:=fun {e size n v xs} ho hv=>by
  refine ⟨ho.1,?_⟩
  rcases ho.2 with h0 | ⟨g,cap,cur,h1,h2,h3,r⟩
  · exact .inl h0
  · exact .inr ⟨g,cap,cur,h1,h2,(hk.block g (.inl (hv g (by rw [h1];rfl)).1)).trans h3,r⟩
 exact ⟨h.data,(hk.block sb (.inl h.wb)).trans h.blk,own h.rows h.wr,own h.qrows h.wq,h.wb,h.wr,h.wq,h.rq,fun g hg=>⟨(h.pts g hg).1,(h.pts g hg).2.kept (hk.mono fun k hk=>.inr hk)⟩,h.apart,
  fun k hk'=>Nat.lt_of_lt_of_le (h.wlt k hk') hk.size,fun k hk'=>Nat.lt_of_lt_of_le (h.rlt k hk') hk.size,h.small⟩
theorem Ses.below {σ:St} {sb:Nat} {gs:List Gr} {vR vQ:Value} {Wr Rd:Nat→Prop} {X Y:World} (h:Ses σ sb gs vR vQ Wr Rd X) (hb:Below X.heap.size X Y):Ses σ sb gs vR vQ Wr Rd Y :=
 h.kept (KeepP.of_below hb fun k hk=>by rcases hk with hk | hk;exact h.wlt k hk;exact h.rlt k hk)
def Step (σ':St) (sb:Nat) (Wr Rd:Nat→Prop) (X Y:World):Prop :=
 ∃ Wr' Rd',SesAt σ' sb Wr' Rd' Y∧(∀ k,Wr' k→Wr k∨X.heap.size≤k)∧(∀ k,Rd' k→Rd k∨X.heap.size≤k)∧KeepP (fun k=>k<X.heap.size∧¬ Wr k) X Y
theorem Step.same {σ:St} {sb:Nat} {Wr Rd:Nat→Prop} {X Y:World} (h:SesAt σ sb Wr Rd X) (hb:Below X.heap.size X Y):Step σ sb Wr Rd X Y:=by
 obtain ⟨gs,vR,vQ,hs⟩:=h
 exact ⟨Wr,Rd,⟨gs,vR,vQ,hs.below hb⟩,fun _ h=>.inl h,fun _ h=>.inl h,KeepP.of_below hb fun k hk=>hk.1⟩
def Ans23 (r:List UInt8 × St) (sb:Nat) (Wr Rd:Nat→Prop) (X:World) (e:Ending) (Y:World):Prop:=e=.returned (.string (strOf r.1))∧Step r.2 sb Wr Rd X Y
end
section
open Go.RowKit Go.Shelf
section
variable {σ:St} {sb:Nat} {gs:List Gr} {vR vQ:Value} {Wr Rd:Nat→Prop} {w w2 w3:World}
theorem ses_keep (hb2:Below w.heap.size w w2) {v:Value} (hg:w2.grownBy w3 v.ownBlock) (i:Nat) (u:Value) :
 KeepP (fun k=>k<w.heap.size∧k≠sb∧v.ownBlock≠some k) w (w3.setCell ⟨sb,i,none⟩ u) :=
 ⟨hg.os.trans hb2.os,hg.tape.trans hb2.tape,hg.output.trans hb2.output,by rw [World.size_setCell];exact Nat.le_trans hb2.size hg.size,fun k hk =>
   (Below.heap_setCell w3 ⟨sb,i,none⟩ u k hk.2.1).trans ((hg.block k (Nat.lt_of_lt_of_le hk.1 hb2.size) (fun e=>hk.2.2 e.symm)).trans (hb2.block k hk.1))⟩
theorem own_keep {base:Nat} {e:TypeId} {size n:Nat} {v:Value} {xs:List Value} {P:Nat→Prop} {X Y:World} (ho:X.ownsRow base e size v n xs) (hk:KeepP P X Y) (hP:∀ k,v.ownBlock=some k→P k):Y.ownsRow base e size v n xs :=
 own_blk ho fun k e=>hk.block k (hP k e)
theorem ses_add (h:Ses σ sb gs vR vQ Wr Rd w) {w1:World} (hb1:Below w.heap.size w w1) {d:Bool} {v:Int} {ps:List Pt} {VA:Option Addr} {vc:Nat} (hown:w1.ownsRow w.heap.size 41 2 (.slice VA ps.length vc) ps.length (ptCs ps)) (hps:PsJ ps∧ps.length≤64) (hlen:gs.length<64)
 (hb2:Below w1.heap.size w1 w2) (hg:w2.grownBy w3 vR.ownBlock) {g' cap:Nat} (hrow:w3.ownsRow 0 38 3 (.slice (some ⟨g',0,none⟩) (gs.length+1) cap) (gs.length+1) (rgCells (gs.map (·.1))++[.bool d,.int .i64 v,.slice VA ps.length vc]))
 (hat:vR.ownBlock=some g'∨w2.heap.size≤g') (hlt:g'<w3.heap.size) :
 Step (σ.1++[(d,v,ps)],σ.2) sb Wr Rd w (w3.setCell ⟨sb,0,none⟩ (.slice (some ⟨g',0,none⟩) (gs.length+1) cap)):=by
 have hb12:=bl_step hb1 hb2
 have K:=ses_keep (sb:=sb) hb12 hg 0 (.slice (some ⟨g',0,none⟩) (gs.length+1) cap)
 have hz2:=hb12.size
 have hz12:=hb2.size
 have hz1:=hb1.size
 have hz3:=hg.size
 have gW:Wr g'∨w2.heap.size≤g':=by
  rcases hat with e | e
  · exact .inl (h.wr g' e).1
  · exact .inr e
 have gne:g'≠sb:=by
  rcases hat with e | e
  · exact (h.wr g' e).2
  · have:=h.wlt sb h.wb;omega
 have hvl:∀ k,(Value.slice VA ps.length vc).ownBlock=some k→w.heap.size≤k∧k<w1.heap.size:=fun k e=>⟨own_base hown e,own_lt' hown e⟩
 have hvg:∀ k,(Value.slice VA ps.length vc).ownBlock=some k→k≠g':=fun k e e'=>by
  have h1:=hvl k e
  rcases gW with h2 | h2
  · have:=h.wlt g' h2;omega
  · omega
 have hownY:(w3.setCell ⟨sb,0,none⟩ (.slice (some ⟨g',0,none⟩) (gs.length+1) cap)).ownsRow w.heap.size 41 2 (.slice VA ps.length vc) ps.length (ptCs ps):=by
  refine own_blk hown fun k e=>?_
  have h1:=hvl k e
  have h2:=h.wlt sb h.wb
  have h3:k≠sb:=by omega
  refine (Below.heap_setCell w3 ⟨sb,0,none⟩ _ k h3).trans ((hg.block k (by omega) fun e2=>?_).trans (hb2.block k h1.2))
  have:=h.wlt k (h.wr k e2.symm).1
  omega
 refine ⟨fun k=>Wr k∨k=g',fun k=>Rd k∨(Value.slice VA ps.length vc).ownBlock=some k,⟨gs++[(⟨d,v,VA,ps.length,vc⟩,ps)],.slice (some ⟨g',0,none⟩) (gs.length+1) cap,vQ,?_,?_,?_,?_,?_,?_,?_,?_,?_,?_,?_,?_,?_⟩,?_,?_,?_⟩
 · rw [List.map_append,h.data];rfl
 · have hB:Blk w3 sb 70 #[vR,vQ]:=((hg.block sb (Nat.lt_of_lt_of_le (h.wlt sb h.wb) hz2) (fun e=>(h.wr sb e.symm).2 rfl)).trans (hb12.block sb (h.wlt sb h.wb))).trans h.blk
   exact hB.set 0 _
 · have e1:rgCells ((gs++[((⟨d,v,VA,ps.length,vc⟩:Rg),ps)]).map (·.1))=rgCells (gs.map (·.1))++[.bool d,.int .i64 v,.slice VA ps.length vc]:=by
    rw [List.map_append];unfold rgCells;rw [List.flatMap_append];rfl
   rw [e1,List.length_append]
   exact own_set hrow (fun e=>gne (by injection e)) _
 · exact own_keep h.qrows K fun k e=>⟨h.wlt k (h.wq k e).1,(h.wq k e).2,fun e2=>h.rq k e2 e⟩
 · exact .inl h.wb
 · intro k e
   injection e with e
   exact ⟨.inr e.symm,fun e2=>gne (e.trans e2)⟩
 · exact fun k e=>⟨.inl (h.wq k e).1,(h.wq k e).2⟩
 · intro k e e2
   injection e with e
   have e:g'=k:=e
   subst e
   rcases hat with h3 | h3
   · exact h.rq _ h3 e2
   · have:=h.wlt _ (h.wq _ e2).1;omega
 · intro x hx
   rcases List.mem_append.1 hx with hx | hx
   · refine ⟨(h.pts x hx).1,((h.pts x hx).2.kept (K.mono fun k hk=>?_)).mono fun k hk=>.inl hk⟩
     refine ⟨h.rlt k hk,fun e=>h.apart k hk (by rw [e];exact h.wb),fun e=>h.apart k hk (h.wr k e).1⟩
   · obtain rfl:x=_:=List.mem_singleton.1 hx
     refine ⟨rfl,?_⟩
     dsimp only
     rcases hownY.2 with ⟨_,h0⟩ | ⟨b,c1,cur,e1,h1,h2,h3,h4,h5,h6⟩
     · obtain rfl:ps=[]:=List.length_eq_zero_iff.1 h0
       exact .inl rfl
     · injection e1 with e1 e2 e3
       subst e1
       exact .inr ⟨b,0,rfl,.inr rfl,fun j u hu=>by
        have:=Sl.of_own hownY
        rcases this with h7 | ⟨b',off',hA,_,hc⟩
        · rw [h7] at hu;cases hu
        · injection hA with hA
          injection hA with q1 q2 _
          subst q1;subst q2
          exact hc j u hu⟩
 · intro k hk hk2
   rcases hk with hk | hk
   · rcases hk2 with h2 | h2
     · exact h.apart k hk h2
     · subst h2
       rcases gW with h3 | h3
       · exact h.apart _ hk h3
       · have:=h.rlt _ hk;omega
   · rcases hk2 with h2 | h2
     · have:=h.wlt k h2;have:=(hvl k hk).1;omega
     · exact hvg k hk h2
 · intro k hk
   rw [World.size_setCell]
   rcases hk with hk | hk
   · have:=h.wlt k hk;omega
   · omega
 · intro k hk
   rw [World.size_setCell]
   rcases hk with hk | hk
   · have:=h.rlt k hk;omega
   · have:=hvl k hk;omega
 · refine ⟨fun x hx=>?_,h.small.2.1,by rw [List.length_append];exact hlen,h.small.2.2.2⟩
   rcases List.mem_append.1 hx with hx | hx
   · exact h.small.1 x hx
   · obtain rfl:x=_:=List.mem_singleton.1 hx
     exact hps
 · intro k hk
   rcases hk with hk | rfl
   · exact .inl hk
   · rcases gW with h3 | h3
     · exact .inl h3
     · exact .inr (by omega)
 · intro k hk
   rcases hk with hk | hk
   · exact .inl hk
   · exact .inr (hvl k hk).1
 · exact K.mono fun k hk=>⟨hk.1,fun e=>hk.2 (by rw [e];exact h.wb),fun e=>hk.2 (h.wr k e).1⟩
end
end
section
open Go.RowKit Go.Shelf
structure Tabs (w:World):Prop where
 fx:Fixed w∧9<w.heap.size
 mw:MW w
 pt : Lib.TabIs Tryz.prog w "internal/strconv.uint64pow10" .u64 Lib.pow10Tab
 sp : Lib.TabIs Tryz.prog w "strings.asciiSpace" .u8 Lib.asciiSpaceTab
def Env (B:Nat) (w:World):Prop:=B≤w.heap.size∧∀ w',Below B w w'→Tabs w'
theorem bl_trans {B:Nat} {w w' w'':World} (h:Below B w w') (k:Below B w' w''):Below B w w'' :=
 ⟨k.os.trans h.os,k.tape.trans h.tape,k.output.trans h.output,Nat.le_trans h.size k.size,fun j hj=>(k.block j hj).trans (h.block j hj)⟩
theorem bl_low {B C:Nat} {w w':World} (h:Below C w w') (hB:B≤C):Below B w w':=⟨h.os,h.tape,h.output,h.size,fun j hj=>h.block j (Nat.lt_of_lt_of_le hj hB)⟩
theorem Env.step {B:Nat} {w w':World} (h:Env B w) (hb:Below B w w'):Env B w':=⟨Nat.le_trans h.1 hb.size,fun w2 h2=>h.2 w2 (bl_trans hb h2)⟩
theorem Env.new {B:Nat} {w w':World} (h:Env B w) (hb:Below w.heap.size w w'):Env B w':=h.step (bl_low hb h.1)
theorem Env.tabs {B:Nat} {w:World} (h:Env B w):Tabs w:=h.2 w (Below.refl _ _)
theorem Env.pt {B:Nat} {w:World} (h:Env B w):PT w:=fun w' hb=>(h.2 w' (bl_low hb h.1)).pt
theorem Step.below {σ:St} {sb B:Nat} {Wr Rd:Nat→Prop} {X Y:World} (h:Step σ sb Wr Rd X Y) (hB:B≤X.heap.size) (hW:∀ k,Wr k→B≤k):Below B X Y:=by
 obtain ⟨_,_,_,_,_,k⟩:=h
 exact ⟨k.os,k.tape,k.output,k.size,fun j hj=>k.block j ⟨Nat.lt_of_lt_of_le hj hB,fun h=>by have:=hW j h;omega⟩⟩
theorem Step.after {σ:St} {sb:Nat} {Wr Rd:Nat→Prop} {X Y Z:World} (h:Step σ sb Wr Rd X Y) (hb:Below Y.heap.size Y Z):Step σ sb Wr Rd X Z:=by
 obtain ⟨Wr',Rd',⟨gs,vR,vQ,hs⟩,a,b,k⟩:=h
 exact ⟨Wr',Rd',⟨gs,vR,vQ,hs.below hb⟩,a,b,k.trans (KeepP.of_below hb fun j hj=>Nat.lt_of_lt_of_le hj.1 k.size)⟩
theorem Step.trans {σ σ':St} {sb:Nat} {Wr Rd:Nat→Prop} {X Y Z:World} (h:Step σ sb Wr Rd X Y) (k:∀ Wr' Rd',SesAt σ sb Wr' Rd' Y→Step σ' sb Wr' Rd' Y Z):Step σ' sb Wr Rd X Z:=by
 obtain ⟨Wr',Rd',hs,a,b,c⟩:=h
 obtain ⟨Wr2,Rd2,hs2,a2,b2,c2⟩:=k Wr' Rd' hs
 have hz:=c.size
 refine ⟨Wr2,Rd2,hs2,fun j hj=>?_,fun j hj=>?_,c.trans (c2.mono fun j hj=>⟨Nat.lt_of_lt_of_le hj.1 hz,fun h=>?_⟩)⟩
 · rcases a2 j hj with h | h
   · exact a j h
   · exact .inr (by omega)
 · rcases b2 j hj with h | h
   · exact b j h
   · exact .inr (by omega)
 · rcases a j h with h2 | h2
   · exact hj.2 h2
   · omega
end
section
open Go.RowKit Go.Shelf
theorem ses_addq {σ:St} {sb:Nat} {gs:List Gr} {vR vQ:Value} {Wr Rd:Nat→Prop} {w w2 w3:World} (h:Ses σ sb gs vR vQ Wr Rd w) (hb:Below w.heap.size w w2) {p:Pt} {id:Int} (hp:PJ p∧U64 id) (hlen:σ.2.length<4096) (hg:w2.grownBy w3 vQ.ownBlock) {g' cap:Nat}
 (hrow:w3.ownsRow 0 46 3 (.slice (some ⟨g',0,none⟩) (σ.2.length+1) cap) (σ.2.length+1) (quCs σ.2++[.int .i64 p.1,.int .i64 p.2,.int .u64 id])) (hat:vQ.ownBlock=some g'∨w2.heap.size≤g') (hlt:g'<w3.heap.size) :
 Step (σ.1,σ.2++[(p,id)]) sb Wr Rd w (w3.setCell ⟨sb,1,none⟩ (.slice (some ⟨g',0,none⟩) (σ.2.length+1) cap)):=by
 have K:=ses_keep (sb:=sb) hb hg 1 (.slice (some ⟨g',0,none⟩) (σ.2.length+1) cap)
 have hz2:=hb.size
 have hz3:=hg.size
 have gW:Wr g'∨w2.heap.size≤g':=by
  rcases hat with e | e
  · exact .inl (h.wq g' e).1
  · exact .inr e
 have gne:g'≠sb:=by
  rcases hat with e | e
  · exact (h.wq g' e).2
  · have:=h.wlt sb h.wb;omega
 refine ⟨fun k=>Wr k∨k=g',Rd,⟨gs,vR,.slice (some ⟨g',0,none⟩) (σ.2.length+1) cap,h.data,?_,?_,?_,.inl h.wb,fun k e=>⟨.inl (h.wr k e).1,(h.wr k e).2⟩,?_,?_,?_,?_,?_,?_,⟨h.small.1,?_,h.small.2.2.1,?_⟩⟩,?_,fun _ hk=>.inl hk,?_⟩
 · have hB:Blk w3 sb 70 #[vR,vQ]:=((hg.block sb (Nat.lt_of_lt_of_le (h.wlt sb h.wb) hz2) (fun e=>(h.wq sb e.symm).2 rfl)).trans (hb.block sb (h.wlt sb h.wb))).trans h.blk
   exact hB.set 1 _
 · exact own_keep h.rows K fun k e=>⟨h.wlt k (h.wr k e).1,(h.wr k e).2,h.rq k e⟩
 · have e1:quCs (σ.2++[(p,id)])=quCs σ.2++[.int .i64 p.1,.int .i64 p.2,.int .u64 id]:=by
    unfold quCs;rw [List.flatMap_append];rfl
   dsimp only
   rw [e1,List.length_append]
   exact own_set hrow (fun e=>gne (by injection e)) _
 · intro k e
   injection e with e
   exact ⟨.inr e.symm,fun e2=>gne (e.trans e2)⟩
 · intro k e e2
   injection e2 with e2
   have e2:g'=k:=e2
   subst e2
   rcases hat with h3 | h3
   · exact h.rq _ e h3
   · have:=h.wlt _ (h.wr _ e).1;omega
 · exact fun x hx=>⟨(h.pts x hx).1,(h.pts x hx).2.kept (K.mono fun k hk=>⟨h.rlt k hk,fun e=>h.apart k hk (by rw [e];exact h.wb),fun e=>h.apart k hk (h.wq k e).1⟩)⟩
 · intro k hk hk2
   rcases hk2 with h2 | h2
   · exact h.apart k hk h2
   · subst h2
     rcases gW with h3 | h3
     · exact h.apart _ hk h3
     · have:=h.rlt _ hk;omega
 · intro k hk
   rw [World.size_setCell]
   rcases hk with hk | hk
   · have:=h.wlt k hk;omega
   · omega
 · intro k hk
   rw [World.size_setCell]
   have:=h.rlt k hk
   omega
 · intro q hq
   rcases List.mem_append.1 hq with hq | hq
   · exact h.small.2.1 q hq
   · obtain rfl:q=_:=List.mem_singleton.1 hq
     exact hp
 · dsimp only;rw [List.length_append];exact hlen
 · intro k hk
   rcases hk with hk | rfl
   · exact .inl hk
   · rcases gW with h3 | h3
     · exact .inl h3
     · exact .inr (by omega)
 · exact K.mono fun k hk=>⟨hk.1,fun e=>hk.2 (by rw [e];exact h.wb),fun e=>hk.2 (h.wq k e).1⟩
end
section
open Go.RowKit Go.Shelf
def clearR (l:List (List UInt8)) (σ:St):List UInt8 × St:=if l=[] then ([111,107],([],[])) else (errT 11,σ)
section
variable {σ:St} {sb:Nat} {gs:List Gr} {vR vQ:Value} {Wr Rd:Nat→Prop} {w:World}
theorem ses_clear (h:Ses σ sb gs vR vQ Wr Rd w):Step ([],[]) sb Wr Rd w ((w.setCell ⟨sb,0,none⟩ (.slice none 0 0)).setCell ⟨sb,1,none⟩ (.slice none 0 0)):=by
 refine ⟨Wr,Rd,⟨[],_,_,rfl,((h.blk.set 0 _).set 1 _),World.ownsRow_nil _ _ _ _,World.ownsRow_nil _ _ _ _,h.wb,fun k e=>(by cases e),fun k e=>(by cases e),fun k e=>(by cases e),fun g hg=>(by cases hg),h.apart,?_,?_,⟨fun g hg=>(by cases hg),fun q hq=>(by cases hq),by decide,by decide⟩⟩,fun _ hk=>.inl hk,fun _ hk=>.inl hk,?_⟩
 · exact fun k hk=>by rw [World.size_setCell,World.size_setCell];exact h.wlt k hk
 · exact fun k hk=>by rw [World.size_setCell,World.size_setCell];exact h.rlt k hk
 · exact (KeepP.setCell (fun hk=>hk.2 h.wb) _ _ _).trans (KeepP.setCell (fun hk=>hk.2 h.wb) _ _ _)
theorem clear_any (l:List (List UInt8)) (A:Option Addr) (c:Nat) (h:Ses σ sb gs vR vQ Wr Rd w) {B:Nat} (he:Env B w) :
 Calls Tryz.prog 102 #[.pointer (some ⟨sb,0,none⟩),.slice A l.length c] w (Ans23 (clearR l σ) sb Wr Rd w):=by
 have HF:=hide (fail_any 11 (by unfold I64w;omega) w he.pt)
 have HST:=hide (fun X (hb:Below w.heap.size w X)=>Step.same (Wr:=Wr) (Rd:=Rd) (sb:=sb) ⟨gs,vR,vQ,h⟩ hb)
 have HC:=hide (ses_clear h)
 have c0:=h.blk.cell (i:=0) (v:=vR) rfl
 have c1:=h.blk.cell (i:=1) (v:=vQ) rfl
 have f0:=h.blk.frozen 0
 have f1:=h.blk.frozen 1
 by_cases hl:l=[]
 · have HE:Hid (clearR l σ=([111,107],([],[]))):=hide (if_pos hl)
   subst hl
   clear h he
   go_enter Tryz.func102,Tryz.ntmps102
   go_wp2
   go_ret
   rw [HE.out]
   exact ⟨rfl,HC.out⟩
 · have HE:Hid (clearR l σ=(errT 11,σ)):=hide (if_neg hl)
   obtain ⟨n,hn⟩:∃ n,n=l.length:=⟨_,rfl⟩
   have hn0:(n:Int) > 0:=by
    have:0<l.length:=List.length_pos_iff.2 hl
    omega
   rw [← hn]
   clear h he hl hn
   go_enter Tryz.func102,Tryz.ntmps102
   go_wp2_with fail
   refine HF.out.mono ?_
   rintro e w1 ⟨rfl,hb1⟩
   go_wp2
   go_ret
   rw [HE.out]
   exact ⟨rfl,HST.out _ hb1⟩
end
end
section
open Go.RowKit Go.Shelf
section
variable {σ:St} {sb:Nat} {gs:List Gr} {vR vQ:Value} {Wr Rd:Nat→Prop} {w:World} (l:List (List UInt8)) (A:Option Addr) (c:Nat) (h:Ses σ sb gs vR vQ Wr Rd w) {B:Nat} (he:Env B w) (gf:Nat) (lb:Array Value) (Q:ByteArray→World→Prop)
include h he
omit h in
theorem batch_len (hl:l≠[]) (h11:∀ w',Below w.heap.size w w'→Q (strOf (errT 11)) w') :
 Calls Tryz.prog 145 #[.pointer (some ⟨sb,0,none⟩),.slice A l.length c,.func (.func gf) #[] lb] w fun e w'=>∃ t,e=.returned (.string t)∧Q t w':=by
 have HF:=hide (fail_any 11 (by unfold I64w;omega) w he.pt)
 obtain ⟨n,hn⟩:∃ n,n=l.length:=⟨_,rfl⟩
 have hn0:(n:Int) > 0:=by
  have:=List.length_pos_iff.2 hl
  omega
 have H11:=hide h11
 rw [← hn]
 clear he hl hn h11
 go_enter Tryz.func145,Tryz.ntmps145
 go_wp2_with fail
 refine HF.out.mono ?_
 rintro e w1 ⟨rfl,hb1⟩
 go_wp2
 go_ret
 exact ⟨_,rfl,H11.out _ hb1⟩
theorem batch_none (hs:σ.1=[]∨σ.2=[]) (h6:∀ w',Below w.heap.size w w'→Q (strOf (errT 6)) w') :
 Calls Tryz.prog 145 #[.pointer (some ⟨sb,0,none⟩),.slice A 0 c,.func (.func gf) #[] lb] w fun e w'=>∃ t,e=.returned (.string t)∧Q t w':=by
 have HF:=hide (fail_any 6 (by unfold I64w;omega) w he.pt)
 obtain ⟨RA,rc,rfl,_⟩:=own_slice h.rows
 obtain ⟨QA,qc,rfl,_⟩:=own_slice h.qrows
 have c0:=h.blk.cell (i:=0) (v:=.slice RA gs.length rc) rfl
 have c1:=h.blk.cell (i:=1) (v:=.slice QA σ.2.length qc) rfl
 obtain ⟨n,hn⟩:∃ n,n=gs.length:=⟨_,rfl⟩
 obtain ⟨m,hm⟩:∃ m,m=σ.2.length:=⟨_,rfl⟩
 have hz:n=0∨n≠0∧m=0:=by
  by_cases h0:n=0
  · exact .inl h0
  · refine .inr ⟨h0,?_⟩
    rcases hs with hs | hs
    · rw [← h.data] at hs
      have:gs=[]:=by simpa using hs
      rw [hn,this] at h0;exact absurd rfl h0
    · rw [hm,hs];rfl
 have H6:=hide h6
 rw [← hn] at c0
 rw [← hm] at c1
 clear h he hs hn hm h6
 rcases hz with hz | ⟨hz,hz2⟩
 · subst hz
   go_enter Tryz.func145,Tryz.ntmps145
   go_wp2_with fail
   refine HF.out.mono ?_
   rintro e w1 ⟨rfl,hb1⟩
   go_wp2
   go_ret
   exact ⟨_,rfl,H6.out _ hb1⟩
 · subst hz2
   have hz3:¬ (n:Int)=0:=by omega
   go_enter Tryz.func145,Tryz.ntmps145
   go_wp2_with fail
   refine HF.out.mono ?_
   rintro e w1 ⟨rfl,hb1⟩
   go_wp2
   go_ret
   exact ⟨_,rfl,H6.out _ hb1⟩
omit he in
theorem batch_call (hs:σ.1≠[]∧σ.2≠[]) (eg:∀ args w,(callFunc gf args).run Tryz.prog w=.ok (.enter gf args) w) (hc:Calls Tryz.prog gf lb w fun e w'=>∃ t,e=.returned (.string t)∧Q t w') :
 Calls Tryz.prog 145 #[.pointer (some ⟨sb,0,none⟩),.slice A 0 c,.func (.func gf) #[] lb] w fun e w'=>∃ t,e=.returned (.string t)∧Q t w':=by
 obtain ⟨RA,rc,rfl,_⟩:=own_slice h.rows
 obtain ⟨QA,qc,rfl,_⟩:=own_slice h.qrows
 have c0:=h.blk.cell (i:=0) (v:=.slice RA gs.length rc) rfl
 have c1:=h.blk.cell (i:=1) (v:=.slice QA σ.2.length qc) rfl
 obtain ⟨n,hn⟩:∃ n,n=gs.length:=⟨_,rfl⟩
 obtain ⟨m,hm⟩:∃ m,m=σ.2.length:=⟨_,rfl⟩
 have hn0:¬ (n:Int)=0:=fun e=>by
  have h0:gs.length=0:=by omega
  rw [← h.data] at hs
  exact hs.1 (by rw [List.length_eq_zero_iff.1 h0];rfl)
 have hm0:¬ (m:Int)=0:=fun e=>hs.2 (List.length_eq_zero_iff.1 (by omega))
 have HC:=hide hc
 have hnb:((n:Int) == 0)=false:=beq_eq_false_iff_ne.2 hn0
 have hmb:((m:Int) == 0)=false:=beq_eq_false_iff_ne.2 hm0
 rw [← hn] at c0
 rw [← hm] at c1
 clear h hs hn hm hc
 go_enter Tryz.func145,Tryz.ntmps145
 go_wp2_with fail
 refine HC.out.mono ?_
 rintro e w1 ⟨t,rfl,ht⟩
 go_wp2
 go_ret
 exact ⟨_,rfl,ht⟩
end
end
section
open Go.ChangeShapes Go.WideShapes Go.ChangeAt Go.RowKit
theorem tab_below {w w':World} {n:String} {k:IntKind} {t:List Int} (h:Lib.TabIs Tryz.prog w n k t) (hb:Below w.heap.size w w'):Lib.TabIs Tryz.prog w' n k t:=by
 unfold Lib.TabIs World.var? at h ⊢
 cases hg:Tryz.prog.globalNamed n with
 | none=>rw [hg] at h;exact h
 | some g =>
   rw [hg] at h
   simp only [Option.bind_some] at h ⊢
   have hl:g<w.heap.size:=by
    rcases Nat.lt_or_ge g w.heap.size with h1 | h1
    · exact h1
    · rw [Array.getElem?_eq_none h1] at h;cases h
   rw [hb.block g hl]
   exact h
theorem env_of {W : World} (h1 : (Fixed W ∧ 9 < W.heap.size) ∧ MW W) (h2 : Lib.TabIs Tryz.prog W "internal/strconv.uint64pow10" .u64 Lib.pow10Tab ∧ Lib.TabIs Tryz.prog W "strings.asciiSpace" .u8 Lib.asciiSpaceTab) : Env W.heap.size W :=
 ⟨Nat.le_refl _,fun _ hb=>⟨⟨h1.1.1.below hb h1.1.2,Nat.lt_of_lt_of_le h1.1.2 hb.size⟩,h1.2.step hb,tab_below h2.1 hb,tab_below h2.2 hb⟩⟩
end
end Go.Proofs.YthnenedoblncjaaGreatDoor
