/- RefSes RefReg -/
import Derived.BigQuiet
import Derived.ChangeAlike
import Derived.Deep.AppendLies
import Derived.Deep.CutBlock
import Derived.Deep.QuietTactic
import Derived.Deep.RegionLaw
import Derived.Deep.RegionWith
import Derived.Laws.Bits64b
import Derived.Lib.OthersKept
import Derived.Lib.SlTrimSet
import Derived.Lib.SliceRun
import Derived.Outline
import Derived.Shelf.Bits.Mul64
import Derived.Shelf.Small.Bits
import Derived.Shelf.Strings.Builder1
import Derived.Shelf.Strings.SlTrimAscii
import Derived.Test.YthnenedoblncjaaGreatDoorProg
import Derived.Test.YthnenedoblncjaaGreatDoorPkP35
import Derived.Test.YthnenedoblncjaaGreatDoorPkP36
import Derived.Test.YthnenedoblncjaaGreatDoorPkP38
import Derived.Test.YthnenedoblncjaaGreatDoorPkP39
import Derived.Test.YthnenedoblncjaaGreatDoorPkP40
set_option maxRecDepth 1000000
set_option maxHeartbeats 8000000
namespace Go.Proofs.YthnenedoblncjaaGreatDoor
open List (getElem_toArray getElem_cons_succ getElem_cons_zero setIfInBounds_toArray set_cons_zero set_cons_succ)
section
open Go.RowKit Go.Shelf
structure RSes (R:List Gd) (gb:Nat) (gs:List Gr) (vR vQ:Value) (Rd:Nat→Prop) (X:World):Prop where
 data:gs.map gdOf=R
 blk:Blk X gb 72 #[vR,vQ]
 rows:X.ownsRow 0 38 3 vR gs.length (rgCells (gs.map (·.1)))
 rb:∀ k,vR.ownBlock=some k→Rd k
 pts:∀ g∈gs,g.1.n=g.2.length∧SlP X Rd g.1.A (ptCs g.2)∧PsJ g.2
 ng:¬ Rd gb
 rlt:∀ k,Rd k→k<X.heap.size
def RAt (R:List Gd) (gb:Nat) (Rd:Nat→Prop) (X:World):Prop:=∃ gs vR vQ,RSes R gb gs vR vQ Rd X
theorem RSes.kept {R:List Gd} {gb:Nat} {gs:List Gr} {vR vQ:Value} {Rd:Nat→Prop} {X Y:World} (h:RSes R gb gs vR vQ Rd X) (hk:KeepP (fun k=>k=gb∨Rd k) X Y):RSes R gb gs vR vQ Rd Y :=
 ⟨h.data,(hk.block gb (.inl rfl)).trans h.blk,own_keep h.rows hk fun k e=>.inr (h.rb k e),h.rb,fun g hg=>⟨(h.pts g hg).1,(h.pts g hg).2.1.kept (hk.mono fun _ hk=>.inr hk),(h.pts g hg).2.2⟩,h.ng,fun k hk'=>Nat.lt_of_lt_of_le (h.rlt k hk') hk.size⟩
theorem RSes.below {R:List Gd} {gb:Nat} {gs:List Gr} {vR vQ:Value} {Rd:Nat→Prop} {X Y:World} (h:RSes R gb gs vR vQ Rd X) (hb:Below X.heap.size X Y):RSes R gb gs vR vQ Rd Y :=
 h.kept (KeepP.of_below hb fun k hk=>by rcases hk with hk | hk;subst hk;exact h.blk.lt;exact h.rlt k hk)
theorem RSes.gsR {R:List Gd} {gb:Nat} {gs:List Gr} {vR vQ:Value} {Rd:Nat→Prop} {X:World} (h:RSes R gb gs vR vQ Rd X):GsR X gs:=fun g hg=>⟨(h.pts g hg).1,(h.pts g hg).2.1.sl h.rlt,(h.pts g hg).2.2⟩
def RStep (R':List Gd) (gb:Nat) (Rd:Nat→Prop) (X Y:World):Prop :=
 ∃ Rd',RAt R' gb Rd' Y∧(∀ k,Rd' k→Rd k∨X.heap.size≤k)∧KeepP (fun k=>k<X.heap.size∧k≠gb) X Y
theorem RStep.same {R:List Gd} {gb:Nat} {Rd:Nat→Prop} {X Y:World} (h:RAt R gb Rd X) (hb:Below X.heap.size X Y):RStep R gb Rd X Y:=by
 obtain ⟨gs,vR,vQ,hs⟩:=h
 exact ⟨Rd,⟨gs,vR,vQ,hs.below hb⟩,fun _ h=>.inl h,KeepP.of_below hb fun k hk=>hk.1⟩
theorem RStep.after {R:List Gd} {gb:Nat} {Rd:Nat→Prop} {X Y Z:World} (h:RStep R gb Rd X Y) (hb:Below Y.heap.size Y Z):RStep R gb Rd X Z:=by
 obtain ⟨Rd',⟨gs,vR,vQ,hs⟩,h1,h2⟩:=h
 exact ⟨Rd',⟨gs,vR,vQ,hs.below hb⟩,h1,h2.trans (KeepP.of_below hb fun k hk=>Nat.lt_of_lt_of_le hk.1 h2.size)⟩
theorem RStep.ahead {R:List Gd} {gb:Nat} {Rd:Nat→Prop} {X Y Z:World} (h:RStep R gb Rd Y Z) (hb:Below X.heap.size X Y):RStep R gb Rd X Z:=by
 obtain ⟨Rd',hs,h1,h2⟩:=h
 exact ⟨Rd',hs,fun k hk=>(h1 k hk).imp id fun h=>Nat.le_trans hb.size h,(KeepP.of_below hb fun k hk=>hk.1).trans (h2.mono fun k hk=>⟨Nat.lt_of_lt_of_le hk.1 hb.size,hk.2⟩)⟩
def RAns (r:List UInt8 × St) (gb:Nat) (Rd:Nat→Prop) (X:World) (e:Ending) (Y:World):Prop:=e=.returned (.string (strOf r.1))∧RStep r.2.1 gb Rd X Y
theorem reg_app (X:World) (rs:List Rg) (n c:Nat) (A:Option Addr) (hn:rs.length=n) (hown:X.ownsRow 0 38 3 (.slice A n c) n (rgCells rs)) (h64:n<64) (g5:Nat) (r:Rg) (N5:Blk X g5 38 r.cells.toArray) :
 ∃ g cap Y,(Builtin.append_ #[32,32] 32 #[.slice A n n,.slice (some ⟨g5,0,none⟩) 1 1]).run Tryz.prog X=.ok (.slice (some ⟨g,0,none⟩) (n+1) cap) Y ∧
   Y.ownsRow X.heap.size 38 3 (.slice (some ⟨g,0,none⟩) (n+1) cap) (n+1) (rgCells (rs++[r]))∧X.grownBy Y none:=by
 obtain ⟨i0,hi,hz0,hz1,hz2⟩:=info_parts rg_infoS
 have hcell:∀ j u,r.cells[j]?=some u→X.cell? ((⟨g5,0,none⟩:Addr).add j)=some u:=fun j u hu=>by
  have h:=blk_cells N5 j u (by simpa using hu)
  exact h
 have h1c:∀ u∈r.cells,u.oneCell'=true:=by
  intro u hu
  simp only [Rg.cells,List.mem_cons,List.not_mem_nil,or_false] at hu
  rcases hu with rfl | rfl | rfl <;> rfl
 have e1:rgCells (rs++[r])=rgCells rs++r.cells:=by simp [rgCells]
 rw [e1]
 rcases Sl.of_own hown with h0 | ⟨b,off,rfl,hb,hc⟩
 · have hr0:rs=[]:=by
    cases rs with
    | nil=>rfl
    | cons a t=>have:=rgCells_length (a::t);rw [h0] at this;simp at this
   subst hr0
   obtain rfl:n=0:=by rw [← hn];rfl
   rcases hown.2 with ⟨e,_⟩ | ⟨g',cap,cur,e,hb,hh,_⟩
   · cases e
     obtain ⟨g,cap,Y,hr,ho,hg,-,-⟩:=run_append_lies (P:=Tryz.prog) X 32 32 X.heap.size 38 i0 _ 3 40 Tryz.underlying32 hi hz0 hz1 hz2 rfl (by decide) (.slice none 0 0) 0 [] (World.ownsRow_nil _ _ _ _) ⟨g5,0,none⟩ 1 1 r.cells rfl hcell h1c (by omega) (by unfold maxLen;omega) (by omega) (Nat.le_refl _) _ rfl
     exact ⟨g,cap,Y,hr,ho,hg⟩
   · cases e
     obtain ⟨v',Y,hr,ho,hg⟩:=run_append_arg_grows (P:=Tryz.prog) X 32 32 38 i0 _ 3 40 Tryz.underlying32 hi hz0 hz1 hz2 rfl (by decide) ⟨g',0,none⟩ 0 0 [] rfl (fun j u hu=>by simp at hu) ⟨g5,0,none⟩ 1 1 r.cells rfl hcell (by omega) (by unfold maxLen;omega) (by omega)
     obtain ⟨g,cap,rfl,-,-⟩:=ho.form (by omega)
     exact ⟨g,cap,Y,hr,ho,hg⟩
 · obtain ⟨v',Y,hr,ho,hg⟩:=run_append_arg_grows (P:=Tryz.prog) X 32 32 38 i0 _ 3 40 Tryz.underlying32 hi hz0 hz1 hz2 rfl (by decide) ⟨b,off,none⟩ n n (rgCells rs) (by rw [rgCells_length,hn];omega) (fun j u hu=>by rw [Addr.add_lit];exact hc j u hu) ⟨g5,0,none⟩ 1 1 r.cells rfl hcell (by omega) (by unfold maxLen;omega) (by omega)
   obtain ⟨g,cap,rfl,-,-⟩:=ho.form (by omega)
   exact ⟨g,cap,Y,hr,ho,hg⟩
theorem rses_add {R:List Gd} {gb:Nat} {gs:List Gr} {vR vQ:Value} {Rd:Nat→Prop} {w w1 w2 w3:World} (h:RSes R gb gs vR vQ Rd w) (hb1:Below w.heap.size w w1) {d:Bool} {v:Int} {ps:List Pt} {VA:Option Addr} {vc:Nat} (hown:w1.ownsRow w.heap.size 41 2 (.slice VA ps.length vc) ps.length (ptCs ps)) (hps:PsJ ps)
 (hb2:Below w1.heap.size w1 w2) (hg:w2.grownBy w3 none) {g' cap n:Nat} (hn:n=gs.length) (hrow:w3.ownsRow w2.heap.size 38 3 (.slice (some ⟨g',0,none⟩) (n+1) cap) (n+1) (rgCells (gs.map (·.1)++[⟨d,v,VA,ps.length,vc⟩]))) :
 RStep (R++[(d,v,ps)]) gb Rd w (w3.setCell ⟨gb,0,none⟩ (.slice (some ⟨g',0,none⟩) (n+1) cap)):=by
 subst hn
 have hb12:=bl_step hb1 hb2
 have hb3:Below w2.heap.size w2 w3:=⟨hg.os,hg.tape,hg.output,hg.size,fun k hk=>hg.block k hk (by simp)⟩
 have hb13:=bl_step hb12 hb3
 have hgb:=h.blk.lt
 have hz:=hb13.size
 have H3:=h.below hb13
 have hown3:=own_step (own_step hown hb2) hb3
 have hgl:g'<w3.heap.size:=own_lt' hrow rfl
 have hgw:w.heap.size≤g':=Nat.le_trans hb12.size (own_base hrow rfl)
 have KS:KeepP (fun k=>k≠gb) w3 (w3.setCell ⟨gb,0,none⟩ (.slice (some ⟨g',0,none⟩) (gs.length+1) cap)):=KeepP.setCell (by simp) _ _ _
 refine ⟨fun k=>Rd k∨(w.heap.size≤k∧k<w3.heap.size),⟨gs++[(⟨d,v,VA,ps.length,vc⟩,ps)],.slice (some ⟨g',0,none⟩) (gs.length+1) cap,vQ,?_⟩,fun _ hk=>hk.imp id (·.1),?_⟩
 · refine ⟨by rw [List.map_append,h.data];rfl,H3.blk.set 0 _,?_,fun k e=>?_,fun g hg'=>?_,fun hk=>?_,fun k hk=>?_⟩
   · rw [List.length_append,List.map_append]
     have:=own_keep hrow KS fun k e=>by
      have e:some g'=some k:=e
      have e:=Option.some.inj e
      omega
     exact own_mono this (Nat.zero_le _)
   · have e:some g'=some k:=e
     have e:=Option.some.inj e
     subst e
     exact .inr ⟨hgw,hgl⟩
   · rcases List.mem_append.1 hg' with hg' | hg'
     · have:=H3.pts g hg'
       exact ⟨this.1,(this.2.1.mono fun _ hk=>.inl hk).kept (KS.mono fun k hk=>by
        intro e
        subst e
        rcases hk with hk | hk
        · exact h.ng hk
        · omega),this.2.2⟩
     · rw [List.mem_singleton.1 hg']
       refine ⟨rfl,SlP.kept ?_ (KS.mono fun k hk=>by
        intro e
        subst e
        rcases hk with hk | hk
        · exact h.ng hk
        · omega),hps⟩
       rcases Sl.of_own hown3 with h0 | ⟨b,off,hA,hb,hc⟩
       · exact .inl h0
       · exact .inr ⟨b,off,hA,.inr ⟨own_base hown (by rw [show VA=_ from hA];rfl),hb⟩,hc⟩
   · rcases hk with hk | hk
     · exact h.ng hk
     · omega
   · rw [World.size_setCell]
     rcases hk with hk | hk
     · exact Nat.lt_of_lt_of_le (h.rlt k hk) hz
     · exact hk.2
 · exact (KeepP.of_below hb13 fun k hk=>hk.1).trans (KS.mono fun k hk=>hk.2)
theorem reg_step {R:List Gd} {gb:Nat} {gs:List Gr} {vQ:Value} {Rd:Nat→Prop} {w w1:World} {RA:Option Addr} {n rc:Nat} (h:RSes R gb gs (.slice RA gs.length rc) vQ Rd w) (hb1:Below w.heap.size w w1) (hn:n=gs.length) (hnl:n<64) {d:Bool} {V:Int} {ps:List Pt} {VA:Option Addr} {m vc:Nat} (hm:m=ps.length) (hown:w1.ownsRow w.heap.size 41 2 (.slice VA ps.length vc) ps.length (ptCs ps)) (hps:PsJ ps)
 (C:Obj) (hC:C=.cells #[.bool d,.int .i64 V,.slice VA m vc] 38) (W X5:World) (hW:W=w1.alloc C) (hX:X5=W.drew.alloc C) :
 (∃ g' cap w7,(Builtin.append_ #[32,32] 32 #[.slice RA n n,.slice (some ⟨W.drew.heap.size,0,none⟩) 1 1]).run Tryz.prog X5=.ok (.slice (some ⟨g',0,none⟩) (n+1) cap) w7 ∧
   Below W.heap.size W w7∧w7.frozen? ⟨gb,0,none⟩=false∧gb<w7.heap.size∧RStep (R++[(d,V,ps)]) gb Rd w (w7.setCell ⟨gb,0,none⟩ (.slice (some ⟨g',0,none⟩) (n+1) cap))) ∧
 ∀ X,Below W.heap.size W X→X.cell? ⟨gb,0,none⟩=some (.slice RA n rc)∧X.cell? ⟨w1.heap.size,0,none⟩=some (.bool d)∧X.cell? ⟨w1.heap.size,1,none⟩=some (.int .i64 V)∧X.cell? ⟨w1.heap.size,2,none⟩=some (.slice VA m vc):=by
 subst hm
 subst hn
 have hbW:Below w1.heap.size w1 W:=by rw [hW];exact bA
 have NW:Blk W w1.heap.size 38 #[.bool d,.int .i64 V,.slice VA ps.length vc]:=by rw [hW,hC];exact Blk.new _ _ _
 have N5:Blk X5 W.drew.heap.size 38 #[.bool d,.int .i64 V,.slice VA ps.length vc]:=by rw [hX,hC];exact Blk.new _ _ _
 have hb5:Below W.heap.size W X5:=by rw [hX];exact bl_alloc (bl_drew (Below.refl _ _)) _
 clear hW hX hC C
 have h1:=h.below hb1
 have hW1:=h1.below hbW
 have h5:=hW1.below hb5
 have hb2:=bl_step hbW hb5
 refine ⟨?_,fun X hX=>?_⟩
 · obtain ⟨g',cap,w7,hr,ho,hg⟩:=reg_app X5 (gs.map (·.1)) gs.length rc RA (by rw [List.length_map]) h5.rows hnl _ ⟨d,V,VA,ps.length,vc⟩ N5
   have hl:=h5.blk.lt
   exact ⟨g',cap,w7,hr,bl_step hb5 ⟨hg.os,hg.tape,hg.output,hg.size,fun k hk=>hg.block k hk (by simp)⟩,(hg.frozen_far ⟨gb,0,none⟩ hl (by simp)).trans (h5.blk.frozen 0),Nat.lt_of_lt_of_le hl hg.size,rses_add h hb1 hown hps hb2 hg rfl ho⟩
 · have hX1:=hW1.below hX
   have hN:=NW.step hX
   exact ⟨hX1.blk.cell (i:=0) rfl,hN.cell (i:=0) rfl,hN.cell (i:=1) rfl,hN.cell (i:=2) rfl⟩
end
section
open Go.RowKit Go.Shelf
attribute [local go_sem] Oper.semAt_some
attribute [local go_sem] Oper.semAt_some
attribute [local go_sem] Oper.semAt_some
attribute [local go_sem] Oper.semAt_some
attribute [local go_sem] Oper.semAt_some
attribute [local go_sem] Oper.semAt_some
attribute [local go_sem] Oper.semAt_some
attribute [local go_sem] Oper.semAt_some
attribute [local go_sem] Oper.semAt_some
attribute [local go_sem] Oper.semAt_some
attribute [local go_sem] Oper.semAt_some
attribute [local go_sem] Oper.semAt_some
section
variable {σ:St} {gb:Nat} {gs:List Gr} {vR vQ:Value} {Rd:Nat→Prop} (deny:Bool) (t:List UInt8) (ws:List (List UInt8)) (b off c:Nat) (hc:ws.length+1≤c) (hw0:ws≠[]) (hl:∀ x∈ws,x.length≤1000) (hn:ws.length≤1000000) (w:World) (h:RSes σ.1 gb gs vR vQ Rd w) (hs:Sl w w.heap.size (some ⟨b,off,none⟩) (strCs (t::ws)))
include hc hw0 hl hn h hs
theorem rregion_any (kd:Bool) (hkd:t=if kd then polyW else discW):Calls Tryz.prog 36 #[.pointer (some ⟨gb,0,none⟩),.bool deny,.slice (some ⟨b,off,none⟩) (ws.length+1) c] w (RAns (addG deny kd ws σ) gb Rd w):=by
 have hmix:Tryz.prog.follows .mixedOrders=true:=by kernel_rfl
 have c0:=str_cell (k:=0) hs rfl
 have hs1:Sl w w.heap.size (some ⟨b,off+1,none⟩) (strCs ws):=by
  rcases hs with h0 | ⟨b',off',hA,hb,hc'⟩
  · cases h0
  · injection hA with hA
    injection hA with e1 e2 _
    subst e1;subst e2
    exact Sl.mk hb fun j u hu=>by rw [Nat.add_assoc,Nat.add_comm 1 j];exact hc' (j+1) u (by simpa [strCs] using hu)
 obtain ⟨q,hq⟩:∃ q,q=ws.length:=⟨_,rfl⟩
 have hq0:0<q:=by rw [hq];exact List.length_pos_iff.2 hw0
 have HP:=hide (rpoints_any23 ws b (off+1) (c - 1) hl hn w hs1)
 have HST:=hide (fun X (hb:Below w.heap.size w X)=>RStep.same (gb:=gb) (Rd:=Rd) ⟨gs,vR,vQ,h⟩ hb)
 have H:=hide h
 obtain ⟨s,hs'⟩:∃ s,s=strOf t:=⟨_,rfl⟩
 obtain ⟨most,hmost⟩:∃ most:Int,most=if kd then 64 else 3:=⟨_,rfl⟩
 have kk:(kd=true∧most=64∧s.toList=[112,111,108,121,103,111,110]∧(s.toList == [112,111,108,121,103,111,110])=true)∨(kd=false∧most=3∧¬ s.toList=[112,111,108,121,103,111,110]∧(s.toList == [112,111,108,121,103,111,110])=false∧s.toList=[100,105,115,99]∧(s.toList == [100,105,115,99])=true):=by
  rw [hmost,hs',strOf_toList,hkd]
  cases kd
  · exact .inr ⟨rfl,rfl,by decide,by decide,rfl,by decide⟩
  · exact .inl ⟨rfl,rfl,rfl,by decide⟩
 rw [← hs'] at c0
 rw [← hq] at HP ⊢
 have hdl:σ.1.length=gs.length:=by rw [← h.data,List.length_map]
 have hmm:∀ ps:List Pt,((ps.length:Int)<3∨(ps.length:Int) > most) ↔ (ps.length<3∨(if kd then 64 else 3)<ps.length):=fun ps=>by
  rw [hmost];cases kd <;> simp <;> omega
 have HA0:Hid (ptsOk ws=none→addG deny kd ws σ=(errT 11,σ)):=hide fun h1=>by unfold addG;rw [h1]
 have HA7:Hid (∀ ps:List Pt,ptsOk ws=some ps→((ps.length:Int)<3∨(ps.length:Int) > most)→addG deny kd ws σ=(errT 7,σ)):=hide fun ps h1 h2=>by
  unfold addG;rw [h1];exact if_pos ((hmm ps).1 h2)
 have HA6:Hid (∀ ps:List Pt,ptsOk ws=some ps→¬ ((ps.length:Int)<3∨(ps.length:Int) > most)→64≤gs.length→addG deny kd ws σ=(errT 6,σ)):=hide fun ps h1 h2 h3=>by
  unfold addG;rw [h1];exact (if_neg fun h=>h2 ((hmm ps).2 h)).trans (if_pos (by omega))
 have HAK:Hid (∀ ps:List Pt,ptsOk ws=some ps→¬ ((ps.length:Int)<3∨(ps.length:Int) > most)→¬ 64≤gs.length→addG deny kd ws σ=(txt (gs.length+1:Nat),(σ.1++[(deny,if kd then (ps.length:Int) else 0,ps)],σ.2))):=hide fun ps h1 h2 h3=>by
  unfold addG;rw [h1];exact (if_neg fun h=>h2 ((hmm ps).2 h)).trans ((if_neg (by omega)).trans (by rw [hdl]))
 have E11:Hid (({ data:=#[101,114,114,111,114,32,49,49] }:ByteArray)=strOf (errT 11)):=hide (by kernel_rfl)
 have E7:Hid (({ data:=#[101,114,114,111,114,32,55] }:ByteArray)=strOf (errT 7)):=hide (by kernel_rfl)
 have E6:Hid (({ data:=#[101,114,114,111,114,32,54] }:ByteArray)=strOf (errT 6)):=hide (by kernel_rfl)
 have hcq:q+1≤c:=by omega
 have hm64:most≤64:=by rw [hmost];cases kd <;> simp
 clear hmost hdl hmm h hs hs1 hq hs' hkd hc hl hn hw0
 rw [Nat.add_zero] at c0
 rcases kk with ⟨rfl,hmost,k1,k2⟩ | ⟨rfl,hmost,k1,k2,k3,k4⟩
 all_goals
  refine (callsIn_wide (n:=6)).1 ?_
  refine callsIn_of_wp Tryz.func36 rfl trivial ?_ rfl
  simp only [Tryz.ntmps36,List.size_toArray,List.length_cons,List.length_nil,Nat.reduceAdd,Nat.reduceSub,Array.replicate_succ,Array.replicate_zero,List.push_toArray,List.append_toArray,List.nil_append,List.cons_append]
  gi_wp2_with fail
  refine ⟨trivial,?_⟩
  refine (callsIn_wide.2 HP.out).mono ?_
  rintro e w1 ⟨hb1,⟨ps,v,h1,rfl,hown⟩ | ⟨h1,rfl⟩⟩
  · obtain ⟨VA,vc,rfl,hvc⟩:=own_slice hown
    obtain ⟨m,hm⟩:∃ m,m=ps.length:=⟨_,rfl⟩
    have S1:=H.out.below hb1
    obtain ⟨RA,rc,rfl,hrc⟩:=own_slice S1.rows
    obtain ⟨n,hn⟩:∃ n,n=gs.length:=⟨_,rfl⟩
    have cS:=S1.blk.cell (i:=0) (v:=.slice RA gs.length rc) rfl
    have hsb:=S1.blk.lt
    have hbb:=cell_lt c0
    have c1:=(hb1.cell (p:=⟨b,off,none⟩) hbb).trans c0
    have hbl:b<w1.heap.size:=Nat.lt_of_lt_of_le hbb hb1.size
    have fS:=S1.blk.frozen 0
    have HB1:=hide hb1;have H1:=hide h1;have HO:=hide hown;have HM:=hide hm;have HN:=hide hn;have HS1:=hide S1
    rw [← hn] at cS hrc
    rw [← hm]
    clear hb1 h1 hown hm hn S1 hvc c0 hbb HP HA0
    by_cases hbad:(m:Int)<3∨(m:Int) > most
    · have HE:=hide (HA7.out ps H1.out (by rw [← HM.out];exact hbad))
      clear HA7 HA6 HAK H hrc
      rcases hbad with hm3 | hm3
      all_goals
       subst hmost
       try (have hm5:¬ (m:Int)<3:=by omega)
       try (have hm6:¬ (m:Int)=3:=by omega)
       gi_wp2_with fail
       go_ret
       rw [HE.out]
       exact ⟨by rw [E7.out];rfl,HST.out _ (by first | exact bl_alloc HB1.out _ | exact (bl_alloc HB1.out _).setCell (Nat.le_trans HB1.out.size (Nat.le_refl _)) _)⟩
    · have hm3:¬ (m:Int)<3:=fun h=>hbad (.inl h)
      have hm4:¬ (m:Int) > most:=fun h=>hbad (.inr h)
      by_cases h64:(n:Int) ≥ 64
      · have HE:=hide (HA6.out ps H1.out (by rw [← HM.out];exact hbad) (by rw [← HN.out];omega))
        clear HA7 HA6 HAK hbad hrc
        subst hmost
        gi_wp2
        go_ret
        rw [HE.out]
        exact ⟨by rw [E6.out];rfl,HST.out _ (by first | exact bl_alloc HB1.out _ | exact (bl_alloc HB1.out _).setCell (Nat.le_trans HB1.out.size (Nat.le_refl _)) _)⟩
      · have HK:=hide (HAK.out ps H1.out (by rw [← HM.out];exact hbad) (by rw [← HN.out];omega))
        have hm6:m≤64:=by omega
        have hnl:n<64:=by omega
        have hrcs:¬ rc<n:=by omega
        clear HA7 HA6 HAK hbad
        subst hmost
        obtain ⟨V,hV⟩:∃ V:Int,RStep (addG deny _ ws σ).2.1 gb Rd w=RStep (σ.1++[(deny,V,ps)]) gb Rd w∧V=bif s.toList == [112,111,108,121,103,111,110] then (m:Int) else 0:=⟨_,by rw [HK.out,← HM.out,k2];rfl,rfl⟩
        obtain ⟨C,hC⟩:∃ C:Obj,C=.cells #[.bool deny,.int .i64 V,.slice VA m vc] 38:=⟨_,rfl⟩
        obtain ⟨W,hW⟩:∃ W,W=w1.alloc C:=⟨_,rfl⟩
        obtain ⟨X5,hX5⟩:∃ X5,X5=W.drew.alloc C:=⟨_,rfl⟩
        obtain ⟨⟨g',cap,w7,hr7,hb7,f1,l1,hst⟩,hS⟩:=reg_step H.out HB1.out HN.out hnl HM.out HO.out (ptsOk_j H1.out).1 C hC W X5 hW hX5
        have HST2:=hide hst;have HSS:=hide hS
        have S7:=hS w7 hb7
        have d1:=S7.1
        obtain ⟨g5,hg5⟩:∃ g5,g5=W.drew.heap.size:=⟨_,rfl⟩
        rw [← hg5] at hr7
        have hV2:=hV.2
        rw [k2] at hV2
        simp only [cond_true,cond_false] at hV2
        have HVR:=hide hV.1
        clear hst hS hV
        gi_wp2
        first | rw [← hV2] | skip
        rw [← hC,← hW]
        have S0:=HSS.out W.drew (bl_drew (Below.refl _ _))
        have S5:=HSS.out X5 (by rw [hX5];exact bl_alloc (bl_drew (Below.refl _ _)) _)
        have hX5s:W.drew.alloc (.cells #[.bool deny,.int .i64 V,.slice VA m vc] 38)=X5:=by rw [hX5,hC,hV2]
        clear HSS hX5 HB1 H1 HO HS1 H HM hW hC hV2 hb7
        have hg5s:=hg5.symm
        clear hg5
        obtain ⟨VV,hVV⟩:∃ VV:Int,VV=V:=⟨_,rfl⟩
        rw [← hVV] at S0 S5 S7 hX5s HST2 HVR
        clear hVV
        refine startT 19 (S:=fun w'=>w'.cell? ⟨gb,0,none⟩=some (.slice RA n rc)∧w'.cell? ⟨w1.heap.size,0,none⟩=some (.bool deny)∧w'.cell? ⟨w1.heap.size,1,none⟩=some (.int .i64 VV)∧w'.cell? ⟨w1.heap.size,2,none⟩=some (.slice VA m vc)) hmix ?_
        generalize W.drew=u0 at *
        refine' takeT (i:=0) (v:=_) (noDefer_of (by kernel_rfl)) rfl (by kernel_rfl) (by kernel_rfl) (by kernel_rfl) (fun _ _ _ h=>h) (by kernel_rfl) ⟨Or.inl ⟨by rfl,fun w' hSw=>_⟩,fun _=>rfl⟩ S0 _
        rotate_left
        · obtain ⟨q0,q1,q2,q3⟩:=hSw
          go_simp
          rfl
        simp only [Act.put,getElem_toArray,getElem_cons_zero,setIfInBounds_toArray,set_cons_zero,set_cons_succ]
        refine' takeT (i:=1) (v:=_) (noDefer_of (by kernel_rfl)) rfl (by kernel_rfl) (by kernel_rfl) (by kernel_rfl) (fun _ _ _ h=>h) (by kernel_rfl) ⟨Or.inl ⟨by rfl,fun w' hSw=>_⟩,fun _=>rfl⟩ S0 _
        rotate_left
        · obtain ⟨q0,q1,q2,q3⟩:=hSw
          go_simp
          rfl
        simp only [Act.put,getElem_toArray,getElem_cons_succ,getElem_cons_zero,setIfInBounds_toArray,set_cons_zero,set_cons_succ]
        refine' takeT (i:=2) (v:=_) (noDefer_of (by kernel_rfl)) rfl (by kernel_rfl) (by kernel_rfl) (by kernel_rfl) (fun _ _ _ h=>h) (by kernel_rfl) ⟨Or.inl ⟨by rfl,fun w' hSw=>_⟩,fun _=>rfl⟩ S0 _
        rotate_left
        · obtain ⟨q0,q1,q2,q3⟩:=hSw
          go_simp
          rfl
        simp only [Act.put,getElem_toArray,getElem_cons_succ,getElem_cons_zero,setIfInBounds_toArray,set_cons_zero,set_cons_succ]
        refine' takeT (i:=3) (v:=_) (noDefer_of (by kernel_rfl)) rfl (by kernel_rfl) (by kernel_rfl) (by kernel_rfl) (fun _ _ _ h=>h) (by kernel_rfl) ⟨Or.inl ⟨by rfl,fun w' hSw=>_⟩,fun _=>rfl⟩ S0 _
        rotate_left
        · obtain ⟨q0,q1,q2,q3⟩:=hSw
          go_simp
          rfl
        simp only [Act.put,getElem_toArray,getElem_cons_succ,getElem_cons_zero,setIfInBounds_toArray,set_cons_zero,set_cons_succ]
        refine' takeT (i:=4) (v:=_) (noDefer_of (by kernel_rfl)) rfl (by kernel_rfl) (by kernel_rfl) (by kernel_rfl) (fun _ _ _ h=>h) (by kernel_rfl) ⟨Or.inl ⟨by rfl,fun w' hSw=>_⟩,fun _=>rfl⟩ S0 _
        rotate_left
        · obtain ⟨q0,q1,q2,q3⟩:=hSw
          go_simp
          rfl
        simp only [Act.put,getElem_toArray,getElem_cons_succ,getElem_cons_zero,setIfInBounds_toArray,set_cons_zero,set_cons_succ]
        refine' takeT (i:=5) (v:=_) (noDefer_of (by kernel_rfl)) rfl (by kernel_rfl) (by kernel_rfl) (by kernel_rfl) (fun _ _ _ h=>h) (by kernel_rfl) ⟨Or.inl ⟨by rfl,fun w' hSw=>_⟩,fun _=>rfl⟩ S0 _
        rotate_left
        · obtain ⟨q0,q1,q2,q3⟩:=hSw
          go_simp
          rfl
        simp only [Act.put,getElem_toArray,getElem_cons_succ,getElem_cons_zero,setIfInBounds_toArray,set_cons_zero,set_cons_succ]
        refine' takeT (i:=6) (v:=_) (noDefer_of (by kernel_rfl)) rfl (by kernel_rfl) (by kernel_rfl) (by kernel_rfl) (fun _ _ _ h=>h) (by kernel_rfl) ⟨Or.inl ⟨by rfl,fun w' hSw=>_⟩,fun _=>rfl⟩ S0 _
        rotate_left
        · obtain ⟨q0,q1,q2,q3⟩:=hSw
          go_simp
          rfl
        simp only [Act.put,getElem_toArray,getElem_cons_succ,getElem_cons_zero,setIfInBounds_toArray,set_cons_zero,set_cons_succ]
        refine' takeT (i:=7) (v:=_) (noDefer_of (by kernel_rfl)) rfl (by kernel_rfl) (by kernel_rfl) (by kernel_rfl) (fun _ _ _ h=>h) (by kernel_rfl) ⟨Or.inl ⟨by rfl,fun w' hSw=>_⟩,fun _=>rfl⟩ S0 _
        rotate_left
        · obtain ⟨q0,q1,q2,q3⟩:=hSw
          go_simp
          rfl
        simp only [Act.put,getElem_toArray,getElem_cons_succ,getElem_cons_zero,setIfInBounds_toArray,set_cons_zero,set_cons_succ]
        refine' takeT (i:=8) (v:=_) (noDefer_of (by kernel_rfl)) rfl (by kernel_rfl) (by kernel_rfl) (by kernel_rfl) (fun _ _ _ h=>h) (by kernel_rfl) ⟨Or.inl ⟨by rfl,fun w' hSw=>_⟩,fun _=>rfl⟩ S0 _
        rotate_left
        · obtain ⟨q0,q1,q2,q3⟩:=hSw
          go_simp
          rfl
        simp only [Act.put,getElem_toArray,getElem_cons_succ,getElem_cons_zero,setIfInBounds_toArray,set_cons_zero,set_cons_succ]
        refine' takeT (i:=9) (v:=_) (noDefer_of (by kernel_rfl)) rfl (by kernel_rfl) (by kernel_rfl) (by kernel_rfl) (fun _ _ _ h=>h) (by kernel_rfl) ⟨Or.inl ⟨by rfl,fun w' hSw=>_⟩,fun _=>rfl⟩ S0 _
        rotate_left
        · obtain ⟨q0,q1,q2,q3⟩:=hSw
          go_simp
          rfl
        simp only [Act.put,getElem_toArray,getElem_cons_succ,getElem_cons_zero,setIfInBounds_toArray,set_cons_zero,set_cons_succ]
        refine' takeT (i:=10) (v:=_) (noDefer_of (by kernel_rfl)) rfl (by kernel_rfl) (by kernel_rfl) (by kernel_rfl) (fun _ _ _ h=>h) (by kernel_rfl) ⟨Or.inl ⟨by rfl,fun w' hSw=>_⟩,fun _=>rfl⟩ S0 _
        rotate_left
        · obtain ⟨q0,q1,q2,q3⟩:=hSw
          go_simp
          rfl
        simp only [Act.put,getElem_toArray,getElem_cons_succ,getElem_cons_zero,setIfInBounds_toArray,set_cons_zero,set_cons_succ]
        refine' takeT (i:=11) (v:=_) (noDefer_of (by kernel_rfl)) rfl (by kernel_rfl) (by kernel_rfl) (by kernel_rfl) (fun _ _ _ h=>h) (by kernel_rfl) ⟨Or.inl ⟨by rfl,fun w' hSw=>_⟩,fun _=>rfl⟩ S0 _
        rotate_left
        · obtain ⟨q0,q1,q2,q3⟩:=hSw
          go_simp
          rfl
        simp only [Act.put,getElem_toArray,getElem_cons_succ,getElem_cons_zero,setIfInBounds_toArray,set_cons_zero,set_cons_succ]
        refine' takeT (i:=12) (v:=_) (noDefer_of (by kernel_rfl)) rfl (by kernel_rfl) (by kernel_rfl) (by kernel_rfl) (fun _ _ _ h=>h) (by kernel_rfl) ⟨Or.inl ⟨by rfl,fun w' hSw=>_⟩,fun _=>rfl⟩ S0 _
        rotate_left
        · obtain ⟨q0,q1,q2,q3⟩:=hSw
          go_simp
          rfl
        simp only [Act.put,getElem_toArray,getElem_cons_succ,getElem_cons_zero,setIfInBounds_toArray,set_cons_zero,set_cons_succ]
        refine' takeT (i:=13) (v:=_) (noDefer_of (by kernel_rfl)) rfl (by kernel_rfl) (by kernel_rfl) (by kernel_rfl) (fun _ _ _ h=>h) (by kernel_rfl) ⟨Or.inl ⟨by rfl,fun w' hSw=>_⟩,fun _=>rfl⟩ S0 _
        rotate_left
        · obtain ⟨q0,q1,q2,q3⟩:=hSw
          go_simp
          rfl
        simp only [Act.put,getElem_toArray,getElem_cons_succ,getElem_cons_zero,setIfInBounds_toArray,set_cons_zero,set_cons_succ]
        refine' takeT (i:=14) (v:=_) (noDefer_of (by kernel_rfl)) rfl (by kernel_rfl) (by kernel_rfl) (by kernel_rfl) (fun _ _ _ h=>h) (by kernel_rfl) ⟨Or.inl ⟨by rfl,fun w' hSw=>_⟩,fun _=>rfl⟩ S0 _
        rotate_left
        · obtain ⟨q0,q1,q2,q3⟩:=hSw
          go_simp
          rfl
        simp only [Act.put,getElem_toArray,getElem_cons_succ,getElem_cons_zero,setIfInBounds_toArray,set_cons_zero,set_cons_succ]
        refine' takeT (i:=15) (v:=_) (noDefer_of (by kernel_rfl)) rfl (by kernel_rfl) (by kernel_rfl) (by kernel_rfl) (fun _ _ _ h=>h) (by kernel_rfl) ⟨Or.inl ⟨by rfl,fun w' hSw=>_⟩,fun _=>rfl⟩ S0 _
        rotate_left
        · obtain ⟨q0,q1,q2,q3⟩:=hSw
          go_simp
          rfl
        simp only [Act.put,getElem_toArray,getElem_cons_succ,getElem_cons_zero,setIfInBounds_toArray,set_cons_zero,set_cons_succ]
        refine' takeT (i:=16) (v:=_) (noDefer_of (by kernel_rfl)) rfl (by kernel_rfl) (by kernel_rfl) (by kernel_rfl) (fun _ _ _ h=>h) (by kernel_rfl) ⟨Or.inl ⟨by rfl,fun w' hSw=>_⟩,fun _=>rfl⟩ S0 _
        rotate_left
        · obtain ⟨q0,q1,q2,q3⟩:=hSw
          go_simp
          rfl
        simp only [Act.put,getElem_toArray,getElem_cons_succ,getElem_cons_zero,setIfInBounds_toArray,set_cons_zero,set_cons_succ]
        refine oneT (i:=17) (by kernel_rfl) rfl ?_
        intro K hK
        rw [if_pos (by rfl)]
        go_simp
        refine hK.out _ _ (fun _=>S5) ?_
        clear hK K
        (try simp only [Act.put,getElem_toArray,getElem_cons_succ,getElem_cons_zero,setIfInBounds_toArray,set_cons_zero,set_cons_succ])
        refine oneT (i:=18) (by kernel_rfl) rfl ?_
        intro K hK
        rw [if_pos (by rfl)]
        refine app_opIn (.tmp 75) (.tmp 77) 32 rfl _ _ rfl rfl hr7 ?_
        refine hK.out _ _ (fun _=>S7) ?_
        clear hK K
        (try simp only [Act.put,getElem_toArray,getElem_cons_succ,getElem_cons_zero,setIfInBounds_toArray,set_cons_zero,set_cons_succ])
        refine oneT (i:=19) (by kernel_rfl) rfl ?_
        intro K hK
        rw [if_pos (by rfl)]
        go_simp
        refine hK.out _ _ (fun h=>absurd h (by decide)) ?_
        clear hK K
        (try simp only [Act.put,getElem_toArray,getElem_cons_succ,getElem_cons_zero,setIfInBounds_toArray,set_cons_zero,set_cons_succ])
        refine oneT (i:=20) (by kernel_rfl) rfl ?_
        intro K hK
        rw [if_pos (by rfl)]
        go_simp
        refine hK.out _ _ (fun h=>absurd h (by decide)) ?_
        clear hK K
        (try simp only [Act.put,getElem_toArray,getElem_cons_succ,getElem_cons_zero,setIfInBounds_toArray,set_cons_zero,set_cons_succ])
        refine oneT (i:=21) (by kernel_rfl) rfl ?_
        intro K hK
        rw [if_pos (by rfl)]
        go_simp
        refine hK.out _ _ (fun h=>absurd h (by decide)) ?_
        clear hK K
        (try simp only [Act.put,getElem_toArray,getElem_cons_succ,getElem_cons_zero,setIfInBounds_toArray,set_cons_zero,set_cons_succ])
        refine doneT (by kernel_rfl) ?_ _
        have NN:=hide (fun X=>number22_any ((n:Int)+1) (by unfold I64w;omega) X)
        gi_wp2_with fail
        refine ⟨trivial,?_⟩
        refine (callsIn_wide.2 (NN.out _)).mono ?_
        rintro e w9 ⟨rfl,hb9⟩
        gi_wp2
        go_ret
        refine ⟨by rw [HK.out,← HN.out];rfl,?_⟩
        rw [HVR.out]
        exact HST2.out.after hb9
  · have HE:=hide (HA0.out h1)
    clear h1
    gi_wp2
    go_ret
    rw [HE.out]
    exact ⟨by rw [E11.out];rfl,HST.out _ hb1⟩
end
end
end Go.Proofs.YthnenedoblncjaaGreatDoor
