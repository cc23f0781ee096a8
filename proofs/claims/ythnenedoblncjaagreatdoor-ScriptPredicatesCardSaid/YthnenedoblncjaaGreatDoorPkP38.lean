/- TrimNl ScrInv ScrLines -/
import Derived.BigQuiet
import Derived.ChangeAlike
import Derived.Deep.AppendLies
import Derived.Deep.QuietTactic
import Derived.Deep.RegionLaw
import Derived.Deep.RegionWith
import Derived.Lib.OthersKept
import Derived.Lib.SlTrimSet
import Derived.Lib.SliceRun
import Derived.Shelf.Strings.Builder1
import Derived.Shelf.Strings.SlTrimAscii
import Derived.Test.YthnenedoblncjaaGreatDoorProg
import Derived.Test.YthnenedoblncjaaGreatDoorPkP17
import Derived.Test.YthnenedoblncjaaGreatDoorPkP19
import Derived.Test.YthnenedoblncjaaGreatDoorPkP30
import Derived.Test.YthnenedoblncjaaGreatDoorPkP37
set_option maxRecDepth 1000000
set_option maxHeartbeats 8000000
namespace Go.Proofs.YthnenedoblncjaaGreatDoor
open List (getElem_toArray getElem_cons_succ getElem_cons_zero setIfInBounds_toArray set_cons_zero set_cons_succ)
section
open Go.RowKit Go.Shelf
theorem trim_nl (x:List UInt8):Lib.trimSuffix x [10]=cutNl x:=by
 unfold cutNl
 rcases List.eq_nil_or_concat x with rfl | ⟨a,c,rfl⟩
 · rfl
 · by_cases hc:c=10
   · subst hc
     simp [Lib.trimSuffix,Lib.hasSuffix]
   · simp [Lib.trimSuffix,Lib.hasSuffix,hc,Ne.symm hc]
theorem trimnl_any (x:List UInt8) (hx:x.length≤1000000) (w:World):Calls Tryz.prog 45 #[.string (strOf x),.string ⟨#[10]⟩] w fun e w'=>e=.returned (.string (strOf (cutNl x)))∧w'=w:=by
 refine (Any.strings_TrimSuffix Tryz.lays102 (strOf x) ⟨#[10]⟩ w (by rw [strOf_size];omega)).mono ?_
 rintro e w' ⟨rfl,rfl⟩
 refine ⟨?_,rfl⟩
 rw [← trim_nl];rfl
end
section
open Go.RowKit Go.Shelf
def ansL (ans:List (List UInt8)→List UInt8→List UInt8):List (List UInt8)→List (List UInt8)→List (List UInt8)
 | _,[]=>[]
 | s,l::r=>ans s l::ansL ans (s++[l]) r
theorem ansL_snoc (ans:List (List UInt8)→List UInt8→List UInt8):∀ (r s:List (List UInt8)) (l:List UInt8),ansL ans s (r++[l])=ansL ans s r++[ans (s++r) l]
 | [],s,l=>by simp [ansL]
 | x::r,s,l=>by rw [List.cons_append,ansL,ansL,ansL_snoc ans r (s++[x]) l];simp
theorem klnA_len:∀ (l cur:List UInt8),∀ x∈klnA cur l,x.length≤cur.length+l.length
 | [],cur,x,h=>by
   unfold klnA at h
   split at h
   · cases h
   · rw [List.mem_singleton.1 h];exact Nat.le_add_right ..
 | c::r,cur,x,h=>by
   unfold klnA at h
   split at h
   · rcases List.mem_cons.1 h with h | h
     · rw [h,List.length_append,List.length_cons,List.length_cons,List.length_nil];omega
     · have:=klnA_len r [] x h
       rw [List.length_cons];rw [List.length_nil] at this;omega
   · have:=klnA_len r _ x h
     rw [List.length_append,List.length_cons,List.length_nil] at this
     rw [List.length_cons];omega
theorem kls_mem {l x:List UInt8} (h:x∈kls l):x.length≤l.length∧cutNl x∈lns l:=by
 refine ⟨by have:=klnA_len l [] x h;rw [List.length_nil] at this;omega,?_⟩
 rw [← kls_lns]
 exact List.mem_map_of_mem h
theorem kls_len (l:List UInt8):(kls l).length=(lns l).length:=by rw [← kls_lns,List.length_map]
theorem cellB_lt {X:World} {k:Nat} (h:CellB X k):k<X.heap.size:=by
 obtain ⟨o,ho,_⟩:=h
 exact (Array.getElem?_eq_some_iff.1 ho).1
theorem cellB_of {X:World} {b o:Nat} {u:Value} (h:X.cell? ⟨b,o,none⟩=some u):CellB X b:=by
 unfold World.cell? at h
 dsimp only at h
 split at h
 · rename_i e
   exact ⟨_,e,rfl⟩
 · cases h
structure DoInv (B M:Nat) (T:List UInt8→Prop) (vS:Value) (ans:List (List UInt8)→List UInt8→List UInt8) (Inv:(Nat→Prop)→(Nat→Prop)→List (List UInt8)→World→Prop):Prop where
 keep:∀ {W R:Nat→Prop} {s:List (List UInt8)} {X Y:World},Inv W R s X→KeepP (fun k=>k<B∨W k∨R k) X Y→Inv W R s Y
 low:∀ {W R:Nat→Prop} {s:List (List UInt8)} {X:World},Inv W R s X→B≤X.heap.size∧∀ k,W k→B≤k
 cell:∀ {W R:Nat→Prop} {s:List (List UInt8)} {X:World},Inv W R s X→∀ k,W k∨R k→CellB X k
 step:∀ {W R:Nat→Prop} {s:List (List UInt8)} {X:World} (line:List UInt8),T line→s.length<M→Inv W R s X→Calls Tryz.prog 21 #[vS,.string (strOf line)] X fun e Y=>e=.returned (.string (strOf (ans s line))) ∧
  ∃ W' R',Inv W' R' (s++[line]) Y∧(∀ k,W' k→W k∨X.heap.size≤k)∧(∀ k,R' k→R k∨X.heap.size≤k)∧KeepP (fun k=>k<X.heap.size∧¬ W k) X Y
structure RunAt (w:World) (bs bo z:Nat) (vS:Value) (s0:List (List UInt8)) (ans:List (List UInt8)→List UInt8→List UInt8) (Inv:(Nat→Prop)→(Nat→Prop)→List (List UInt8)→World→Prop) (W0 R0 Rk:Nat→Prop) (pre:List (List UInt8)) (X:World):Prop where
 ex:∃ W R v,Inv W R (s0++pre.map cutNl) X∧(∀ k,W k∨R k→¬ Rk k∧(k<w.heap.size∨z+2≤k)∧v.ownBlock≠some k)∧(∀ k,W k→W0 k∨w.heap.size≤k)∧(∀ k,R k→R0 k∨w.heap.size≤k)∧Blk X bo 28 #[v] ∧
  X.ownsRow (z+2) 9 1 v pre.length (strCs (ansL ans s0 (pre.map cutNl)))∧∀ b,v.ownBlock=some b→¬ Rk b
 box:Blk X bs 24 #[vS]
 nR:¬ Rk bo
 keep:KeepP (fun k=>k<w.heap.size∧¬ W0 k) w X
section
variable {B M:Nat} {T:List UInt8→Prop} {vS:Value} {ans:List (List UInt8)→List UInt8→List UInt8} {Inv:(Nat→Prop)→(Nat→Prop)→List (List UInt8)→World→Prop} (D:DoInv B M T vS ans Inv) (w:World) (s0:List (List UInt8)) (W0 R0:Nat→Prop)
include D
theorem run_rests (bs bo bx z:Nat) (hz:bs=w.heap.size∧bo=bs+1∧bx=bs+2∧z=bs+3) (hB:B≤w.heap.size):RestsX z (fun k=>k=bx) (RunAt w bs bo z vS s0 ans Inv W0 R0):=by
 rintro R R' es X Y ⟨⟨W,Rr,v,hi,hd,hw,hrr,hb,hown,hv⟩,hbs,hn,hk⟩ hst hR
 have hnR:∀ k,k<X.heap.size→¬ R k→¬ R' k:=fun k hk hr h=>by
  rcases (hR k h).1 with h | h
  · exact hr h
  · omega
 have hlt:∀ k,W k∨Rr k→k<X.heap.size:=fun k hk=>cellB_lt (D.cell hi k hk)
 refine ⟨⟨W,Rr,v,D.keep hi ⟨hst.os,hst.tape,hst.output,hst.size,fun k hk=>?_⟩,fun k hk=>?_,hw,hrr,(hst.block bo hb.lt (by omega) (.inl (by omega))).trans hb,own_stirsX hown hst (fun b e h=>?_) hv,fun b e=>hnR b (own_lt' hown e) (hv b e)⟩,(hst.block bs hbs.lt (by omega) (.inl (by omega))).trans hbs,hnR bo hb.lt hn,?_⟩
 · have hBX:=(D.low hi).1
   rcases hk with hk | hk
   · exact hst.block k (by omega) (by omega) (.inl (by omega))
   · obtain ⟨a,c,_⟩:=hd k hk
     exact hst.block k (hlt k hk) (by omega) (.inr ⟨a,D.cell hi k hk⟩)
 · obtain ⟨a,r⟩:=hd k hk
   exact ⟨hnR k (hlt k hk) a,r⟩
 · have:=own_base hown e
   have h:b=bx:=h
   omega
 · exact hk.trans ⟨hst.os,hst.tape,hst.output,hst.size,fun k hk'=>hst.block k (Nat.lt_of_lt_of_le hk'.1 hk.size) (by omega) (.inl (by omega))⟩
end
theorem SesAt.cells {σ:St} {sb:Nat} {Wr Rd:Nat→Prop} {X:World} (h:SesAt σ sb Wr Rd X):SesAt σ sb (fun k=>Wr k∧CellB X k) (fun k=>Rd k∧CellB X k) X:=by
 obtain ⟨gs,vR,vQ,h⟩:=h
 refine ⟨gs,vR,vQ,h.data,h.blk,h.rows,h.qrows,⟨h.wb,_,h.blk,rfl⟩,fun k e=>⟨⟨(h.wr k e).1,own_cells h.rows e⟩,(h.wr k e).2⟩,fun k e=>⟨⟨(h.wq k e).1,own_cells h.qrows e⟩,(h.wq k e).2⟩,h.rq,fun g hg=>⟨(h.pts g hg).1,?_⟩,fun k hr hw=>h.apart k hr.1 hw.1,fun k hk=>h.wlt k hk.1,fun k hk=>h.rlt k hk.1,h.small⟩
 rcases (h.pts g hg).2 with h0 | ⟨b,off,hA,hb,hc⟩
 · exact .inl h0
 · cases hx:ptCs g.2 with
   | nil=>exact .inl rfl
   | cons u r =>
     rw [← hx]
     refine .inr ⟨b,off,hA,⟨hb,?_⟩,hc⟩
     have:=hc 0 u (by rw [hx];rfl)
     exact cellB_of this
def stL (f:St→List UInt8→List UInt8 × St) (σ:St) (s:List (List UInt8)):St:=s.foldl (fun σ l=>(f σ l).2) σ
def SesInv (B:Nat) (f:St→List UInt8→List UInt8 × St) (σ:St) (sb:Nat) (W R:Nat→Prop) (s:List (List UInt8)) (X:World):Prop :=
 SesAt (stL f σ s) sb W R X∧Env B X∧(∀ k,W k→B≤k)∧∀ k,W k∨R k→CellB X k
theorem ses_inv (B M:Nat) (T:List UInt8→Prop) (Q:St→Prop) (f:St→List UInt8→List UInt8 × St) (σ0:St) (sb:Nat) (hQ:∀ s:List (List UInt8),s.length<M→Q (stL f σ0 s))
 (hdo:∀ line,T line→∀ (σ:St) (Wr Rd:Nat→Prop) (X:World),Q σ→SesAt σ sb Wr Rd X→Env B X→(∀ k,Wr k→B≤k)→Calls Tryz.prog 21 #[.pointer (some ⟨sb,0,none⟩),.string (strOf line)] X (Ans23 (f σ line) sb Wr Rd X)) :
 DoInv B M T (.pointer (some ⟨sb,0,none⟩)) (fun s l=>(f (stL f σ0 s) l).1) (SesInv B f σ0 sb) where
 keep:=fun {W R s X Y} h hk=>by
  obtain ⟨⟨gs,vR,vQ,h1⟩,h2,h3,h4⟩:=h
  refine ⟨⟨gs,vR,vQ,h1.kept (hk.mono fun k hk=>.inr hk)⟩,h2.step ⟨hk.os,hk.tape,hk.output,hk.size,fun j hj=>hk.block j (.inl hj)⟩,h3,fun k hk'=>?_⟩
  obtain ⟨o,ho,hc⟩:=h4 k hk'
  exact ⟨o,(hk.block k (.inr hk')).trans ho,hc⟩
 low:=fun {W R s X} h=>⟨h.2.1.1,h.2.2.1⟩
 cell:=fun {W R s X} h=>h.2.2.2
 step:=fun {W R s X} line ht hM h=>by
  obtain ⟨h1,h2,h3,h4⟩:=h
  refine (hdo line ht _ W R X (hQ s hM) h1 h2 h3).mono ?_
  rintro e Y ⟨rfl,hs⟩
  have hbl:=hs.below h2.1 h3
  obtain ⟨W',R',hs',a,b,k⟩:=hs
  refine ⟨rfl,fun k=>W' k∧CellB Y k,fun k=>R' k∧CellB Y k,⟨?_,h2.step hbl,fun k hk=>?_,fun k hk=>?_⟩,fun k hk=>a k hk.1,fun k hk=>b k hk.1,k⟩
  · unfold stL
    rw [List.foldl_append]
    exact hs'.cells
  · rcases a k hk.1 with h | h
    · exact h3 k h
    · exact Nat.le_trans h2.1 h
  · rcases hk with hk | hk
    · exact hk.2
    · exact hk.2
end
section
open Go.RowKit Go.Shelf
attribute [local go_sem] Oper.semAt_some
def RunOut (s0:List (List UInt8)) (t:List UInt8) (ans:List (List UInt8)→List UInt8→List UInt8) (Inv:(Nat→Prop)→(Nat→Prop)→List (List UInt8)→World→Prop) (W0 R0:Nat→Prop) (w:World) (e:Ending) (Y:World):Prop :=
 ∃ W R v,e=.returned v∧Inv W R (s0++lns t) Y∧(∀ k,W k∨R k→v.ownBlock≠some k)∧(∀ k,W k→W0 k∨w.heap.size≤k)∧(∀ k,R k→R0 k∨w.heap.size≤k)∧Y.ownsRow w.heap.size 9 1 v (lns t).length (strCs (ansL ans s0 (lns t)))∧KeepP (fun k=>k<w.heap.size∧¬ W0 k) w Y
section
variable {B M:Nat} {T:List UInt8→Prop} {vA:Option Addr} {ans:List (List UInt8)→List UInt8→List UInt8} {Inv:(Nat→Prop)→(Nat→Prop)→List (List UInt8)→World→Prop} (D:DoInv B M T (.pointer vA) ans Inv) (t:List UInt8) (ht:t.length≤1000000) (hT:∀ l∈lns t,T l) (w:World) (W0 R0:Nat→Prop) (s0:List (List UInt8)) (hi:Inv W0 R0 s0 w) (hM:s0.length+(lns t).length≤M)
include D ht hT hi hM
theorem sRun_any:Calls Tryz.prog 17 #[.pointer vA,.string (strOf t)] w (RunOut s0 t ans Inv W0 R0 w):=by
 have hmix:Tryz.prog.follows .mixedOrders=true:=by kernel_rfl
 obtain ⟨bs,hbs⟩:∃ z,z=w.heap.size:=⟨_,rfl⟩
 obtain ⟨bo,hbo⟩:∃ z,z=w.heap.size+1:=⟨_,rfl⟩
 obtain ⟨bx,hbx⟩:∃ z,z=w.heap.size+1+1:=⟨_,rfl⟩
 obtain ⟨w1,hw1⟩:∃ w1,w1=(w.alloc (.cells #[.pointer vA] 24)).alloc (.cells #[.slice none 0 0] 28):=⟨_,rfl⟩
 have hb1:Below w.heap.size w w1:=by rw [hw1];exact bl_alloc (bA) _
 have hz1:w1.heap.size=bx:=by rw [hw1,hbx];simp
 have S1:Blk w1 bs 24 #[.pointer vA]:=by rw [hw1,hbs];exact (Blk.new _ _ _).alloc _
 have O1:Blk w1 bo 28 #[.slice none 0 0]:=by rw [hw1,hbo];exact Blk.new2 _ _ _ _
 obtain ⟨w2,hw2⟩:∃ w2,w2=w1.alloc (.cells #[.string (strOf t)] 9):=⟨_,rfl⟩
 have hb12:Below w1.heap.size w1 w2:=by rw [hw2];exact bA
 have X2:Blk w2 bx 9 #[.string (strOf t)]:=by rw [hw2,← hz1];exact Blk.new _ _ _
 have hz2:w2.heap.size=bs+3:=by rw [hw2];simp [hz1];omega
 have hbl2:=bl_step hb1 hb12
 have LR:=hide (lines_raw (strOf t) w1)
 rw [← hw2,hz1] at LR
 have HSEQ:Hid (SeqX Tryz.prog (fun x=>x∈kls t) encS (fun k=>k=bx) (fun k=>k=bx) 86 #[.pointer (some ⟨bx,0,none⟩)] (fun ys=>ys=kls t) (kls t).length w2):=hide (lines1_at t ht (fun k=>k=bx) bx rfl w2 X2)
 have hB:=(D.low hi).1
 have HP0:Hid (RunAt w bs bo (bs+3) (.pointer vA) s0 ans Inv W0 R0 (fun k=>k=bx) [] w2):=hide
  ⟨⟨W0,R0,_,by
     rw [List.map_nil,List.append_nil]
     exact D.keep hi (KeepP.of_below hbl2 fun k hk=>by
      rcases hk with hk | hk
      · omega
      · exact cellB_lt (D.cell hi k hk)),fun k hk=>by
     have:=cellB_lt (D.cell hi k hk)
     exact ⟨by omega,.inl this,fun e=>(by cases e)⟩,fun k hk=>.inl hk,fun k hk=>.inl hk,O1.step hb12,World.ownsRow_nil _ _ _ _,fun _ h=>(by cases h)⟩,
    S1.step hb12,by omega,KeepP.of_below hbl2 fun k hk=>hk.1⟩
 have HZ:Hid (bs=w.heap.size∧bo=bs+1∧bx=bs+2∧w2.heap.size=bs+3):=hide (by omega)
 have HBW:=hide hB
 have HM:=hide hM
 have HD:=hide D;have HT:=hide hT;have HTL:=hide ht
 have heg:∀ args w,(callFunc 86 args).run Tryz.prog w=.ok (.enter 86 args) w:=enters_of Tryz.func86 (by kernel_rfl) rfl
 have HEG:=hide heg
 have hbs':=hide hbs;have hbo':=hide hbo
 clear hM ht hT hi D hb1 hz1 S1 O1 hw2 hb12 X2 hz2 hbl2 heg hB hbs hbo hbx
 refine (callsIn_wide (n:=6)).1 ?_
 refine callsIn_of_wp_marks Tryz.func17 rfl trivial ?_ rfl
 simp only [Tryz.ntmps17,List.size_toArray,List.length_cons,List.length_nil,Nat.reduceAdd,Nat.reduceSub,Array.replicate_succ,Array.replicate_zero,List.push_toArray,List.append_toArray,List.nil_append,List.cons_append]
 gi_wp2_with fail
 rw [← hw1,← hbo'.out,← hbs'.out]
 clear hw1 hbo' hbs'
 refine ⟨trivial,?_⟩
 refine (callsIn_wide.2 LR.out).mono ?_
 rintro e w' ⟨rfl,rfl⟩
 clear LR
 gi_wp2_with fail
 refine wpIn_range_seqX (K:=fun k=>k=bx) rfl HEG.out HSEQ.out (fun k h=>by have:=HZ.out;omega) (fun k h=>by have:=HZ.out;omega) (fun _=>rfl) (RunAt w bs bo (bs+3) (.pointer vA) s0 ans Inv W0 R0) (fun _ _ _=>False) ?h1 (fun _ _ _ _ _ _ h=>h.elim) HP0.out ?round ?done ?stop
 case h1 =>
  have hz:=HZ.out
  rw [hz.2.2.2]
  exact run_rests HD.out w s0 W0 R0 bs bo bx (bs+3) ⟨hz.1,hz.2.1,hz.2.2.1,rfl⟩ HBW.out
 case stop =>
  rintro cc X h
  exact h.elim
 case done =>
  rintro ys X rfl ⟨⟨W,R,v,hi,hd,hw,hrr,hb,hown,hv⟩,hbx,-,hk⟩ hD -
  have c5:=hb.cell (i:=0) rfl
  have HALL:=hide (And.intro hi (And.intro hd (And.intro hw (And.intro hrr (And.intro hown hk)))))
  have HDF:=hide hD
  clear hi hd hw hrr hb hown hv hbx hk hD
  gi_wp2
  refine ⟨by simp,.inl ⟨_,_,rfl,run_takeDeferred HDF.out,?_⟩⟩
  obtain ⟨hi,hd,hw,hrr,hown,hk⟩:=HALL.out
  have hz:=HZ.out
  have hBW:=HBW.out
  have g:=grownBy_putObj' X w'.heap.size (.deferred none)
  refine ⟨_,results_tmp rfl _ _ _,?_⟩
  have e1:(kls t).map cutNl=lns t:=kls_lns t
  rw [e1,kls_len] at hown
  rw [e1] at hi
  refine ⟨W,R,v,rfl,HD.out.keep hi (KeepP.putObj _ (fun hk=>?_) _),fun k hk=>(hd k hk).2.2,hw,hrr,own_mono (hown.kept g (.inr fun e=>by have:=own_base hown e;omega)) (by omega),hk.trans (KeepP.putObj _ (fun h=>by have:=h.1;omega) _)⟩
  rcases hk with hk | hk
  · omega
  · have:=(hd _ hk).2.1;omega
 case round =>
  rintro R pre x X hR hnl hs1' ⟨rec,hrec⟩ hat hpre hx
  have HAT:=hide hat
  have HR:=hide hR;have HNL:=hide hnl;have HSZ:=hide hs1';have HX:=hide hx;have HPRE:=hide hpre
  clear hat hR hnl hs1' hrec hx hpre
  unfold encS
  gi_wp2
  refine ⟨KeepP.refl _ _,fun o=>?_⟩
  have hz:=HZ.out
  have hBW:=HBW.out
  obtain ⟨⟨W,Rr,v,hi,hd,hw,hrr,hb,hown,hv⟩,hbx,hn,hk⟩:=HAT.out
  clear HAT
  obtain ⟨X2,hX2⟩:∃ X2,X2=X.putObj (w'.heap.size+1) (.loop o):=⟨_,rfl⟩
  have hgp:X.grownBy X2 (some (w'.heap.size+1)):=by rw [hX2];exact grownBy_putObj' _ _ _
  have hXk:KeepP (fun k=>k≠w'.heap.size+1) X X2.drew:=by rw [hX2];exact (KeepP.putObj _ (fun h=>h rfl) _).trans (KeepP.drew _ _)
  have hi2:Inv W Rr (s0++pre.map cutNl) X2.drew:=HD.out.keep hi (hXk.mono fun k hk=>by
   rcases hk with hk | hk
   · omega
   · have:=(hd _ hk).2.1;omega)
  have hb2:Blk X2.drew bo 28 #[v]:=hb.kept hXk (by omega)
  have hbx2:Blk X2.drew bs 24 #[.pointer vA]:=hbx.kept hXk (by omega)
  have hown2:X2.drew.ownsRow (bs+3+2) 9 1 v pre.length (strCs (ansL ans s0 (pre.map cutNl))):=own_keep hown hXk fun k e=>by have:=own_base hown e;omega
  have hk2:KeepP (fun k=>k<w.heap.size∧¬ W0 k) w X2.drew:=hk.trans (hXk.mono fun k hk=>by omega)
  have hR2:∀ k,Bk R w'.heap.size k→k<X2.drew.heap.size:=fun k hk=>by
   have h1:=HSZ.out
   have h2:X.heap.size≤X2.drew.heap.size:=hXk.size
   rcases hk with hk | hk | hk
   · have:=HR.out k hk;omega
   · omega
   · omega
  have hsz2:w'.heap.size+2≤X2.drew.heap.size:=by have h1:=HSZ.out;have h2:X.heap.size≤X2.drew.heap.size:=hXk.size;omega
  have hl:=kls_mem HX.out
  have HTR:=hide (trimnl_any x (by have:=HTL.out;omega))
  have HDO:=hide (HD.out.step (cutNl x) (HT.out _ hl.2) (by have h1:=HPRE.out;have h2:=HM.out;rw [kls_len] at h1;rw [List.length_append,List.length_map];omega) hi2)
  have HK0:Hid (KeepP (Bk R w'.heap.size) X2 X2.drew):=hide (KeepP.drew _ _)
  have S0:X2.drew.cell? ⟨bs,0,none⟩=some (.pointer vA)∧X2.drew.cell? ⟨bo,0,none⟩=some v:=⟨hbx2.cell (i:=0) rfl,hb2.cell (i:=0) rfl⟩
  have HA:=hide (And.intro hd (And.intro hw (And.intro hi2 (And.intro hb2 (And.intro hbx2 (And.intro hown2 (And.intro hk2 (And.intro hR2 (And.intro hsz2 (And.intro hv (And.intro hn hrr)))))))))))
  rw [← hX2]
  clear hi hd hw hrr hb hown hv hbx hn hk hX2 hgp hXk hi2 hb2 hbx2 hown2 hk2 hR2 hsz2 hl hz hBW
  gi_wp2
  refine startNT 6 (S:=fun Y=>Y.cell? ⟨bs,0,none⟩=some (.pointer vA)∧Y.cell? ⟨bo,0,none⟩=some v) hmix ?_
  generalize X2.drew=u0 at *
  refine' takeT (i:=0) (v:=_) (noDefer_of (by kernel_rfl)) rfl (by kernel_rfl) (by kernel_rfl) (by kernel_rfl) (fun _ _ _ h=>h) (by kernel_rfl) ⟨Or.inl ⟨by rfl,?hy0k1⟩,fun _=>rfl⟩ S0 ?rest0k1
  case hy0k1 =>
   intro w' hSw
   obtain ⟨q0,q1⟩:=hSw
   go_simp
   rfl
  simp only [Act.put,getElem_toArray,getElem_cons_zero,setIfInBounds_toArray,set_cons_zero,set_cons_succ]
  refine' takeT (i:=1) (v:=_) (noDefer_of (by kernel_rfl)) rfl (by kernel_rfl) (by kernel_rfl) (by kernel_rfl) (fun _ _ _ h=>h) (by kernel_rfl) ⟨Or.inl ⟨by rfl,?hy1k2⟩,fun _=>rfl⟩ S0 ?rest1k2
  case hy1k2 =>
   intro w' hSw
   obtain ⟨q0,q1⟩:=hSw
   go_simp
   rfl
  simp only [Act.put,getElem_toArray,getElem_cons_succ,getElem_cons_zero,setIfInBounds_toArray,set_cons_zero,set_cons_succ]
  refine' takeT (i:=2) (v:=_) (noDefer_of (by kernel_rfl)) rfl (by kernel_rfl) (by kernel_rfl) (by kernel_rfl) (fun _ _ _ h=>h) (by kernel_rfl) ⟨Or.inl ⟨by rfl,?hy2k3⟩,fun _=>rfl⟩ S0 ?rest2k3
  case hy2k3 =>
   intro w' hSw
   obtain ⟨q0,q1⟩:=hSw
   go_simp
   rfl
  simp only [Act.put,getElem_toArray,getElem_cons_succ,getElem_cons_zero,setIfInBounds_toArray,set_cons_zero,set_cons_succ]
  refine oneT (i:=3) (by kernel_rfl) rfl ?_
  intro K hK
  rw [if_pos (by rfl)]
  go_simp
  refine ⟨trivial,?_⟩
  refine (CallsIn.inRound _ (callsIn_wide.2 (HTR.out u0))).mono ?_
  rintro e y1 ⟨rfl,hy1⟩
  subst hy1
  refine hK.out _ _ (fun _=>S0) ?_
  clear hK K HTR
  (try simp only [Act.put,getElem_toArray,getElem_cons_succ,getElem_cons_zero,setIfInBounds_toArray,set_cons_zero,set_cons_succ])
  refine oneT (i:=4) (by kernel_rfl) rfl ?_
  intro K hK
  rw [if_pos (by rfl)]
  go_simp
  refine ⟨trivial,?_⟩
  refine (CallsIn.inRound _ (callsIn_wide.2 HDO.out)).mono ?_
  rintro e X3 ⟨rfl,W',R',hi3,hW',hR',hk3⟩
  clear HDO
  have hz:=HZ.out
  have hBW:=HBW.out
  obtain ⟨hd,hw,hi2,hb2,hbx2,hown2,hk2,hR2,hsz2,hv,hn,hrr⟩:=HA.out
  have hlt2:∀ k,W k∨Rr k→k<y1.heap.size:=fun k hk=>cellB_lt (HD.out.cell hi2 k hk)
  have hlt3:∀ k,W' k∨R' k→k<X3.heap.size:=fun k hk=>cellB_lt (HD.out.cell hi3 k hk)
  have hnW:∀ k,w.heap.size≤k→k<bs+3+2→¬ W k:=fun k h1 h2 h=>by have:=(hd k (.inl h)).2.1;omega
  have B3:=hb2.kept hk3 ⟨hb2.lt,hnW bo (by omega) (by omega)⟩
  have S3:=hbx2.kept hk3 ⟨hbx2.lt,hnW bs (by omega) (by omega)⟩
  have hvW:∀ k,v.ownBlock=some k→¬ (W k∨Rr k):=fun k e h=>(hd k h).2.2 e
  have hown3:=own_keep hown2 hk3 fun k e=>⟨own_lt' hown2 e,fun h=>hvW k e (.inl h)⟩
  obtain ⟨an,han⟩:∃ an,an=ans (s0++pre.map cutNl) (cutNl x):=⟨_,rfl⟩
  rw [← han]
  obtain ⟨X5,hX5⟩:∃ X5,X5=X3.alloc (.cells #[.string (strOf an)] 9):=⟨_,rfl⟩
  obtain ⟨g5,hg5⟩:∃ g5,g5=X3.heap.size:=⟨_,rfl⟩
  have hb35:Below X3.heap.size X3 X5:=by rw [hX5];exact bA
  have N5:Blk X5 g5 9 #[.string (strOf an)]:=by rw [hX5,hg5];exact Blk.new _ _ _
  have B5:=B3.step hb35
  have S5:=S3.step hb35
  have hown5:=own_step hown3 hb35
  have hpn:pre.length≤1000001:=by have h1:=HPRE.out;have h2:=HTL.out;have h3:(lns t).length≤t.length+1:=linesA_count t [];rw [kls_len] at h1;omega
  have hsz3:y1.heap.size≤X3.heap.size:=hk3.size
  have hsz5:X3.heap.size≤X5.heap.size:=hb35.size
  obtain ⟨i0,hi,hz0,hz1,hz2⟩:=info_parts str_info
  obtain ⟨g6,c6,X6,hr6,hown6,hg6,hloc6,hlt6⟩:=run_append_lies (P:=Tryz.prog) X5 28 28 (bs+3+2) 9 i0 (.string ⟨#[]⟩) 1 16 Tryz.underlying28 hi hz0 hz1 hz2 rfl (by decide) v pre.length _ hown5 ⟨g5,0,none⟩ 1 1 [.string (strOf an)] rfl (blk_cells N5) (by simp [Value.oneCell']) (by omega) (by unfold maxLen;omega) (by omega) (by omega) _ rfl
  have hvo:∀ k,v.ownBlock=some k→bs+5≤k:=fun k e=>by have:=own_base hown2 e;omega
  have B6:Blk X6 bo 28 #[v]:=B5.grown hg6 (fun e=>by have:=hvo bo e.symm;omega)
  have S6:Blk X6 bs 24 #[.pointer vA]:=S5.grown hg6 (fun e=>by have:=hvo bs e.symm;omega)
  have hg6n:¬ R g6∧bs+5≤g6∧¬ (W' g6∨R' g6):=by
   rcases hloc6 with h | h
   · refine ⟨hv g6 h,hvo g6 h,fun hh=>?_⟩
     have hlt:=own_lt' hown2 h
     rcases hh with hh | hh
     · rcases hW' g6 hh with h3 | h3
       · exact hvW g6 h (.inl h3)
       · omega
     · rcases hR' g6 hh with h3 | h3
       · exact hvW g6 h (.inr h3)
       · omega
   · refine ⟨fun hr=>?_,by omega,fun hh=>?_⟩
     · have:=hR2 g6 (.inl hr);omega
     · have:=hlt3 g6 hh;omega
  obtain ⟨X7,hX7⟩:∃ X7,X7=X6.setCell ⟨bo,0,none⟩ (.slice (some ⟨g6,0,none⟩) (pre.length+1) c6):=⟨_,rfl⟩
  have B7:Blk X7 bo 28 #[.slice (some ⟨g6,0,none⟩) (pre.length+1) c6]:=by rw [hX7];exact B6.set 0 _
  have S7:Blk X7 bs 24 #[.pointer vA]:=by rw [hX7];exact S6.far (p:=⟨bo,0,none⟩) (by dsimp only;omega) _
  have hown7:X7.ownsRow (bs+3+2) 9 1 (.slice (some ⟨g6,0,none⟩) (pre.length+1) c6) (pre++[x]).length (strCs (ansL ans s0 ((pre++[x]).map cutNl))):=by
   have e:(pre++[x]).length=pre.length+1:=by simp
   rw [List.map_append,List.map_cons,List.map_nil,ansL_snoc,strCs_snoc,← han,e,hX7]
   exact own_set hown6 (by simp [Value.ownBlock];omega) _
  have hgb:∀ (P:Nat→Prop),(∀ k,P k→k<X3.heap.size∧v.ownBlock≠some k∧k≠bo)→KeepP P X3 X7:=fun P hP=>by
   rw [hX7]
   refine ((KeepP.of_below hb35 fun k hk=>(hP k hk).1).trans ⟨hg6.os,hg6.tape,hg6.output,hg6.size,fun k hk=>hg6.block k (Nat.lt_of_lt_of_le (hP k hk).1 hsz5) (Ne.symm (hP k hk).2.1)⟩).trans (KeepP.setCell (fun hk=>(hP bo hk).2.2 rfl) _ _ _)
  have hkB:KeepP (Bk R w'.heap.size) y1 X7:=(hk3.mono fun k hk=>⟨hR2 k hk,fun h=>by
   rcases hk with hk | hk | hk
   · exact (hd k (.inl h)).1 hk
   · exact hnW k (by omega) (by omega) h
   · exact hnW k (by omega) (by omega) h⟩).trans (hgb _ fun k hk=>⟨Nat.lt_of_lt_of_le (hR2 k hk) hsz3,fun e=>by
     rcases hk with hk | hk | hk
     · exact hv k e hk
     · have:=hvo k e;omega
     · have:=hvo k e;omega,fun e=>by
     rcases hk with hk | hk | hk
     · exact hn (e ▸ hk)
     · omega
     · omega⟩)
  have hkI:KeepP (fun k=>k<B∨W' k∨R' k) X3 X7:=hgb _ fun k hk=>by
   have hwsz:w.heap.size≤y1.heap.size:=hk2.size
   rcases hk with hk | hk
   · exact ⟨by omega,fun e=>by have:=hvo k e;omega,by omega⟩
   · refine ⟨hlt3 k hk,fun e=>?_,fun e=>?_⟩
     · have hlt:=own_lt' hown2 e
       rcases hk with hk | hk
       · rcases hW' k hk with h3 | h3
         · exact hvW k e (.inl h3)
         · omega
       · rcases hR' k hk with h3 | h3
         · exact hvW k e (.inr h3)
         · omega
     · have hlt:=hb2.lt
       rcases hk with hk | hk
       · rcases hW' k hk with h3 | h3
         · have:=(hd k (.inl h3)).2.1;omega
         · omega
       · rcases hR' k hk with h3 | h3
         · have:=(hd k (.inr h3)).2.1;omega
         · omega
  have hi7:Inv W' R' (s0++(pre++[x]).map cutNl) X7:=by
   have h:=HD.out.keep hi3 hkI
   rw [List.map_append,List.map_cons,List.map_nil,← List.append_assoc]
   exact h
  have HF:Hid (KeepP (Bk R w'.heap.size) y1 X7∧RunAt w bs bo (bs+3) (.pointer vA) s0 ans Inv W0 R0 R (pre++[x]) X7):=by
   refine hide ⟨hkB,
   ⟨⟨W',R',_,hi7,fun k hk=>?_,fun k hk=>?_,fun k hk=>?_,B7,hown7,fun k e=>by
      have:g6=k:=by have:some g6=some k:=e;exact Option.some.inj this
      subst this
      exact hg6n.1⟩,S7,hn,?_⟩⟩
   · refine ⟨fun hr=>?_,?_,fun e=>?_⟩
     · have h2:=hR2 k (.inl hr)
       rcases hk with hk | hk
       · rcases hW' k hk with h3 | h3
         · exact (hd k (.inl h3)).1 hr
         · omega
       · rcases hR' k hk with h3 | h3
         · exact (hd k (.inr h3)).1 hr
         · omega
     · rcases hk with hk | hk
       · rcases hW' k hk with h3 | h3
         · exact (hd k (.inl h3)).2.1
         · exact .inr (by omega)
       · rcases hR' k hk with h3 | h3
         · exact (hd k (.inr h3)).2.1
         · exact .inr (by omega)
     · have:g6=k:=by have:some g6=some k:=e;exact Option.some.inj this
       subst this
       exact hg6n.2.2 hk
   · rcases hW' k hk with h3 | h3
     · exact hw k h3
     · have hwsz:w.heap.size≤y1.heap.size:=hk2.size
       exact .inr (by omega)
   · rcases hR' k hk with h3 | h3
     · exact hrr k h3
     · have hwsz:w.heap.size≤y1.heap.size:=hk2.size
       exact .inr (by omega)
   · refine (hk2.trans (hk3.mono fun k hk=>?_)).trans (hgb _ fun k hk=>?_)
     · have hwsz:w.heap.size≤y1.heap.size:=hk2.size
       refine ⟨by omega,fun h=>?_⟩
       rcases hw k h with h3 | h3
       · exact hk.2 h3
       · omega
     · have hwsz:w.heap.size≤y1.heap.size:=hk2.size
       exact ⟨by omega,fun e=>by have:=hvo k e;omega,by omega⟩
  have S3':X3.cell? ⟨bs,0,none⟩=some (.pointer vA)∧X3.cell? ⟨bo,0,none⟩=some v:=⟨S3.cell (i:=0) rfl,B3.cell (i:=0) rfl⟩
  have S5':X5.cell? ⟨bs,0,none⟩=some (.pointer vA)∧X5.cell? ⟨bo,0,none⟩=some v:=⟨S5.cell (i:=0) rfl,B5.cell (i:=0) rfl⟩
  have c46:=B6.cell (i:=0) rfl
  have f46:=B6.frozen 0
  have hX5s:=hX5.symm
  have hX7s:=hX7.symm
  have hg5s:=hg5.symm
  clear hrr hX5 hX7 hg5 hz hBW hd hw hi2 hb2 hbx2 hown2 hk2 hR2 hsz2 hv hn hlt2 hlt3 hnW B3 S3 hvW hown3 han hb35 N5 B5 S5 hown5 hpn hsz3 hsz5 hi hz0 hz1 hz2 hown6 hg6 hloc6 hlt6 hvo B6 S6 hg6n B7 S7 hown7 hgb hkB hkI hi7 hi3 hW' hR' hk3
  refine hK.out _ _ (fun _=>S3') ?_
  clear hK K
  (try simp only [Act.put,getElem_toArray,getElem_cons_succ,getElem_cons_zero,setIfInBounds_toArray,set_cons_zero,set_cons_succ])
  refine oneT (i:=5) (by kernel_rfl) rfl ?_
  intro K hK
  rw [if_pos (by rfl)]
  go_simp
  refine hK.out _ _ (fun _=>S5') ?_
  clear hK K
  (try simp only [Act.put,getElem_toArray,getElem_cons_succ,getElem_cons_zero,setIfInBounds_toArray,set_cons_zero,set_cons_succ])
  refine oneT (i:=6) (by kernel_rfl) rfl ?_
  intro K hK
  rw [if_pos (by rfl)]
  refine app_opIn (.tmp 10) (.tmp 15) 28 rfl v _ rfl rfl hr6 ?_
  refine hK.out _ _ (fun h=>absurd h (by decide)) ?_
  clear hK K
  (try simp only [Act.put,getElem_toArray,getElem_cons_succ,getElem_cons_zero,setIfInBounds_toArray,set_cons_zero,set_cons_succ])
  refine oneT (i:=7) (by kernel_rfl) rfl ?_
  intro K hK
  rw [if_pos (by rfl)]
  go_simp
  refine hK.out _ _ (fun h=>absurd h (by decide)) ?_
  clear hK K
  (try simp only [Act.put,getElem_toArray,getElem_cons_succ,getElem_cons_zero,setIfInBounds_toArray,set_cons_zero,set_cons_succ])
  refine doneT (by kernel_rfl) ?_ _
  refine OnlyN.intro ?_
  exact ⟨HK0.out.trans HF.out.1,HF.out.2⟩
end
end
end Go.Proofs.YthnenedoblncjaaGreatDoor
