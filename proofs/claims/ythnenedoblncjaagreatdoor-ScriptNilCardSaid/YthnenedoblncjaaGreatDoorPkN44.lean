/- TrimNl ScrInv ScrLines -/
import Derived.BigQuiet
import Derived.ChangeAlike
import Derived.Deep.AppendLies
import Derived.Deep.QuietTactic
import Derived.Deep.RegionLaw
import Derived.Deep.RegionWith
import Derived.Laws.BytesArg
import Derived.Lib.OthersKept
import Derived.Lib.SlTrimSet
import Derived.Lib.SliceRun
import Derived.Shelf.Strings.Builder1
import Derived.Shelf.Strings.SlTrimAscii
import Derived.Test.YthnenedoblncjaaGreatDoorProg
import Derived.Test.YthnenedoblncjaaGreatDoorPkN02
import Derived.Test.YthnenedoblncjaaGreatDoorPkN22
import Derived.Test.YthnenedoblncjaaGreatDoorPkN33
import Derived.Test.YthnenedoblncjaaGreatDoorPkN34
import Derived.Test.YthnenedoblncjaaGreatDoorPkN35
set_option maxRecDepth 1000000
set_option maxHeartbeats 8000000
namespace Go.Proofs.YthnenedoblncjaaGreatDoor
open Go.Proofs.Tryz
open List (getElem_toArray getElem_cons_succ getElem_cons_zero setIfInBounds_toArray set_cons_zero set_cons_succ)
section
open Go.RowKit Go.Shelf
theorem FI(x:List UInt8):Lib.trimSuffix x [10]=Yy x:=by
 unfold Yy;rcases List.eq_nil_or_concat x with rfl|⟨a,c,rfl⟩
 · rfl
 · by_cases hc:c=10
   · subst hc;simp [Lib.trimSuffix,Lib.hasSuffix]
   · simp [Lib.trimSuffix,Lib.hasSuffix,hc,Ne.symm hc]
theorem NU(x:List UInt8)(hx:x.length<=1000000)(w:World):Calls prog 45 #[.string (strOf x),.string ⟨#[10]⟩] w fun e w'=>e=.returned (.string (strOf (Yy x)))/\w'=w:=by
 refine (Any.strings_TrimSuffix Tryz.lays102 (strOf x) ⟨#[10]⟩ w (by rw [ZQ];omega)).mono ?_;rintro e w' ⟨rfl,rfl⟩;refine ⟨?_,rfl⟩;rw [<- FI];rfl
end
section
open Go.RowKit Go.Shelf
def UW(ans:List (List UInt8)->List UInt8->List UInt8):List (List UInt8)->List (List UInt8)->List (List UInt8)
 | _,[]=>[]
 | s,l::r=>ans s l::UW ans (s++[l]) r
theorem QY(ans:List (List UInt8)->List UInt8->List UInt8):∀ (r s:List (List UInt8)) (l:List UInt8),UW ans s (r++[l])=UW ans s r++[ans (s++r) l]
 | [],s,l=>by simp [UW]
 | x::r,s,l=>by rw [List.cons_append,UW,UW,QY ans r (s++[x]) l];simp
theorem SX:∀ (l cur:List UInt8),∀ x∈Wn cur l,x.length<=cur.length+l.length
 | [],cur,x,h=>by
   unfold Wn at h;split at h
   · cases h
   · rw [List.mem_singleton.1 h];exact Nat.le_add_right ..
 | c::r,cur,x,h=>by
   unfold Wn at h;split at h
   · rcases List.mem_cons.1 h with h|h
     · rw [h,List.length_append,List.length_cons,List.length_cons,List.length_nil];omega
     · have:=SX r [] x h;rw [List.length_cons];rw [List.length_nil] at this;omega
   · have:=SX r _ x h;rw [List.length_append,List.length_cons,List.length_nil] at this;rw [List.length_cons];omega
theorem EH{l x:List UInt8}(h:x∈TL l):x.length<=l.length/\Yy x∈Ug l:=by
 refine ⟨by have:=SX l [] x h;rw [List.length_nil] at this;omega,?_⟩;rw [<- QC];exact List.mem_map_of_mem h
theorem LK(l:List UInt8):(TL l).length=(Ug l).length:=by rw [<- QC,List.length_map]
theorem Xd{X:World}{k:Nat}(h:Vw X k):k<X.heap.size:=by
 obtain ⟨o,ho,_⟩:=h;exact (Array.getElem?_eq_some_iff.1 ho).1
theorem GJ{X:World}{b o:Nat}{u:Value}(h:X.cell? ⟨b,o,none⟩=some u):Vw X b:=by
 unfold World.cell? at h;dsimp only at h;split at h
 · rename_i e
   exact ⟨_,e,rfl⟩
 · cases h
structure Oe(B:Nat)(T:List UInt8->Prop)(vS:Value)(ans:List (List UInt8)->List UInt8->List UInt8)(Inv:(Nat->Prop)->(Nat->Prop)->List (List UInt8)->World->Prop):Prop where
 keep:∀ {W R:Nat->Prop} {s:List (List UInt8)} {X Y:World},Inv W R s X->Z9 (fun k=>k<B\/W k\/R k) X Y->Inv W R s Y
 low:∀ {W R:Nat->Prop} {s:List (List UInt8)} {X:World},Inv W R s X->B<=X.heap.size/\∀ k,W k->B<=k
 cell:∀ {W R:Nat->Prop} {s:List (List UInt8)} {X:World},Inv W R s X->∀ k,W k\/R k->Vw X k
 step:∀ {W R:Nat->Prop} {s:List (List UInt8)} {X:World} (line:List UInt8),T line->Inv W R s X->Calls prog 21 #[vS,.string (strOf line)] X fun e Y=>e=.returned (.string (strOf (ans s line))) /\
  ∃ W' R',Inv W' R' (s++[line]) Y/\(∀ k,W' k->W k\/X.heap.size<=k)/\(∀ k,R' k->R k\/X.heap.size<=k)/\Z9 (fun k=>k<X.heap.size/\¬ W k) X Y
structure Lm(w:World)(bs bo z:Nat)(vS:Value)(s0:List (List UInt8))(ans:List (List UInt8)->List UInt8->List UInt8)(Inv:(Nat->Prop)->(Nat->Prop)->List (List UInt8)->World->Prop)(W0 Rk:Nat->Prop)(pre:List (List UInt8))(X:World):Prop where
 ex:∃ W R v,Inv W R (s0++pre.map Yy) X/\(∀ k,W k\/R k->¬ Rk k/\(k<w.heap.size\/z+2<=k)/\v.ownBlock≠some k)/\(∀ k,W k->W0 k\/w.heap.size<=k)/\Z6 X bo 28 #[v] /\
  X.ownsRow (z+2) 9 1 v pre.length (ZN (UW ans s0 (pre.map Yy)))/\∀ b,v.ownBlock=some b->¬ Rk b
 box:Z6 X bs 24 #[vS]
 nR:¬ Rk bo
 keep:Z9 (fun k=>k<w.heap.size/\¬ W0 k) w X
section
variable {B:Nat}{T:List UInt8->Prop}{vS:Value}{ans:List (List UInt8)->List UInt8->List UInt8}{Inv:(Nat->Prop)->(Nat->Prop)->List (List UInt8)->World->Prop}(D:Oe B T vS ans Inv)(w:World)(s0:List (List UInt8))(W0:Nat->Prop)
include D
theorem KY(bs bo bx z:Nat)(hz:bs=w.heap.size/\bo=bs+1/\bx=bs+2/\z=bs+3)(hB:B<=w.heap.size):Vj z (fun k=>k=bx) (Lm w bs bo z vS s0 ans Inv W0):=by
 rintro R R' es X Y ⟨⟨W,Rr,v,hi,hd,hw,hb,ZO,hv⟩,hbs,hn,hk⟩ hst hR
 have hnR:∀ k,k<X.heap.size->¬ R k->¬ R' k:=fun k hk hr h=>by
  rcases (hR k h).1 with h|h
  · exact hr h
  · omega
 have hlt:∀ k,W k\/Rr k->k<X.heap.size:=fun k hk=>Xd (D.cell hi k hk);refine ⟨⟨W,Rr,v,D.keep hi ⟨hst.os,hst.tape,hst.output,hst.size,fun k hk=>?_⟩,fun k hk=>?_,hw,(hst.block bo hb.lt (by omega) (.inl (by omega))).trans hb,Tf ZO hst (fun b e h=>?_) hv,fun b e=>hnR b (WZ ZO e) (hv b e)⟩,(hst.block bs hbs.lt (by omega) (.inl (by omega))).trans hbs,hnR bo hb.lt hn,?_⟩
 · have cK:=(D.low hi).1;rcases hk with hk|hk
   · exact hst.block k (by omega) (by omega) (.inl (by omega))
   · obtain ⟨a,c,_⟩:=hd k hk;exact hst.block k (hlt k hk) (by omega) (.inr ⟨a,D.cell hi k hk⟩)
 · obtain ⟨a,r⟩:=hd k hk;exact ⟨hnR k (hlt k hk) a,r⟩
 · have:=ZH ZO e;have h:b=bx:=h;omega
 · exact hk.trans ⟨hst.os,hst.tape,hst.output,hst.size,fun k hk'=>hst.block k (Nat.lt_of_lt_of_le hk'.1 hk.size) (by omega) (.inl (by omega))⟩
end
theorem V6.cells{σ:St}{sb:Nat}{Wr Rd:Nat->Prop}{X:World}(h:V6 σ sb Wr Rd X):V6 σ sb (fun k=>Wr k/\Vw X k) (fun k=>Rd k/\Vw X k) X:=by
 obtain ⟨gs,vR,vQ,h⟩:=h;refine ⟨gs,vR,vQ,h.data,h.blk,h.rows,h.VD,⟨h.wb,_,h.blk,rfl⟩,fun k e=>⟨⟨(h.wr k e).1,VW h.rows e⟩,(h.wr k e).2⟩,fun k e=>⟨⟨(h.wq k e).1,VW h.VD e⟩,(h.wq k e).2⟩,h.rq,fun g hg=>⟨(h.XQ g hg).1,?_⟩,fun k hr hw=>h.apart k hr.1 hw.1,fun k hk=>h.RO k hk.1,fun k hk=>h.JI k hk.1,h.small⟩;rcases (h.XQ g hg).2 with h0|⟨b,off,hA,hb,hc⟩
 · exact .inl h0
 · cases hx:Y7 g.2 with
   | nil=>exact .inl rfl
   | cons u r =>
     rw [<- hx];refine .inr ⟨b,off,hA,⟨hb,?_⟩,hc⟩;have:=hc 0 u (by rw [hx];rfl);exact GJ this
def Cj(f:St->List UInt8->List UInt8 × St)(σ:St)(s:List (List UInt8)):St:=s.foldl (fun σ l=>(f σ l).2) σ
def Qi(B:Nat)(f:St->List UInt8->List UInt8 × St)(σ:St)(sb:Nat)(W R:Nat->Prop)(s:List (List UInt8))(X:World):Prop :=
 V6 (Cj f σ s) sb W R X/\Env B X/\(∀ k,W k->B<=k)/\∀ k,W k\/R k->Vw X k
theorem FC (B:Nat) (T:List UInt8->Prop) (f:St->List UInt8->List UInt8 × St) (σ0:St) (sb:Nat)
 (hdo:∀ line,T line->∀ (σ:St) (Wr Rd:Nat->Prop) (X:World),V6 σ sb Wr Rd X->Env B X->(∀ k,Wr k->B<=k)->Calls prog 21 #[.pointer (some ⟨sb,0,none⟩),.string (strOf line)] X (XE (f σ line) sb Wr Rd X)) :
 Oe B T (.pointer (some ⟨sb,0,none⟩)) (fun s l=>(f (Cj f σ0 s) l).1) (Qi B f σ0 sb) where
 keep:=fun {W R s X Y} h hk=>by
  obtain ⟨⟨gs,vR,vQ,h1⟩,h2,h3,h4⟩:=h;refine ⟨⟨gs,vR,vQ,h1.kept (hk.mono fun k hk=>.inr hk)⟩,h2.step ⟨hk.os,hk.tape,hk.output,hk.size,fun j hj=>hk.block j (.inl hj)⟩,h3,fun k hk'=>?_⟩;obtain ⟨o,ho,hc⟩:=h4 k hk';exact ⟨o,(hk.block k (.inr hk')).trans ho,hc⟩
 low:=fun {W R s X} h=>⟨h.2.1.1,h.2.2.1⟩
 cell:=fun {W R s X} h=>h.2.2.2
 step:=fun {W R s X} line ht h=>by
  obtain ⟨h1,h2,h3,h4⟩:=h;refine (hdo line ht _ W R X h1 h2 h3).mono ?_;rintro e Y ⟨rfl,hs⟩;have hbl:=hs.below h2.1 h3;obtain ⟨W',R',hs',a,b,k⟩:=hs;refine ⟨rfl,fun k=>W' k/\Vw Y k,fun k=>R' k/\Vw Y k,⟨?_,h2.step hbl,fun k hk=>?_,fun k hk=>?_⟩,fun k hk=>a k hk.1,fun k hk=>b k hk.1,k⟩
  · unfold Cj;rw [List.foldl_append];exact hs'.cells
  · rcases a k hk.1 with h|h
    · exact h3 k h
    · exact Nat.le_trans h2.1 h
  · rcases hk with hk|hk
    · exact hk.2
    · exact hk.2
theorem ER(B:Nat):Oe B (fun _=>True) (.pointer none) (fun _ _=>Zr 1) (fun W R _ X=>(∀ k,¬ (W k\/R k))/\Env B X) where
 keep:=fun {W R s X Y} h hk=>⟨h.1,h.2.step ⟨hk.os,hk.tape,hk.output,hk.size,fun j hj=>hk.block j (.inl hj)⟩⟩
 low:=fun {W R s X} h=>⟨h.2.1,fun k hk=>absurd (.inl hk) (h.1 k)⟩
 cell:=fun {W R s X} h k hk=>absurd hk (h.1 k)
 step:=fun {W R s X} line _ h=>by
  refine (GZ (strOf line) X h.2.pt).mono ?_;rintro e Y ⟨rfl,hb⟩;exact ⟨rfl,W,R,⟨h.1,h.2.new hb⟩,fun k hk=>.inl hk,fun k hk=>.inl hk,Z9.of_below hb fun k hk=>hk.1⟩
end
section
open Go.RowKit Go.Shelf
attribute [local go_sem] Oper.semAt_some
def zn(s0:List (List UInt8))(t:List UInt8)(ans:List (List UInt8)->List UInt8->List UInt8)(Inv:(Nat->Prop)->(Nat->Prop)->List (List UInt8)->World->Prop)(W0:Nat->Prop)(w:World)(e:Ending)(Y:World):Prop :=
 ∃ W R v,e=.returned v/\Inv W R (s0++Ug t) Y/\(∀ k,W k\/R k->v.ownBlock≠some k)/\(∀ k,W k->W0 k\/w.heap.size<=k)/\Y.ownsRow w.heap.size 9 1 v (Ug t).length (ZN (UW ans s0 (Ug t)))/\Z9 (fun k=>k<w.heap.size/\¬ W0 k) w Y
section
variable {B:Nat}{T:List UInt8->Prop}{vA:Option Addr}{ans:List (List UInt8)->List UInt8->List UInt8}{Inv:(Nat->Prop)->(Nat->Prop)->List (List UInt8)->World->Prop}(D:Oe B T (.pointer vA) ans Inv)(t:List UInt8)(ht:t.length<=1000000)(hT:∀ l∈Ug t,T l)(w:World)(W0 R0:Nat->Prop)(s0:List (List UInt8))(hi:Inv W0 R0 s0 w)
include D ht hT hi
theorem PK:Calls prog 17 #[.pointer vA,.string (strOf t)] w (zn s0 t ans Inv W0 w):=by
 have YD:prog.follows .mixedOrders=true:=by kernel_rfl
 obtain ⟨bs,hbs⟩:∃ z,z=w.heap.size:=⟨_,rfl⟩;obtain ⟨bo,F8⟩:∃ z,z=w.heap.size+1:=⟨_,rfl⟩;obtain ⟨bx,hbx⟩:∃ z,z=w.heap.size+1+1:=⟨_,rfl⟩;obtain ⟨w1,hw1⟩:=eE ((w.alloc (.cells #[.pointer vA] 24)).alloc (.cells #[.slice none 0 0] 28));have hb1:=bF hw1;have hz1:w1.heap.size=bx:=by rw [hw1,hbx];simp
 have S1:Z6 w1 bs 24 #[.pointer vA]:=by rw [hw1,hbs];exact (Z6.new _ _ _).alloc _
 have O1:Z6 w1 bo 28 #[.slice none 0 0]:=by rw [hw1,F8];exact Z6.new2 _ _ _ _
 obtain ⟨w2,hw2⟩:=eE (w1.alloc (.cells #[.string (strOf t)] 9));have Xx:=bE hw2;have X2:Z6 w2 bx 9 #[.string (strOf t)]:=by rw [hw2,<- hz1];exact Z6.new _ _ _
 have hz2:w2.heap.size=bs+3:=by rw [hw2];simp [hz1];omega
 have M0:=Z8 hb1 Xx;have LR:=hide (KD (strOf t) w1);rw [<- hw2,hz1] at LR;have DC:Hid (Gt prog (fun x=>x∈TL t) encS (fun k=>k=bx) (fun k=>k=bx) 86 #[.pointer (some ⟨bx,0,none⟩)] (fun ys=>ys=TL t) (TL t).length w2):=hide (KC t ht (fun k=>k=bx) bx rfl w2 X2);have hB:=(D.low hi).1
 have F4:Hid (Lm w bs bo (bs+3) (.pointer vA) s0 ans Inv W0 (fun k=>k=bx) [] w2):=hide
  ⟨⟨W0,R0,_,by
     rw [List.map_nil,List.append_nil]
     exact D.keep hi (Z9.of_below M0 fun k hk=>by
      rcases hk with hk|hk
      · omega
      · exact Xd (D.cell hi k hk)),fun k hk=>by
     have:=Xd (D.cell hi k hk)
     exact ⟨by omega,.inl this,fun e=>(by cases e)⟩,fun k hk=>.inl hk,O1.step Xx,World.ownsRow_nil _ _ _ _,fun _ h=>(by cases h)⟩,
    S1.step Xx,by omega,Z9.of_below M0 fun k hk=>hk.1⟩
 have HZ:Hid (bs=w.heap.size/\bo=bs+1/\bx=bs+2/\w2.heap.size=bs+3):=hide (by omega);have Sc:=hide hB;have HD:=hide D;have HT:=hide hT;have jX:=hide ht;have tV:∀ args w,(callFunc 86 args).run prog w=.ok (.enter 86 args) w:=enters_of func86 (by kernel_rfl) rfl;have mD:=hide tV;have tL:=hide hbs;have tK:=hide F8;clear ht hT hi D hb1 hz1 S1 O1 hw2 Xx X2 hz2 M0 tV hB hbs F8 hbx;refine (callsIn_wide (n:=6)).1 ?_;refine callsIn_of_wp_marks func17 rfl trivial ?_ rfl;simp only [ntmps17,List.size_toArray,List.length_cons,List.length_nil,Nat.reduceAdd,Nat.reduceSub,Array.replicate_succ,Array.replicate_zero,List.push_toArray,List.append_toArray,List.nil_append,List.cons_append];gi_wp2_with fail;rw [<- hw1,<- tK.out,<- tL.out];clear hw1 tK tL;refine ⟨trivial,?_⟩;refine (callsIn_wide.2 LR.out).mono ?_;rintro e w' ⟨rfl,rfl⟩;clear LR;gi_wp2_with fail;refine WM (K:=fun k=>k=bx) rfl mD.out DC.out (fun k h=>by have:=HZ.out;omega) (fun k h=>by have:=HZ.out;omega) (fun _=>rfl) (Lm w bs bo (bs+3) (.pointer vA) s0 ans Inv W0) (fun _ _ _=>False) ?h1 (fun _ _ _ _ _ _ h=>h.elim) F4.out ?round ?done ?stop
 case h1 =>
  have hz:=HZ.out;rw [hz.2.2.2];exact KY HD.out w s0 W0 bs bo bx (bs+3) ⟨hz.1,hz.2.1,hz.2.2.1,rfl⟩ Sc.out
 case stop =>
  rintro cc X h;exact h.elim
 case done =>
  rintro ys X rfl ⟨⟨W,R,v,hi,hd,hw,hb,ZO,hv⟩,hbx,-,hk⟩ hD -;have c5:=hb.q0 rfl;have Mc:=hide (And.intro hi (And.intro hd (And.intro hw (And.intro ZO hk))));have dU:=hide hD;clear hi hd hw hb ZO hv hbx hk hD;gi_wp2;refine ⟨by simp,.inl ⟨_,_,rfl,run_takeDeferred dU.out,?_⟩⟩;obtain ⟨hi,hd,hw,ZO,hk⟩:=Mc.out;have hz:=HZ.out;have hBW:=Sc.out;have g:=grownBy_putObj' X w'.heap.size (.deferred none);refine ⟨_,results_tmp rfl _ _ _,?_⟩;have e1:(TL t).map Yy=Ug t:=QC t;rw [e1,LK] at ZO;rw [e1] at hi;refine ⟨W,R,v,rfl,HD.out.keep hi (Z9.putObj _ (fun hk=>?_) _),fun k hk=>(hd k hk).2.2,hw,IU (ZO.kept g (.inr fun e=>by have:=ZH ZO e;omega)) (by omega),hk.trans (Z9.putObj _ (fun h=>by have:=h.1;omega) _)⟩;rcases hk with hk|hk
  · omega
  · have:=(hd _ hk).2.1;omega
 case round =>
  rintro R pre x X hR hnl SL ⟨rec,hrec⟩ hat hpre hx;have HAT:=hide hat;have HR:=hide hR;have bO:=hide hnl;have Sg:=hide SL;have HX:=hide hx;have Gm:=hide hpre;clear hat hR hnl SL hrec hx hpre;unfold encS;gi_wp2;refine ⟨Z9.refl _ _,fun o=>?_⟩;have hz:=HZ.out;have hBW:=Sc.out;obtain ⟨⟨W,Rr,v,hi,hd,hw,hb,ZO,hv⟩,hbx,hn,hk⟩:=HAT.out;clear HAT;obtain ⟨X2,hX2⟩:=eE (X.putObj (w'.heap.size+1) (.loop o));have zW:X.grownBy X2 (some (w'.heap.size+1)):=by rw [hX2];exact grownBy_putObj' _ _ _
  have C8:Z9 (fun k=>k≠w'.heap.size+1) X X2.drew:=by rw [hX2];exact (Z9.putObj _ (fun h=>h rfl) _).trans (Z9.drew _ _)
  have hi2:Inv W Rr (s0++pre.map Yy) X2.drew:=HD.out.keep hi (C8.mono fun k hk=>by
   rcases hk with hk|hk
   · omega
   · have:=(hd _ hk).2.1;omega)
  have hb2:Z6 X2.drew bo 28 #[v]:=hb.kept C8 (by omega);have OU:Z6 X2.drew bs 24 #[.pointer vA]:=hbx.kept C8 (by omega);have WC:X2.drew.ownsRow (bs+3+2) 9 1 v pre.length (ZN (UW ans s0 (pre.map Yy))):=Vd ZO C8 fun k e=>by have:=ZH ZO e;omega
  have hk2:Z9 (fun k=>k<w.heap.size/\¬ W0 k) w X2.drew:=hk.trans (C8.mono fun k hk=>by omega)
  have hR2:∀ k,Bk R w'.heap.size k->k<X2.drew.heap.size:=fun k hk=>by
   have h1:=Sg.out;have h2:X.heap.size<=X2.drew.heap.size:=C8.size;rcases hk with hk|hk|hk
   · have:=HR.out k hk;omega
   · omega
   · omega
  have hsz2:w'.heap.size+2<=X2.drew.heap.size:=by have h1:=Sg.out;have h2:X.heap.size<=X2.drew.heap.size:=C8.size;omega
  have hl:=EH HX.out;have zh:=hide (NU x (by have:=jX.out;omega));have xP:=hide (HD.out.step (Yy x) (HT.out _ hl.2) hi2);have Ui:Hid (Z9 (Bk R w'.heap.size) X2 X2.drew):=hide (Z9.drew _ _);have S0:X2.drew.cell? ⟨bs,0,none⟩=some (.pointer vA)/\X2.drew.cell? ⟨bo,0,none⟩=some v:=⟨OU.q0 rfl,hb2.q0 rfl⟩;have HA:=hide (And.intro hd (And.intro hw (And.intro hi2 (And.intro hb2 (And.intro OU (And.intro WC (And.intro hk2 (And.intro hR2 (And.intro hsz2 (And.intro hv hn))))))))));rw [<- hX2];clear hi hd hw hb ZO hv hbx hn hk hX2 zW C8 hi2 hb2 OU WC hk2 hR2 hsz2 hl hz hBW;gi_wp2;refine L8 6 (S:=fun Y=>Y.cell? ⟨bs,0,none⟩=some (.pointer vA)/\Y.cell? ⟨bo,0,none⟩=some v) YD ?_;generalize X2.drew=u0 at *;refine' Xo (i:=0) (v:=_) (ZF (by kernel_rfl)) rfl (by kernel_rfl) (by kernel_rfl) (by kernel_rfl) (fun _ _ _ h=>h) (by kernel_rfl) ⟨Or.inl ⟨by rfl,?Xg⟩,fun _=>rfl⟩ S0 ?VZ
  case Xg =>
   intro w' hSw;obtain ⟨q0,q1⟩:=hSw;go_simp;rfl
  simp only [Act.put,getElem_toArray,getElem_cons_zero,setIfInBounds_toArray,set_cons_zero,set_cons_succ];refine' Xo (i:=1) (v:=_) (ZF (by kernel_rfl)) rfl (by kernel_rfl) (by kernel_rfl) (by kernel_rfl) (fun _ _ _ h=>h) (by kernel_rfl) ⟨Or.inl ⟨by rfl,?Xh⟩,fun _=>rfl⟩ S0 ?V3
  case Xh =>
   intro w' hSw;obtain ⟨q0,q1⟩:=hSw;go_simp;rfl
  simp only [Act.put,Z4];refine' Xo (i:=2) (v:=_) (ZF (by kernel_rfl)) rfl (by kernel_rfl) (by kernel_rfl) (by kernel_rfl) (fun _ _ _ h=>h) (by kernel_rfl) ⟨Or.inl ⟨by rfl,?Xj⟩,fun _=>rfl⟩ S0 ?V4
  case Xj =>
   intro w' hSw;obtain ⟨q0,q1⟩:=hSw;go_simp;rfl
  simp only [Act.put,Z4];refine Pq (i:=3) (by kernel_rfl) rfl ?_;intro K hK;rw [if_pos (by rfl)];go_simp;refine ⟨trivial,?_⟩;refine (CallsIn.inRound _ (callsIn_wide.2 (zh.out u0))).mono ?_;rintro e y1 ⟨rfl,hy1⟩;subst hy1;refine hK.out _ _ (fun _=>S0) ?_;clear hK K zh
  (try simp only [Act.put,Z4])
  refine Pq (i:=4) (by kernel_rfl) rfl ?_;intro K hK;rw [if_pos (by rfl)];go_simp;refine ⟨trivial,?_⟩;refine (CallsIn.inRound _ (callsIn_wide.2 xP.out)).mono ?_;rintro e X3 ⟨rfl,W',R',hi3,hW',hR',hk3⟩;clear xP;have hz:=HZ.out;have hBW:=Sc.out;obtain ⟨hd,hw,hi2,hb2,OU,WC,hk2,hR2,hsz2,hv,hn⟩:=HA.out;have hlt2:∀ k,W k\/Rr k->k<y1.heap.size:=fun k hk=>Xd (HD.out.cell hi2 k hk);have hlt3:∀ k,W' k\/R' k->k<X3.heap.size:=fun k hk=>Xd (HD.out.cell hi3 k hk);have uq:∀ k,w.heap.size<=k->k<bs+3+2->¬ W k:=fun k h1 h2 h=>by have:=(hd k (.inl h)).2.1;omega
  have B3:=hb2.kept hk3 ⟨hb2.lt,uq bo (by omega) (by omega)⟩;have S3:=OU.kept hk3 ⟨OU.lt,uq bs (by omega) (by omega)⟩;have yx:∀ k,v.ownBlock=some k->¬ (W k\/Rr k):=fun k e h=>(hd k h).2.2 e;have XK:=Vd WC hk3 fun k e=>⟨WZ WC e,fun h=>yx k e (.inl h)⟩;obtain ⟨an,han⟩:=eE (ans (s0++pre.map Yy) (Yy x));rw [<- han];obtain ⟨X5,Qb⟩:=eE (X3.alloc (.cells #[.string (strOf an)] 9));obtain ⟨g5,hg5⟩:=eE X3.heap.size;have Kq:=bE Qb;have N5:Z6 X5 g5 9 #[.string (strOf an)]:=by rw [Qb,hg5];exact Z6.new _ _ _
  have B5:=B3.step Kq;have S5:=S3.step Kq;have Yz:=Zn XK Kq;have hpn:pre.length<=1000001:=by have h1:=Gm.out;have h2:=jX.out;have h3:(Ug t).length<=t.length+1:=XW t [];rw [LK] at h1;omega
  have uK:y1.heap.size<=X3.heap.size:=hk3.size;have hsz5:X3.heap.size<=X5.heap.size:=Kq.size;obtain ⟨i0,hi,hz0,hz1,hz2⟩:=info_parts TA;obtain ⟨g6,c6,X6,oJ,WE,SK,OV,zZ⟩:=run_append_lies (P:=prog) X5 28 28 (bs+3+2) 9 i0 (.string ⟨#[]⟩) 1 16 underlying28 hi hz0 hz1 hz2 rfl (by decide) v pre.length _ Yz ⟨g5,0,none⟩ 1 1 [.string (strOf an)] rfl (YW N5) (by simp [Value.oneCell']) (by omega) (by unfold maxLen;omega) (by omega) (by omega) _ rfl;have Dm:∀ k,v.ownBlock=some k->bs+5<=k:=fun k e=>by have:=ZH WC e;omega
  have B6:Z6 X6 bo 28 #[v]:=B5.grown SK (fun e=>by have:=Dm bo e.symm;omega);have S6:Z6 X6 bs 24 #[.pointer vA]:=S5.grown SK (fun e=>by have:=Dm bs e.symm;omega);have Kr:¬ R g6/\bs+5<=g6/\¬ (W' g6\/R' g6):=by
   rcases OV with h|h
   · refine ⟨hv g6 h,Dm g6 h,fun hh=>?_⟩;have hlt:=WZ WC h;rcases hh with hh|hh
     · rcases hW' g6 hh with h3|h3
       · exact yx g6 h (.inl h3)
       · omega
     · rcases hR' g6 hh with h3|h3
       · exact yx g6 h (.inr h3)
       · omega
   · refine ⟨fun hr=>?_,by omega,fun hh=>?_⟩
     · have:=hR2 g6 (.inl hr);omega
     · have:=hlt3 g6 hh;omega
  obtain ⟨X7,MZ⟩:=eE (X6.setCell ⟨bo,0,none⟩ (.slice (some ⟨g6,0,none⟩) (pre.length+1) c6));have B7:Z6 X7 bo 28 #[.slice (some ⟨g6,0,none⟩) (pre.length+1) c6]:=by rw [MZ];exact B6.set 0 _
  have S7:Z6 X7 bs 24 #[.pointer vA]:=by rw [MZ];exact S6.far (p:=⟨bo,0,none⟩) (by dsimp only;omega) _
  have WG:X7.ownsRow (bs+3+2) 9 1 (.slice (some ⟨g6,0,none⟩) (pre.length+1) c6) (pre++[x]).length (ZN (UW ans s0 ((pre++[x]).map Yy))):=by
   have e:(pre++[x]).length=pre.length+1:=(by simp);rw [List.map_append,List.map_cons,List.map_nil,QY,Vu,<- han,e,MZ];exact W9 WE (by simp [Value.ownBlock];omega) _
  have hgb:∀ (P:Nat->Prop),(∀ k,P k->k<X3.heap.size/\v.ownBlock≠some k/\k≠bo)->Z9 P X3 X7:=fun P hP=>by
   rw [MZ];refine ((Z9.of_below Kq fun k hk=>(hP k hk).1).trans ⟨SK.os,SK.tape,SK.output,SK.size,fun k hk=>SK.block k (Nat.lt_of_lt_of_le (hP k hk).1 hsz5) (Ne.symm (hP k hk).2.1)⟩).trans (Z9.setCell (fun hk=>(hP bo hk).2.2 rfl) _ _ _)
  have hkB:Z9 (Bk R w'.heap.size) y1 X7:=(hk3.mono fun k hk=>⟨hR2 k hk,fun h=>by
   rcases hk with hk|hk|hk
   · exact (hd k (.inl h)).1 hk
   · exact uq k (by omega) (by omega) h
   · exact uq k (by omega) (by omega) h⟩).trans (hgb _ fun k hk=>⟨Nat.lt_of_lt_of_le (hR2 k hk) uK,fun e=>by
     rcases hk with hk|hk|hk
     · exact hv k e hk
     · have:=Dm k e;omega
     · have:=Dm k e;omega,fun e=>by
     rcases hk with hk|hk|hk
     · exact hn (e ▸ hk)
     · omega
     · omega⟩)
  have kW:Z9 (fun k=>k<B\/W' k\/R' k) X3 X7:=hgb _ fun k hk=>by
   have Af:w.heap.size<=y1.heap.size:=hk2.size;rcases hk with hk|hk
   · exact ⟨by omega,fun e=>by have:=Dm k e;omega,by omega⟩
   · refine ⟨hlt3 k hk,fun e=>?_,fun e=>?_⟩
     · have hlt:=WZ WC e;rcases hk with hk|hk
       · rcases hW' k hk with h3|h3
         · exact yx k e (.inl h3)
         · omega
       · rcases hR' k hk with h3|h3
         · exact yx k e (.inr h3)
         · omega
     · have hlt:=hb2.lt;rcases hk with hk|hk
       · rcases hW' k hk with h3|h3
         · have:=(hd k (.inl h3)).2.1;omega
         · omega
       · rcases hR' k hk with h3|h3
         · have:=(hd k (.inr h3)).2.1;omega
         · omega
  have kV:Inv W' R' (s0++(pre++[x]).map Yy) X7:=by
   have h:=HD.out.keep hi3 kW;rw [List.map_append,List.map_cons,List.map_nil,<- List.append_assoc];exact h
  have HF:Hid (Z9 (Bk R w'.heap.size) y1 X7/\Lm w bs bo (bs+3) (.pointer vA) s0 ans Inv W0 R (pre++[x]) X7):=by
   refine hide ⟨hkB,
   ⟨⟨W',R',_,kV,fun k hk=>?_,fun k hk=>?_,B7,WG,fun k e=>by
      have:g6=k:=(by have:some g6=some k:=e;exact Option.some.inj this);subst this
      exact Kr.1⟩,S7,hn,?_⟩⟩
   · refine ⟨fun hr=>?_,?_,fun e=>?_⟩
     · have h2:=hR2 k (.inl hr);rcases hk with hk|hk
       · rcases hW' k hk with h3|h3
         · exact (hd k (.inl h3)).1 hr
         · omega
       · rcases hR' k hk with h3|h3
         · exact (hd k (.inr h3)).1 hr
         · omega
     · rcases hk with hk|hk
       · rcases hW' k hk with h3|h3
         · exact (hd k (.inl h3)).2.1
         · exact .inr (by omega)
       · rcases hR' k hk with h3|h3
         · exact (hd k (.inr h3)).2.1
         · exact .inr (by omega)
     · have:g6=k:=(by have:some g6=some k:=e;exact Option.some.inj this);subst this;exact Kr.2.2 hk
   · rcases hW' k hk with h3|h3
     · exact hw k h3
     · have Af:w.heap.size<=y1.heap.size:=hk2.size;exact .inr (by omega)
   · refine (hk2.trans (hk3.mono fun k hk=>?_)).trans (hgb _ fun k hk=>?_)
     · have Af:w.heap.size<=y1.heap.size:=hk2.size;refine ⟨by omega,fun h=>?_⟩;rcases hw k h with h3|h3
       · exact hk.2 h3
       · omega
     · have Af:w.heap.size<=y1.heap.size:=hk2.size;exact ⟨by omega,fun e=>by have:=Dm k e;omega,by omega⟩
  have S3':X3.cell? ⟨bs,0,none⟩=some (.pointer vA)/\X3.cell? ⟨bo,0,none⟩=some v:=⟨S3.q0 rfl,B3.q0 rfl⟩;have gT:X5.cell? ⟨bs,0,none⟩=some (.pointer vA)/\X5.cell? ⟨bo,0,none⟩=some v:=⟨S5.q0 rfl,B5.q0 rfl⟩;have c46:=B6.q0 rfl;have f46:=B6.frozen 0;have tu:=Qb.symm;have oq:=MZ.symm;have oz:=hg5.symm;clear Qb MZ hg5 hz hBW hd hw hi2 hb2 OU WC hk2 hR2 hsz2 hv hn hlt2 hlt3 uq B3 S3 yx XK han Kq N5 B5 S5 Yz hpn uK hsz5 hi hz0 hz1 hz2 WE SK OV zZ Dm B6 S6 Kr B7 S7 WG hgb hkB kW kV hi3 hW' hR' hk3;refine hK.out _ _ (fun _=>S3') ?_;clear hK K
  (try simp only [Act.put,Z4])
  refine Pq (i:=5) (by kernel_rfl) rfl ?_;intro K hK;rw [if_pos (by rfl)];go_simp;refine hK.out _ _ (fun _=>gT) ?_;clear hK K
  (try simp only [Act.put,Z4])
  refine Pq (i:=6) (by kernel_rfl) rfl ?_;intro K hK;rw [if_pos (by rfl)];refine Ot (.tmp 10) (.tmp 15) 28 rfl v _ rfl rfl oJ ?_;refine hK.out _ _ (fun h=>absurd h (by decide)) ?_;clear hK K
  (try simp only [Act.put,Z4])
  refine Pq (i:=7) (by kernel_rfl) rfl ?_;intro K hK;rw [if_pos (by rfl)];go_simp;refine hK.out _ _ (fun h=>absurd h (by decide)) ?_;clear hK K
  (try simp only [Act.put,Z4])
  refine CQ (by kernel_rfl) ?_ _;refine Vx.intro ?_;exact ⟨Ui.out.trans HF.out.1,HF.out.2⟩
end
end
end Go.Proofs.YthnenedoblncjaaGreatDoor