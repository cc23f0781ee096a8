/- TopKit -/
import Derived.BigQuiet
import Derived.Deep.QuietTactic
import Derived.Lib.SliceRun
import Derived.Test.YthnenedoblncjaaGreatDoorPkA12
import Derived.Test.YthnenedoblncjaaGreatDoorPkA39
set_option maxRecDepth 1000000
set_option maxHeartbeats 8000000
namespace Go.Proofs.YthnenedoblncjaaGreatDoor
open Go.Proofs.Tryz
section
open Go.RowKit Go.Shelf
theorem DZ(w:World)(hfix:Fixed w)(hg:9<w.heap.size)(hw:MW w):Calls prog 31 #[] w fun e w'=>e=.returned (.bool true)/\Below w.heap.size w w':=by
 have SV:∀ (w':World) (bs:List Int) (A:Option Addr) (c:Nat),Below w.heap.size w w'->Sl w' w'.heap.size A (ZY bs)->bs.length<=c->By bs->bs.length<=300000->∀ n out,YZ bs=out->out.length=n->Calls prog 67 #[.slice A bs.length c] w' (Gives out n w'):=by
  intro w' bs A c hb hs hcap hby hmax n out ho hn;subst ho hn;refine (Kq bs A c w' hs hcap hby hmax (hfix.below hb hg) (Nat.lt_of_lt_of_le hg hb.size) (hw.step hb)).mono ?_;rintro e w2 ⟨A',c',he,_,hb2,hs2⟩;exact ⟨A',c',he,hb2,hs2⟩
 have jK:=hide SV;clear SV hfix hg hw;go_enter func31,ntmps31;have hmk:∀ wx:World,(Instr.makeSlice 49 (.int .i64 49) (.int .i64 49)).run prog wx=.ok (.slice (some ⟨wx.heap.size,0,none⟩) 49 49) (wx.alloc (.cells (ZY (List.replicate 49 0)).toArray 5)):=fun _=>by kernel_rfl
 go_wp2_with fail;clear hmk;obtain ⟨gb,hgb⟩:=eE w.heap.size;obtain ⟨w0,hw0⟩:=eE (w.alloc (.cells (ZY sj).toArray 5));have hb0:=bE hw0;have B0:Z6 w0 gb 5 (ZY sj).toArray:=by rw [hw0,hgb];exact Z6.new _ _ _
 have S1:=jK.out w0 [] none 0 hb0 (Sl.nil _ _ _) (by decide) (fun x hx=>by cases hx) (by decide) 1 [4] wF rfl;rw [hw0] at S1;refine S1.mono ?_;rw [<- hw0];clear S1;rintro e w1 ⟨A1,c1,rfl,hb1,hs1⟩;have HB1:=Z9 hb0 hb1;have B1:=B0.step hb1;clear hw0 hb0 hb1 B0 hs1;rw [<- hgb];have jB:=hide hgb;clear hgb;go_wp2_with fail;refine (jK.out w1 sj (some ⟨gb,0,none⟩) 49 HB1 (slb B1) (by decide) zsf (by decide) 2 [0,2] zyh rfl).mono ?_;rintro e w2 ⟨A2,c2,rfl,hb2,hs2⟩;have HB2:=Z9 HB1 hb2;clear B1 hb2;have HS2:=hide hs2;clear hs2;go_wp2_with fail;have hb3:=Z7 (Below.refl w2.heap.size w2) (.cells #[.int .u8 0,.int .u8 2] 5);refine (LB [0,2] A2 (some ⟨w2.heap.size,0,none⟩) c2 2 _ ((HS2.out.below hb3).more hb3.size) (slb (Z6.new _ _ _))).mono ?_;rintro e w3 ⟨rfl,rfl⟩;have HB3:=Z9 HB2 hb3;obtain ⟨w3,hw3⟩:=eE (w2.alloc (.cells #[.int .u8 0,.int .u8 2] 5));rw [<- hw3] at HB3 ⊢;clear hw3 hb3 HS2;go_wp2_with fail;refine (jK.out w3 [] none 0 HB3 (Sl.nil _ _ _) (by decide) (fun x hx=>by cases hx) (by decide) 1 [4] wF rfl).mono ?_;rintro e w4 ⟨A4,c4,rfl,hb4,hs4⟩;have KX:=Z9 HB3 hb4;clear hb4;have HS4:=hide hs4;clear hs4;go_wp2_with fail;have hb5:=Z7 (Below.refl w4.heap.size w4) (.cells #[.int .u8 4] 5);refine (LB [4] A4 (some ⟨w4.heap.size,0,none⟩) c4 1 _ ((HS4.out.below hb5).more hb5.size) (slb (Z6.new _ _ _))).mono ?_;rintro e w5 ⟨rfl,rfl⟩;have kM:=Z9 KX hb5;go_wp2;go_ret;exact ⟨rfl,kM⟩
section
variable (op vs Z0:Int)(hrs:List Rg)(HA:Option Addr)(hc:Nat)(gs:List Gr)(GA:Option Addr)(gc:Nat)(ps:List (Int × Int))(PA:Option Addr)(pc:Nat)(qs:List ((Int × Int) × Int))(QA:Option Addr)(qc:Nat)(w:World)
variable (hh:Sl w w.heap.size HA (rgCells hrs))(hgc:Sl w w.heap.size GA (rgCells (gs.map (·.1))))(hgs:Ey w w.heap.size gs)(hps:Sl w w.heap.size PA (Zg ps))(RL:Sl w w.heap.size QA (Wt qs))(Ro:∀ q∈qs,Vo q.2)
include hh hgc hgs hps RL Ro
end
structure qG(w:World)(gs:List Gr)(GA:Option Addr)(qs:List ((Int × Int) × Int))(QA:Option Addr):Prop where
 hg:Sl w w.heap.size GA (rgCells (gs.map (·.1)))
 gk:Ey w w.heap.size gs
 gj:∀ g∈gs,Ub g.2
 hq:Sl w w.heap.size QA (Wt qs)
 qj:∀ q∈qs,PJ q.1
 qu:∀ q∈qs,Vo q.2
theorem qG.below{w w':World}{gs:List Gr}{GA:Option Addr}{qs:List ((Int × Int) × Int)}{QA:Option Addr}(h:qG w gs GA qs QA)(hb:Below w.heap.size w w'):qG w' gs GA qs QA :=
 ⟨(h.hg.below hb).more hb.size,fun g hg=>⟨(h.gk g hg).1,((h.gk g hg).2.below hb).more hb.size⟩,h.gj,(h.hq.below hb).more hb.size,h.qj,h.qu⟩
theorem qG.len{w:World}{gs:List Gr}{GA:Option Addr}{qs:List ((Int × Int) × Int)}{QA:Option Addr}(h:qG w gs GA qs QA):∀ g∈gs,g.1.n=g.2.length:=fun g hg=>(h.gk g hg).1
end
end Go.Proofs.YthnenedoblncjaaGreatDoor