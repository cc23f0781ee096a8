/- RefEngine RefAnswer19 -/
import Derived.Test.YthnenedoblncjaaGreatDoorPkA12
import Derived.Test.YthnenedoblncjaaGreatDoorPkA36
import Derived.Test.YthnenedoblncjaaGreatDoorPkA44
set_option maxRecDepth 1000000
set_option maxHeartbeats 8000000
namespace Go.Proofs.YthnenedoblncjaaGreatDoor
open Go.Proofs.Tryz
section
open Go.RowKit
theorem nX(ps:List Pt)(p:Pt):-1<=UL ps p/\UL ps p<=1:=Ng _ _
theorem Gi(ps:List Pt)(hps:Ub ps)(p:Pt)(hp:PJ p)(A:Option Addr)(c:Nat)(w:World)(hs:Sl w w.heap.size A (Zg ps)):
 Calls prog 42 #[.slice A ps.length c,Mh p] w fun e w'=>e=.returned (.int .i64 (WV ps p))/\Below w.heap.size w w':=by
 obtain ⟨p1,p2⟩:=p;unfold Mh;obtain ⟨w0,hw0⟩:=eE (w.alloc (.cells #[.int .i64 p1,.int .i64 p2] 41));have hb0:=bE hw0;have B0:Z6 w0 w.heap.size 41 #[.int .i64 p1,.int .i64 p2]:=by rw [hw0];exact Z6.new _ _ _
 have hs0:=(hs.below hb0).more hb0.size;have HV:=hide (MB ps hps A c w0 hs0);have HL:Hid (∀ wk,Below w0.heap.size w0 wk->Calls prog 83 #[.slice A ps.length c,.agg #[.int .i64 p1,.int .i64 p2]] wk fun e w'=>e=.returned (.int .i64 (UL ps (p1,p2)))/\Below wk.heap.size wk w'):=hide fun wk h=>Oy ps hps (p1,p2) hp A c wk ((hs0.below h).more h.size);have hlb:=nX ps (p1,p2);have HC:Hid (WV ps (p1,p2)=bif YB ps then UL ps (p1,p2)+1 else 3):=hide rfl;generalize UL ps (p1,p2)=l at *;have HB0:=hide hb0;have NH:=hide B0;clear hps hp hs hs0 hb0 B0;cases hv:YB ps
 · rw [hv] at HV HC;go_enter func42,ntmps42;go_wp2_with fail;rw [<- hw0];clear hw0;refine HV.out.mono ?_;rintro e w1 ⟨rfl,hb1⟩;go_wp2;go_ret;exact ⟨by rw [HC.out];rfl,Z9 HB0.out hb1⟩
 · rw [hv] at HV HC;go_enter func42,ntmps42;go_wp2_with fail;rw [<- hw0];clear hw0;refine HV.out.mono ?_;rintro e w1 ⟨rfl,hb1⟩;have c0:w1.cell? ⟨w.heap.size,0,none⟩=some (.int .i64 p1):=(NH.out.step hb1).q0 rfl;have c1:w1.cell? ⟨w.heap.size,1,none⟩=some (.int .i64 p2):=(NH.out.step hb1).q1 rfl;have hb1':=hide hb1;clear hb1;go_wp2_with fail;refine (HL.out _ hb1'.out).mono ?_;rintro e w2 ⟨rfl,hb2⟩;go_wp2;go_ret;exact ⟨by rw [HC.out];rfl,Z9 HB0.out (Z9 hb1'.out hb2)⟩
theorem DJ(gs:List Gr)(p:Pt)(hp:PJ p)(GA:Option Addr)(gc:Nat)(w:World)(hs:Sl w w.heap.size GA (rgCells (gs.map (·.1))))(hgs:xB w gs):
 Calls prog 43 #[.slice GA gs.length gc,Mh p] w fun e w'=>e=.returned (.int .i64 (VZ gs p))/\Below w.heap.size w w':=by
 obtain ⟨p1,p2⟩:=p;unfold Mh;obtain ⟨w0,hw0⟩:=eE (w.alloc (.cells #[.int .i64 p1,.int .i64 p2] 41));have hb0:=bE hw0;have B0:Z6 w0 w.heap.size 41 #[.int .i64 p1,.int .i64 p2]:=by rw [hw0];exact Z6.new _ _ _
 have hs0:=(hs.below hb0).more hb0.size;have hgs0:=hgs.step hb0;have HV:=hide (SN gs GA gc w0 hs0 hgs0);have HL:Hid (∀ wk,Below w0.heap.size w0 wk->Calls prog 85 #[.slice GA gs.length gc,.agg #[.int .i64 p1,.int .i64 p2]] wk fun e w'=>e=.returned (.bool (XZ gs (p1,p2)))/\Below wk.heap.size wk w'):=hide fun wk h=>Oz gs (p1,p2) hp GA gc wk ((hs0.below h).more h.size) (hgs0.step h);have HC:Hid (VZ gs (p1,p2)=bif Zc gs then (bif XZ gs (p1,p2) then 1 else 0) else 2):=hide rfl;have HB0:=hide hb0;have NH:=hide B0;clear hp hs hs0 hgs hgs0 hb0 B0;generalize XZ gs (p1,p2)=l at *;cases hv:Zc gs
 · rw [hv] at HV HC;go_enter func43,ntmps43;go_wp2_with fail;rw [<- hw0];clear hw0;refine HV.out.mono ?_;rintro e w1 ⟨rfl,hb1⟩;go_wp2;go_ret;exact ⟨by rw [HC.out];rfl,Z9 HB0.out hb1⟩
 · rw [hv] at HV HC;cases l
   all_goals
    go_enter func43,ntmps43;go_wp2_with fail;rw [<- hw0];clear hw0;refine HV.out.mono ?_;rintro e w1 ⟨rfl,hb1⟩;have c0:w1.cell? ⟨w.heap.size,0,none⟩=some (.int .i64 p1):=(NH.out.step hb1).q0 rfl;have c1:w1.cell? ⟨w.heap.size,1,none⟩=some (.int .i64 p2):=(NH.out.step hb1).q1 rfl;have hb1':=hide hb1;clear hb1;go_wp2_with fail;refine (HL.out _ hb1'.out).mono ?_;rintro e w2 ⟨rfl,hb2⟩;go_wp2;go_ret;exact ⟨by rw [HC.out];rfl,Z9 HB0.out (Z9 hb1'.out hb2)⟩
end
section
open Go.RowKit
theorem zH{w:World}{B:Nat}{A:Option Addr}{ps:List Pt}(h:Sl w B A (Zg ps))(n:Nat):Sl w B A (Zg (ps.take n)):=by
 rcases h with h|⟨b,off,hA,hB,hc⟩
 · refine .inl ?_;have:ps=[]:=by
    cases ps with
    | nil=>rfl
    | cons x l=>simp [Zg] at h
   rw [this];simp [Zg]
 · exact .inr ⟨b,off,hA,hB,fun j u hu=>hc j u (Kc ps n j u hu)⟩
section
variable (vs Z0:Int)(HA:Option Addr)(hn hc:Nat)(GA:Option Addr)(gn gc:Nat)(ps:List Pt)(PA:Option Addr)(pc:Nat)(QA:Option Addr)(qn qc:Nat)(w:World)(hps:Ub ps)
include hps
theorem pF(hs:Sl w w.heap.size PA (Zg ps))(hln:ps.length=3):
 Calls prog 162 #[.agg #[.int .i64 1,.int .i64 vs,.slice HA hn hc,.int .i64 Z0,.slice GA gn gc,.slice PA 3 pc,.slice QA qn qc]] w fun e w'=>e=.returned (.int .i64 ((ZM (Z5 ps 0) (Z5 ps 1) (Z5 ps 2)).sign+1))/\Below w.heap.size w w':=by
 obtain ⟨w0,hw0⟩:=eE (w.alloc (.cells #[.int .i64 1,.int .i64 vs,.slice HA hn hc,.int .i64 Z0,.slice GA gn gc,.slice PA 3 pc,.slice QA qn qc] 55));have hb0:=bE hw0;have B0:Z6 w0 w.heap.size 55 #[.int .i64 1,.int .i64 vs,.slice HA hn hc,.int .i64 Z0,.slice GA gn gc,.slice PA 3 pc,.slice QA qn qc]:=by rw [hw0];exact Z6.new _ _ _
 have hs0:=(hs.below hb0).more hb0.size;obtain ⟨b,off,rfl,hb⟩:=VL hs0 (by omega);obtain ⟨a0,a1⟩:=X8 hs0 (k:=0) (by omega);obtain ⟨b0,b1⟩:=X8 hs0 (k:=1) (by omega);obtain ⟨c0,c1⟩:=X8 hs0 (k:=2) (by omega);have HO:Hid (∀ wk,Calls prog 40 #[.agg #[.int .i64 (Z5 ps 0).1,.int .i64 (Z5 ps 0).2],.agg #[.int .i64 (Z5 ps 1).1,.int .i64 (Z5 ps 1).2],.agg #[.int .i64 (Z5 ps 2).1,.int .i64 (Z5 ps 2).2]] wk fun e w'=>e=.returned (.int .i64 (ZM (Z5 ps 0) (Z5 ps 1) (Z5 ps 2)).sign)/\Below wk.heap.size wk w'):=hide fun wk=>RY _ _ _ (hps.at_ 0) (hps.at_ 1) (hps.at_ 2) wk;have hbs:=Xq (ZM (Z5 ps 0) (Z5 ps 1) (Z5 ps 2));generalize (ZM (Z5 ps 0) (Z5 ps 1) (Z5 ps 2)).sign=os at *;generalize Z5 ps 0=pa at *;generalize Z5 ps 1=pb at *;generalize Z5 ps 2=pc at *;obtain ⟨x0,y0⟩:=pa;obtain ⟨x1,y1⟩:=pb;obtain ⟨x2,y2⟩:=pc;dsimp only at *;simp only [Nat.zero_mul,Nat.add_zero,Nat.one_mul,Nat.reduceMul] at a0 a1 b0 b1 c0 c1;have hsum:IntKind.i64.wrap (os+1)=os+1:=by rw [IntKind.wrap_i64];omega
 have hbd:=ZU (Below.refl w0.heap.size w0);have z0:w0.cell? ⟨w.heap.size,0,none⟩=some (.int .i64 1):=B0.q0 rfl;have z5:=B0.q5 rfl;have HB0:=hide hb0;clear hps hs hs0 hln hbs B0 hb0;go_enter func162,ntmps162;go_wp2;rw [<- hw0];have HW0:=hide hw0;clear hw0
 go_region_held3 (fun w'=>Below w0.heap.size w0 w'/\w'.cell? ⟨b,off,none⟩=some (.int .i64 x0)/\w'.cell? ⟨b,off+1,none⟩=some (.int .i64 y0)/\w'.cell? ⟨b,off+2,none⟩=some (.int .i64 x1)/\w'.cell? ⟨b,off+2+1,none⟩=some (.int .i64 y1)/\w'.cell? ⟨b,off+4,none⟩=some (.int .i64 x2)/\w'.cell? ⟨b,off+4+1,none⟩=some (.int .i64 y2))
  (first|exact ⟨hbd,a0,a1,b0,b1,c0,c1⟩|exact ⟨Z9 hbd (by assumption),(hb1.cell (p:=⟨b,_,none⟩) hb).trans a0,(hb1.cell (p:=⟨b,_,none⟩) hb).trans a1,(hb1.cell (p:=⟨b,_,none⟩) hb).trans b0,(hb1.cell (p:=⟨b,_,none⟩) hb).trans b1,(hb1.cell (p:=⟨b,_,none⟩) hb).trans c0,(hb1.cell (p:=⟨b,_,none⟩) hb).trans c1⟩)
  (first
    | (go_at_call 40;((with_reducible refine (HO.out _).mono ?_);rintro e w' ⟨rfl,hb1⟩)))
 all_goals
  go_wp2;go_ret;exact ⟨rfl,Z9 HB0.out (Z9 hbd hb1)⟩
include hps
theorem pG(hs:Sl w w.heap.size PA (Zg ps))(hln:ps.length=4):
 Calls prog 162 #[.agg #[.int .i64 2,.int .i64 vs,.slice HA hn hc,.int .i64 Z0,.slice GA gn gc,.slice PA 4 pc,.slice QA qn qc]] w fun e w'=>e=.returned (.int .i64 ((YI (Z5 ps 0) (Z5 ps 1) (Z5 ps 2) (Z5 ps 3)).sign+1))/\Below w.heap.size w w':=by
 obtain ⟨w0,hw0⟩:=eE (w.alloc (.cells #[.int .i64 2,.int .i64 vs,.slice HA hn hc,.int .i64 Z0,.slice GA gn gc,.slice PA 4 pc,.slice QA qn qc] 55));have hb0:=bE hw0;have B0:Z6 w0 w.heap.size 55 #[.int .i64 2,.int .i64 vs,.slice HA hn hc,.int .i64 Z0,.slice GA gn gc,.slice PA 4 pc,.slice QA qn qc]:=by rw [hw0];exact Z6.new _ _ _
 have hs0:=(hs.below hb0).more hb0.size;obtain ⟨b,off,rfl,hb⟩:=VL hs0 (by omega);obtain ⟨a0,a1⟩:=X8 hs0 (k:=0) (by omega);obtain ⟨b0,b1⟩:=X8 hs0 (k:=1) (by omega);obtain ⟨c0,c1⟩:=X8 hs0 (k:=2) (by omega);obtain ⟨d0,d1⟩:=X8 hs0 (k:=3) (by omega);have HO:Hid (∀ wk,Calls prog 41 #[.agg #[.int .i64 (Z5 ps 0).1,.int .i64 (Z5 ps 0).2],.agg #[.int .i64 (Z5 ps 1).1,.int .i64 (Z5 ps 1).2],.agg #[.int .i64 (Z5 ps 2).1,.int .i64 (Z5 ps 2).2],.agg #[.int .i64 (Z5 ps 3).1,.int .i64 (Z5 ps 3).2]] wk (Ze (fun _=>True) (YI (Z5 ps 0) (Z5 ps 1) (Z5 ps 2) (Z5 ps 3)) wk)):=hide fun wk=>Kh _ _ _ _ _ _ _ _ _ _ (hps.at_ 0) (hps.at_ 1) (hps.at_ 2) (hps.at_ 3) (AX _ _ _ _) wk (fun _ _=>trivial);generalize YI (Z5 ps 0) (Z5 ps 1) (Z5 ps 2) (Z5 ps 3)=cd at *;have hbs:=Xq cd;generalize Z5 ps 0=pa at *;generalize Z5 ps 1=pb at *;generalize Z5 ps 2=pc at *;generalize Z5 ps 3=pd at *;obtain ⟨x0,y0⟩:=pa;obtain ⟨x1,y1⟩:=pb;obtain ⟨x2,y2⟩:=pc;obtain ⟨x3,y3⟩:=pd;dsimp only at *;simp only [Nat.zero_mul,Nat.add_zero,Nat.one_mul,Nat.reduceMul] at a0 a1 b0 b1 c0 c1 d0 d1;have hsum:IntKind.i64.wrap (cd.sign+1)=cd.sign+1:=by rw [IntKind.wrap_i64];omega
 have hbd:=ZU (Below.refl w0.heap.size w0);have z0:w0.cell? ⟨w.heap.size,0,none⟩=some (.int .i64 2):=B0.q0 rfl;have z5:=B0.q5 rfl;have HB0:=hide hb0;clear hps hs hs0 hln hbs B0 hb0;go_enter func162,ntmps162;go_wp2;rw [<- hw0];have HW0:=hide hw0;clear hw0
 go_region_held3 (fun w'=>Below w0.heap.size w0 w'/\w'.cell? ⟨b,off,none⟩=some (.int .i64 x0)/\w'.cell? ⟨b,off+1,none⟩=some (.int .i64 y0)/\w'.cell? ⟨b,off+2,none⟩=some (.int .i64 x1)/\w'.cell? ⟨b,off+2+1,none⟩=some (.int .i64 y1)/\w'.cell? ⟨b,off+4,none⟩=some (.int .i64 x2)/\w'.cell? ⟨b,off+4+1,none⟩=some (.int .i64 y2)/\w'.cell? ⟨b,off+6,none⟩=some (.int .i64 x3)/\w'.cell? ⟨b,off+6+1,none⟩=some (.int .i64 y3))
  (first|exact ⟨hbd,a0,a1,b0,b1,c0,c1,d0,d1⟩|exact ⟨Z9 hbd (by assumption),(hb1.cell (p:=⟨b,_,none⟩) hb).trans a0,(hb1.cell (p:=⟨b,_,none⟩) hb).trans a1,(hb1.cell (p:=⟨b,_,none⟩) hb).trans b0,(hb1.cell (p:=⟨b,_,none⟩) hb).trans b1,(hb1.cell (p:=⟨b,_,none⟩) hb).trans c0,(hb1.cell (p:=⟨b,_,none⟩) hb).trans c1,(hb1.cell (p:=⟨b,_,none⟩) hb).trans d0,(hb1.cell (p:=⟨b,_,none⟩) hb).trans d1⟩)
  (first
    | (go_at_call 41;((with_reducible refine (HO.out _).mono ?_);rintro e w' ⟨A4,c4,rfl,Pv,hb1⟩;unfold YQ;have hf:=fun wk=>Mx cd.sign (.slice A4 (ZB cd.natAbs).length c4) wk)))
 all_goals
  go_wp2;go_ret;exact ⟨rfl,Z9 HB0.out (Z9 hbd hb1)⟩
include hps
theorem pI(hs:Sl w w.heap.size PA (Zg ps))(n:Nat)(hln:ps.length=n+1)(cB:n<=64)(hcap:n+1<=pc):
 Calls prog 162 #[.agg #[.int .i64 3,.int .i64 vs,.slice HA hn hc,.int .i64 Z0,.slice GA gn gc,.slice PA (n+1) pc,.slice QA qn qc]] w fun e w'=>e=.returned (.int .i64 (WV (ps.take n) (Z5 ps n)))/\Below w.heap.size w w':=by
 obtain ⟨w0,hw0⟩:=eE (w.alloc (.cells #[.int .i64 3,.int .i64 vs,.slice HA hn hc,.int .i64 Z0,.slice GA gn gc,.slice PA (n+1) pc,.slice QA qn qc] 55));have hb0:=bE hw0;have B0:Z6 w0 w.heap.size 55 #[.int .i64 3,.int .i64 vs,.slice HA hn hc,.int .i64 Z0,.slice GA gn gc,.slice PA (n+1) pc,.slice QA qn qc]:=by rw [hw0];exact Z6.new _ _ _
 have hs0:=(hs.below hb0).more hb0.size;have hlt:(ps.take n).length=n:=by rw [List.length_take];omega
 obtain ⟨b,off,rfl,hb⟩:=VL hs0 (by omega);obtain ⟨a0,a1⟩:=X8 hs0 (k:=n) (by omega)
 have HO:Hid (∀ wk,Below w0.heap.size w0 wk->Calls prog 42 #[.slice (some ⟨b,off,none⟩) n pc,.agg #[.int .i64 (Z5 ps n).1,.int .i64 (Z5 ps n).2]] wk fun e w'=>e=.returned (.int .i64 (WV (ps.take n) (Z5 ps n)))/\Below wk.heap.size wk w'):=hide fun wk hk=>by
  have h:=Gi (ps.take n) (fun p hp=>hps p (List.mem_of_mem_take hp)) (Z5 ps n) (hps.at_ n) (some ⟨b,off,none⟩) pc wk ((zH hs0 n).below hk |>.more hk.size);rw [hlt] at h;exact h
 have hwr:IntKind.i64.wrap ((n:Nat):Int)=(n:Int):=by rw [IntKind.wrap_i64];omega
 have hni:((n:Nat):Int)<((n:Int)+1):=by omega
 have hci:((n:Nat):Int)<=((pc:Nat):Int):=by omega
 have hcn:n<=pc:=by omega
 generalize WV (ps.take n) (Z5 ps n)=os at *;generalize Z5 ps n=pa at *;obtain ⟨x0,y0⟩:=pa;dsimp only at *;have hbd:=ZU (Below.refl w0.heap.size w0);have z0:w0.cell? ⟨w.heap.size,0,none⟩=some (.int .i64 3):=B0.q0 rfl;have z5:=B0.q5 rfl;have HB0:=hide hb0;clear hps hs hs0 hln hlt B0 hb0;go_enter func162,ntmps162;go_wp2;rw [<- hw0];have HW0:=hide hw0;clear hw0
 go_region_held3 (fun w'=>Below w0.heap.size w0 w'/\w'.cell? ⟨b,off+n*2,none⟩=some (.int .i64 x0)/\w'.cell? ⟨b,off+n*2+1,none⟩=some (.int .i64 y0))
  (first|exact ⟨hbd,a0,a1⟩|exact ⟨Z9 hbd (by assumption),(hb1.cell (p:=⟨b,_,none⟩) hb).trans a0,(hb1.cell (p:=⟨b,_,none⟩) hb).trans a1⟩)
  (first
    | (go_at_call 42;((with_reducible refine (HO.out _ hbd).mono ?_);rintro e w' ⟨rfl,hb1⟩)))
 all_goals
  go_wp2;go_ret;exact ⟨rfl,Z9 HB0.out (Z9 hbd hb1)⟩
include hps
theorem pJ(hs:Sl w w.heap.size PA (Zg ps))(hln:ps.length=1)(gs:List Gr)(hgl:gs.length=gn)(hg:Sl w w.heap.size GA (rgCells (gs.map (·.1))))(hgs:xB w gs):
 Calls prog 162 #[.agg #[.int .i64 4,.int .i64 vs,.slice HA hn hc,.int .i64 Z0,.slice GA gn gc,.slice PA 1 pc,.slice QA qn qc]] w fun e w'=>e=.returned (.int .i64 (VZ gs (Z5 ps 0)))/\Below w.heap.size w w':=by
 obtain ⟨w0,hw0⟩:=eE (w.alloc (.cells #[.int .i64 4,.int .i64 vs,.slice HA hn hc,.int .i64 Z0,.slice GA gn gc,.slice PA 1 pc,.slice QA qn qc] 55));have hb0:=bE hw0;have B0:Z6 w0 w.heap.size 55 #[.int .i64 4,.int .i64 vs,.slice HA hn hc,.int .i64 Z0,.slice GA gn gc,.slice PA 1 pc,.slice QA qn qc]:=by rw [hw0];exact Z6.new _ _ _
 have hs0:=(hs.below hb0).more hb0.size;have hg0:=(hg.below hb0).more hb0.size;have hgs0:=hgs.step hb0;obtain ⟨b,off,rfl,hb⟩:=VL hs0 (by omega);obtain ⟨a0,a1⟩:=X8 hs0 (k:=0) (by omega)
 have HO:Hid (∀ wk,Below w0.heap.size w0 wk->Calls prog 43 #[.slice GA gn gc,.agg #[.int .i64 (Z5 ps 0).1,.int .i64 (Z5 ps 0).2]] wk fun e w'=>e=.returned (.int .i64 (VZ gs (Z5 ps 0)))/\Below wk.heap.size wk w'):=hide fun wk hk=>by
  have h:=DJ gs (Z5 ps 0) (hps.at_ 0) GA gc wk ((hg0.below hk).more hk.size) (hgs0.step hk);rw [hgl] at h;exact h
 generalize VZ gs (Z5 ps 0)=os at *;generalize Z5 ps 0=pa at *;obtain ⟨x0,y0⟩:=pa;dsimp only at *;simp only [Nat.zero_mul,Nat.add_zero] at a0 a1;have hbd:=ZU (Below.refl w0.heap.size w0);have z0:w0.cell? ⟨w.heap.size,0,none⟩=some (.int .i64 4):=B0.q0 rfl;have z4:w0.cell? ⟨w.heap.size,4,none⟩=some (.slice GA gn gc):=B0.q4 rfl;have z5:=B0.q5 rfl;have hgw:=B0.lt;have HB0:=hide hb0;clear hps hs hs0 hln B0 hb0 hg hgs hg0 hgs0 hgl;go_enter func162,ntmps162;go_wp2;rw [<- hw0];have HW0:=hide hw0;clear hw0
 go_region_held3 (fun w'=>Below w0.heap.size w0 w'/\w'.cell? ⟨w.heap.size,4,none⟩=some (.slice GA gn gc)/\w'.cell? ⟨b,off,none⟩=some (.int .i64 x0)/\w'.cell? ⟨b,off+1,none⟩=some (.int .i64 y0))
  (first|exact ⟨hbd,z4,a0,a1⟩|exact ⟨Z9 hbd (by assumption),(hb1.cell (p:=⟨_,_,none⟩) hgw).trans z4,(hb1.cell (p:=⟨b,_,none⟩) hb).trans a0,(hb1.cell (p:=⟨b,_,none⟩) hb).trans a1⟩)
  (first
    | (go_at_call 43;((with_reducible refine (HO.out _ hbd).mono ?_);rintro e w' ⟨rfl,hb1⟩)))
 all_goals
  go_wp2;go_ret;exact ⟨rfl,Z9 HB0.out (Z9 hbd hb1)⟩
end
theorem UE {fn:Func} {tmps:Array Value} {w:World} {g:Nat} {v0 v1 v2:Value} (h:fn.results=#[.cell 2 112,.tmp 3])
 (hp:tmps.getD 2 undef=.pointer (some ⟨g,0,none⟩)) (hb:Z6 w g 112 #[v0,v1,v2]) :
 (results fn tmps).run prog w=.ok (.tuple #[.agg #[v0,v1,v2],tmps.getD 3 undef]) w:=by
 have c0:=hb.q0 rfl;have c1:=hb.q1 rfl;have c2:=hb.q2 rfl;have hp':tmps[2]?.getD undef=.pointer (some ⟨g,0,none⟩):=by rw [<- hp];simp
 simp [results,h,hp',go_sem,c0,c1,c2]
section
variable (op vs Z0:Int)(hrs:List Rg)(HA:Option Addr)(hc:Nat)(gs:List Gr)(GA:Option Addr)(gc:Nat)(ps:List Pt)(PA:Option Addr)(pc:Nat)(qs:List ((Int × Int) × Int))(QA:Option Addr)(qc:Nat)(w:World)
variable (hh:Sl w w.heap.size HA (rgCells hrs))(hgc:Sl w w.heap.size GA (rgCells (gs.map (·.1))))(hgs:xB w gs)(hps:Ub ps)(hpc:Sl w w.heap.size PA (Zg ps))(RL:Sl w w.heap.size QA (Wt qs))(Ro:∀ q∈qs,Vo q.2)(hcap:ps.length<=pc)
include hgc hgs hps hpc hcap
theorem DW(Cy:ZT op vs hrs Z0=0)(hlen:(ps.length:Int)=XT op vs)(h5:op≠5):
 Calls prog 162 #[.agg #[.int .i64 op,.int .i64 vs,.slice HA hrs.length hc,.int .i64 Z0,.slice GA gs.length gc,.slice PA ps.length pc,.slice QA qs.length qc]] w fun e w'=>e=.returned (.int .i64 (Yu op gs ps))/\Below w.heap.size w w':=by
 have hz:=Zu Cy;have hop:op=1\/op=2\/op=3\/op=4:=by have:=hz.1;have:=hz.2.1;omega
 rcases hop with rfl|rfl|rfl|rfl
 · have h3:ps.length=3:=(by have:XT 1 vs=3:=rfl;omega);have h:=pF vs Z0 HA hrs.length hc GA gs.length gc ps PA pc QA qs.length qc w hps hpc h3;rw [<- h3] at h;exact h
 · have h3:ps.length=4:=(by have:XT 2 vs=4:=rfl;omega);have h:=pG vs Z0 HA hrs.length hc GA gs.length gc ps PA pc QA qs.length qc w hps hpc h3;rw [<- h3] at h;exact h
 · have h3:3<=vs/\vs<=64:=hz.2.2.1 rfl;have h4:(ps.length:Int)=vs+1:=hlen;have h6:ps.length=(ps.length - 1)+1:=(by omega);have h:=pI vs Z0 HA hrs.length hc GA gs.length gc ps PA pc QA qs.length qc w hps hpc (ps.length - 1) h6 (by omega) (by omega);rw [<- h6] at h;exact h
 · have h3:ps.length=1:=(by have:XT 4 vs=1:=rfl;omega);have h:=pJ vs Z0 HA hrs.length hc GA gs.length gc ps PA pc QA qs.length qc w hps hpc h3 gs rfl hgc hgs;rw [<- h3] at h;exact h
include hh RL Ro
theorem Gh:Calls prog 111 #[.agg #[.int .i64 op,.int .i64 vs,.slice HA hrs.length hc,.int .i64 Z0,.slice GA gs.length gc,.slice PA ps.length pc,.slice QA qs.length qc]] w fun e w'=>e=.returned (.tuple #[.agg #[.int .i64 (TA op vs hrs Z0 gs ps qs).1,.int .i64 0,.slice none 0 0],.int .i64 (TA op vs hrs Z0 gs ps qs).2])/\Below w.heap.size w w':=by
 obtain ⟨w0,hw0⟩:=eE ((w.alloc (.cells #[.int .i64 op,.int .i64 vs,.slice HA hrs.length hc,.int .i64 Z0,.slice GA gs.length gc,.slice PA ps.length pc,.slice QA qs.length qc] 55)).alloc (.cells #[.int .i64 0,.int .i64 0,.slice none 0 0] 112));have hb0:=bF hw0;have B0:Z6 w0 w.heap.size 55 #[.int .i64 op,.int .i64 vs,.slice HA hrs.length hc,.int .i64 Z0,.slice GA gs.length gc,.slice PA ps.length pc,.slice QA qs.length qc]:=by rw [hw0];exact (Z6.new _ _ _).alloc _
 have C0:Z6 w0 (w.heap.size+1) 112 #[.int .i64 0,.int .i64 0,.slice none 0 0]:=by rw [hw0];exact Z6.new2 _ _ _ _
 have mv:∀ {A:Option Addr} {xs:List Value} {wk:World},Sl w w.heap.size A xs->Below w.heap.size w wk->Sl wk wk.heap.size A xs:=fun h hb=>(h.below hb).more hb.size;have KZ:=Ov op vs Z0 hrs HA hc gs GA gc ps PA pc qs QA qc w0 (mv hh hb0) (mv hgc hb0) (fun g hg=>⟨(hgs g hg).1,mv (hgs g hg).2.1 hb0⟩) (mv hpc hb0) (mv RL hb0) Ro;have NG:Hid (TA op vs hrs Z0 gs ps qs=if (ZK op vs hrs Z0 gs ps qs).2≠0 then (0,(ZK op vs hrs Z0 gs ps qs).2) else if op=5 then (0,2) else (Yu op gs ps,0)):=hide rfl
 have HV0:(ZK op vs hrs Z0 gs ps qs).2=0->op≠5->∀ wk,Below w.heap.size w wk->Calls prog 162 #[.agg #[.int .i64 op,.int .i64 vs,.slice HA hrs.length hc,.int .i64 Z0,.slice GA gs.length gc,.slice PA ps.length pc,.slice QA qs.length qc]] wk fun e w'=>e=.returned (.int .i64 (Yu op gs ps))/\Below wk.heap.size wk w':=fun he h5 wk hk=>by
  obtain ⟨e1,e2,e3,_⟩:=QN he;exact DW op vs Z0 hrs HA hc gs GA gc ps PA pc qs QA qc wk (mv hgc hk) (fun g hg=>⟨(hgs g hg).1,mv (hgs g hg).2.1 hk,(hgs g hg).2.2⟩) hps (mv hpc hk) hcap e1 e3 h5
 obtain ⟨⟨bs,err⟩,hE⟩:∃ E,E=ZK op vs hrs Z0 gs ps qs:=⟨_,rfl⟩;rw [<- hE] at KZ NG HV0;have kR:=hide KZ;have HV:=hide HV0;have HB0:=hide hb0;have HBQ:=hide B0;have Qz:=hide C0;have q0:=B0.q0 rfl;have q1:=B0.q1 rfl;have q2:=B0.q2 rfl;have q3:=B0.q3 rfl;have q4:=B0.q4 rfl;have q5:=B0.q5 rfl;have q6:=B0.q6 rfl;clear hE KZ HV0 mv hh hgc hgs hps hpc RL Ro hcap hb0 B0 C0;generalize Yu op gs ps=av at *;generalize hrs.length=hn at *;generalize gs.length=gn at *;generalize ps.length=pn at *;generalize qs.length=qn at *;go_enter func111,ntmps111;go_wp2_with fail;rw [<- hw0];have HW0:=hide hw0;clear hw0;go_wp2_with fail;refine kR.out.mono ?_;rintro e w1 ⟨v1,rfl,ZL,hb1⟩;have B1:=HBQ.out.step hb1;have C1:=Qz.out.step hb1;have hbw:=Z9 HB0.out hb1;clear ZL q0 q1 q2 q3 q4 q5 q6;have q0:w1.cell? ⟨w.heap.size,0,none⟩=some (.int .i64 op):=B1.q0 rfl;have q1:=B1.q1 rfl;have q2:=B1.q2 rfl;have q3:=B1.q3 rfl;have q4:=B1.q4 rfl;have q5:=B1.q5 rfl;have q6:=B1.q6 rfl;have z0:=C1.q0 rfl;have z1:=C1.q1 rfl;have z2:=C1.q2 rfl;have y0:=C1.frozen 0;have y1:=C1.frozen 1;have y2:=C1.frozen 2;have Ru:=hide C1;have Bg:=hide hbw;clear B1 C1 hb1 hbw
 by_cases he:err=0
 · subst he
   by_cases h5:op=5
   · subst h5;have HA:Hid (TA 5 vs hrs Z0 gs ps qs=(0,2)):=hide (by rw [NG.out];simp);clear NG HV;go_wp2;refine bodyPost_ret (UE rfl rfl (((Ru.out.set 0 _).set 1 _).set 2 _)) rfl ?_;exact ⟨by rw [HA.out];rfl,((Bg.out.setCell (by dsimp only;omega) _).setCell (by dsimp only;omega) _).setCell (by dsimp only;omega) _⟩
   · have HA:Hid (TA op vs hrs Z0 gs ps qs=(av,0)):=hide (by rw [NG.out];simp [h5]);have HV1:=hide (HV.out rfl h5);clear HV NG;go_wp2_with fail;refine (HV1.out _ Bg.out).mono ?_;rintro e w2 ⟨rfl,hb2⟩;have C2:=Ru.out.step hb2;have hbw2:=Z9 Bg.out hb2;clear q0 q1 q2 q3 q4 q5 q6 z0 z1 z2 y0 y1 y2;have z0:=C2.q0 rfl;have z1:=C2.q1 rfl;have z2:=C2.q2 rfl;have y0:=C2.frozen 0;have y1:=C2.frozen 1;have y2:=C2.frozen 2;go_wp2;refine bodyPost_ret (UE rfl rfl (((C2.set 0 _).set 1 _).set 2 _)) rfl ?_;exact ⟨by rw [HA.out];rfl,((hbw2.setCell (by dsimp only;omega) _).setCell (by dsimp only;omega) _).setCell (by dsimp only;omega) _⟩
 · have HA:Hid (TA op vs hrs Z0 gs ps qs=(0,err)):=hide (by rw [NG.out];simp [he]);have heb:(err != 0)=true:=bne_iff_ne.2 he;clear HV NG;go_wp2;refine bodyPost_ret (UE rfl rfl (((Ru.out.set 0 _).set 1 _).set 2 _)) rfl ?_;exact ⟨by rw [HA.out];rfl,((Bg.out.setCell (by dsimp only;omega) _).setCell (by dsimp only;omega) _).setCell (by dsimp only;omega) _⟩
end
end
end Go.Proofs.YthnenedoblncjaaGreatDoor