/- RefEngine RefAnswer19 -/
import Derived.Test.YtpnoofphfomjoaaGreatDoorPkM16
import Derived.Test.YtpnoofphfomjoaaGreatDoorPkM38
import Derived.Test.YtpnoofphfomjoaaGreatDoorPkM53
set_option maxRecDepth 1000000
set_option maxHeartbeats 8000000
namespace Go.Proofs.YtpnoofphfomjoaaGreatDoor
section
open Go.RowKit
theorem locV_bd (ps:List Pt) (p:Pt):-1≤locV ps p∧locV ps p≤1:=sgnM_bd _ _
theorem rconvex_any (ps:List Pt) (hps:PsJ ps) (p:Pt) (hp:PJ p) (A:Option Addr) (c:Nat) (w:World) (hs:Sl w w.heap.size A (ptCs ps)) :
 Calls Tryz.prog 39 #[.slice A ps.length c,ptV p] w fun e w'=>e=.returned (.int .i64 (convexA ps p))∧Below w.heap.size w w':=by
 obtain ⟨p1,p2⟩:=p
 unfold ptV
 obtain ⟨w0,hw0⟩:∃ w0,w0=w.alloc (.cells #[.int .i64 p1,.int .i64 p2] 69):=⟨_,rfl⟩
 have hb0:Below w.heap.size w w0:=by rw [hw0];exact bA
 have B0:Blk w0 w.heap.size 69 #[.int .i64 p1,.int .i64 p2]:=by rw [hw0];exact Blk.new _ _ _
 have hs0:=(hs.below hb0).more hb0.size
 have HV:=hide (rvalid_any ps hps A c w0 hs0)
 have HL:Hid (∀ wk,Below w0.heap.size w0 wk→Calls Tryz.prog 83 #[.slice A ps.length c,.agg #[.int .i64 p1,.int .i64 p2]] wk fun e w'=>e=.returned (.int .i64 (locV ps (p1,p2)))∧Below wk.heap.size wk w'):=hide fun wk h=>rlocate_any ps hps (p1,p2) hp A c wk ((hs0.below h).more h.size)
 have hlb:=locV_bd ps (p1,p2)
 have HC:Hid (convexA ps (p1,p2)=bif validV ps then locV ps (p1,p2)+1 else 3):=hide rfl
 generalize locV ps (p1,p2)=l at *
 have HB0:=hide hb0;have HBB:=hide B0
 clear hps hp hs hs0 hb0 B0
 cases hv:validV ps
 · rw [hv] at HV HC
   go_enter Tryz.func39,Tryz.ntmps39
   go_wp2_with fail
   rw [← hw0]
   clear hw0
   refine HV.out.mono ?_
   rintro e w1 ⟨rfl,hb1⟩
   go_wp2
   go_ret
   exact ⟨by rw [HC.out];rfl,bl_step HB0.out hb1⟩
 · rw [hv] at HV HC
   go_enter Tryz.func39,Tryz.ntmps39
   go_wp2_with fail
   rw [← hw0]
   clear hw0
   refine HV.out.mono ?_
   rintro e w1 ⟨rfl,hb1⟩
   have c0:w1.cell? ⟨w.heap.size,0,none⟩=some (.int .i64 p1):=(HBB.out.step hb1).cell (i:=0) rfl
   have c1:w1.cell? ⟨w.heap.size,1,none⟩=some (.int .i64 p2):=(HBB.out.step hb1).cell (i:=1) rfl
   have hb1':=hide hb1
   clear hb1
   go_wp2_with fail
   refine (HL.out _ hb1'.out).mono ?_
   rintro e w2 ⟨rfl,hb2⟩
   go_wp2
   go_ret
   exact ⟨by rw [HC.out];rfl,bl_step HB0.out (bl_step hb1'.out hb2)⟩
theorem rfence_any (gs:List Gr) (p:Pt) (hp:PJ p) (GA:Option Addr) (gc:Nat) (w:World) (hs:Sl w w.heap.size GA (rgCells (gs.map (·.1)))) (hgs:GsR w gs) :
 Calls Tryz.prog 140 #[.slice GA gs.length gc,ptV p] w fun e w'=>e=.returned (.int .i64 (fenceA gs p))∧Below w.heap.size w w':=by
 obtain ⟨p1,p2⟩:=p
 unfold ptV
 obtain ⟨w0,hw0⟩:∃ w0,w0=w.alloc (.cells #[.int .i64 p1,.int .i64 p2] 69):=⟨_,rfl⟩
 have hb0:Below w.heap.size w w0:=by rw [hw0];exact bA
 have B0:Blk w0 w.heap.size 69 #[.int .i64 p1,.int .i64 p2]:=by rw [hw0];exact Blk.new _ _ _
 have hs0:=(hs.below hb0).more hb0.size
 have hgs0:=hgs.step hb0
 have HV:=hide (rfvalid_any gs GA gc w0 hs0 hgs0)
 have HL:Hid (∀ wk,Below w0.heap.size w0 wk→Calls Tryz.prog 134 #[.slice GA gs.length gc,.agg #[.int .i64 p1,.int .i64 p2]] wk fun e w'=>e=.returned (.bool (memOk gs (p1,p2)))∧Below wk.heap.size wk w'):=hide fun wk h=>rmember_any gs (p1,p2) hp GA gc wk ((hs0.below h).more h.size) (hgs0.step h)
 have HC:Hid (fenceA gs (p1,p2)=bif fenceOk gs then (bif memOk gs (p1,p2) then 1 else 0) else 2):=hide rfl
 have HB0:=hide hb0;have HBB:=hide B0
 clear hp hs hs0 hgs hgs0 hb0 B0
 generalize memOk gs (p1,p2)=l at *
 cases hv:fenceOk gs
 · rw [hv] at HV HC
   go_enter Tryz.func140,Tryz.ntmps140
   go_wp2_with fail
   rw [← hw0]
   clear hw0
   refine HV.out.mono ?_
   rintro e w1 ⟨rfl,hb1⟩
   go_wp2
   go_ret
   exact ⟨by rw [HC.out];rfl,bl_step HB0.out hb1⟩
 · rw [hv] at HV HC
   cases l
   all_goals
    go_enter Tryz.func140,Tryz.ntmps140
    go_wp2_with fail
    rw [← hw0]
    clear hw0
    refine HV.out.mono ?_
    rintro e w1 ⟨rfl,hb1⟩
    have c0:w1.cell? ⟨w.heap.size,0,none⟩=some (.int .i64 p1):=(HBB.out.step hb1).cell (i:=0) rfl
    have c1:w1.cell? ⟨w.heap.size,1,none⟩=some (.int .i64 p2):=(HBB.out.step hb1).cell (i:=1) rfl
    have hb1':=hide hb1
    clear hb1
    go_wp2_with fail
    refine (HL.out _ hb1'.out).mono ?_
    rintro e w2 ⟨rfl,hb2⟩
    go_wp2
    go_ret
    exact ⟨by rw [HC.out];rfl,bl_step HB0.out (bl_step hb1'.out hb2)⟩
end
section
open Go.RowKit
theorem sl_takePt {w:World} {B:Nat} {A:Option Addr} {ps:List Pt} (h:Sl w B A (ptCs ps)) (n:Nat):Sl w B A (ptCs (ps.take n)):=by
 rcases h with h | ⟨b,off,hA,hB,hc⟩
 · refine .inl ?_
   have:ps=[]:=by
    cases ps with
    | nil=>rfl
    | cons x l=>simp [ptCs] at h
   rw [this];simp [ptCs]
 · exact .inr ⟨b,off,hA,hB,fun j u hu=>hc j u (ptCs_take ps n j u hu)⟩
section
variable (vs pts:Int) (HA:Option Addr) (hn hc:Nat) (GA:Option Addr) (gn gc:Nat) (ps:List Pt) (PA:Option Addr) (pc:Nat) (QA:Option Addr) (qn qc:Nat) (w:World) (hps:PsJ ps)
include hps
theorem rvalue1 (hs:Sl w w.heap.size PA (ptCs ps)) (hln:ps.length=3) :
 Calls Tryz.prog 99 #[.agg #[.int .i64 1,.int .i64 vs,.slice HA hn hc,.int .i64 pts,.slice GA gn gc,.slice PA 3 pc,.slice QA qn qc]] w fun e w'=>e=.returned (.int .i64 ((orientD (ptAt ps 0) (ptAt ps 1) (ptAt ps 2)).sign+1))∧Below w.heap.size w w':=by
 obtain ⟨w0,hw0⟩:∃ w0,w0=w.alloc (.cells #[.int .i64 1,.int .i64 vs,.slice HA hn hc,.int .i64 pts,.slice GA gn gc,.slice PA 3 pc,.slice QA qn qc] 41):=⟨_,rfl⟩
 have hb0:Below w.heap.size w w0:=by rw [hw0];exact bA
 have B0:Blk w0 w.heap.size 41 #[.int .i64 1,.int .i64 vs,.slice HA hn hc,.int .i64 pts,.slice GA gn gc,.slice PA 3 pc,.slice QA qn qc]:=by rw [hw0];exact Blk.new _ _ _
 have hs0:=(hs.below hb0).more hb0.size
 obtain ⟨b,off,rfl,hb⟩:=sl_pts hs0 (by omega)
 obtain ⟨a0,a1⟩:=sl_pt hs0 (k:=0) (by omega)
 obtain ⟨b0,b1⟩:=sl_pt hs0 (k:=1) (by omega)
 obtain ⟨c0,c1⟩:=sl_pt hs0 (k:=2) (by omega)
 have HO:Hid (∀ wk,Calls Tryz.prog 138 #[.agg #[.int .i64 (ptAt ps 0).1,.int .i64 (ptAt ps 0).2],.agg #[.int .i64 (ptAt ps 1).1,.int .i64 (ptAt ps 1).2],.agg #[.int .i64 (ptAt ps 2).1,.int .i64 (ptAt ps 2).2]] wk fun e w'=>e=.returned (.int .i64 (orientD (ptAt ps 0) (ptAt ps 1) (ptAt ps 2)).sign)∧Below wk.heap.size wk w'):=hide fun wk=>rsign_any _ _ _ (hps.at_ 0) (hps.at_ 1) (hps.at_ 2) wk
 have hbs:=sign_bd (orientD (ptAt ps 0) (ptAt ps 1) (ptAt ps 2))
 generalize (orientD (ptAt ps 0) (ptAt ps 1) (ptAt ps 2)).sign=os at *
 generalize ptAt ps 0=pa at *
 generalize ptAt ps 1=pb at *
 generalize ptAt ps 2=pc at *
 obtain ⟨x0,y0⟩:=pa
 obtain ⟨x1,y1⟩:=pb
 obtain ⟨x2,y2⟩:=pc
 dsimp only at *
 simp only [Nat.zero_mul,Nat.add_zero,Nat.one_mul,Nat.reduceMul] at a0 a1 b0 b1 c0 c1
 have hsum:IntKind.i64.wrap (os+1)=os+1:=by rw [IntKind.wrap_i64];omega
 have hbd:=bl_drew (Below.refl w0.heap.size w0)
 have z0:w0.cell? ⟨w.heap.size,0,none⟩=some (.int .i64 1):=B0.cell (i:=0) rfl
 have z5:=B0.cell (i:=5) rfl
 have HB0:=hide hb0
 clear hps hs hs0 hln hbs B0 hb0
 go_enter Tryz.func99,Tryz.ntmps99
 go_wp2
 rw [← hw0]
 have HW0:=hide hw0
 clear hw0
 go_region_held3 (fun w'=>Below w0.heap.size w0 w'∧w'.cell? ⟨b,off,none⟩=some (.int .i64 x0)∧w'.cell? ⟨b,off+1,none⟩=some (.int .i64 y0)∧w'.cell? ⟨b,off+2,none⟩=some (.int .i64 x1)∧w'.cell? ⟨b,off+2+1,none⟩=some (.int .i64 y1)∧w'.cell? ⟨b,off+4,none⟩=some (.int .i64 x2)∧w'.cell? ⟨b,off+4+1,none⟩=some (.int .i64 y2))
  (first | exact ⟨hbd,a0,a1,b0,b1,c0,c1⟩ | exact ⟨bl_step hbd (by assumption),(hb1.cell (p:=⟨b,_,none⟩) hb).trans a0,(hb1.cell (p:=⟨b,_,none⟩) hb).trans a1,(hb1.cell (p:=⟨b,_,none⟩) hb).trans b0,(hb1.cell (p:=⟨b,_,none⟩) hb).trans b1,(hb1.cell (p:=⟨b,_,none⟩) hb).trans c0,(hb1.cell (p:=⟨b,_,none⟩) hb).trans c1⟩)
  (first
    | (go_at_call 138;((with_reducible refine (HO.out _).mono ?_);rintro e w' ⟨rfl,hb1⟩)))
 all_goals
  go_wp2
  go_ret
  exact ⟨rfl,bl_step HB0.out (bl_step hbd hb1)⟩
include hps
theorem rvalue2 (hs:Sl w w.heap.size PA (ptCs ps)) (hln:ps.length=4) :
 Calls Tryz.prog 99 #[.agg #[.int .i64 2,.int .i64 vs,.slice HA hn hc,.int .i64 pts,.slice GA gn gc,.slice PA 4 pc,.slice QA qn qc]] w fun e w'=>e=.returned (.int .i64 ((circleD (ptAt ps 0) (ptAt ps 1) (ptAt ps 2) (ptAt ps 3)).sign+1))∧Below w.heap.size w w':=by
 obtain ⟨w0,hw0⟩:∃ w0,w0=w.alloc (.cells #[.int .i64 2,.int .i64 vs,.slice HA hn hc,.int .i64 pts,.slice GA gn gc,.slice PA 4 pc,.slice QA qn qc] 41):=⟨_,rfl⟩
 have hb0:Below w.heap.size w w0:=by rw [hw0];exact bA
 have B0:Blk w0 w.heap.size 41 #[.int .i64 2,.int .i64 vs,.slice HA hn hc,.int .i64 pts,.slice GA gn gc,.slice PA 4 pc,.slice QA qn qc]:=by rw [hw0];exact Blk.new _ _ _
 have hs0:=(hs.below hb0).more hb0.size
 obtain ⟨b,off,rfl,hb⟩:=sl_pts hs0 (by omega)
 obtain ⟨a0,a1⟩:=sl_pt hs0 (k:=0) (by omega)
 obtain ⟨b0,b1⟩:=sl_pt hs0 (k:=1) (by omega)
 obtain ⟨c0,c1⟩:=sl_pt hs0 (k:=2) (by omega)
 obtain ⟨d0,d1⟩:=sl_pt hs0 (k:=3) (by omega)
 have HO:Hid (∀ wk,Calls Tryz.prog 139 #[.agg #[.int .i64 (ptAt ps 0).1,.int .i64 (ptAt ps 0).2],.agg #[.int .i64 (ptAt ps 1).1,.int .i64 (ptAt ps 1).2],.agg #[.int .i64 (ptAt ps 2).1,.int .i64 (ptAt ps 2).2],.agg #[.int .i64 (ptAt ps 3).1,.int .i64 (ptAt ps 3).2]] wk (GaveR (fun _=>True) (circleD (ptAt ps 0) (ptAt ps 1) (ptAt ps 2) (ptAt ps 3)) wk)):=hide fun wk=>rcval_raw _ _ _ _ _ _ _ _ _ _ (hps.at_ 0) (hps.at_ 1) (hps.at_ 2) (hps.at_ 3) (rcircle _ _ _ _) wk (fun _ _=>trivial)
 generalize circleD (ptAt ps 0) (ptAt ps 1) (ptAt ps 2) (ptAt ps 3)=cd at *
 have hbs:=sign_bd cd
 generalize ptAt ps 0=pa at *
 generalize ptAt ps 1=pb at *
 generalize ptAt ps 2=pc at *
 generalize ptAt ps 3=pd at *
 obtain ⟨x0,y0⟩:=pa
 obtain ⟨x1,y1⟩:=pb
 obtain ⟨x2,y2⟩:=pc
 obtain ⟨x3,y3⟩:=pd
 dsimp only at *
 simp only [Nat.zero_mul,Nat.add_zero,Nat.one_mul,Nat.reduceMul] at a0 a1 b0 b1 c0 c1 d0 d1
 have hsum:IntKind.i64.wrap (cd.sign+1)=cd.sign+1:=by rw [IntKind.wrap_i64];omega
 have hbd:=bl_drew (Below.refl w0.heap.size w0)
 have z0:w0.cell? ⟨w.heap.size,0,none⟩=some (.int .i64 2):=B0.cell (i:=0) rfl
 have z5:=B0.cell (i:=5) rfl
 have HB0:=hide hb0
 clear hps hs hs0 hln hbs B0 hb0
 go_enter Tryz.func99,Tryz.ntmps99
 go_wp2
 rw [← hw0]
 have HW0:=hide hw0
 clear hw0
 go_region_held3 (fun w'=>Below w0.heap.size w0 w'∧w'.cell? ⟨b,off,none⟩=some (.int .i64 x0)∧w'.cell? ⟨b,off+1,none⟩=some (.int .i64 y0)∧w'.cell? ⟨b,off+2,none⟩=some (.int .i64 x1)∧w'.cell? ⟨b,off+2+1,none⟩=some (.int .i64 y1)∧w'.cell? ⟨b,off+4,none⟩=some (.int .i64 x2)∧w'.cell? ⟨b,off+4+1,none⟩=some (.int .i64 y2)∧w'.cell? ⟨b,off+6,none⟩=some (.int .i64 x3)∧w'.cell? ⟨b,off+6+1,none⟩=some (.int .i64 y3))
  (first | exact ⟨hbd,a0,a1,b0,b1,c0,c1,d0,d1⟩ | exact ⟨bl_step hbd (by assumption),(hb1.cell (p:=⟨b,_,none⟩) hb).trans a0,(hb1.cell (p:=⟨b,_,none⟩) hb).trans a1,(hb1.cell (p:=⟨b,_,none⟩) hb).trans b0,(hb1.cell (p:=⟨b,_,none⟩) hb).trans b1,(hb1.cell (p:=⟨b,_,none⟩) hb).trans c0,(hb1.cell (p:=⟨b,_,none⟩) hb).trans c1,(hb1.cell (p:=⟨b,_,none⟩) hb).trans d0,(hb1.cell (p:=⟨b,_,none⟩) hb).trans d1⟩)
  (first
    | (go_at_call 139;((with_reducible refine (HO.out _).mono ?_);rintro e w' ⟨A4,c4,rfl,hN4,hb1⟩;unfold numV;have hf:=fun wk=>run_sign cd.sign (.slice A4 (digs cd.natAbs).length c4) wk)))
 all_goals
  go_wp2
  go_ret
  exact ⟨rfl,bl_step HB0.out (bl_step hbd hb1)⟩
include hps
theorem rvalue3 (hs:Sl w w.heap.size PA (ptCs ps)) (n:Nat) (hln:ps.length=n+1) (hn64:n≤64) (hcap:n+1≤pc) :
 Calls Tryz.prog 99 #[.agg #[.int .i64 3,.int .i64 vs,.slice HA hn hc,.int .i64 pts,.slice GA gn gc,.slice PA (n+1) pc,.slice QA qn qc]] w fun e w'=>e=.returned (.int .i64 (convexA (ps.take n) (ptAt ps n)))∧Below w.heap.size w w':=by
 obtain ⟨w0,hw0⟩:∃ w0,w0=w.alloc (.cells #[.int .i64 3,.int .i64 vs,.slice HA hn hc,.int .i64 pts,.slice GA gn gc,.slice PA (n+1) pc,.slice QA qn qc] 41):=⟨_,rfl⟩
 have hb0:Below w.heap.size w w0:=by rw [hw0];exact bA
 have B0:Blk w0 w.heap.size 41 #[.int .i64 3,.int .i64 vs,.slice HA hn hc,.int .i64 pts,.slice GA gn gc,.slice PA (n+1) pc,.slice QA qn qc]:=by rw [hw0];exact Blk.new _ _ _
 have hs0:=(hs.below hb0).more hb0.size
 have hlt:(ps.take n).length=n:=by rw [List.length_take];omega
 obtain ⟨b,off,rfl,hb⟩:=sl_pts hs0 (by omega)
 obtain ⟨a0,a1⟩:=sl_pt hs0 (k:=n) (by omega)
 have HO:Hid (∀ wk,Below w0.heap.size w0 wk→Calls Tryz.prog 39 #[.slice (some ⟨b,off,none⟩) n pc,.agg #[.int .i64 (ptAt ps n).1,.int .i64 (ptAt ps n).2]] wk fun e w'=>e=.returned (.int .i64 (convexA (ps.take n) (ptAt ps n)))∧Below wk.heap.size wk w'):=hide fun wk hk=>by
  have h:=rconvex_any (ps.take n) (fun p hp=>hps p (List.mem_of_mem_take hp)) (ptAt ps n) (hps.at_ n) (some ⟨b,off,none⟩) pc wk ((sl_takePt hs0 n).below hk |>.more hk.size)
  rw [hlt] at h
  exact h
 have hwr:IntKind.i64.wrap ((n:Nat):Int)=(n:Int):=by rw [IntKind.wrap_i64];omega
 have hni:((n:Nat):Int)<((n:Int)+1):=by omega
 have hci:((n:Nat):Int)≤((pc:Nat):Int):=by omega
 have hcn:n≤pc:=by omega
 generalize convexA (ps.take n) (ptAt ps n)=os at *
 generalize ptAt ps n=pa at *
 obtain ⟨x0,y0⟩:=pa
 dsimp only at *
 have hbd:=bl_drew (Below.refl w0.heap.size w0)
 have z0:w0.cell? ⟨w.heap.size,0,none⟩=some (.int .i64 3):=B0.cell (i:=0) rfl
 have z5:=B0.cell (i:=5) rfl
 have HB0:=hide hb0
 clear hps hs hs0 hln hlt B0 hb0
 go_enter Tryz.func99,Tryz.ntmps99
 go_wp2
 rw [← hw0]
 have HW0:=hide hw0
 clear hw0
 go_region_held3 (fun w'=>Below w0.heap.size w0 w'∧w'.cell? ⟨b,off+n*2,none⟩=some (.int .i64 x0)∧w'.cell? ⟨b,off+n*2+1,none⟩=some (.int .i64 y0))
  (first | exact ⟨hbd,a0,a1⟩ | exact ⟨bl_step hbd (by assumption),(hb1.cell (p:=⟨b,_,none⟩) hb).trans a0,(hb1.cell (p:=⟨b,_,none⟩) hb).trans a1⟩)
  (first
    | (go_at_call 39;((with_reducible refine (HO.out _ hbd).mono ?_);rintro e w' ⟨rfl,hb1⟩)))
 all_goals
  go_wp2
  go_ret
  exact ⟨rfl,bl_step HB0.out (bl_step hbd hb1)⟩
include hps
theorem rvalue4 (hs:Sl w w.heap.size PA (ptCs ps)) (hln:ps.length=1) (gs:List Gr) (hgl:gs.length=gn) (hg:Sl w w.heap.size GA (rgCells (gs.map (·.1)))) (hgs:GsR w gs) :
 Calls Tryz.prog 99 #[.agg #[.int .i64 4,.int .i64 vs,.slice HA hn hc,.int .i64 pts,.slice GA gn gc,.slice PA 1 pc,.slice QA qn qc]] w fun e w'=>e=.returned (.int .i64 (fenceA gs (ptAt ps 0)))∧Below w.heap.size w w':=by
 obtain ⟨w0,hw0⟩:∃ w0,w0=w.alloc (.cells #[.int .i64 4,.int .i64 vs,.slice HA hn hc,.int .i64 pts,.slice GA gn gc,.slice PA 1 pc,.slice QA qn qc] 41):=⟨_,rfl⟩
 have hb0:Below w.heap.size w w0:=by rw [hw0];exact bA
 have B0:Blk w0 w.heap.size 41 #[.int .i64 4,.int .i64 vs,.slice HA hn hc,.int .i64 pts,.slice GA gn gc,.slice PA 1 pc,.slice QA qn qc]:=by rw [hw0];exact Blk.new _ _ _
 have hs0:=(hs.below hb0).more hb0.size
 have hg0:=(hg.below hb0).more hb0.size
 have hgs0:=hgs.step hb0
 obtain ⟨b,off,rfl,hb⟩:=sl_pts hs0 (by omega)
 obtain ⟨a0,a1⟩:=sl_pt hs0 (k:=0) (by omega)
 have HO:Hid (∀ wk,Below w0.heap.size w0 wk→Calls Tryz.prog 140 #[.slice GA gn gc,.agg #[.int .i64 (ptAt ps 0).1,.int .i64 (ptAt ps 0).2]] wk fun e w'=>e=.returned (.int .i64 (fenceA gs (ptAt ps 0)))∧Below wk.heap.size wk w'):=hide fun wk hk=>by
  have h:=rfence_any gs (ptAt ps 0) (hps.at_ 0) GA gc wk ((hg0.below hk).more hk.size) (hgs0.step hk)
  rw [hgl] at h
  exact h
 generalize fenceA gs (ptAt ps 0)=os at *
 generalize ptAt ps 0=pa at *
 obtain ⟨x0,y0⟩:=pa
 dsimp only at *
 simp only [Nat.zero_mul,Nat.add_zero] at a0 a1
 have hbd:=bl_drew (Below.refl w0.heap.size w0)
 have z0:w0.cell? ⟨w.heap.size,0,none⟩=some (.int .i64 4):=B0.cell (i:=0) rfl
 have z4:w0.cell? ⟨w.heap.size,4,none⟩=some (.slice GA gn gc):=B0.cell (i:=4) rfl
 have z5:=B0.cell (i:=5) rfl
 have hgw:=B0.lt
 have HB0:=hide hb0
 clear hps hs hs0 hln B0 hb0 hg hgs hg0 hgs0 hgl
 go_enter Tryz.func99,Tryz.ntmps99
 go_wp2
 rw [← hw0]
 have HW0:=hide hw0
 clear hw0
 go_region_held3 (fun w'=>Below w0.heap.size w0 w'∧w'.cell? ⟨w.heap.size,4,none⟩=some (.slice GA gn gc)∧w'.cell? ⟨b,off,none⟩=some (.int .i64 x0)∧w'.cell? ⟨b,off+1,none⟩=some (.int .i64 y0))
  (first | exact ⟨hbd,z4,a0,a1⟩ | exact ⟨bl_step hbd (by assumption),(hb1.cell (p:=⟨_,_,none⟩) hgw).trans z4,(hb1.cell (p:=⟨b,_,none⟩) hb).trans a0,(hb1.cell (p:=⟨b,_,none⟩) hb).trans a1⟩)
  (first
    | (go_at_call 140;((with_reducible refine (HO.out _ hbd).mono ?_);rintro e w' ⟨rfl,hb1⟩)))
 all_goals
  go_wp2
  go_ret
  exact ⟨rfl,bl_step HB0.out (bl_step hbd hb1)⟩
end
theorem results_ans19 {fn:Func} {tmps:Array Value} {w:World} {g:Nat} {v0 v1 v2:Value} (h:fn.results=#[.cell 2 38,.tmp 3])
 (hp:tmps.getD 2 undef=.pointer (some ⟨g,0,none⟩)) (hb:Blk w g 38 #[v0,v1,v2]) :
 (results fn tmps).run Tryz.prog w=.ok (.tuple #[.agg #[v0,v1,v2],tmps.getD 3 undef]) w:=by
 have c0:=hb.cell (i:=0) rfl
 have c1:=hb.cell (i:=1) rfl
 have c2:=hb.cell (i:=2) rfl
 have hp':tmps[2]?.getD undef=.pointer (some ⟨g,0,none⟩):=by rw [← hp];simp
 simp [results,h,hp',go_sem,c0,c1,c2]
section
variable (op vs pts:Int) (hrs:List Rg) (HA:Option Addr) (hc:Nat) (gs:List Gr) (GA:Option Addr) (gc:Nat) (ps:List Pt) (PA:Option Addr) (pc:Nat) (qs:List ((Int × Int) × Int)) (QA:Option Addr) (qc:Nat) (w:World)
variable (hh:Sl w w.heap.size HA (rgCells hrs)) (hgc:Sl w w.heap.size GA (rgCells (gs.map (·.1)))) (hgs:GsR w gs) (hps:PsJ ps) (hpc:Sl w w.heap.size PA (ptCs ps)) (hqs:Sl w w.heap.size QA (quCs qs)) (hqu:∀ q∈qs,U64 q.2) (hcap:ps.length≤pc)
include hgc hgs hps hpc hcap
theorem rvalue_any (hchk:hcheck op vs hrs pts=0) (hlen:(ps.length:Int)=cntP op vs) (h5:op≠5) :
 Calls Tryz.prog 99 #[.agg #[.int .i64 op,.int .i64 vs,.slice HA hrs.length hc,.int .i64 pts,.slice GA gs.length gc,.slice PA ps.length pc,.slice QA qs.length qc]] w fun e w'=>e=.returned (.int .i64 (ansOp op gs ps))∧Below w.heap.size w w':=by
 have hz:=hcheck_zero hchk
 have hop:op=1∨op=2∨op=3∨op=4:=by have:=hz.1;have:=hz.2.1;omega
 rcases hop with rfl | rfl | rfl | rfl
 · have h3:ps.length=3:=by have:cntP 1 vs=3:=rfl;omega
   have h:=rvalue1 vs pts HA hrs.length hc GA gs.length gc ps PA pc QA qs.length qc w hps hpc h3
   rw [← h3] at h
   exact h
 · have h3:ps.length=4:=by have:cntP 2 vs=4:=rfl;omega
   have h:=rvalue2 vs pts HA hrs.length hc GA gs.length gc ps PA pc QA qs.length qc w hps hpc h3
   rw [← h3] at h
   exact h
 · have h3:3≤vs∧vs≤64:=hz.2.2.1 rfl
   have h4:(ps.length:Int)=vs+1:=hlen
   have h6:ps.length=(ps.length - 1)+1:=by omega
   have h:=rvalue3 vs pts HA hrs.length hc GA gs.length gc ps PA pc QA qs.length qc w hps hpc (ps.length - 1) h6 (by omega) (by omega)
   rw [← h6] at h
   exact h
 · have h3:ps.length=1:=by have:cntP 4 vs=1:=rfl;omega
   have h:=rvalue4 vs pts HA hrs.length hc GA gs.length gc ps PA pc QA qs.length qc w hps hpc h3 gs rfl hgc hgs
   rw [← h3] at h
   exact h
include hh hqs hqu
theorem ranswer_any:Calls Tryz.prog 54 #[.agg #[.int .i64 op,.int .i64 vs,.slice HA hrs.length hc,.int .i64 pts,.slice GA gs.length gc,.slice PA ps.length pc,.slice QA qs.length qc]] w fun e w'=>e=.returned (.tuple #[.agg #[.int .i64 (ansV op vs hrs pts gs ps qs).1,.int .i64 0,.slice none 0 0],.int .i64 (ansV op vs hrs pts gs ps qs).2])∧Below w.heap.size w w':=by
 obtain ⟨w0,hw0⟩:∃ w0,w0=(w.alloc (.cells #[.int .i64 op,.int .i64 vs,.slice HA hrs.length hc,.int .i64 pts,.slice GA gs.length gc,.slice PA ps.length pc,.slice QA qs.length qc] 41)).alloc (.cells #[.int .i64 0,.int .i64 0,.slice none 0 0] 38):=⟨_,rfl⟩
 have hb0:Below w.heap.size w w0:=by rw [hw0];exact bl_alloc (bA) _
 have B0:Blk w0 w.heap.size 41 #[.int .i64 op,.int .i64 vs,.slice HA hrs.length hc,.int .i64 pts,.slice GA gs.length gc,.slice PA ps.length pc,.slice QA qs.length qc]:=by rw [hw0];exact (Blk.new _ _ _).alloc _
 have C0:Blk w0 (w.heap.size+1) 38 #[.int .i64 0,.int .i64 0,.slice none 0 0]:=by rw [hw0];exact Blk.new2 _ _ _ _
 have mv:∀ {A:Option Addr} {xs:List Value} {wk:World},Sl w w.heap.size A xs→Below w.heap.size w wk→Sl wk wk.heap.size A xs:=fun h hb=>(h.below hb).more hb.size
 have HEN0:=rencode_any op vs pts hrs HA hc gs GA gc ps PA pc qs QA qc w0 (mv hh hb0) (mv hgc hb0) (fun g hg=>⟨(hgs g hg).1,mv (hgs g hg).2.1 hb0⟩) (mv hpc hb0) (mv hqs hb0) hqu
 have HAN:Hid (ansV op vs hrs pts gs ps qs=if (hencode op vs hrs pts gs ps qs).2≠0 then (0,(hencode op vs hrs pts gs ps qs).2) else if op=5 then (0,2) else (ansOp op gs ps,0)):=hide rfl
 have HV0:(hencode op vs hrs pts gs ps qs).2=0→op≠5→∀ wk,Below w.heap.size w wk→Calls Tryz.prog 99 #[.agg #[.int .i64 op,.int .i64 vs,.slice HA hrs.length hc,.int .i64 pts,.slice GA gs.length gc,.slice PA ps.length pc,.slice QA qs.length qc]] wk fun e w'=>e=.returned (.int .i64 (ansOp op gs ps))∧Below wk.heap.size wk w':=fun he h5 wk hk=>by
  obtain ⟨e1,e2,e3,_⟩:=hencode_ok he
  exact rvalue_any op vs pts hrs HA hc gs GA gc ps PA pc qs QA qc wk (mv hgc hk) (fun g hg=>⟨(hgs g hg).1,mv (hgs g hg).2.1 hk,(hgs g hg).2.2⟩) hps (mv hpc hk) hcap e1 e3 h5
 obtain ⟨⟨bs,err⟩,hE⟩:∃ E,E=hencode op vs hrs pts gs ps qs:=⟨_,rfl⟩
 rw [← hE] at HEN0 HAN HV0
 have HEN:=hide HEN0;have HV:=hide HV0
 have HB0:=hide hb0;have HBQ:=hide B0;have HC0:=hide C0
 have q0:=B0.cell (i:=0) rfl
 have q1:=B0.cell (i:=1) rfl
 have q2:=B0.cell (i:=2) rfl
 have q3:=B0.cell (i:=3) rfl
 have q4:=B0.cell (i:=4) rfl
 have q5:=B0.cell (i:=5) rfl
 have q6:=B0.cell (i:=6) rfl
 clear hE HEN0 HV0 mv hh hgc hgs hps hpc hqs hqu hcap hb0 B0 C0
 generalize ansOp op gs ps=av at *
 generalize hrs.length=hn at *
 generalize gs.length=gn at *
 generalize ps.length=pn at *
 generalize qs.length=qn at *
 go_enter Tryz.func54,Tryz.ntmps54
 go_wp2_with fail
 rw [← hw0]
 have HW0:=hide hw0
 clear hw0
 go_wp2_with fail
 refine HEN.out.mono ?_
 rintro e w1 ⟨v1,rfl,hown,hb1⟩
 have B1:=HBQ.out.step hb1
 have C1:=HC0.out.step hb1
 have hbw:=bl_step HB0.out hb1
 clear hown q0 q1 q2 q3 q4 q5 q6
 have q0:w1.cell? ⟨w.heap.size,0,none⟩=some (.int .i64 op):=B1.cell (i:=0) rfl
 have q1:=B1.cell (i:=1) rfl
 have q2:=B1.cell (i:=2) rfl
 have q3:=B1.cell (i:=3) rfl
 have q4:=B1.cell (i:=4) rfl
 have q5:=B1.cell (i:=5) rfl
 have q6:=B1.cell (i:=6) rfl
 have z0:=C1.cell (i:=0) rfl
 have z1:=C1.cell (i:=1) rfl
 have z2:=C1.cell (i:=2) rfl
 have y0:=C1.frozen 0
 have y1:=C1.frozen 1
 have y2:=C1.frozen 2
 have HC1:=hide C1;have HBW:=hide hbw
 clear B1 C1 hb1 hbw
 by_cases he:err=0
 · subst he
   by_cases h5:op=5
   · subst h5
     have HA:Hid (ansV 5 vs hrs pts gs ps qs=(0,2)):=hide (by rw [HAN.out];simp)
     clear HAN HV
     go_wp2
     refine bodyPost_ret (results_ans19 rfl rfl (((HC1.out.set 0 _).set 1 _).set 2 _)) rfl ?_
     exact ⟨by rw [HA.out];rfl,((HBW.out.setCell (by dsimp only;omega) _).setCell (by dsimp only;omega) _).setCell (by dsimp only;omega) _⟩
   · have HA:Hid (ansV op vs hrs pts gs ps qs=(av,0)):=hide (by rw [HAN.out];simp [h5])
     have HV1:=hide (HV.out rfl h5)
     clear HV HAN
     go_wp2_with fail
     refine (HV1.out _ HBW.out).mono ?_
     rintro e w2 ⟨rfl,hb2⟩
     have C2:=HC1.out.step hb2
     have hbw2:=bl_step HBW.out hb2
     clear q0 q1 q2 q3 q4 q5 q6 z0 z1 z2 y0 y1 y2
     have z0:=C2.cell (i:=0) rfl
     have z1:=C2.cell (i:=1) rfl
     have z2:=C2.cell (i:=2) rfl
     have y0:=C2.frozen 0
     have y1:=C2.frozen 1
     have y2:=C2.frozen 2
     go_wp2
     refine bodyPost_ret (results_ans19 rfl rfl (((C2.set 0 _).set 1 _).set 2 _)) rfl ?_
     exact ⟨by rw [HA.out];rfl,((hbw2.setCell (by dsimp only;omega) _).setCell (by dsimp only;omega) _).setCell (by dsimp only;omega) _⟩
 · have HA:Hid (ansV op vs hrs pts gs ps qs=(0,err)):=hide (by rw [HAN.out];simp [he])
   have heb:(err != 0)=true:=bne_iff_ne.2 he
   clear HV HAN
   go_wp2
   refine bodyPost_ret (results_ans19 rfl rfl (((HC1.out.set 0 _).set 1 _).set 2 _)) rfl ?_
   exact ⟨by rw [HA.out];rfl,((HBW.out.setCell (by dsimp only;omega) _).setCell (by dsimp only;omega) _).setCell (by dsimp only;omega) _⟩
end
end
end Go.Proofs.YtpnoofphfomjoaaGreatDoor
