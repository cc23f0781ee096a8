/- Network Sort Req21 TopMath TopKit -/
import Derived.LoopIn
import Derived.LoopNIn
import Derived.OwnWalkIn
import Derived.RangeFuncBound
import Derived.RangeFuncCalls
import Derived.RangeFuncLeaves
import Derived.RangeFuncNested
import Derived.Shelf.Abstract
import Derived.Shelf.RegionOpen
import Derived.Shelf.Small.Bits
import Derived.TacticsInMore
import Derived.Test.YtpnoofphfomjoaaGreatDoorPkM16
import Derived.Test.YtpnoofphfomjoaaGreatDoorPkM25
import Derived.Test.YtpnoofphfomjoaaGreatDoorPkM40
import Derived.Test.YtpnoofphfomjoaaGreatDoorPkC01
import Derived.Test.YtpnoofphfomjoaaGreatDoorPkC03
set_option maxRecDepth 1000000
set_option maxHeartbeats 8000000
namespace Go.Proofs.YtpnoofphfomjoaaGreatDoor
section
open Go.RowKit Go.Shelf
attribute [local go_sem] Oper.semAt_some
end
section
open Go.RowKit Go.Shelf
attribute [local go_sem] Oper.semAt_some
section
variable {F:Fence} {n:Nat} {P:Program} {ops:Array Oper} {Q:Exit→Act→World→Prop} {S:World→Prop}
end
end
section
open Go.RowKit Go.Shelf
section
variable {w:World} {hrs:List Rg} {HA:Option Addr} {gs:List Gr} {GA:Option Addr} {ps:List Pt} {PA:Option Addr} {pc:Nat} {qs:List ((Int × Int) × Int)} {QA:Option Addr}
end
theorem flat_by {α:Type} (f:α→List Int) (h:∀ a,By (f a)) (l:List α):By (l.flatMap f):=fun x hx=>by
 obtain ⟨a,_,ha⟩:=List.mem_flatMap.1 hx
 exact h a x ha
theorem pt16_by (p:Int × Int):By (pt16 p):=(word8_by _).append (word8_by _)
theorem q24_by (q:(Int × Int) × Int):By (q24 q):=(pt16_by _).append (word8_by _)
theorem hencode_bd {op vs pts:Int} {hrs:List Rg} {gs:List Gr} {ps:List (Int × Int)} {qs:List ((Int × Int) × Int)} {b:List Int} {er:Int} (h:hencode op vs hrs pts gs ps qs=(b,er)) (hn:∀ g∈gs,g.1.n=g.2.length) :
 (er≠0→b=[])∧(er=0→b.length≤200000∧By b):=by
 unfold hencode at h
 by_cases hc:hcheck op vs hrs pts=0
 · rw [if_neg (by simpa using hc)] at h
   by_cases ha:gs.length≠hrs.length∨(ps.length:Int)≠cntP op vs∨(qs.length:Int)≠cntQ op pts
   · rw [if_pos ha] at h
     simp only [Prod.mk.injEq] at h
     exact ⟨fun _=>h.1.symm,fun e=>by omega⟩
   · rw [if_neg ha] at h
     cases hs:(gs.zip hrs).any szBad with
     | true =>
       rw [hs,if_pos rfl] at h
       simp only [Prod.mk.injEq] at h
       exact ⟨fun _=>h.1.symm,fun e=>by omega⟩
     | false =>
       rw [hs,if_neg (by simp)] at h
       cases hk:(gs.zip hrs).any kdBad with
       | true =>
         rw [hk,if_pos rfl] at h
         simp only [Prod.mk.injEq] at h
         exact ⟨fun _=>h.1.symm,fun e=>by omega⟩
       | false =>
         rw [hk,if_neg (by simp)] at h
         simp only [Prod.mk.injEq] at h
         refine ⟨fun e=>absurd h.2.symm e,fun _=>?_⟩
         rw [← h.1]
         obtain ⟨_,_,hl64,hcP,hcQ⟩:=cnt_bd hc
         have hl1:gs.length=hrs.length:=by omega
         have hsm:=gs_small hs hl1
         have hgl:=gBytes_len gs (fun x hx=>by have h1:=hn x hx;have h2:=hsm x hx;omega)
         have hfl:=fbytes_le op vs hrs pts
         constructor
         · rw [List.length_append,List.length_append,List.length_append,flat_len pt16 16 pt16_length,flat_len q24 24 q24_length];omega
         · refine By.append (By.append (By.append ?_ ?_) (flat_by _ pt16_by _)) (flat_by _ q24_by _)
           · intro x hx
             obtain ⟨j,hj⟩:=List.getElem?_of_mem hx
             exact fbytes_byte hc j x hj
           · exact flat_by _ (fun g=>flat_by _ pt16_by _) _
 · rw [if_pos hc] at h
   simp only [Prod.mk.injEq] at h
   exact ⟨fun _=>h.1.symm,fun e=>absurd (h.2.trans e) hc⟩
theorem pj64 {p:Pt} (h:PJ p):P64 p:=by
 obtain ⟨⟨a,b⟩,c,d⟩:=h
 exact ⟨⟨a,by omega⟩,c,by omega⟩
theorem serve_enc {op vs pts:Int} {hrs:List Rg} {gs:List Gr} {ps:List Pt} {qs:List ((Int × Int) × Int)} {b:List Int} (h:hencode op vs hrs pts gs ps qs=(b,0)) (hn:∀ g∈gs,g.1.n=g.2.length) (hg:∀ g∈gs,PsJ g.2) (hp:PsJ ps) (hqj:∀ q∈qs,PJ q.1) (hqu:∀ q∈qs,U64 q.2) :
 ∃ a:Ans,hhandle op vs hrs pts gs ps qs=(a,0)∧isAns op pts a.val a.cnt a.recs=true∧hrespond op vs hrs pts a.val a.cnt a.recs=(hserve b,0)∧a.recs.length≤maxLen:=by
 have hd:=(hdecode_encode h hn (fun g hg' p hp'=>pj64 (hg g hg' p hp')) (fun p hp'=>pj64 (hp p hp')) (fun q hq=>⟨pj64 (hqj q hq),hqu q hq⟩)).1
 obtain ⟨k1,_,k3,k4⟩:=handle_ok (q:=⟨⟨op,vs,hrs.map rgBack,pts⟩,gs.map gdOf,ps,qs⟩) (by rw [h]) hn hqu rfl rfl rfl rfl
 refine ⟨_,k1,k3,?_,?_⟩
 · unfold hrespond hserve
   rw [if_neg (by simpa using k4),if_neg (by simp [k3]),hd,if_neg (by simp)]
 · obtain ⟨o1,o5,c3,c4,c5,c6,c7,c8,_⟩:=hcheck_zero k4
   have hp0:0≤pts∧pts≤4096:=by
    by_cases h5:op=5
    · have:=c7 h5;omega
    · have:=c8 h5;omega
   have hia:=isAns_true k3 hp0.1
   unfold maxLen
   omega
end
section
open Go.RowKit
theorem nil_bytes (op val:Int) (h:op≠5):ansBytes op val 0 []=[0,val]:=by
 unfold ansBytes
 rw [if_neg h]
 rfl
theorem served_of {op vs pts:Int} {hrs:List Rg} {gs:List Gr} {ps:List Pt} {qs:List ((Int × Int) × Int)} (h:(hencode op vs hrs pts gs ps qs).2=0) (hn:∀ g∈gs,g.1.n=g.2.length) (hg:∀ g∈gs,PsJ g.2) (hp:PsJ ps) (hqj:∀ q∈qs,PJ q.1) (hqu:∀ q∈qs,U64 q.2) :
 hserve (hencode op vs hrs pts gs ps qs).1=ansBytes op (hhandle op vs hrs pts gs ps qs).1.val (hhandle op vs hrs pts gs ps qs).1.cnt (hhandle op vs hrs pts gs ps qs).1.recs∧isAns op pts (hhandle op vs hrs pts gs ps qs).1.val (hhandle op vs hrs pts gs ps qs).1.cnt (hhandle op vs hrs pts gs ps qs).1.recs=true∧hcheck op vs hrs pts=0:=by
 obtain ⟨a,h1,h2,h3,_⟩:=serve_enc (b:=(hencode op vs hrs pts gs ps qs).1) (by rw [← h]) hn hg hp hqj hqu
 have hc:=(hencode_ok h).1
 unfold hrespond at h3
 rw [if_neg (by simpa using hc),if_neg (by simp [h2])] at h3
 rw [h1]
 exact ⟨(Prod.mk.inj h3).1.symm,h2,hc⟩
theorem enc_convex (ps:List Pt) (p:Pt) (h3:3≤ps.length) (h64:ps.length≤64) (hp:PsJ ps) (hj:PJ p):(hencode 3 ps.length [] 0 [] (ps++[p]) []).2=0∧hserve (hencode 3 ps.length [] 0 [] (ps++[p]) []).1=[0,convexA ps p]:=by
 have hc:hcheck 3 (ps.length:Int) [] 0=0:=hcheck_ok (by omega) (fun _=>by omega) (fun h=>absurd rfl h) (fun h=>by omega) (fun _=>rfl) (fun h=>by omega) (fun _=>rfl) rfl
 have he:(hencode 3 ps.length [] 0 [] (ps++[p]) []).2=0:=by
  unfold hencode
  rw [if_neg (by simpa using hc),if_neg (by simp [cntP,cntQ]),if_neg (by simp),if_neg (by simp)]
 refine ⟨he,?_⟩
 rw [(served_of he (by simp) (by simp) (fun q hq=>by rcases List.mem_append.1 hq with h | h;exact hp q h;rw [List.mem_singleton.1 h];exact hj) (by simp) (by simp)).1]
 have hh:hhandle 3 ps.length [] 0 [] (ps++[p]) []=(⟨ansOp 3 [] (ps++[p]),0,[]⟩,0):=by
  unfold hhandle
  rw [if_neg (by simpa using he),if_neg (by omega)]
 rw [hh]
 dsimp only
 rw [nil_bytes _ _ (by omega)]
 have e:ansOp 3 [] (ps++[p])=convexA ps p:=by
  unfold ansOp
  rw [if_neg (by omega),if_neg (by omega),if_pos rfl,List.length_append]
  have e1:ps.length+[p].length - 1=ps.length:=by simp
  rw [e1,List.take_left' rfl]
  have e2:ptAt (ps++[p]) ps.length=p:=by
   unfold ptAt
   rw [List.getD_eq_getElem?_getD,List.getElem?_append_right (Nat.le_refl _),Nat.sub_self]
   rfl
  rw [e2]
 rw [e]
section
variable {α:Type} [BEq α] [LawfulBEq α] (key:α→Nat)
end
end
section
open Go.RowKit Go.Shelf
theorem serves_any (w:World) (hfix:Fixed w) (hg:0<w.heap.size) (hw:MW w):Calls Tryz.prog 37 #[] w fun e w'=>e=.returned (.bool true)∧Below w.heap.size w w':=by
 have SV:∀ (w':World) (bs:List Int) (A:Option Addr) (c:Nat),Below w.heap.size w w'→Sl w' w'.heap.size A (byCells bs)→bs.length≤c→By bs→bs.length≤300000→∀ n out,hserve bs=out→out.length=n→Calls Tryz.prog 20 #[.slice A bs.length c] w' (Gives out n w'):=by
  intro w' bs A c hb hs hcap hby hmax n out ho hn
  subst ho hn
  refine (serve_any bs A c w' hs hcap hby hmax (hfix.below hb hg) (Nat.lt_of_lt_of_le hg hb.size) (hw.step hb)).mono ?_
  rintro e w2 ⟨A',c',he,_,hb2,hs2⟩
  exact ⟨A',c',he,hb2,hs2⟩
 have HSV:=hide SV
 clear SV hfix hg hw
 go_enter Tryz.func37,Tryz.ntmps37
 have hmk:∀ wx:World,(Instr.makeSlice 44 (.int .i64 49) (.int .i64 49)).run Tryz.prog wx=.ok (.slice (some ⟨wx.heap.size,0,none⟩) 49 49) (wx.alloc (.cells (byCells (List.replicate 49 0)).toArray 5)):=fun _=>by kernel_rfl
 go_wp2_with fail
 clear hmk
 obtain ⟨gb,hgb⟩:∃ gb,gb=w.heap.size:=⟨_,rfl⟩
 obtain ⟨w0,hw0⟩:∃ w0,w0=w.alloc (.cells (byCells ex49).toArray 5):=⟨_,rfl⟩
 have hb0:Below w.heap.size w w0:=by rw [hw0];exact bA
 have B0:Blk w0 gb 5 (byCells ex49).toArray:=by rw [hw0,hgb];exact Blk.new _ _ _
 have S1:=HSV.out w0 [] none 0 hb0 (Sl.nil _ _ _) (by decide) (fun x hx=>by cases hx) (by decide) 1 [4] sv_nil rfl
 rw [hw0] at S1
 refine S1.mono ?_
 rw [← hw0]
 clear S1
 rintro e w1 ⟨A1,c1,rfl,hb1,hs1⟩
 have HB1:=bl_step hb0 hb1
 have B1:=B0.step hb1
 clear hw0 hb0 hb1 B0 hs1
 rw [← hgb]
 have HGB:=hide hgb
 clear hgb
 go_wp2_with fail
 refine (HSV.out w1 ex49 (some ⟨gb,0,none⟩) 49 HB1 (slb B1) (by decide) by_49 (by decide) 2 [0,2] sv_49 rfl).mono ?_
 rintro e w2 ⟨A2,c2,rfl,hb2,hs2⟩
 have HB2:=bl_step HB1 hb2
 clear B1 hb2
 have HS2:=hide hs2
 clear hs2
 go_wp2_with fail
 have hb3:=bl_alloc (Below.refl w2.heap.size w2) (.cells #[.int .u8 0,.int .u8 2] 5)
 refine (equal_true [0,2] A2 (some ⟨w2.heap.size,0,none⟩) c2 2 _ ((HS2.out.below hb3).more hb3.size) (slb (Blk.new _ _ _))).mono ?_
 rintro e w3 ⟨rfl,rfl⟩
 have HB3:=bl_step HB2 hb3
 obtain ⟨w3,hw3⟩:∃ w3,w3=w2.alloc (.cells #[.int .u8 0,.int .u8 2] 5):=⟨_,rfl⟩
 rw [← hw3] at HB3 ⊢
 clear hw3 hb3 HS2
 go_wp2_with fail
 refine (HSV.out w3 [] none 0 HB3 (Sl.nil _ _ _) (by decide) (fun x hx=>by cases hx) (by decide) 1 [4] sv_nil rfl).mono ?_
 rintro e w4 ⟨A4,c4,rfl,hb4,hs4⟩
 have HB4:=bl_step HB3 hb4
 clear hb4
 have HS4:=hide hs4
 clear hs4
 go_wp2_with fail
 have hb5:=bl_alloc (Below.refl w4.heap.size w4) (.cells #[.int .u8 4] 5)
 refine (equal_true [4] A4 (some ⟨w4.heap.size,0,none⟩) c4 1 _ ((HS4.out.below hb5).more hb5.size) (slb (Blk.new _ _ _))).mono ?_
 rintro e w5 ⟨rfl,rfl⟩
 have HB5:=bl_step HB4 hb5
 go_wp2
 go_ret
 exact ⟨rfl,HB5⟩
def Enc (r:List Int) (w:World) (e:Ending) (w':World):Prop:=∃ A c,e=.returned (.slice A r.length c)∧r.length≤c∧Sl w' w'.heap.size A (byCells r)∧Below w.heap.size w w'
section
variable (op vs pts:Int) (hrs:List Rg) (HA:Option Addr) (hc:Nat) (gs:List Gr) (GA:Option Addr) (gc:Nat) (ps:List (Int × Int)) (PA:Option Addr) (pc:Nat) (qs:List ((Int × Int) × Int)) (QA:Option Addr) (qc:Nat) (w:World)
variable (hh:Sl w w.heap.size HA (rgCells hrs)) (hgc:Sl w w.heap.size GA (rgCells (gs.map (·.1)))) (hgs:GsOk w w.heap.size gs) (hps:Sl w w.heap.size PA (ptCs ps)) (hqs:Sl w w.heap.size QA (quCs qs)) (hqu:∀ q∈qs,U64 q.2)
include hh hgc hgs hps hqs hqu
theorem request_any:Calls Tryz.prog 84 #[.agg #[.int .i64 op,.int .i64 vs,.slice HA hrs.length hc,.int .i64 pts,.slice GA gs.length gc,.slice PA ps.length pc,.slice QA qs.length qc]] w (Enc (hencode op vs hrs pts gs ps qs).1 w):=by
 have hb0:=bl_alloc (Below.refl w.heap.size w) (.cells #[.int .i64 op,.int .i64 vs,.slice HA hrs.length hc,.int .i64 pts,.slice GA gs.length gc,.slice PA ps.length pc,.slice QA qs.length qc] 41)
 have N0:=Blk.new w 41 #[.int .i64 op,.int .i64 vs,.slice HA hrs.length hc,.int .i64 pts,.slice GA gs.length gc,.slice PA ps.length pc,.slice QA qs.length qc]
 have HE:=hide (rencode_any op vs pts hrs HA hc gs GA gc ps PA pc qs QA qc _ ((hh.below hb0).more hb0.size) ((hgc.below hb0).more hb0.size) (fun g hg=>⟨(hgs g hg).1,((hgs g hg).2.below hb0).more hb0.size⟩) ((hps.below hb0).more hb0.size) ((hqs.below hb0).more hb0.size) hqu)
 have b0:=N0.cell (i:=0) rfl
 have b1:=N0.cell (i:=1) rfl
 have b2:=N0.cell (i:=2) rfl
 have b3:=N0.cell (i:=3) rfl
 have b4:=N0.cell (i:=4) rfl
 have b5:=N0.cell (i:=5) rfl
 have b6:=N0.cell (i:=6) rfl
 clear hh hgc hgs hps hqs hqu N0
 go_enter Tryz.func84,Tryz.ntmps84
 go_wp2_with fail
 refine HE.out.mono ?_
 rintro e w1 ⟨v,rfl,hv,hb1⟩
 obtain ⟨A,c,rfl,hc⟩:=own_slice hv
 go_wp2
 go_ret
 exact ⟨A,c,rfl,hc,Sl.of_own hv,bl_step hb0 hb1⟩
end
structure BatW (w:World) (gs:List Gr) (GA:Option Addr) (qs:List ((Int × Int) × Int)) (QA:Option Addr):Prop where
 hg:Sl w w.heap.size GA (rgCells (gs.map (·.1)))
 gk:GsOk w w.heap.size gs
 gj:∀ g∈gs,PsJ g.2
 hq:Sl w w.heap.size QA (quCs qs)
 qj:∀ q∈qs,PJ q.1
 qu:∀ q∈qs,U64 q.2
theorem BatW.below {w w':World} {gs:List Gr} {GA:Option Addr} {qs:List ((Int × Int) × Int)} {QA:Option Addr} (h:BatW w gs GA qs QA) (hb:Below w.heap.size w w'):BatW w' gs GA qs QA :=
 ⟨(h.hg.below hb).more hb.size,fun g hg=>⟨(h.gk g hg).1,((h.gk g hg).2.below hb).more hb.size⟩,h.gj,(h.hq.below hb).more hb.size,h.qj,h.qu⟩
theorem BatW.len {w:World} {gs:List Gr} {GA:Option Addr} {qs:List ((Int × Int) × Int)} {QA:Option Addr} (h:BatW w gs GA qs QA):∀ g∈gs,g.1.n=g.2.length:=fun g hg=>(h.gk g hg).1
end
end Go.Proofs.YtpnoofphfomjoaaGreatDoor
