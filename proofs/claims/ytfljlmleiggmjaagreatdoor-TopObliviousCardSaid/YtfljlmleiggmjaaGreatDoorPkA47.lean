/- ObMath21 TwoPush TopKit TraceExp3 LawTopObliv -/
import Derived.Deep.AppendLies
import Derived.Deep.RegionLaw
import Derived.Test.YtfljlmleiggmjaaGreatDoorPkA15
import Derived.Test.YtfljlmleiggmjaaGreatDoorPkA39
import Derived.Test.YtfljlmleiggmjaaGreatDoorPkA46
set_option maxRecDepth 1000000
set_option maxHeartbeats 8000000
namespace Go.Proofs.YtfljlmleiggmjaaGreatDoor
section
open Go.RowKit
theorem bk_wrong (rs:List Rg):(rs.map rgBack).any wrongRg=rs.any wrongRg:=by rw [List.any_map];rfl
theorem bk_full (rs:List Rg):(rs.map rgBack).any fullRg=false:=by
 rw [List.any_eq_false]
 intro r hr
 obtain ⟨q,_,rfl⟩:=List.mem_map.1 hr
 simp [fullRg,rgBack]
theorem bk_size (rs:List Rg):sumSize (rs.map rgBack)=sumSize rs:=by
 unfold sumSize;rw [List.map_map];rfl
theorem bk_check {op vs pts:Int} {rs:List Rg} (h:hcheck op vs rs pts=0):hcheck op vs (rs.map rgBack) pts=0:=by
 have hf:=(hcheck_zero h).2.2.2.2.2.2.2.2
 unfold hcheck at h ⊢
 rw [bk_wrong,bk_full,List.length_map]
 rw [hf] at h
 exact h
theorem bk_pay {op vs pts:Int} {rs:List Rg} (h:hcheck op vs rs pts=0):hpay op vs (rs.map rgBack) pts=hpay op vs rs pts:=by
 unfold hpay
 rw [if_pos h,if_pos (bk_check h),bk_size]
theorem bk_resp {op vs pts:Int} {rs:List Rg} (h:hcheck op vs rs pts=0):hresp op vs (rs.map rgBack) pts=hresp op vs rs pts:=by
 unfold hresp
 rw [if_pos h,if_pos (bk_check h)]
theorem hclass_pay {op vs pts:Int} {rs:List Rg} (h:hcheck op vs rs pts=0) {pl:List Int} (hl:(pl.length:Int)=hpay op vs rs pts):hclass (fbytes op vs rs pts++pl)=0:=by
 unfold hclass
 rw [hparse_format h,if_pos rfl,List.length_append,bk_pay h,if_pos (by push_cast;omega)]
theorem ob_serve {op vs pts:Int} {rs:List Rg} (h:hcheck op vs rs pts=0) {pl:List Int} (hl:(pl.length:Int)=hpay op vs rs pts) (hb:By (fbytes op vs rs pts++pl)) (hp40:pts≤40) :
 serveEv (fbytes op vs rs pts++pl)=evH21 op vs (rs.map rgBack) pts∧((hserve (fbytes op vs rs pts++pl)).length:Int)=hresp op vs rs pts∧(hdecode (fbytes op vs rs pts++pl)).1.qs.length≤40:=by
 have hc:=hclass_pay h hl
 have hpf:=hparse_format h pl
 have h1:=serveEv_head hb hc
 obtain ⟨_,_,_,_,_,_,_,_,h2,_⟩:=serve_ok hb hc
 rw [hpf] at h1 h2
 dsimp only at h1 h2
 rw [bk_resp h] at h2
 refine ⟨h1.1,h2,?_⟩
 have h3:=h1.2.2
 unfold cntQ at h3
 split at h3 <;> omega
theorem FreshT.keep {w w':World} {u:Nat × Nat} {Q:Nat→Prop} (h:FreshT w (some u)) (hk:KeepP Q w w') (h1:Q u.1) (h2:Q u.2):FreshT w' (some u):=by
 obtain ⟨a,b⟩:=h
 refine ⟨a.kept hk h1,?_⟩
 obtain ⟨es',clock,hb,F,hs,hD⟩:=b
 exact ⟨es',clock,(hk.block u.2 h2).trans hb,F,hs,hD⟩
end
section
open Go.RowKit Go.Shelf
theorem byCells_oneC (bs:List Int):∀ u∈byCells bs,u.oneCell'=true:=byCells_one bs
def TwoR (base:Nat) (x y:Value) (n:Nat) (a b:List Int) (w:World):Prop :=
 w.ownsRow base 5 1 x n (byCells a)∧w.ownsRow base 5 1 y n (byCells b)∧(x.ownBlock=none∨x.ownBlock≠y.ownBlock)∧(y.ownBlock=none∨y.ownBlock≠x.ownBlock)
theorem two_push (base n:Nat) (x y:Value) (a b:List Int) (p q:Int) (w:World) (h:TwoR base x y n a b w) (hb:base≤w.heap.size) (hn:n≤100000) :
 ∃ x' w7 y' w9,(Builtin.append_ #[36,36] 36 #[x,.slice (some ⟨w.heap.size,0,none⟩) 1 1]).run Tryz.prog (w.alloc (.cells #[.int .u8 p] 5))=.ok x' w7 ∧
   (Builtin.append_ #[36,36] 36 #[y,.slice (some ⟨w7.heap.size,0,none⟩) 1 1]).run Tryz.prog (w7.alloc (.cells #[.int .u8 q] 5))=.ok y' w9 ∧
   TwoR base x' y' (n+1) (a++[p]) (b++[q]) w9∧∀ w0:World,Below w0.heap.size w0 w→w0.heap.size≤base→Below w0.heap.size w0 w9:=by
 obtain ⟨i0,hi,hz0,hz1,hz2⟩:=info_parts u8_info
 obtain ⟨hx,hy,hxy,hyx⟩:=h
 have hba:=bl_alloc (Below.refl w.heap.size w) (.cells #[.int .u8 p] 5)
 have N6:=Blk.new w 5 #[.int .u8 p]
 have hx6:=own_step hx hba
 have hy6:=own_step hy hba
 obtain ⟨gx,cx,w7,hr7,hx7,hg7,hloc7,hlt7⟩:=run_append_lies (P:=Tryz.prog) (w.alloc (.cells #[.int .u8 p] 5)) 36 36 base 5 i0 (.int .u8 0) 1 1 Tryz.underlying36 hi hz0 hz1 hz2 rfl (by decide) x n (byCells a) hx6 ⟨w.heap.size,0,none⟩ 1 1 [.int .u8 p] rfl (fun j u hu=>by rw [add_zero_off];exact N6.cell (by simpa using hu)) (by simp [Value.oneCell']) (by omega) (by unfold maxLen;omega) (by omega) (Nat.le_trans hb hba.size) _ rfl
 have hy7:=hy6.kept hg7 hyx
 have hybl:∀ k,y.ownBlock=some k→k<(w.alloc (.cells #[.int .u8 p] 5)).heap.size:=fun k hk=>own_lt' hy6 hk
 have hxy7:(Value.slice (some ⟨gx,0,none⟩) (n+1) cx).ownBlock≠y.ownBlock:=by
  intro e
  have e1:y.ownBlock=some gx:=by rw [← e];rfl
  rcases hloc7 with h | h
  · rcases hyx with h2 | h2
    · rw [h2] at e1;cases e1
    · exact h2 (by rw [e1,h])
  · have:=hybl gx e1
    omega
 have hsz7:base≤w7.heap.size:=Nat.le_trans hb (Nat.le_trans hba.size hg7.size)
 have hbb:=bl_alloc (Below.refl w7.heap.size w7) (.cells #[.int .u8 q] 5)
 have N8:=Blk.new w7 5 #[.int .u8 q]
 have hx8:=own_step hx7 hbb
 have hy8:=own_step hy7 hbb
 obtain ⟨gy,cy,w9,hr9,hy9,hg9,hloc9,hlt9⟩:=run_append_lies (P:=Tryz.prog) (w7.alloc (.cells #[.int .u8 q] 5)) 36 36 base 5 i0 (.int .u8 0) 1 1 Tryz.underlying36 hi hz0 hz1 hz2 rfl (by decide) y n (byCells b) hy8 ⟨w7.heap.size,0,none⟩ 1 1 [.int .u8 q] rfl (fun j u hu=>by rw [add_zero_off];exact N8.cell (by simpa using hu)) (by simp [Value.oneCell']) (by omega) (by unfold maxLen;omega) (by omega) (Nat.le_trans hsz7 hbb.size) _ rfl
 have hx9:=hx8.kept hg9 (.inr hxy7)
 have hne:(Value.slice (some ⟨gx,0,none⟩) (n+1) cx).ownBlock≠(Value.slice (some ⟨gy,0,none⟩) (n+1) cy).ownBlock:=by
  intro e
  have e1:gx=gy:=by
   have:some gx=some gy:=e
   exact Option.some.inj this
  rcases hloc9 with h | h
  · exact hxy7 (by rw [h,← e1];rfl)
  · have:gx<(w7.alloc (.cells #[.int .u8 q] 5)).heap.size:=own_lt' hx8 rfl
    omega
 refine ⟨_,w7,_,w9,hr7,hr9,⟨?_,?_,.inr hne,.inr fun e=>hne e.symm⟩,fun w0 h0 hB=>?_⟩
 · rw [byCells_append];exact hx9
 · rw [byCells_append];exact hy9
 · have h1:Below w0.heap.size w0 w7:=(bl_step h0 hba).grown hg7 (Nat.le_trans hB (Nat.le_trans hb hba.size)) (fun j hj=>Nat.le_trans hB (own_base hx6 hj))
   exact (bl_step h1 hbb).grown hg9 (Nat.le_trans hB (Nat.le_trans hsz7 hbb.size)) (fun j hj=>Nat.le_trans hB (own_base hy8 hj))
def plF (fs:List Int) (d:Nat→Int) (k:Nat):List Int:=(List.range k).map fun i=>fs.getD i (d i)
theorem plF_succ (fs:List Int) (d:Nat→Int) (k:Nat):plF fs d (k+1)=plF fs d k++[fs.getD k (d k)]:=by
 unfold plF
 rw [List.range_succ,List.map_append]
 rfl
theorem plF_len (fs:List Int) (d:Nat→Int) (k:Nat):(plF fs d k).length=k:=by unfold plF;rw [List.length_map,List.length_range]
theorem plF_by {fs:List Int} {d:Nat→Int} (h:By fs) (hd:∀ i,0≤d i∧d i≤255) (k:Nat):By (plF fs d k):=by
 intro x hx
 obtain ⟨i,_,rfl⟩:=List.mem_map.1 hx
 rw [List.getD_eq_getElem?_getD]
 cases hi:fs[i]? with
 | none=>exact hd i
 | some y=>exact h y (List.mem_of_getElem? hi)
theorem hvEv_back:∀ (i:Nat) (rs:List Rg),hvEv i (rs.map rgBack)=hvEv i rs∧hmEv i (rs.map rgBack)=hmEv i rs
 | _,[]=>⟨rfl,rfl⟩
 | i,r::rs=>by
   obtain ⟨h1,h2⟩:=hvEv_back (i+1) rs
   rw [List.map_cons,hvEv,hmEv,h1,h2]
   exact ⟨rfl,rfl⟩
theorem evH21_back (op vs:Int) (rs:List Rg) (pts:Int):evH21 op vs (rs.map rgBack) pts=evH21 op vs rs pts:=by
 unfold evH21 evB evH hitemEv
 rw [(hvEv_back 0 rs).1,(hvEv_back 0 rs).2]
end
section
open Go.RowKit Go.Shelf
theorem serves_any (w:World) (hfix:Fixed w) (hg:1<w.heap.size) (hw:MW w):Calls Tryz.prog 28 #[] w fun e w'=>e=.returned (.bool true)∧Below w.heap.size w w':=by
 have SV:∀ (w':World) (bs:List Int) (A:Option Addr) (c:Nat),Below w.heap.size w w'→Sl w' w'.heap.size A (byCells bs)→bs.length≤c→By bs→bs.length≤300000→∀ n out,hserve bs=out→out.length=n→Calls Tryz.prog 56 #[.slice A bs.length c] w' (Gives out n w'):=by
  intro w' bs A c hb hs hcap hby hmax n out ho hn
  subst ho hn
  refine (serve_any bs A c w' hs hcap hby hmax (hfix.below hb hg) (Nat.lt_of_lt_of_le hg hb.size) (hw.step hb)).mono ?_
  rintro e w2 ⟨A',c',he,_,hb2,hs2⟩
  exact ⟨A',c',he,hb2,hs2⟩
 have HSV:=hide SV
 clear SV hfix hg hw
 go_enter Tryz.func28,Tryz.ntmps28
 have hmk:∀ wx:World,(Instr.makeSlice 36 (.int .i64 49) (.int .i64 49)).run Tryz.prog wx=.ok (.slice (some ⟨wx.heap.size,0,none⟩) 49 49) (wx.alloc (.cells (byCells (List.replicate 49 0)).toArray 5)):=fun _=>by kernel_rfl
 go_wp2_with fail
 clear hmk
 obtain ⟨gb,hgb⟩:∃ gb,gb=w.heap.size:=⟨_,rfl⟩
 obtain ⟨w0,hw0⟩:∃ w0,w0=w.alloc (.cells (byCells ex49).toArray 5):=⟨_,rfl⟩
 have hb0:Below w.heap.size w w0:=by rw [hw0];exact bA
 have B0:Blk w0 gb 5 (byCells ex49).toArray:=by rw [hw0,hgb];exact Blk.new _ _ _
 have S1:=HSV.out w0 [] none 0 hb0 (Sl.nil _ _ _) (by decide) (fun x hx=>by cases hx) (by decide) 1 [4] sv_nil rfl
 rw [hw0] at S1
 refine S1.mono ?_
 rw [← hw0]
 clear S1
 rintro e w1 ⟨A1,c1,rfl,hb1,hs1⟩
 have HB1:=bl_step hb0 hb1
 have B1:=B0.step hb1
 clear hw0 hb0 hb1 B0 hs1
 rw [← hgb]
 have HGB:=hide hgb
 clear hgb
 go_wp2_with fail
 refine (HSV.out w1 ex49 (some ⟨gb,0,none⟩) 49 HB1 (slb B1) (by decide) by_49 (by decide) 2 [0,2] sv_49 rfl).mono ?_
 rintro e w2 ⟨A2,c2,rfl,hb2,hs2⟩
 have HB2:=bl_step HB1 hb2
 clear B1 hb2
 have HS2:=hide hs2
 clear hs2
 go_wp2_with fail
 have hb3:=bl_alloc (Below.refl w2.heap.size w2) (.cells #[.int .u8 0,.int .u8 2] 5)
 refine (equal_true [0,2] A2 (some ⟨w2.heap.size,0,none⟩) c2 2 _ ((HS2.out.below hb3).more hb3.size) (slb (Blk.new _ _ _))).mono ?_
 rintro e w3 ⟨rfl,rfl⟩
 have HB3:=bl_step HB2 hb3
 obtain ⟨w3,hw3⟩:∃ w3,w3=w2.alloc (.cells #[.int .u8 0,.int .u8 2] 5):=⟨_,rfl⟩
 rw [← hw3] at HB3 ⊢
 clear hw3 hb3 HS2
 go_wp2_with fail
 refine (HSV.out w3 [] none 0 HB3 (Sl.nil _ _ _) (by decide) (fun x hx=>by cases hx) (by decide) 1 [4] sv_nil rfl).mono ?_
 rintro e w4 ⟨A4,c4,rfl,hb4,hs4⟩
 have HB4:=bl_step HB3 hb4
 clear hb4
 have HS4:=hide hs4
 clear hs4
 go_wp2_with fail
 have hb5:=bl_alloc (Below.refl w4.heap.size w4) (.cells #[.int .u8 4] 5)
 refine (equal_true [4] A4 (some ⟨w4.heap.size,0,none⟩) c4 1 _ ((HS4.out.below hb5).more hb5.size) (slb (Blk.new _ _ _))).mono ?_
 rintro e w5 ⟨rfl,rfl⟩
 have HB5:=bl_step HB4 hb5
 go_wp2
 go_ret
 exact ⟨rfl,HB5⟩
section
variable (op vs pts:Int) (hrs:List Rg) (HA:Option Addr) (hc:Nat) (gs:List Gr) (GA:Option Addr) (gc:Nat) (ps:List (Int × Int)) (PA:Option Addr) (pc:Nat) (qs:List ((Int × Int) × Int)) (QA:Option Addr) (qc:Nat) (w:World)
variable (hh:Sl w w.heap.size HA (rgCells hrs)) (hgc:Sl w w.heap.size GA (rgCells (gs.map (·.1)))) (hgs:GsOk w w.heap.size gs) (hps:Sl w w.heap.size PA (ptCs ps)) (hqs:Sl w w.heap.size QA (quCs qs)) (hqu:∀ q∈qs,U64 q.2)
include hh hgc hgs hps hqs hqu
end
structure BatW (w:World) (gs:List Gr) (GA:Option Addr) (qs:List ((Int × Int) × Int)) (QA:Option Addr):Prop where
 hg:Sl w w.heap.size GA (rgCells (gs.map (·.1)))
 gk:GsOk w w.heap.size gs
 gj:∀ g∈gs,PsJ g.2
 hq:Sl w w.heap.size QA (quCs qs)
 qj:∀ q∈qs,PJ q.1
 qu:∀ q∈qs,U64 q.2
theorem BatW.below {w w':World} {gs:List Gr} {GA:Option Addr} {qs:List ((Int × Int) × Int)} {QA:Option Addr} (h:BatW w gs GA qs QA) (hb:Below w.heap.size w w'):BatW w' gs GA qs QA :=
 ⟨(h.hg.below hb).more hb.size,fun g hg=>⟨(h.gk g hg).1,((h.gk g hg).2.below hb).more hb.size⟩,h.gj,(h.hq.below hb).more hb.size,h.qj,h.qu⟩
theorem BatW.len {w:World} {gs:List Gr} {GA:Option Addr} {qs:List ((Int × Int) × Int)} {QA:Option Addr} (h:BatW w gs GA qs QA):∀ g∈gs,g.1.n=g.2.length:=fun g hg=>(h.gk g hg).1
end
section
open Go.RowKit Go.Shelf
theorem expected_any (op vs pts:Int) (rs:List Rg) (HA:Option Addr) (hc:Nat) (P:Nat→Prop) (w:World) (hP:∀ k,P k→k<w.heap.size) (hs:SlP w P HA (rgCells rs)) (hz:hcheck op vs rs pts=0) :
 Calls Tryz.prog 37 #[.agg #[.int .i64 op,.int .i64 vs,.slice HA rs.length hc,.int .i64 pts]] w (GaveSeq P (evH21 op vs rs pts) w):=by
 obtain ⟨o1,o2,c3,c4,c5,c6,c7,_⟩:=hcheck_zero hz
 unfold evH21
 by_cases h5:op=5
 · subst h5
   rw [if_pos rfl]
   obtain ⟨l1,l64,hwr⟩:=c5 (by omega)
   obtain ⟨p1,p2⟩:=c7 rfl
   obtain ⟨n,rfl⟩:∃ n:Nat,pts=(n:Int):=⟨pts.toNat,by omega⟩
   have hok:=rg_sizes hwr
   have h:=expected_5 vs rs HA hc P w hP hs (by omega) hok n (by omega) (by omega)
   obtain ⟨r1,r2⟩:=regs_flat hok
   rw [← r1,← r2,← cntEv_flat] at h
   have e:evB rs (n:Int).toNat=hvEv 0 rs++(((List.range n).flatMap fun (i:Nat)=>(8,(i:Int),0)::hmEv 0 rs)++(cntEv n++(pairEv (netw (lg n))++[]))):=by
    unfold evB hitemEv
    rw [Int.toNat_natCast,List.append_nil,List.append_assoc,List.append_assoc]
   rw [e]
   exact h
 · rw [if_neg h5]
   unfold evH
   by_cases h3:op=3
   · subst h3
     rw [if_pos rfl]
     obtain ⟨v1,v2⟩:=c3 rfl
     obtain ⟨n,rfl⟩:∃ n:Nat,vs=(n:Int):=⟨vs.toNat,by omega⟩
     obtain ⟨r1,r2⟩:=poly_flat (n:=n) (by omega)
     rw [Int.toNat_natCast,r1,r2]
     exact expected_3 pts rs HA hc P w n (by omega) (by omega)
   · rw [if_neg h3]
     by_cases h4:op=4
     · subst h4
       rw [if_pos rfl]
       obtain ⟨l1,l64,hwr⟩:=c5 (by omega)
       have hok:=rg_sizes hwr
       obtain ⟨r1,r2⟩:=regs_flat hok
       rw [r1,r2]
       exact expected_4 vs pts rs HA hc P w hP hs (by omega) hok
     · rw [if_neg h4]
       exact expected_other op vs pts rs HA hc P w h3 h4 h5
theorem tcollect_any (K:Nat→Prop) (fv:Value) (es:List Ev) (w:World) (hK:∀ k,K k→k<w.heap.size) (hev:EvSeq K fv es w) (hlen:es.length≤2000000) :
 Calls Tryz.prog 36 #[fv] w fun e w'=>∃ v,e=.returned v∧w'.ownsRow w.heap.size 66 3 v es.length (evCs es)∧Below w.heap.size w w':=by
 have HA:=hide (appendSeq_any K fv es w hK hev hlen)
 clear hK hev
 go_enter Tryz.func36,Tryz.ntmps36
 go_wp2_with fail
 refine HA.out.mono ?_
 rintro e w' ⟨v,rfl,h1,h2⟩
 have H1:=hide h1;have H2:=hide h2
 clear h1 h2 HA
 go_wp2
 go_ret
 exact ⟨v,rfl,H1.out,H2.out⟩
def trEv (op vs:Int) (rs:List Rg) (pts:Int):List Ev:=if hcheck op vs rs pts=0 then evH21 op vs rs pts else []
section
variable (op vs pts:Int) (rs:List Rg) (HA:Option Addr) (hc:Nat) (w:World) (hs:Sl w w.heap.size HA (rgCells rs)) (hn:rs.length≤maxLen) (hlen:(trEv op vs rs pts).length≤2000000)
include hs hn hlen
theorem tExpected_any:Calls Tryz.prog 12 #[.agg #[.int .i64 op,.int .i64 vs,.slice HA rs.length hc,.int .i64 pts]] w fun e w' =>
 ∃ v,e=.returned (.tuple #[v,.int .i64 (hcheck op vs rs pts)])∧w'.ownsRow w.heap.size 66 3 v (trEv op vs rs pts).length (evCs (trEv op vs rs pts))∧Below w.heap.size w w':=by
 obtain ⟨w0,hw0⟩:∃ w0,w0=w.alloc (.cells #[.int .i64 op,.int .i64 vs,.slice HA rs.length hc,.int .i64 pts] 24):=⟨_,rfl⟩
 have hb0:Below w.heap.size w w0:=by rw [hw0];exact bA
 have N0:Blk w0 w.heap.size 24 #[.int .i64 op,.int .i64 vs,.slice HA rs.length hc,.int .i64 pts]:=by rw [hw0];exact Blk.new _ _ _
 have HFM:=hide (format_any vs rs HA hc pts w0 ((hs.below hb0).more hb0.size) hn op)
 have b0:=N0.cell (i:=0) rfl
 have b1:=N0.cell (i:=1) rfl
 have b2:=N0.cell (i:=2) rfl
 have b3:=N0.cell (i:=3) rfl
 by_cases hz:hcheck op vs rs pts=0
 · have ht:trEv op vs rs pts=evH21 op vs rs pts:=if_pos hz
   rw [ht] at hlen ⊢
   have hf:(hformat op vs rs pts).2=0:=by unfold hformat;rw [if_pos hz]
   have HX:=hide (fun (w':World) (hb:Below w.heap.size w w')=>expected_any op vs pts rs HA hc (fun k=>k<w'.heap.size) w' (fun _ h=>h) (((hs.below hb).more hb.size).slP fun _ h=>h) hz)
   obtain ⟨ev,hev⟩:∃ ev,ev=evH21 op vs rs pts:=⟨_,rfl⟩
   rw [← hev] at hlen HX ⊢
   have HLEN:=hide hlen
   rw [hz]
   clear hs hn hlen hz ht hev
   rw [hw0] at b0 b1 b2 b3 HFM
   go_enter Tryz.func12,Tryz.ntmps12
   go_wp2_with fail
   refine HFM.out.mono ?_
   rw [← hw0]
   rintro e w1 ⟨fv,rfl,-,hb1⟩
   rw [hf]
   have HB1:=hide (bl_step hb0 hb1)
   have N1:=N0.step hb1
   clear b0 b1 b2 b3 N0 hb0 hb1 HFM hw0 hf
   have b0:=N1.cell (i:=0) rfl
   have b1:=N1.cell (i:=1) rfl
   have b2:=N1.cell (i:=2) rfl
   have b3:=N1.cell (i:=3) rfl
   clear N1
   go_wp2_with fail
   refine (HX.out w1 HB1.out).mono ?_
   rintro e w2 ⟨sv,K,rfl,hb2,hK,hes⟩
   have C:=hide (tcollect_any K sv ev w2 (fun k hk=>(hK k hk).elim (fun h=>Nat.lt_of_lt_of_le h hb2.size) fun h=>h.2) hes HLEN.out)
   have HB2:=hide (bl_step HB1.out hb2)
   clear hb2 hK hes b0 b1 b2 b3
   go_wp2_with fail
   refine C.out.mono ?_
   rintro e w3 ⟨v,rfl,hown,hb3⟩
   have HO:Hid (w3.ownsRow w.heap.size 66 3 v ev.length (evCs ev)):=hide ⟨hown.1,by
    rcases hown.2 with h0 | ⟨g',cap,cur,h1,h2,r⟩
    · exact .inl h0
    · exact .inr ⟨g',cap,cur,h1,Nat.le_trans HB2.out.size h2,r⟩⟩
   have HB3:=hide (bl_step HB2.out hb3)
   clear hown hb3 C
   go_wp2
   go_ret2
   exact ⟨v,rfl,HO.out,HB3.out⟩
 · have ht:trEv op vs rs pts=[]:=if_neg hz
   rw [ht]
   have hf:(hformat op vs rs pts).2=hcheck op vs rs pts:=by unfold hformat;rw [if_neg hz]
   obtain ⟨er,her⟩:∃ er,er=hcheck op vs rs pts:=⟨_,rfl⟩
   rw [← her] at hz hf ⊢
   have hne:(er != 0)=true:=by simpa using hz
   clear hs hn hlen hz ht her
   rw [hw0] at b0 b1 b2 b3 HFM
   go_enter Tryz.func12,Tryz.ntmps12
   go_wp2_with fail
   refine HFM.out.mono ?_
   rw [← hw0]
   rintro e w1 ⟨fv,rfl,-,hb1⟩
   rw [hf]
   have HB1:=hide (bl_step hb0 hb1)
   clear b0 b1 b2 b3 N0 hb0 hb1 HFM hw0 hf
   go_wp2
   go_ret2
   exact ⟨_,rfl,World.ownsRow_nil _ _ _ _,HB1.out⟩
end
end
section
open Go.RowKit Go.Shelf
section
variable (op vs pts:Int) (rs:List Rg) (HA:Option Addr) (hc:Nat) (fs:List Int) (A1:Option Addr) (c1:Nat) (ss:List Int) (A2:Option Addr) (c2:Nat) (w:World)
variable (hh:Sl w w.heap.size HA (rgCells rs)) (hf:Sl w w.heap.size A1 (byCells fs)) (hs:Sl w w.heap.size A2 (byCells ss)) (hbf:By fs) (hbs:By ss) (hfix:Fixed w) (hg:1<w.heap.size) (hw:MW w)
include hh hf hs hbf hbs hfix hg hw
theorem lawTopObliv:Calls Tryz.prog 9 #[.agg #[.int .i64 op,.int .i64 vs,.slice HA rs.length hc,.int .i64 pts],.slice A1 fs.length c1,.slice A2 ss.length c2] w fun e w'=>e=.returned (.bool true)∧Below w.heap.size w w':=by
 obtain ⟨rb,hrb⟩:∃ rb,rb=w.heap.size:=⟨_,rfl⟩
 obtain ⟨w0,hw0⟩:∃ w0,w0=w.alloc (.cells #[.int .i64 op,.int .i64 vs,.slice HA rs.length hc,.int .i64 pts] 24):=⟨_,rfl⟩
 have HB0:Below w.heap.size w w0:=by rw [hw0];exact bA
 have B0:Blk w0 rb 24 #[.int .i64 op,.int .i64 vs,.slice HA rs.length hc,.int .i64 pts]:=by rw [hw0,hrb];exact Blk.new _ _ _
 have HAL:=hide (fun (w':World) (hb:Below w.heap.size w w')=>serves_any w' (hfix.below hb hg) (Nat.lt_of_lt_of_le hg hb.size) (hw.step hb))
 have HFM:=rformat_any op vs pts rs HA hc w0 ((hh.below HB0).more HB0.size)
 have HPY:=hide (fun (hz:hcheck op vs rs pts=0) (w':World) (hb:Below w.heap.size w w')=>rpayload_any op vs pts rs HA hc w' ((hh.below hb).more hb.size) hz)
 have HRL:Hid (hcheck op vs rs pts=0→rs.length≤maxLen):=hide fun hz=>by
  obtain ⟨-,-,-,-,c5,c6,-,-⟩:=hcheck_zero hz
  by_cases h4:4≤op
  · have:=(c5 h4).2.1;unfold maxLen;omega
  · rw [c6 (by omega)];unfold maxLen;simp
 have HEX:=hide (fun (hz:hcheck op vs rs pts=0) (hl:(trEv op vs rs pts).length≤2000000) (w':World) (hb:Below w.heap.size w w')=>tExpected_any op vs pts rs HA hc w' ((hh.below hb).more hb.size) (HRL.out hz) hl)
 have HRV:=hide (fun (hz:hcheck op vs rs pts=0) (h100:op=5→pts≤100) (w':World) (hb:Below w.heap.size w w')=>rev21 op vs pts rs HA hc w' ((hh.below hb).more hb.size) hz h100)
 have HTR:=hide (fun (w':World) (hb:Below w.heap.size w w') (t:Option (Nat × Nat)) (hfr:FreshT w' t) (bs:List Int) (A:Option Addr) (c M:Nat) (hM:bs.length=M) (hs:Sl w' w'.heap.size A (byCells bs)) (hcap:M≤c) (hby:By bs) (hmax:M≤300000) (hq:(hdecode bs).1.qs.length≤40)=>by
  have:=traced_any t bs A c w' hs (by rw [hM];exact hcap) hby (by rw [hM];exact hmax) (hfix.below hb hg) (Nat.lt_of_lt_of_le hg hb.size) (hw.step hb) hfr (.inr (lg_100e (by omega)))
  rw [hM] at this
  exact this)
 have HF:=hide hf;have HS:=hide hs
 have HBF:=hide hbf;have HBS:=hide hbs
 have HRB:=hide hrb
 have b0:=B0.cell (i:=0) rfl
 have b1:=B0.cell (i:=1) rfl
 have b2:=B0.cell (i:=2) rfl
 have b3:=B0.cell (i:=3) rfl
 by_cases hz:hcheck op vs rs pts=0
 · have hfm:hformat op vs rs pts=(fbytes op vs rs pts,0):=if_pos hz
   rw [hfm] at HFM
   have HFMh:=hide HFM
   have HPY1:=hide (HPY.out hz)
   have HEX1:=hide (HEX.out hz)
   have HRV1:=hide (HRV.out hz)
   have HTE:Hid (trEv op vs rs pts=evH21 op vs rs pts):=hide (if_pos hz)
   have hpn:0≤hpay op vs rs pts:=(hpay_bd op vs rs pts).1
   have HOB:=hide (fun (pl:List Int) (hl:(pl.length:Int)=hpay op vs rs pts) (hb:By (fbytes op vs rs pts++pl)) (hp:pts≤40)=>ob_serve hz hl hb hp)
   have hfl:=fbytes_len hz
   have HFB:Hid (By (fbytes op vs rs pts)):=hide (fun x hx=>by
    obtain ⟨j,hj⟩:=List.getElem?_of_mem hx
    exact fbytes_byte hz j x hj)
   obtain ⟨fb,hfb⟩:∃ fb,fb=fbytes op vs rs pts:=⟨_,rfl⟩
   rw [← hfb] at HFMh HOB hfl HFB
   obtain ⟨N,hN⟩:∃ N:Nat,hpay op vs rs pts=(N:Int):=⟨(hpay op vs rs pts).toNat,by omega⟩
   rw [hN] at HPY1 HOB
   obtain ⟨R,hR⟩:∃ R,R=hresp op vs rs pts:=⟨_,rfl⟩
   rw [← hR] at HOB
   rw [evH21_back] at HOB
   rw [HTE.out,hz] at HEX1
   obtain ⟨EV,hEV⟩:∃ EV,EV=evH21 op vs rs pts:=⟨_,rfl⟩
   rw [← hEV] at HOB HEX1 HRV1
   have HFL:=hide hfl
   have HEVL:Hid (pts≤40→EV.length≤1000000):=hide (fun hp=>by
    have hby:By (fb++List.replicate N 0):=HFB.out.append (fun x hx=>by rw [List.eq_of_mem_replicate hx];decide)
    obtain ⟨h1,_,h3⟩:=HOB.out (List.replicate N 0) (by rw [List.length_replicate]) hby hp
    rw [← h1]
    exact serveEv_len (fb++List.replicate N 0) hby (by omega))
   clear HFM hfm hpn hfb hN hR hEV HPY HEX HRV HTE HRL hz hfl hh hf hs hbf hbs hfix hg hw
   rw [hw0] at b0 b1 b2 b3 HFMh
   go_enter Tryz.func9,Tryz.ntmps9
   rw [hrb] at b0 b1 b2 b3
   go_wp2_with fail
   refine HFMh.out.mono ?_
   rw [← hw0]
   rintro e w1 ⟨fv,rfl,hown1,hb1⟩
   dsimp only at hown1 ⊢
   rw [← hrb]
   obtain ⟨BA,bc,rfl,hbc⟩:=own_slice hown1
   have HB1:=bl_step HB0 hb1
   have B1:=B0.step hb1
   have SB1:=hide (Sl.of_own hown1)
   clear hw0 hrb hown1 hb1 HFMh b0 b1 b2 b3 B0
   have b0:=B1.cell (i:=0) rfl
   have b1:=B1.cell (i:=1) rfl
   have b2:=B1.cell (i:=2) rfl
   have b3:=B1.cell (i:=3) rfl
   have P1:=hide (HPY1.out w1 HB1)
   go_wp2_with fail
   refine P1.out.mono ?_
   rintro e w2 ⟨rfl,hb2⟩
   have HB2:=bl_step HB1 hb2
   have B2:=B1.step hb2
   have SB2:=hide ((SB1.out.below hb2).more hb2.size)
   clear P1 hb2 B1 SB1 b0 b1 b2 b3
   have b0:=B2.cell (i:=0) rfl
   have b1:=B2.cell (i:=1) rfl
   have b2:=B2.cell (i:=2) rfl
   have b3:=B2.cell (i:=3) rfl
   by_cases hN4:3000<(N:Int)
   · clear HPY1 HEX1 HRV1 HTR HOB
     go_wp2_with fail
     refine (HAL.out w2 HB2).mono ?_
     rintro e w3 ⟨rfl,hb3⟩
     go_wp2
     go_ret
     exact ⟨rfl,bl_step HB2 hb3⟩
   by_cases hp40:30<pts
   · clear HPY1 HEX1 HRV1 HTR HOB
     go_wp2_with fail
     refine (HAL.out w2 HB2).mono ?_
     rintro e w3 ⟨rfl,hb3⟩
     go_wp2
     go_ret
     exact ⟨rfl,bl_step HB2 hb3⟩
   have hNn:N≤3000:=by omega
   have HEV2:=hide (HEVL.out (by omega))
   have HEX2:=hide (HEX1.out (by have:=HEV2.out;omega))
   have HRV2:=hide (HRV1.out (fun _=>by omega))
   have HOB2:=hide (fun (pl:List Int) (hl:pl.length=N) (hb:By (fb++pl))=>HOB.out pl (by rw [hl]) hb (by omega))
   clear HEVL HOB HEX1 HRV1
   have P2:=hide (HPY1.out w2 HB2)
   go_wp2_with fail
   refine P2.out.mono ?_
   rintro e w3 ⟨rfl,hb3⟩
   have HB3:=bl_step HB2 hb3
   have B3:=B2.step hb3
   have SB3:=hide ((SB2.out.below hb3).more hb3.size)
   have hrlt:rb<w3.heap.size:=B3.lt
   clear P2 hb3 B2 SB2 b0 b1 b2 b3 HPY1 HB2 hN4
   go_wp2_with fail
   go_loopw [9,10,38] (fun x y i wr=>∃ k:Nat,k≤N∧i=.int .i64 (k:Int)∧TwoR w3.heap.size x y k (plF fs (fun i=>IntKind.u8.wrap (i:Int)) k) (plF ss (fun _=>128) k) wr∧Below w3.heap.size w3 wr)
    (fun _ _ i _=>N - (intOf i).toNat)
   case atStart=>exact ⟨0,Nat.zero_le _,rfl,⟨World.ownsRow_nil _ _ _ _,World.ownsRow_nil _ _ _ _,.inl rfl,.inl rfl⟩,Below.refl _ _⟩
   case round =>
    obtain ⟨k,hk,rfl,htw,hbr⟩:=hrel
    by_cases hkn:k<N
    · have hki:(k:Int)<(N:Int):=by omega
      obtain ⟨p,hp⟩:∃ p,p=fs.getD k (IntKind.u8.wrap (k:Int)):=⟨_,rfl⟩
      obtain ⟨q,hq⟩:∃ q,q=ss.getD k 128:=⟨_,rfl⟩
      obtain ⟨x',w7,y',w9,hr7,hr9,htw9,hbl9⟩:=two_push w3.heap.size k _ _ _ _ p q wr htw hbr.size (by omega)
      have HB9:=hide (hbl9 w3 hbr (Nat.le_refl _))
      rw [hp,hq] at htw9
      have htw9:TwoR w3.heap.size x' y' (k+1) (plF fs (fun i=>IntKind.u8.wrap (i:Int)) (k+1)) (plF ss (fun _=>128) (k+1)) w9:=by rw [plF_succ,plF_succ];exact htw9
      have HT9:=hide htw9
      clear htw htw9 hbl9
      by_cases hkf:k<fs.length
      · by_cases hks:k<ss.length
        · obtain ⟨f0,hf0⟩:∃ z,fs[k]?=some z:=⟨_,List.getElem?_eq_getElem hkf⟩
          have hpv:p=f0:=by rw [hp,List.getD_eq_getElem?_getD,hf0];rfl
          obtain ⟨bf,of,hA1,hBf,hcf⟩:=((HF.out.below HB3).below (hbr.mono HB3.size)).by_ (by omega)
          have cf:=hcf k f0 hf0
          have hkfi:(k:Int)<(fs.length:Int):=by omega
          rw [← hpv] at cf
          subst hA1
          clear hf0 hpv hcf
          obtain ⟨s0,hs0⟩:∃ z,ss[k]?=some z:=⟨_,List.getElem?_eq_getElem hks⟩
          have hqv:q=s0:=by rw [hq,List.getD_eq_getElem?_getD,hs0];rfl
          obtain ⟨b2,o2,hA2,hB2,hc2⟩:=((HS.out.below HB3).below (hbr.mono HB3.size)).by_ (by omega)
          have cs:=hc2 k s0 hs0
          have hksi:(k:Int)<(ss.length:Int):=by omega
          rw [← hqv] at cs
          subst hA2
          clear hs0 hqv hc2
          clear hp hq
          go_wp2_with (first
           | (at_builtin;refine wpList_append_run (.tmp 59) (.tmp 61) 36 rfl rfl _ _ rfl rfl hr7 ?_)
           | (at_builtin;refine wpList_append_run (.tmp 63) (.tmp 65) 36 rfl rfl _ _ rfl rfl hr9 ?_))
          go_wp2
          go_roundw
          case rel=>exact ⟨k+1,by omega,by go_num,HT9.out,HB9.out⟩
          case measure=>simp [intOf];omega
        · obtain ⟨f0,hf0⟩:∃ z,fs[k]?=some z:=⟨_,List.getElem?_eq_getElem hkf⟩
          have hpv:p=f0:=by rw [hp,List.getD_eq_getElem?_getD,hf0];rfl
          obtain ⟨bf,of,hA1,hBf,hcf⟩:=((HF.out.below HB3).below (hbr.mono HB3.size)).by_ (by omega)
          have cf:=hcf k f0 hf0
          have hkfi:(k:Int)<(fs.length:Int):=by omega
          rw [← hpv] at cf
          subst hA1
          clear hf0 hpv hcf
          have hqv:q=128:=by rw [hq,List.getD_eq_getElem?_getD,List.getElem?_eq_none (by omega)];rfl
          have hksi:¬ (k:Int)<(ss.length:Int):=by omega
          rw [hqv] at hr9
          clear hp hq
          go_wp2_with (first
           | (at_builtin;refine wpList_append_run (.tmp 59) (.tmp 61) 36 rfl rfl _ _ rfl rfl hr7 ?_)
           | (at_builtin;refine wpList_append_run (.tmp 63) (.tmp 65) 36 rfl rfl _ _ rfl rfl hr9 ?_))
          go_wp2
          go_roundw
          case rel=>exact ⟨k+1,by omega,by go_num,HT9.out,HB9.out⟩
          case measure=>simp [intOf];omega
      · by_cases hks:k<ss.length
        · have hpv:p=IntKind.u8.wrap (k:Int):=by rw [hp,List.getD_eq_getElem?_getD,List.getElem?_eq_none (by omega)];rfl
          have hkfi:¬ (k:Int)<(fs.length:Int):=by omega
          rw [hpv] at hr7
          obtain ⟨s0,hs0⟩:∃ z,ss[k]?=some z:=⟨_,List.getElem?_eq_getElem hks⟩
          have hqv:q=s0:=by rw [hq,List.getD_eq_getElem?_getD,hs0];rfl
          obtain ⟨b2,o2,hA2,hB2,hc2⟩:=((HS.out.below HB3).below (hbr.mono HB3.size)).by_ (by omega)
          have cs:=hc2 k s0 hs0
          have hksi:(k:Int)<(ss.length:Int):=by omega
          rw [← hqv] at cs
          subst hA2
          clear hs0 hqv hc2
          clear hp hq
          go_wp2_with (first
           | (at_builtin;refine wpList_append_run (.tmp 59) (.tmp 61) 36 rfl rfl _ _ rfl rfl hr7 ?_)
           | (at_builtin;refine wpList_append_run (.tmp 63) (.tmp 65) 36 rfl rfl _ _ rfl rfl hr9 ?_))
          go_wp2
          go_roundw
          case rel=>exact ⟨k+1,by omega,by go_num,HT9.out,HB9.out⟩
          case measure=>simp [intOf];omega
        · have hpv:p=IntKind.u8.wrap (k:Int):=by rw [hp,List.getD_eq_getElem?_getD,List.getElem?_eq_none (by omega)];rfl
          have hkfi:¬ (k:Int)<(fs.length:Int):=by omega
          rw [hpv] at hr7
          have hqv:q=128:=by rw [hq,List.getD_eq_getElem?_getD,List.getElem?_eq_none (by omega)];rfl
          have hksi:¬ (k:Int)<(ss.length:Int):=by omega
          rw [hqv] at hr9
          clear hp hq
          go_wp2_with (first
           | (at_builtin;refine wpList_append_run (.tmp 59) (.tmp 61) 36 rfl rfl _ _ rfl rfl hr7 ?_)
           | (at_builtin;refine wpList_append_run (.tmp 63) (.tmp 65) 36 rfl rfl _ _ rfl rfl hr9 ?_))
          go_wp2
          go_roundw
          case rel=>exact ⟨k+1,by omega,by go_num,HT9.out,HB9.out⟩
          case measure=>simp [intOf];omega
    · obtain rfl:k=N:=by omega
      have hki:¬ (k:Int)<(k:Int):=by omega
      obtain ⟨hx,hy,-,-⟩:=htw
      obtain ⟨XA,xc,rfl,hxc⟩:=own_slice hx
      obtain ⟨YA,yc,rfl,hyc⟩:=own_slice hy
      have SX:=hide (Sl.of_own hx)
      have SY:=hide (Sl.of_own hy)
      have HBr:=bl_step HB3 hbr
      have Br:=B3.step hbr
      have SB:=hide ((SB3.out.below hbr).more hbr.size)
      have hrlr:rb<wr.heap.size:=Br.lt
      clear hx hy hbr B3 SB3
      go_wp2_with fail
      refine (new_fresh wr).mono ?_
      rintro e w4 ⟨rfl,hb4,hf4⟩
      have hz4:wr.heap.size+1<w4.heap.size:=hf4.1.lt
      go_wp2_with fail
      refine (new_fresh w4).mono ?_
      rintro e w5 ⟨rfl,hb5,hf5⟩
      have hz5:w4.heap.size+1<w5.heap.size:=hf5.1.lt
      have ft5:=hf4.step hb5
      have hb45:=bl_step hb4 hb5
      have HB5:=bl_step HBr hb45
      have B5:=Br.step hb45
      have SX5:=hide (SX.out.below hb45);have SY5:=hide (SY.out.below hb45);have SB5:=hide (SB.out.below hb45)
      obtain ⟨t,ht⟩:∃ t,t=newT wr:=⟨_,rfl⟩
      obtain ⟨u,hu⟩:∃ u,u=newT w4:=⟨_,rfl⟩
      have htu:t=some (wr.heap.size+1,wr.heap.size)∧u=some (w4.heap.size+1,w4.heap.size):=⟨ht,hu⟩
      rw [← ht] at ft5
      rw [← hu] at hf5
      rw [← ht,← hu]
      have FT5:=hide ft5;have FU5:=hide hf5;have HTU:=hide htu;have HZ4:=hide hz4;have HZ5:=hide hz5;have HRLR:=hide hrlr
      clear ft5 hf5 ht hu htu hf4 hb4 hb5 hb45 Br HBr SX SY SB
      -- the first request
      obtain ⟨w6,hw6⟩:∃ w6,w6=w5.alloc (.cells #[.slice BA fb.length bc,.slice XA k xc] 36):=⟨_,rfl⟩
      obtain ⟨s6,hs6⟩:∃ s6,s6=w5.heap.size:=⟨_,rfl⟩
      have hb6:Below w5.heap.size w5 w6:=by rw [hw6];exact bA
      have N6:Blk w6 s6 36 #[.slice BA fb.length bc,.slice XA k xc]:=by rw [hw6,hs6];exact Blk.new _ _ _
      have C6:=hide (concatB (byCells fb) (byCells (plF fs (fun i=>IntKind.u8.wrap (i:Int)) k)) fb.length k (by simp [byCells]) (by simp [byCells,plF_len]) (byCells_oneC _) (byCells_oneC _) BA XA bc xc s6 w6 N6 (((SB5.out.more (by have:=HZ4.out;have:=HZ5.out;omega)).below hb6).more hb6.size) (((SX5.out.more (by have:=HZ4.out;have:=HZ5.out;omega)).below hb6).more hb6.size) (by have:=HFL.out.1;omega) (by have:=HFL.out.2;omega))
      rw [hw6] at C6
      rw [hs6] at C6
      go_wp2_with fail
      refine C6.out.mono ?_
      rw [← hw6]
      rintro e w7 ⟨v7,rfl,hown7,hb7⟩
      obtain ⟨VA,vc,rfl,hvc⟩:=own_slice hown7
      rw [← byCells_append] at hown7
      have S7:=Sl.of_own hown7
      have hb57:=bl_step hb6 hb7
      have HB7:=bl_step HB5 hb57
      have B7:=B5.step hb57
      have hl1:(fb++plF fs (fun i=>IntKind.u8.wrap (i:Int)) k).length=fb.length+k:=by rw [List.length_append,plF_len]
      have hby1:By (fb++plF fs (fun i=>IntKind.u8.wrap (i:Int)) k):=HFB.out.append (plF_by HBF.out (fun i=>by rw [IntKind.wrap_u8];omega) k)
      obtain ⟨ev1,rl1,q1⟩:=HOB2.out (plF fs (fun i=>IntKind.u8.wrap (i:Int)) k) (plF_len _ _ _) hby1
      have ft7:=FT5.out.step hb57
      have fu7:=FU5.out.step hb57
      have SX7:=hide (SX5.out.below (hb57.mono (by have:=HZ4.out;have:=HZ5.out;omega)));have SY7:=hide (SY5.out.below (hb57.mono (by have:=HZ4.out;have:=HZ5.out;omega)));have SB7:=hide (SB5.out.below (hb57.mono (by have:=HZ4.out;have:=HZ5.out;omega)))
      have T7:=HTR.out w7 HB7 t ft7 _ VA vc _ hl1 S7 hvc hby1 (by have:=HFL.out.2;omega) q1
      unfold Served at T7
      rw [ev1] at T7
      obtain ⟨L1,hL1⟩:∃ L1,L1=(hserve (fb++plF fs (fun i=>IntKind.u8.wrap (i:Int)) k)).length:=⟨_,rfl⟩
      rw [← hL1] at rl1 T7
      have T7h:=hide T7
      have hz57:=hb57.size
      clear hw6 hs6 hb6 N6 C6 hown7 hb7 S7 ev1 q1 hl1 hby1 T7 FT5 FU5 SX5 SY5 SB5 B5 HB5 ft7 hL1 hb57
      go_wp2_with fail
      refine T7h.out.mono ?_
      rintro e w8 ⟨RA,rc,rfl,-,hk8,htp8,-⟩
      have hNT:∀ j,j<wr.heap.size→NT t w7.heap.size j:=fun j hj=>⟨by have:=HZ4.out;have:=HZ5.out;omega,fun v hv=>by rw [HTU.out.1] at hv;injection hv with hv;subst hv;dsimp only;omega⟩
      have hNTu:NT t w7.heap.size (w4.heap.size+1)∧NT t w7.heap.size w4.heap.size:=⟨⟨by have:=HZ5.out;omega,fun v hv=>by rw [HTU.out.1] at hv;injection hv with hv;subst hv;dsimp only;have:=HZ4.out;omega⟩,⟨by have:=HZ5.out;omega,fun v hv=>by rw [HTU.out.1] at hv;injection hv with hv;subst hv;dsimp only;have:=HZ4.out;omega⟩⟩
      have hbw8:Below wr.heap.size w7 w8:=hk8.below hNT
      have HB8:Below w.heap.size w w8:=HB7.trans (hbw8.mono (by have:=HRB.out;have:=HRLR.out;omega))
      have B8:=B7.kept hk8 (hNT rb HRLR.out)
      have SY8:=hide (SY7.out.below hbw8);have SB8:=hide (SB7.out.below hbw8)
      have fu8:FreshT w8 u:=by
       rw [HTU.out.2] at fu7 ⊢
       exact fu7.keep hk8 hNTu.1 hNTu.2
      have htp8':TpIn w8 (NT t w7.heap.size) (wr.heap.size+1) wr.heap.size EV:=by rw [HTU.out.1] at htp8 ⊢;exact htp8
      have HT8:=hide htp8'
      have FU8:=hide fu8
      have HZ8:Hid (w7.heap.size≤w8.heap.size):=hide hk8.size
      have HZ57:=hide hz57
      clear T7h hk8 htp8 htp8' fu8 fu7 hNT hNTu hbw8 B7 SX7 SY7 SB7 HB7
      -- the second request
      obtain ⟨w9,hw9⟩:∃ w9,w9=w8.alloc (.cells #[.slice BA fb.length bc,.slice YA k yc] 36):=⟨_,rfl⟩
      obtain ⟨s9,hs9⟩:∃ s9,s9=w8.heap.size:=⟨_,rfl⟩
      have hb9:Below w8.heap.size w8 w9:=by rw [hw9];exact bA
      have N9:Blk w9 s9 36 #[.slice BA fb.length bc,.slice YA k yc]:=by rw [hw9,hs9];exact Blk.new _ _ _
      have hle8:wr.heap.size≤w8.heap.size:=by have:=HZ4.out;have:=HZ5.out;have:=HZ57.out;have:=HZ8.out;omega
      have C9:=hide (concatB (byCells fb) (byCells (plF ss (fun _=>128) k)) fb.length k (by simp [byCells]) (by simp [byCells,plF_len]) (byCells_oneC _) (byCells_oneC _) BA YA bc yc s9 w9 N9 (((SB8.out.more hle8).below hb9).more hb9.size) (((SY8.out.more hle8).below hb9).more hb9.size) (by have:=HFL.out.1;omega) (by have:=HFL.out.2;omega))
      rw [hw9] at C9
      rw [hs9] at C9
      go_wp2_with fail
      refine C9.out.mono ?_
      rw [← hw9]
      rintro e w10 ⟨v10,rfl,hown10,hb10⟩
      obtain ⟨VA,vc,rfl,hvc⟩:=own_slice hown10
      rw [← byCells_append] at hown10
      have S10:=Sl.of_own hown10
      have hb810:=bl_step hb9 hb10
      have HB10:=bl_step HB8 hb810
      have B10:=B8.step hb810
      have hl2:(fb++plF ss (fun _=>128) k).length=fb.length+k:=by rw [List.length_append,plF_len]
      have hby2:By (fb++plF ss (fun _=>128) k):=HFB.out.append (plF_by HBS.out (fun _=>by decide) k)
      obtain ⟨ev2,rl2,q2⟩:=HOB2.out (plF ss (fun _=>128) k) (plF_len _ _ _) hby2
      have T10:=HTR.out w10 HB10 u (FU8.out.step hb810) _ VA vc _ hl2 S10 hvc hby2 (by have:=HFL.out.2;omega) q2
      unfold Served at T10
      rw [ev2] at T10
      obtain ⟨L2,hL2⟩:∃ L2,L2=(hserve (fb++plF ss (fun _=>128) k)).length:=⟨_,rfl⟩
      rw [← hL2] at rl2 T10
      have T10h:=hide T10
      have HT10:=hide (Tp.step (t:=some (wr.heap.size+1,wr.heap.size)) HT8.out hb810)
      have HZ10:Hid (w8.heap.size≤w10.heap.size):=hide hb810.size
      clear hw9 hs9 hb9 N9 C9 hown10 hb10 S10 ev2 q2 hl2 hby2 T10 FU8 SY8 SB8 B8 HB8 hL2 hb810 HT8 hle8
      go_wp2_with fail
      refine T10h.out.mono ?_
      rintro e w11 ⟨RA2,rc2,rfl,-,hk11,htp11,-⟩
      have hNT2:∀ j,j<w4.heap.size→NT u w10.heap.size j:=fun j hj=>⟨by have:=HZ5.out;have:=HZ57.out;have:=HZ8.out;have:=HZ10.out;omega,fun v hv=>by rw [HTU.out.2] at hv;injection hv with hv;subst hv;dsimp only;omega⟩
      have HB11:Below w.heap.size w w11:=HB10.trans ((hk11.below hNT2).mono (by have:=HRB.out;have:=HRLR.out;have:=HZ4.out;omega))
      have B11:=B10.kept hk11 (hNT2 rb (by have:=HRLR.out;have:=HZ4.out;omega))
      have TT:TpIn w11 (NT t w7.heap.size) (wr.heap.size+1) wr.heap.size EV:=by
       refine TpIn.keep HT10.out hk11 fun j hj hnp=>?_
       refine ⟨hj,fun v hv=>?_⟩
       rw [HTU.out.2] at hv
       injection hv with hv
       subst hv
       dsimp only
       refine ⟨fun e=>hnp ?_,fun e=>hnp ?_⟩
       · subst e
         refine ⟨by have:=HZ5.out;have:=HZ57.out;omega,fun v hv=>?_⟩
         rw [HTU.out.1] at hv;injection hv with hv;subst hv;dsimp only;have:=HZ4.out;omega
       · subst e
         refine ⟨by have:=HZ5.out;have:=HZ57.out;omega,fun v hv=>?_⟩
         rw [HTU.out.1] at hv;injection hv with hv;subst hv;dsimp only;have:=HZ4.out;omega
      have TU:TpIn w11 (NT u w10.heap.size) (w4.heap.size+1) w4.heap.size EV:=by rw [HTU.out.2] at htp11 ⊢;exact htp11
      have HTT:=hide TT;have HTUU:=hide TU
      have htA:tapeA t=some ⟨wr.heap.size+1,0,none⟩∧tapeA u=some ⟨w4.heap.size+1,0,none⟩:=by rw [HTU.out.1,HTU.out.2];exact ⟨rfl,rfl⟩
      obtain ⟨ta,hta⟩:∃ ta,ta=tapeA t:=⟨_,rfl⟩
      obtain ⟨ua,hua⟩:∃ ua,ua=tapeA u:=⟨_,rfl⟩
      rw [← hta,← hua] at htA
      rw [← hta,← hua]
      have hta2:=htA.1
      have hua2:=htA.2
      subst hta2 hua2
      clear T10h hk11 htp11 hNT2 TT TU HT10 B10 HB10 htA hta hua rl1 rl2
      have b0:=B11.cell (i:=0) rfl
      have b1:=B11.cell (i:=1) rfl
      have b2:=B11.cell (i:=2) rfl
      have b3:=B11.cell (i:=3) rfl
      have X11:=hide (HEX2.out w11 HB11)
      go_wp2_with fail
      refine X11.out.mono ?_
      rintro e w12 ⟨v12,rfl,hown12,hb12⟩
      obtain ⟨A12,c12,rfl,_⟩:=own_slice hown12
      have HB12:=bl_step HB11 hb12
      have B12:=B11.step hb12
      have S12:=hide (Sl.of_own hown12)
      have HTT2:=hide (Tp.step (t:=some (wr.heap.size+1,wr.heap.size)) HTT.out hb12);have HTU2:=hide (Tp.step (t:=some (w4.heap.size+1,w4.heap.size)) HTUU.out hb12)
      clear hb12 hown12 X11 HTT HTUU b0 b1 b2 b3 B11 HB11
      go_wp2_with fail
      refine (HAL.out w12 HB12).mono ?_
      rintro e w13 ⟨rfl,hb13⟩
      have HB13:=bl_step HB12 hb13
      have B13:=B12.step hb13
      have S13:=hide ((S12.out.below hb13).more hb13.size)
      have E13:=hide (tequal_any _ _ _ _ _ _ EV w13 (Tp.step (t:=some (wr.heap.size+1,wr.heap.size)) HTT2.out hb13) (Tp.step (t:=some (w4.heap.size+1,w4.heap.size)) HTU2.out hb13) HEV2.out)
      have HTT3:=hide (Tp.step (t:=some (wr.heap.size+1,wr.heap.size)) HTT2.out hb13)
      clear hb13 S12 HTT2 HTU2 B12 HB12
      go_wp2_with fail
      refine E13.out.mono ?_
      rintro e w14 ⟨rfl,hb14⟩
      have HB14:=bl_step HB13 hb14
      have B14:=B13.step hb14
      have S14:=hide ((S13.out.below hb14).more hb14.size)
      have V14:=hide (events_any _ _ _ EV w14 (Tp.step (t:=some (wr.heap.size+1,wr.heap.size)) HTT3.out hb14) HEV2.out)
      clear hb14 S13 HTT3 B13 HB13 E13
      go_wp2_with fail
      refine V14.out.mono ?_
      rintro e w15 ⟨A15,c15,rfl,hs15,hb15⟩
      have HB15:=bl_step HB14 hb15
      have B15:=B14.step hb15
      have S15:=hide ((S14.out.below hb15).more hb15.size)
      have M15:=hide (same_events EV A15 A12 c15 c12 w15 hs15 S15.out (by have:=HEV2.out;unfold maxLen;omega))
      clear hb15 hs15 S14 B14 HB14 V14
      go_wp2_with fail
      refine M15.out.mono ?_
      rintro e w16 ⟨rfl,hb16⟩
      have HB16:=bl_step HB15 hb16
      have B16:=B15.step hb16
      have S16:=hide ((S15.out.below hb16).more hb16.size)
      have b0:=B16.cell (i:=0) rfl
      have b1:=B16.cell (i:=1) rfl
      have b2:=B16.cell (i:=2) rfl
      have b3:=B16.cell (i:=3) rfl
      have R16:=hide (HRV2.out w16 HB16)
      clear hb16 S15 B15 HB15 M15
      go_wp2_with fail
      refine R16.out.mono ?_
      rintro e w17 ⟨A17,c17,rfl,hs17,hb17⟩
      have HB17:=bl_step HB16 hb17
      have M17:=hide (same_events EV A12 A17 c12 c17 w17 ((S16.out.below hb17).more hb17.size) hs17 (by have:=HEV2.out;unfold maxLen;omega))
      clear hb17 hs17 S16 B16 HB16 R16 b0 b1 b2 b3
      go_wp2_with fail
      refine M17.out.mono ?_
      rintro e w18 ⟨rfl,hb18⟩
      go_wp2
      go_ret
      exact ⟨rfl,bl_step HB17 hb18⟩
 · have hfm:hformat op vs rs pts=([],hcheck op vs rs pts):=if_neg hz
   rw [hfm] at HFM
   obtain ⟨er,her⟩:∃ er,er=hcheck op vs rs pts:=⟨_,rfl⟩
   rw [← her] at HFM hz
   have HFMh:=hide HFM
   have hne:(er != 0)=true:=by simpa using hz
   clear HFM hfm her HPY HEX HRV HRL HTR hh hf hs hbf hbs hfix hg hw
   rw [hw0] at b0 b1 b2 b3 HFMh
   go_enter Tryz.func9,Tryz.ntmps9
   rw [hrb] at b0 b1 b2 b3
   go_wp2_with fail
   refine HFMh.out.mono ?_
   rw [← hw0]
   rintro e w1 ⟨fv,rfl,hown1,hb1⟩
   dsimp only at hown1 ⊢
   have HB1:=bl_step HB0 hb1
   clear HFMh hown1 b0 b1 b2 b3 hw0
   go_wp2_with fail
   refine (HAL.out w1 HB1).mono ?_
   rintro e w3 ⟨rfl,hb3⟩
   go_wp2
   go_ret
   exact ⟨rfl,bl_step HB1 hb3⟩
end
end
end Go.Proofs.YtfljlmleiggmjaaGreatDoor
