/- TraceEv TraceExp2 -/
import Derived.Test.YtfljlmleiggmjaaGreatDoorPkC33
import Derived.Test.YtfljlmleiggmjaaGreatDoorPkC40
set_option maxRecDepth 1000000
set_option maxHeartbeats 8000000
namespace Go.Proofs.YtfljlmleiggmjaaGreatDoor
section
open Go.RowKit
theorem evI_flat (x nx:Nat):∀ k,evI x nx k=(List.range k).flatMap fun j=>if j=x∨j=nx then [] else [(4,(x:Int),(j:Int))]
 | 0=>rfl
 | k+1=>by
   rw [List.range_succ,List.flatMap_append,← evI_flat x nx k]
   by_cases h:k=x∨k=nx
   · rw [evI_same h];simp [h]
   · rw [evI_next (fun e=>h (.inl e)) (fun e=>h (.inr e))];simp [h]
theorem vEv_flat (n:Nat):vEv n (List.range n)=(List.range n).flatMap fun i=>(List.range n).flatMap (sV n i):=by
 unfold vEv
 have:(fun x=>evI x ((x+1) % n) n)=fun i=>(List.range n).flatMap (sV n i):=by
  funext x;exact evI_flat x ((x+1) % n) n
 rw [this]
theorem locEv_flat (n:Nat):locEv (List.range n)=(List.range n).flatMap fun (i:Nat)=>[(5,(i:Int),0)]:=by
 unfold locEv;rw [List.map_eq_flatMap]
theorem cntEv_flat (n:Nat):cntEv n=(List.range n).flatMap fun (i:Nat)=>[(1,(i:Int),0)]:=by
 unfold cntEv;rw [List.map_eq_flatMap]
theorem take_snoc {rs:List Rg} {k:Nat} {r:Rg} (h:rs[k]?=some r):rs.take (k+1)=rs.take k++[r]:=by
 rw [List.take_add_one,h];rfl
theorem hvEv_flat (rs:List Rg):hvEv 0 rs=(List.range rs.length).flatMap fun (i:Nat)=>(7,(i:Int),0)::hvEv1 (vAt rs i):=by
 have key:∀ k,k≤rs.length→hvEv 0 (rs.take k)=(List.range k).flatMap fun (i:Nat)=>(7,(i:Int),0)::hvEv1 (vAt rs i):=by
  intro k
  induction k with
  | zero=>intro _;rfl
  | succ k ih =>
    intro hk
    obtain ⟨r,hr⟩:∃ r,rs[k]?=some r:=⟨_,List.getElem?_eq_getElem (by omega)⟩
    rw [take_snoc hr,hvEv_snoc,ih (by omega),List.range_succ,List.flatMap_append,List.length_take,Nat.min_eq_left (by omega),← vAt_get hr]
    simp
 have h:=key rs.length (Nat.le_refl _)
 rwa [List.take_length] at h
theorem hmEv_flat (rs:List Rg):hmEv 0 rs=(List.range rs.length).flatMap fun (i:Nat)=>(7,(i:Int),1)::hmEv1 (vAt rs i):=by
 have key:∀ k,k≤rs.length→hmEv 0 (rs.take k)=(List.range k).flatMap fun (i:Nat)=>(7,(i:Int),1)::hmEv1 (vAt rs i):=by
  intro k
  induction k with
  | zero=>intro _;rfl
  | succ k ih =>
    intro hk
    obtain ⟨r,hr⟩:∃ r,rs[k]?=some r:=⟨_,List.getElem?_eq_getElem (by omega)⟩
    rw [take_snoc hr,hmEv_snoc,ih (by omega),List.range_succ,List.flatMap_append,List.length_take,Nat.min_eq_left (by omega),← vAt_get hr]
    simp
 have h:=key rs.length (Nat.le_refl _)
 rwa [List.take_length] at h
theorem edgeN_in {v:Nat} (h:3≤v∧v≤64):edgeN v=v:=by unfold edgeN;rw [if_pos h]
theorem poly_flat {n:Nat} (h:3≤n∧n≤64):vEv n (List.range (edgeN n))=((List.range n).flatMap fun i=>(List.range n).flatMap (sV n i))∧locEv (List.range (edgeN n))=(List.range n).flatMap fun (i:Nat)=>[(5,(i:Int),0)]:=by
 rw [edgeN_in h];exact ⟨vEv_flat n,locEv_flat n⟩
theorem rE_ok {v:Int} (h:v=0∨3≤v∧v≤64):hvEv1 v=rE false v∧hmEv1 v=rE true v:=by
 unfold hvEv1 hmEv1 rE
 rcases h with rfl | h
 · exact ⟨rfl,rfl⟩
 · have h0:¬ v=0:=by omega
   rw [if_neg h0,if_neg h0,if_neg h0,if_neg h0]
   exact poly_flat (by omega)
theorem regs_flat {rs:List Rg} (hok:∀ r∈rs,r.v=0∨3≤r.v∧r.v≤64):hvEv 0 rs=(List.range rs.length).flatMap (rgE false rs)∧hmEv 0 rs=(List.range rs.length).flatMap (rgE true rs):=by
 rw [hvEv_flat,hmEv_flat]
 have e1:(fun (i:Nat)=>((7,(i:Int),0):Ev)::hvEv1 (vAt rs i))=rgE false rs:=by
  funext i;unfold rgE;rw [(rE_ok (vAt_ok hok i)).1];rfl
 have e2:(fun (i:Nat)=>((7,(i:Int),1):Ev)::hmEv1 (vAt rs i))=rgE true rs:=by
  funext i;unfold rgE;rw [(rE_ok (vAt_ok hok i)).2];rfl
 rw [e1,e2]
 exact ⟨rfl,rfl⟩
end
section
open Go.RowKit Go.Shelf
theorem run_store_fn {P:Program} {w:World} {a:Addr} {m:Mode} (f:Fn) (cs lb:Array Value):(store a (.func f cs lb) m).run P w=stored P w a (.func f cs lb) m:=run_store P w a _ m rfl
attribute [local go_sem] run_store_fn
theorem expected2 (i:Nat) (W:World):Calls Tryz.prog 76 #[.int .i64 (i:Int)] W (GaveSeq (fun _=>False) [(1,(i:Int),0)] W):=by
 have HO:=hide (one_any 1 (i:Int) 0 W (by unfold I64w;omega))
 go_enter Tryz.func76,Tryz.ntmps76
 go_wp2_with fail
 refine HO.out.mono ?_
 rintro e w' ⟨fv,K,rfl,h⟩
 have H:=hide h
 clear h
 go_wp2
 go_ret
 exact ⟨fv,K,rfl,H.out⟩
section
variable (op vs pts:Int) (rs:List Rg) (HA:Option Addr) (hc:Nat) (P:Nat→Prop) (w:World)
variable (hP:∀ k,P k→k<w.heap.size) (hs:SlP w P HA (rgCells rs)) (hlen:rs.length≤1000) (hok:∀ r∈rs,r.v=0∨3≤r.v∧r.v≤64)
include hP hs hlen hok
theorem expected_4:Calls Tryz.prog 37 #[.agg #[.int .i64 4,.int .i64 vs,.slice HA rs.length hc,.int .i64 pts]] w (GaveSeq P ((List.range rs.length).flatMap (rgE false rs)++(List.range rs.length).flatMap (rgE true rs)) w):=by
 obtain ⟨w0,hw0⟩:∃ w0,w0=w.alloc (.cells #[.int .i64 4,.int .i64 vs,.slice HA rs.length hc,.int .i64 pts] 24):=⟨_,rfl⟩
 have hb0:Below w.heap.size w w0:=by rw [hw0];exact bA
 have N0:Blk w0 w.heap.size 24 #[.int .i64 4,.int .i64 vs,.slice HA rs.length hc,.int .i64 pts]:=by rw [hw0];exact Blk.new _ _ _
 have c0:=N0.cell (i:=0) rfl
 have h00:HeldX w0 w.heap.size (.int .i64 vs) (.slice HA rs.length hc) (.int .i64 pts) w0:=⟨Below.refl _ _,N0.cell (i:=1) rfl,N0.cell (i:=2) rfl,N0.cell (i:=3) rfl⟩
 have hd0:=h00.keep (bl_drew (Below.refl _ _))
 have hP0:∀ k,P k→k<w0.heap.size:=fun k hk=>Nat.lt_of_lt_of_le (hP k hk) hb0.size
 have HR:=hide (fun (loc:Bool) (w':World) (hb:Below w0.heap.size w0 w')=>tregions_any P rs HA hc loc w' hlen hok (fun k hk=>Nat.lt_of_lt_of_le (hP0 k hk) hb.size) (hs.kept ((KeepP.of_below hb0 hP).trans (KeepP.of_below hb hP0))))
 have HF:=hide (HR.out false)
 have HT:=hide (HR.out true)
 obtain ⟨e1,he1⟩:∃ e1,e1=(List.range rs.length).flatMap (rgE false rs):=⟨_,rfl⟩
 obtain ⟨e2,he2⟩:∃ e2,e2=(List.range rs.length).flatMap (rgE true rs):=⟨_,rfl⟩
 rw [← he1,← he2]
 rw [← he1] at HF
 rw [← he2] at HT
 have HD:Hid (Below w0.heap.size w0 w0.drew):=hide (bl_drew (Below.refl _ _))
 have HJ:Hid (∀ (w1:World) (g1:Nat) (l1:Array Value) (K1:Nat→Prop) (w2:World) (g2:Nat) (l2:Array Value) (K2:Nat→Prop),Below w0.drew.heap.size w0.drew w1→(∀ k,K1 k→P k∨w0.drew.heap.size≤k∧k<w1.heap.size)→EvSeq K1 (.func (.func g1) #[] l1) e1 w1 →
  Below w1.heap.size w1 w2→(∀ k,K2 k→P k∨w1.heap.size≤k∧k<w2.heap.size)→EvSeq K2 (.func (.func g2) #[] l2) e2 w2 →
  Calls Tryz.prog 69 #[.slice (some ⟨w2.heap.size,0,none⟩) 2 2] (w2.alloc (.cells #[.func (.func g1) #[] l1,.func (.func g2) #[] l2] 68)) (fun e w'=>GaveSeq P (e1++e2) w e w'∧Below (w2.alloc (.cells #[.func (.func g1) #[] l1,.func (.func g2) #[] l2] 68)).heap.size (w2.alloc (.cells #[.func (.func g1) #[] l1,.func (.func g2) #[] l2] 68)) w')):=hide fun w1 g1 l1 K1 w2 g2 l2 K2 a1 a2 a3 a4 a5 a6 =>
  (join2b (Kp:=P) (w0:=w0.drew) hP0 a1 a2 a3 a4 (fun k h=>(a5 k h).imp id fun h=>⟨Nat.le_trans a1.size h.1,h.2⟩) a6).mono fun e w' h=>⟨h.1.undrew.back hb0 fun k h=>.inl h,h.2⟩
 have HSt:Hid (∀ w1,Below w0.drew.heap.size w0.drew w1→Below w0.heap.size w0 w1):=hide fun w1 h=>below_of_drew h
 clear N0 he1 he2 hb0 hP0 hP hs hlen hok HR
 rw [hw0] at c0
 go_enter Tryz.func37,Tryz.ntmps37
 go_wp2
 rw [← hw0]
 clear c0 hw0
 go_region_held3 (fun w'=>Below w0.heap.size w0 w'∧w'.cell? ⟨w.heap.size,1,none⟩=some (.int .i64 vs)∧w'.cell? ⟨w.heap.size,2,none⟩=some (.slice HA rs.length hc)∧w'.cell? ⟨w.heap.size,3,none⟩=some (.int .i64 pts))
  (first | exact hd0 | exact h00 | exact HeldX.keep (by assumption) (by assumption) | exact HeldX.keep (by assumption) (bA) | exact hd0.keep (by assumption))
  (first
    | (go_at_call 72;((with_reducible refine (HF.out _ HD.out).mono ?_);intro e w1 k1;obtain ⟨g1,l1,K1,rfl,a1,a2,a3⟩:=k1.open_))
    | (go_at_call 72;((with_reducible refine (HT.out w1 (HSt.out w1 a1)).mono ?_);intro e w2 k2;obtain ⟨g2,l2,K2,rfl,a4,a5,a6⟩:=k2.open_))
    | (go_at_call 69;((with_reducible refine (HJ.out w1 g1 l1 K1 w2 g2 l2 K2 a1 a2 a3 a4 a5 a6).mono ?_);rintro e w' ⟨⟨fv,K,rfl,hh⟩,hb2⟩)))
 all_goals
  have H:=hide hh
  clear hh k1 k2 a1 a2 a3 a4 a5 a6
  go_wp2
  go_ret
  exact ⟨fv,K,rfl,H.out⟩
theorem expected_5 (n:Nat) (h1:1≤n) (h2:n≤4096):Calls Tryz.prog 37 #[.agg #[.int .i64 5,.int .i64 vs,.slice HA rs.length hc,.int .i64 (n:Int)]] w (GaveSeq P ((List.range rs.length).flatMap (rgE false rs)++(((List.range n).flatMap fun (i:Nat)=>(8,(i:Int),0)::(List.range rs.length).flatMap (rgE true rs))++(((List.range n).flatMap fun (i:Nat)=>[(1,(i:Int),0)])++(pairEv (netw (lg n))++[])))) w):=by
 obtain ⟨w0,hw0⟩:∃ w0,w0=w.alloc (.cells #[.int .i64 5,.int .i64 vs,.slice HA rs.length hc,.int .i64 (n:Int)] 24):=⟨_,rfl⟩
 have hb0:Below w.heap.size w w0:=by rw [hw0];exact bA
 have N0:Blk w0 w.heap.size 24 #[.int .i64 5,.int .i64 vs,.slice HA rs.length hc,.int .i64 (n:Int)]:=by rw [hw0];exact Blk.new _ _ _
 have c0:=N0.cell (i:=0) rfl
 have c2:=N0.cell (i:=2) rfl
 have hP0:∀ k,P k→k<w0.heap.size:=fun k hk=>Nat.lt_of_lt_of_le (hP k hk) hb0.size
 have HR:=hide (fun (loc:Bool) (w':World) (hb:Below w0.heap.size w0 w')=>tregions_any P rs HA hc loc w' hlen hok (fun k hk=>Nat.lt_of_lt_of_le (hP0 k hk) hb.size) (hs.kept ((KeepP.of_below hb0 hP).trans (KeepP.of_below hb hP0))))
 have HF:=hide (HR.out false)
 have HT:=hide (HR.out true w0 (Below.refl _ _))
 have HPR:=hide (fun w=>tpairs_any n w h1 h2)
 obtain ⟨e1,he1⟩:∃ e1,e1=(List.range rs.length).flatMap (rgE false rs):=⟨_,rfl⟩
 obtain ⟨e2,he2⟩:∃ e2,e2=(List.range rs.length).flatMap (rgE true rs):=⟨_,rfl⟩
 rw [← he1,← he2]
 rw [← he1] at HF
 rw [← he2] at HT
 obtain ⟨e3,he3⟩:∃ e3,e3=(List.range n).flatMap fun (i:Nat)=>((8,(i:Int),0):Ev)::e2:=⟨_,rfl⟩
 obtain ⟨e4,he4⟩:∃ e4,e4=(List.range n).flatMap fun (i:Nat)=>[((1,(i:Int),0):Ev)]:=⟨_,rfl⟩
 obtain ⟨e5,he5⟩:∃ e5,e5=pairEv (netw (lg n)):=⟨_,rfl⟩
 rw [← he3,← he4,← he5]
 rw [← he5] at HPR
 have HD3:=hide he3
 have HD4:=hide he4
 clear he3 he4 he5
 have HP0:=hide hP0
 have HB0:=hide hb0
 have H2:=hide h2
 have HN:=hide N0
 clear N0 he1 he2 hb0 hP0 hP hs hlen hok HR h2
 rw [hw0] at c0 c2 HT
 go_enter Tryz.func37,Tryz.ntmps37
 go_wp2_with fail
 refine HT.out.mono ?_
 rw [← hw0]
 intro e w1 k1
 obtain ⟨gm,lm,Km,rfl,a1,a2,a3⟩:=k1.open_
 have HHw:=hide hw0
 clear c0 c2 hw0 HT k1
 obtain ⟨w2,hw2⟩:∃ w2,w2=w1.alloc (.cells #[.func (.func gm) #[] lm] 68):=⟨_,rfl⟩
 have hb2:Below w1.heap.size w1 w2:=by rw [hw2];exact bA
 have hz2:w2.heap.size=w1.heap.size+1:=by rw [hw2];simp
 have N2:Blk w2 w1.heap.size 68 #[.func (.func gm) #[] lm]:=by rw [hw2];exact Blk.new _ _ _
 have HK1:Hid (∀ k,Km k→k<w1.heap.size):=hide fun k hk=>by
  rcases a2 k hk with h | h
  · have:=HP0.out k h;have:=a1.size;omega
  · exact h.2
 have hev2:EvSeq Km (.func (.func gm) #[] lm) e2 w2:=a3.kept (KeepP.of_below hb2 HK1.out)
 have RI:=repeat_any (fun k=>Km k∨k=w1.heap.size) (fun (i:Nat)=>(8,(i:Int),0)::e2) n 74 #[.pointer (some ⟨w1.heap.size,0,none⟩)] w2 (fun k hk=>by rcases hk with hk | hk;have:=HK1.out k hk;omega;omega) (by have:=H2.out;omega) (enters_of Tryz.func74 (by kernel_rfl) rfl)
  (fun i _ X hX=>(expected1 i w1.heap.size gm lm Km e2 X (fun k hk=>by have:=HK1.out k hk;have:=hX.size;omega) (hev2.kept (hX.mono fun k h=>.inl h)) (N2.kept hX (.inr rfl))).mono fun e w' h=>h.mono fun k hk=>.inl hk)
 rw [← HD3.out] at RI
 have HRI:=hide RI
 have HB2:=hide (bl_step a1 hb2)
 have m2:=(HN.out.step a1).step hb2
 have d3:=m2.cell (i:=3) rfl
 have HM2:=hide m2
 have HKm:Hid (∀ k,Km k∨k=w1.heap.size→P k∨w0.heap.size≤k∧k<w2.heap.size):=hide fun k hk=>by
  have z1:=a1.size
  rcases hk with hk | hk
  · rcases a2 k hk with h | h
    · exact .inl h
    · exact .inr (by omega)
  · exact .inr (by omega)
 clear a1 a2 a3 hb2 hz2 N2 hev2 RI m2 HN
 rw [hw2] at d3 HRI
 go_wp2_with fail
 refine HRI.out.mono ?_
 rw [← hw2]
 intro e w3 k3
 obtain ⟨g3,l3,K3,rfl,b1,b2,b3⟩:=k3.open_
 have HB3:=hide (bl_step HB2.out b1)
 have m3:=HM2.out.step b1
 have d3:=m3.cell (i:=3) rfl
 have HM3:=hide m3
 have HK3:Hid (∀ k,K3 k→P k∨w0.heap.size≤k∧k<w3.heap.size):=hide fun k hk=>by
  have z1:=b1.size
  have z2:=HB2.out.size
  rcases b2 k hk with h | h
  · rcases HKm.out k h with h | h
    · exact .inl h
    · exact .inr (by omega)
  · exact .inr (by omega)
 have HE3:=hide b3
 have R4:=(repeat_any (fun _=>False) (fun (i:Nat)=>[(1,(i:Int),0)]) n 76 #[] w3 (fun k hk=>hk.elim) (by have:=H2.out;omega) (enters_of Tryz.func76 (by kernel_rfl) rfl) (fun i _ X _=>expected2 i X))
 rw [← HD4.out] at R4
 have R4:=hide R4
 clear hw2 k3 b1 b2 b3 m3 HRI HM2
 go_wp2_with fail
 refine R4.out.mono ?_
 intro e w4 k4
 obtain ⟨g4,l4,K4,rfl,b1,b2,b3⟩:=k4.open_
 have HB4:=hide (bl_step HB3.out b1)
 have m4:=HM3.out.step b1
 have h00:HeldX w4 w.heap.size (.int .i64 vs) (.slice HA rs.length hc) (.int .i64 (n:Int)) w4:=⟨Below.refl _ _,m4.cell (i:=1) rfl,m4.cell (i:=2) rfl,m4.cell (i:=3) rfl⟩
 have hd0:=h00.keep (bl_drew (Below.refl _ _))
 have HE4:=hide b3
 have HE3':Hid (EvSeq K3 (.func (.func g3) #[] l3) e3 w4):=hide (HE3.out.kept (KeepP.of_below b1 fun k hk=>by
  rcases HK3.out k hk with h | h
  · have:=HP0.out k h;have:=HB3.out.size;omega
  · omega))
 have HK34:Hid (∀ k,K3 k∨K4 k→P k∨w0.heap.size≤k∧k<w4.heap.size):=hide fun k hk=>by
  have z1:=b1.size
  have z2:=HB3.out.size
  rcases hk with hk | hk
  · rcases HK3.out k hk with h | h
    · exact .inl h
    · exact .inr (by omega)
  · rcases b2 k hk with h | h
    · exact h.elim
    · exact .inr (by omega)
 have HD:Hid (Below w0.heap.size w0 w4.drew):=hide (bl_drew HB4.out)
 have HJ:Hid (∀ (w5:World) (g5:Nat) (l5:Array Value) (K5:Nat→Prop) (w6:World) (g6:Nat) (l6:Array Value) (K6:Nat→Prop),Below w4.drew.heap.size w4.drew w5→(∀ k,K5 k→P k∨w4.drew.heap.size≤k∧k<w5.heap.size)→EvSeq K5 (.func (.func g5) #[] l5) e1 w5 →
  Below w5.heap.size w5 w6→(∀ k,K6 k→False∨w5.heap.size≤k∧k<w6.heap.size)→EvSeq K6 (.func (.func g6) #[] l6) e5 w6 →
  Calls Tryz.prog 69 #[.slice (some ⟨w6.heap.size,0,none⟩) 4 4] (w6.alloc (.cells #[.func (.func g5) #[] l5,.func (.func g3) #[] l3,.func (.func g4) #[] l4,.func (.func g6) #[] l6] 68)) (fun e w'=>GaveSeq P (e1++(e3++(e4++(e5++[])))) w e w'∧Below (w6.alloc (.cells #[.func (.func g5) #[] l5,.func (.func g3) #[] l3,.func (.func g4) #[] l4,.func (.func g6) #[] l6] 68)).heap.size (w6.alloc (.cells #[.func (.func g5) #[] l5,.func (.func g3) #[] l3,.func (.func g4) #[] l4,.func (.func g6) #[] l6] 68)) w')):=hide fun w5 g5 l5 K5 w6 g6 l6 K6 a1 a2 a3 a4 a5 a6=>by
  have z4:w4.drew.heap.size=w4.heap.size:=rfl
  have z5:=a1.size
  have z6:=a4.size
  have z04:=HB4.out.size
  have hb6:Below w4.heap.size w4 w6:=bl_step (below_of_drew a1) a4
  have k34:∀ k,K3 k∨K4 k→k<w4.heap.size:=fun k hk=>by
   rcases HK34.out k hk with h | h
   · have:=HP0.out k h;omega
   · omega
  have k5:∀ k,K5 k→k<w5.heap.size:=fun k hk=>by
   rcases a2 k hk with h | h
   · have:=HP0.out k h;omega
   · omega
  refine (joinN (fun k=>K5 k∨(K3 k∨K4 k)∨K6 k) [(.func (.func g5) #[] l5,e1),(.func (.func g3) #[] l3,e3),(.func (.func g4) #[] l4,e4),(.func (.func g6) #[] l6,e5)] (e1++(e3++(e4++(e5++[])))) w6 4 _ rfl (by decide) rfl (by simp) ?_ ?_).mono fun e w' h=>⟨h.1.back (bl_step HB0.out (bl_step HB4.out hb6)) ?_,h.2⟩
  · rintro k (hk | hk | hk)
    · have:=k5 k hk;omega
    · have:=k34 k hk;omega
    · rcases a5 k hk with h | h
      · exact h.elim
      · omega
  · intro p hp
    rcases List.mem_cons.1 hp with rfl | hp
    · exact (a3.kept (KeepP.of_below a4 k5)).mono fun k h=>.inl h
    · rcases List.mem_cons.1 hp with rfl | hp
      · exact (HE3'.out.kept (KeepP.of_below hb6 fun k h=>k34 k (.inl h))).mono fun k h=>.inr (.inl (.inl h))
      · rcases List.mem_cons.1 hp with rfl | hp
        · exact (HE4.out.kept (KeepP.of_below hb6 fun k h=>k34 k (.inr h))).mono fun k h=>.inr (.inl (.inr h))
        · rw [List.mem_singleton] at hp
          subst hp
          exact a6.mono fun k h=>.inr (.inr h)
  · have z0:=HB0.out.size
    rintro k (hk | hk | hk)
    · rcases a2 k hk with h | h
      · exact .inl h
      · exact .inr (by omega)
    · rcases HK34.out k hk with h | h
      · exact .inl h
      · exact .inr (by omega)
    · rcases a5 k hk with h | h
      · exact h.elim
      · exact .inr (by omega)
 clear k4 b1 b2 b3 m4 d3 R4 HM3 HKm
 go_wp2
 go_region_held3 (fun w'=>Below w4.heap.size w4 w'∧w'.cell? ⟨w.heap.size,1,none⟩=some (.int .i64 vs)∧w'.cell? ⟨w.heap.size,2,none⟩=some (.slice HA rs.length hc)∧w'.cell? ⟨w.heap.size,3,none⟩=some (.int .i64 (n:Int)))
  (first | exact hd0 | exact h00 | exact HeldX.keep (by assumption) (by assumption) | exact HeldX.keep (by assumption) (bA) | exact hd0.keep (by assumption))
  (first
    | (go_at_call 72;((with_reducible refine (HF.out _ HD.out).mono ?_);intro e w5 k5;obtain ⟨g5,l5,K5,rfl,a1,a2,a3⟩:=k5.open_))
    | (go_at_call 77;((with_reducible refine (HPR.out _).mono ?_);intro e w6 k6;obtain ⟨g6,l6,K6,rfl,a4,a5,a6⟩:=k6.open_))
    | (go_at_call 69;((with_reducible refine (HJ.out w5 g5 l5 K5 w6 g6 l6 K6 a1 a2 a3 a4 a5 a6).mono ?_);rintro e w' ⟨⟨fv,K,rfl,hh⟩,hb2⟩)))
 all_goals
  have H:=hide hh
  clear hh k5 k6 a1 a2 a3 a4 a5 a6
  go_wp2
  go_ret
  exact ⟨fv,K,rfl,H.out⟩
end
end
end Go.Proofs.YtfljlmleiggmjaaGreatDoor
