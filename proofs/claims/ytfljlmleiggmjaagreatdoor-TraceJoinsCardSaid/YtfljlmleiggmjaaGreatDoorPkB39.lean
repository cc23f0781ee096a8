/- TraceGen TraceReg -/
import Derived.Test.YtfljlmleiggmjaaGreatDoorPkB28
set_option maxRecDepth 1000000
set_option maxHeartbeats 8000000
namespace Go.Proofs.YtfljlmleiggmjaaGreatDoor
section
open Go.RowKit Go.Shelf
def sV (n i j:Nat):List Ev:=if j=i∨j=(i+1) % n then [] else [(4,(i:Int),(j:Int))]
theorem GaveSeq.back {Kp Kp':Nat→Prop} {es:List Ev} {w w1 w':World} {e:Ending} (h:GaveSeq Kp' es w1 e w') (hb:Below w.heap.size w w1) (hK:∀ k,Kp' k→Kp k∨w.heap.size≤k∧k<w1.heap.size):GaveSeq Kp es w e w':=by
 obtain ⟨fv,K,h1,h2,h3,h4⟩:=h
 have hs:=hb.size
 have hs2:=h2.size
 refine ⟨fv,K,h1,bl_step hb h2,fun k hk=>?_,h4⟩
 rcases h3 k hk with h | ⟨h,h5⟩
 · rcases hK k h with h | ⟨h,h5⟩
   · exact .inl h
   · exact .inr ⟨h,by omega⟩
 · exact .inr ⟨by omega,h5⟩
theorem join_none (w:World):Calls Tryz.prog 69 #[.slice none 0 0] w (GaveSeq (fun _=>False) [] w) :=
 join_any (fun _=>False) none 0 0 [] [] w (fun _ h=>h.elim) rfl rfl (.inl rfl) (fun p h=>by cases h) (by decide)
theorem join2b {Kp K1 K2:Nat→Prop} {g1 g2:Nat} {l1 l2:Array Value} {es1 es2:List Ev} {w0 w1 w2:World} (hKp:∀ k,Kp k→k<w0.heap.size) (hb1:Below w0.heap.size w0 w1) (h1:∀ k,K1 k→Kp k∨w0.heap.size≤k∧k<w1.heap.size) (e1:EvSeq K1 (.func (.func g1) #[] l1) es1 w1)
 (hb2:Below w1.heap.size w1 w2) (h2:∀ k,K2 k→Kp k∨w0.heap.size≤k∧k<w2.heap.size) (e2:EvSeq K2 (.func (.func g2) #[] l2) es2 w2) :
 Calls Tryz.prog 69 #[.slice (some ⟨w2.heap.size,0,none⟩) 2 2] (w2.alloc (.cells #[.func (.func g1) #[] l1,.func (.func g2) #[] l2] 68)) (fun e w'=>GaveSeq Kp (es1++es2) w0 e w'∧Below (w2.alloc (.cells #[.func (.func g1) #[] l1,.func (.func g2) #[] l2] 68)).heap.size (w2.alloc (.cells #[.func (.func g1) #[] l1,.func (.func g2) #[] l2] 68)) w'):=by
 have hb3:=bl_alloc (Below.refl w2.heap.size w2) (.cells #[.func (.func g1) #[] l1,.func (.func g2) #[] l2] 68)
 have N3:=Blk.new w2 68 #[.func (.func g1) #[] l1,.func (.func g2) #[] l2]
 have z1:=hb1.size
 have z2:=hb2.size
 have z3:(w2.alloc (.cells #[.func (.func g1) #[] l1,.func (.func g2) #[] l2] 68)).heap.size=w2.heap.size+1:=by simp
 have k1:∀ k,K1 k→k<w1.heap.size:=fun k hk=>by
  rcases h1 k hk with h | h
  · have:=hKp k h;omega
  · omega
 have k2:∀ k,K2 k→k<w2.heap.size:=fun k hk=>by
  rcases h2 k hk with h | h
  · have:=hKp k h;omega
  · omega
 refine (join_any (fun k=>K1 k∨K2 k∨k=w2.heap.size) (some ⟨w2.heap.size,0,none⟩) 2 2 [(.func (.func g1) #[] l1,es1),(.func (.func g2) #[] l2,es2)] (es1++es2) _ ?_ rfl (by simp) ?_ ?_ (by decide)).mono fun e w' h=>⟨h.back (bl_step (bl_step hb1 hb2) hb3) ?_,by obtain ⟨_,_,_,h,_⟩:=h;exact h⟩
 · rintro k (h | h | h)
   · have:=k1 k h;omega
   · have:=k2 k h;omega
   · omega
 · exact .inr ⟨w2.heap.size,0,rfl,.inr (.inr rfl),fun j u hu=>by rw [Nat.zero_add];exact N3.cell (by simpa using hu)⟩
 · intro p hp
   rcases List.mem_cons.1 hp with rfl | hp
   · exact (e1.kept (KeepP.of_below (bl_step hb2 hb3) k1)).mono fun k h=>.inl h
   · rw [List.mem_singleton] at hp
     subst hp
     exact (e2.kept (KeepP.of_below hb3 k2)).mono fun k h=>.inr (.inl h)
 · rintro k (h | h | h)
   · rcases h1 k h with h | h
     · exact .inl h
     · exact .inr (by omega)
   · rcases h2 k h with h | h
     · exact .inl h
     · exact .inr (by omega)
   · exact .inr (by omega)
theorem join2 {Kp K1 K2:Nat→Prop} {g1 g2:Nat} {l1 l2:Array Value} {es1 es2:List Ev} {w0 w1 w2:World} (hKp:∀ k,Kp k→k<w0.heap.size) (hb1:Below w0.heap.size w0 w1) (h1:∀ k,K1 k→Kp k∨w0.heap.size≤k∧k<w1.heap.size) (e1:EvSeq K1 (.func (.func g1) #[] l1) es1 w1)
 (hb2:Below w1.heap.size w1 w2) (h2:∀ k,K2 k→Kp k∨w0.heap.size≤k∧k<w2.heap.size) (e2:EvSeq K2 (.func (.func g2) #[] l2) es2 w2) :
 Calls Tryz.prog 69 #[.slice (some ⟨w2.heap.size,0,none⟩) 2 2] (w2.alloc (.cells #[.func (.func g1) #[] l1,.func (.func g2) #[] l2] 68)) (GaveSeq Kp (es1++es2) w0) :=
 (join2b hKp hb1 h1 e1 hb2 h2 e2).mono fun _ _ h=>h.1
theorem valid11 (n i j bi b0:Nat) (W:World) (hn:3≤n) (hn2:n≤10000) (hi:i<n) (_hj:j<n) (B1:Blk W bi 3 #[.int .i64 (i:Int)]) (B0:Blk W b0 3 #[.int .i64 (n:Int)]) :
 Calls Tryz.prog 120 #[.int .i64 (j:Int),.pointer (some ⟨bi,0,none⟩),.pointer (some ⟨b0,0,none⟩)] W (GaveSeq (fun _=>False) (sV n i j) W):=by
 have c1:=B1.cell (i:=0) rfl
 have c0:=B0.cell (i:=0) rfl
 have HJ:=hide (fun w=>join_none w)
 have HO:=hide (fun w=>one_any 4 (i:Int) (j:Int) w (by unfold I64w;omega))
 have hm:((i:Int)+1) % (n:Int)=(((i+1) % n:Nat):Int):=rfl
 have hml:(i+1) % n<n:=Nat.mod_lt _ (by omega)
 unfold sV
 obtain ⟨nx,hnx⟩:∃ nx,nx=(i+1) % n:=⟨_,rfl⟩
 rw [← hnx] at hm hml ⊢
 have hn0:¬ (n:Int)=0:=by omega
 clear hnx
 by_cases h1:j=i
 · rw [if_pos (.inl h1)]
   have g1:(j:Int)=(i:Int):=by omega
   clear h1 HO
   go_enter Tryz.func120,Tryz.ntmps120
   go_wp2_with fail
   refine (HJ.out _).mono ?_
   rintro e w' ⟨fv,K,rfl,h⟩
   have H:=hide h
   clear h
   go_wp2
   go_ret
   exact ⟨fv,K,rfl,H.out⟩
 · have g1:¬ (j:Int)=(i:Int):=by omega
   by_cases h2:j=nx
   · rw [if_pos (.inr h2)]
     have g2:(j:Int)=(nx:Int):=by omega
     clear h1 h2 HO
     go_enter Tryz.func120,Tryz.ntmps120
     go_wp2_with fail
     refine (HJ.out _).mono ?_
     rintro e w' ⟨fv,K,rfl,h⟩
     have H:=hide h
     clear h
     go_wp2
     go_ret
     exact ⟨fv,K,rfl,H.out⟩
   · rw [if_neg (by omega)]
     have g2:¬ (j:Int)=(nx:Int):=by omega
     have e1:((j:Int) == (i:Int))=false:=by simpa using g1
     have e2:((j:Int) == (nx:Int))=false:=by simpa using g2
     clear h1 h2 HJ
     go_enter Tryz.func120,Tryz.ntmps120
     go_wp2_with fail
     refine (HO.out _).mono ?_
     rintro e w' ⟨fv,K,rfl,h⟩
     have H:=hide h
     clear h
     go_wp2
     go_ret
     exact ⟨fv,K,rfl,H.out⟩
theorem valid1 (n i b0:Nat) (W:World) (hn:3≤n) (hn2:n≤10000) (hi:i<n) (B0:Blk W b0 3 #[.int .i64 (n:Int)]) :
 Calls Tryz.prog 119 #[.int .i64 (i:Int),.pointer (some ⟨b0,0,none⟩)] W (GaveSeq (fun k=>k=b0) ((List.range n).flatMap (sV n i)) W):=by
 have hlt:=B0.lt
 obtain ⟨W1,hW1⟩:∃ W1,W1=W.alloc (.cells #[.int .i64 (i:Int)] 3):=⟨_,rfl⟩
 have hb:Below W.heap.size W W1:=by rw [hW1];exact bA
 have hz:W1.heap.size=W.heap.size+1:=by rw [hW1];simp
 have B1:Blk W1 W.heap.size 3 #[.int .i64 (i:Int)]:=by rw [hW1];exact Blk.new _ _ _
 have B01:=B0.step hb
 have c0:=B01.cell (i:=0) rfl
 have R:=repeat_any (fun k=>k=W.heap.size∨k=b0) (sV n i) n 120 #[.pointer (some ⟨W.heap.size,0,none⟩),.pointer (some ⟨b0,0,none⟩)] W1 (fun k hk=>by omega) (by omega) (enters_of Tryz.func120 (by kernel_rfl) rfl)
  (fun j hj X hX=>(valid11 n i j W.heap.size b0 X hn hn2 hi hj (B1.kept hX (.inl rfl)) (B01.kept hX (.inr rfl))).mono fun e w' h=>h.mono fun k hk=>hk.elim)
 have HR:=hide R
 have HB:=hide hb
 have HZ:=hide hz
 clear R B1 B01 B0 hb hz
 rw [hW1] at c0 HR
 go_enter Tryz.func119,Tryz.ntmps119
 go_wp2_with fail
 refine HR.out.mono ?_
 rw [← hW1]
 intro e w' h
 obtain ⟨fv,K,rfl,h2⟩:=GaveSeq.back (Kp:=fun k=>k=b0) h HB.out (fun k hk=>by have:=HZ.out;omega)
 have H:=hide h2
 clear h2
 go_wp2
 go_ret
 exact ⟨fv,K,rfl,H.out⟩
theorem tvalid_any (n:Nat) (w:World) (hn:3≤n) (hn2:n≤10000):Calls Tryz.prog 70 #[.int .i64 (n:Int)] w (GaveSeq (fun _=>False) ((List.range n).flatMap fun i=>(List.range n).flatMap (sV n i)) w):=by
 obtain ⟨W1,hW1⟩:∃ W1,W1=w.alloc (.cells #[.int .i64 (n:Int)] 3):=⟨_,rfl⟩
 have hb:Below w.heap.size w W1:=by rw [hW1];exact bA
 have hz:W1.heap.size=w.heap.size+1:=by rw [hW1];simp
 have B0:Blk W1 w.heap.size 3 #[.int .i64 (n:Int)]:=by rw [hW1];exact Blk.new _ _ _
 have c0:=B0.cell (i:=0) rfl
 have R:=repeat_any (fun k=>k=w.heap.size) (fun i=>(List.range n).flatMap (sV n i)) n 119 #[.pointer (some ⟨w.heap.size,0,none⟩)] W1 (fun k hk=>by omega) (by omega) (enters_of Tryz.func119 (by kernel_rfl) rfl)
  (fun i hi X hX=>valid1 n i w.heap.size X hn hn2 hi (B0.kept hX rfl))
 have HR:=hide R
 have HB:=hide hb
 have HZ:=hide hz
 clear R B0 hb hz
 rw [hW1] at c0 HR
 go_enter Tryz.func70,Tryz.ntmps70
 go_wp2_with fail
 refine HR.out.mono ?_
 rw [← hW1]
 intro e w' h
 obtain ⟨fv,K,rfl,h2⟩:=GaveSeq.back (Kp:=fun _=>False) h HB.out (fun k hk=>by have:=HZ.out;omega)
 have H:=hide h2
 clear h2
 go_wp2
 go_ret
 exact ⟨fv,K,rfl,H.out⟩
theorem locate1 (i:Nat) (W:World):Calls Tryz.prog 121 #[.int .i64 (i:Int)] W (GaveSeq (fun _=>False) [(5,(i:Int),0)] W):=by
 have HO:=hide (one_any 5 (i:Int) 0 W (by unfold I64w;omega))
 go_enter Tryz.func121,Tryz.ntmps121
 go_wp2_with fail
 refine HO.out.mono ?_
 rintro e w' ⟨fv,K,rfl,h⟩
 have H:=hide h
 clear h
 go_wp2
 go_ret
 exact ⟨fv,K,rfl,H.out⟩
theorem tlocate_any (n:Nat) (w:World) (hn2:n≤10000):Calls Tryz.prog 71 #[.int .i64 (n:Int)] w (GaveSeq (fun _=>False) ((List.range n).flatMap fun (i:Nat)=>[(5,(i:Int),0)]) w):=by
 have HR:=hide (repeat_any (fun _=>False) (fun (i:Nat)=>[(5,(i:Int),0)]) n 121 #[] w (fun k hk=>hk.elim) (by omega) (enters_of Tryz.func121 (by kernel_rfl) rfl) (fun i _ X _=>locate1 i X))
 go_enter Tryz.func71,Tryz.ntmps71
 go_wp2_with fail
 refine HR.out.mono ?_
 rintro e w' ⟨fv,K,rfl,h⟩
 have H:=hide h
 clear h
 go_wp2
 go_ret
 exact ⟨fv,K,rfl,H.out⟩
end
section
open Go.RowKit Go.Shelf
def vAt (rs:List Rg) (j:Nat):Int:=(rs[j]?.map (·.v)).getD 0
theorem vAt_get {rs:List Rg} {j:Nat} {r:Rg} (h:rs[j]?=some r):vAt rs j=r.v:=by unfold vAt;rw [h];rfl
theorem vAt_ok {rs:List Rg} (h:∀ r∈rs,r.v=0∨3≤r.v∧r.v≤64) (j:Nat):vAt rs j=0∨3≤vAt rs j∧vAt rs j≤64:=by
 unfold vAt
 cases hj:rs[j]? with
 | none=>exact .inl rfl
 | some r=>exact h r (List.mem_of_getElem? hj)
def rE (loc:Bool) (v:Int):List Ev:=if v=0 then (bif loc then [(6,0,0)] else [(4,0,2)]) else (bif loc then ((List.range v.toNat).flatMap fun (i:Nat)=>[(5,(i:Int),0)]) else ((List.range v.toNat).flatMap fun i=>(List.range v.toNat).flatMap (sV v.toNat i)))
def rgE (loc:Bool) (rs:List Rg) (i:Nat):List Ev:=(7,(i:Int),bif loc then 1 else 0)::rE loc (vAt rs i)
theorem GaveSeq.open_ {Kp:Nat→Prop} {es:List Ev} {w w':World} {e:Ending} (h:GaveSeq Kp es w e w'):∃ g l K,e=.returned (.func (.func g) #[] l)∧Below w.heap.size w w'∧(∀ k,K k→Kp k∨w.heap.size≤k∧k<w'.heap.size)∧EvSeq K (.func (.func g) #[] l) es w':=by
 obtain ⟨fv,K,h1,h2,h3,g,l,rfl,h5⟩:=h
 exact ⟨g,l,K,h1,h2,h3,g,l,rfl,h5⟩
section
variable (P:Nat→Prop) (rs:List Rg) (HA:Option Addr) (hc:Nat)
theorem regions1 (loc:Bool) (i b0 b1:Nat) (W:World) (hi:i<rs.length) (hok:∀ r∈rs,r.v=0∨3≤r.v∧r.v≤64) (hs:Sl W W.heap.size HA (rgCells rs)) (B0:Blk W b0 22 #[.slice HA rs.length hc]) (B1:Blk W b1 4 #[.bool loc]) :
 Calls Tryz.prog 122 #[.int .i64 (i:Int),.pointer (some ⟨b0,0,none⟩),.pointer (some ⟨b1,0,none⟩)] W (GaveSeq (fun _=>False) (rgE loc rs i) W):=by
 obtain ⟨r,hr⟩:∃ r,rs[i]?=some r:=⟨_,List.getElem?_eq_getElem hi⟩
 obtain ⟨b,off,hA,hB,q0,q1,q2⟩:=hs.rg hr
 have hv:=hok r (List.mem_of_getElem? hr)
 have hva:=vAt_get hr
 have c0:=B0.cell (i:=0) rfl
 have c1:=B1.cell (i:=0) rfl
 have hii:(i:Int)<(rs.length:Int):=by omega
 have hi0:¬ (i:Int)<0:=by omega
 subst hA
 obtain ⟨d,v,RA,rn,rc⟩:=r
 dsimp only at q0 q1 q2 hv hva
 unfold rgE
 rw [hva]
 have HO:=hide (fun k a b w (hk:I64w k)=>one_any k a b w hk)
 clear B0 B1 hs hr hok hva q0 q2
 by_cases hv0:v=0
 · subst hv0
   unfold rE
   rw [if_pos rfl]
   cases loc with
   | true =>
     dsimp only [cond_true]
     go_enter Tryz.func122,Tryz.ntmps122
     go_wp2_with fail
     refine (HO.out 7 (i:Int) 1 _ (by unfold I64w;omega)).mono ?_
     intro e w1 h
     obtain ⟨g1,l1,K1,rfl,hb1,hk1,he1⟩:=h.open_
     have HB1:=hide hb1;have HK1:=hide hk1;have HE1:=hide he1
     clear h hb1 hk1 he1
     go_wp2_with fail
     refine (HO.out 6 0 0 _ (by unfold I64w;omega)).mono ?_
     intro e w2 h
     obtain ⟨g2,l2,K2,rfl,hb2,hk2,he2⟩:=h.open_
     have J:=hide (join2 (fun k h=>h.elim) HB1.out HK1.out HE1.out hb2 (fun k hk=>(hk2 k hk).imp id fun h=>⟨Nat.le_trans HB1.out.size h.1,h.2⟩) he2)
     clear h hb2 hk2 he2
     go_wp2_with fail
     refine J.out.mono ?_
     rintro e w' ⟨fv,K,rfl,h2⟩
     have H:=hide h2
     clear h2
     go_wp2
     go_ret
     exact ⟨fv,K,rfl,H.out⟩
   | false =>
     dsimp only [cond_false]
     go_enter Tryz.func122,Tryz.ntmps122
     go_wp2_with fail
     refine (HO.out 7 (i:Int) 0 _ (by unfold I64w;omega)).mono ?_
     intro e w1 h
     obtain ⟨g1,l1,K1,rfl,hb1,hk1,he1⟩:=h.open_
     have HB1:=hide hb1;have HK1:=hide hk1;have HE1:=hide he1
     clear h hb1 hk1 he1
     go_wp2_with fail
     refine (HO.out 4 0 2 _ (by unfold I64w;omega)).mono ?_
     intro e w2 h
     obtain ⟨g2,l2,K2,rfl,hb2,hk2,he2⟩:=h.open_
     have J:=hide (join2 (fun k h=>h.elim) HB1.out HK1.out HE1.out hb2 (fun k hk=>(hk2 k hk).imp id fun h=>⟨Nat.le_trans HB1.out.size h.1,h.2⟩) he2)
     clear h hb2 hk2 he2
     go_wp2_with fail
     refine J.out.mono ?_
     rintro e w' ⟨fv,K,rfl,h2⟩
     have H:=hide h2
     clear h2
     go_wp2
     go_ret
     exact ⟨fv,K,rfl,H.out⟩
 · have hvr:3≤v∧v≤64:=by omega
   obtain ⟨n,rfl⟩:∃ n:Nat,v=(n:Int):=⟨v.toNat,by omega⟩
   unfold rE
   rw [if_neg hv0,Int.toNat_natCast]
   have HV:=hide (fun w=>tvalid_any n w (by omega) (by omega))
   have HL:=hide (fun w=>tlocate_any n w (by omega))
   clear hv hvr
   have hne:((n:Int) == 0)=false:=by simpa using hv0
   cases loc with
   | true =>
     dsimp only [cond_true]
     clear HV
     go_enter Tryz.func122,Tryz.ntmps122
     go_wp2_with fail
     refine (HO.out 7 (i:Int) 1 _ (by unfold I64w;omega)).mono ?_
     intro e w1 h
     obtain ⟨g1,l1,K1,rfl,hb1,hk1,he1⟩:=h.open_
     have HB1:=hide hb1;have HK1:=hide hk1;have HE1:=hide he1
     clear h hb1 hk1 he1
     go_wp2_with fail
     refine (HL.out _).mono ?_
     intro e w2 h
     obtain ⟨g2,l2,K2,rfl,hb2,hk2,he2⟩:=h.open_
     have J:=hide (join2 (fun k h=>h.elim) HB1.out HK1.out HE1.out hb2 (fun k hk=>(hk2 k hk).imp id fun h=>⟨Nat.le_trans HB1.out.size h.1,h.2⟩) he2)
     clear h hb2 hk2 he2
     go_wp2_with fail
     refine J.out.mono ?_
     rintro e w' ⟨fv,K,rfl,h2⟩
     have H:=hide h2
     clear h2
     go_wp2
     go_ret
     exact ⟨fv,K,rfl,H.out⟩
   | false =>
     dsimp only [cond_false]
     clear HL
     go_enter Tryz.func122,Tryz.ntmps122
     go_wp2_with fail
     refine (HO.out 7 (i:Int) 0 _ (by unfold I64w;omega)).mono ?_
     intro e w1 h
     obtain ⟨g1,l1,K1,rfl,hb1,hk1,he1⟩:=h.open_
     have HB1:=hide hb1;have HK1:=hide hk1;have HE1:=hide he1
     clear h hb1 hk1 he1
     go_wp2_with fail
     refine (HV.out _).mono ?_
     intro e w2 h
     obtain ⟨g2,l2,K2,rfl,hb2,hk2,he2⟩:=h.open_
     have J:=hide (join2 (fun k h=>h.elim) HB1.out HK1.out HE1.out hb2 (fun k hk=>(hk2 k hk).imp id fun h=>⟨Nat.le_trans HB1.out.size h.1,h.2⟩) he2)
     clear h hb2 hk2 he2
     go_wp2_with fail
     refine J.out.mono ?_
     rintro e w' ⟨fv,K,rfl,h2⟩
     have H:=hide h2
     clear h2
     go_wp2
     go_ret
     exact ⟨fv,K,rfl,H.out⟩
theorem tregions_any (loc:Bool) (w:World) (hlen:rs.length≤1000) (hok:∀ r∈rs,r.v=0∨3≤r.v∧r.v≤64) (hP:∀ k,P k→k<w.heap.size) (hs:SlP w P HA (rgCells rs)) :
 Calls Tryz.prog 72 #[.slice HA rs.length hc,.bool loc] w (GaveSeq P ((List.range rs.length).flatMap (rgE loc rs)) w):=by
 obtain ⟨W1,hW1⟩:∃ W1,W1=(w.alloc (.cells #[.slice HA rs.length hc] 22)).alloc (.cells #[.bool loc] 4):=⟨_,rfl⟩
 have hb:Below w.heap.size w W1:=by rw [hW1];exact bl_alloc (bA) _
 have hz:W1.heap.size=w.heap.size+2:=by rw [hW1];simp
 have B0:Blk W1 w.heap.size 22 #[.slice HA rs.length hc]:=by rw [hW1];exact (Blk.new _ _ _).alloc _
 have B1:Blk W1 (w.heap.size+1) 4 #[.bool loc]:=by rw [hW1];exact Blk.new2 _ _ _ _
 have c0:=B0.cell (i:=0) rfl
 have hs1:=hs.kept (KeepP.of_below hb hP)
 have R:=repeat_any (fun k=>P k∨k=w.heap.size∨k=w.heap.size+1) (rgE loc rs) rs.length 122 #[.pointer (some ⟨w.heap.size,0,none⟩),.pointer (some ⟨w.heap.size+1,0,none⟩)] W1 (fun k hk=>by rcases hk with hk | hk;have:=hP k hk;omega;omega) (by omega) (enters_of Tryz.func122 (by kernel_rfl) rfl)
  (fun i hi X hX=>(regions1 rs HA hc loc i w.heap.size (w.heap.size+1) X hi hok ((hs1.kept (hX.mono fun k h=>.inl h)).sl fun k hk=>by have:=hP k hk;have:=hX.size;omega) (B0.kept hX (.inr (.inl rfl))) (B1.kept hX (.inr (.inr rfl)))).mono fun e w' h=>h.mono fun k hk=>hk.elim)
 have HR:=hide R
 have HB:=hide hb
 have HZ:=hide hz
 clear R B0 B1 hb hz hs1 hs hP hok
 rw [hW1] at c0 HR
 go_enter Tryz.func72,Tryz.ntmps72
 go_wp2_with fail
 refine HR.out.mono ?_
 rw [← hW1]
 intro e w' h
 obtain ⟨fv,K,rfl,h2⟩:=GaveSeq.back (Kp:=P) h HB.out (fun k hk=>by have:=HZ.out;rcases hk with hk | hk;exact .inl hk;exact .inr (by omega))
 have H:=hide h2
 clear h2
 go_wp2
 go_ret
 exact ⟨fv,K,rfl,H.out⟩
end
end
end Go.Proofs.YtfljlmleiggmjaaGreatDoor
