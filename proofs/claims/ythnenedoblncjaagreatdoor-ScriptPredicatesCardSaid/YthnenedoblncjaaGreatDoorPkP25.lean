/- Valid -/
import Derived.ChangeAlike
import Derived.Scope
import Derived.Test.YthnenedoblncjaaGreatDoorPkP24
set_option maxRecDepth 1000000
set_option maxHeartbeats 8000000
namespace Go.Proofs.YthnenedoblncjaaGreatDoor
open List (getElem_toArray getElem_cons_succ getElem_cons_zero setIfInBounds_toArray set_cons_zero set_cons_succ)
section
open Go.RowKit Go.Shelf
attribute [local go_sem] Oper.semAt_some
section
variable {F:Fence} {n:Nat} {P:Program} {b:Frame} {a:Act} {k:List Item} {cs:List Frame} {w:World} {Q:Exit→Act→World→Prop}
theorem stepR_scope {c:Code}:step P (lone (b.atR a (.code (.scope c)::k)) cs w)=.next (lone (b.atR a (.code c::.inScope c::k)) cs w) :=
 step_lone_go (by simp [stepG,stepG.exec,Frame.atR])
theorem stepR_inScope {c:Code}:step P (lone (b.atR a (.inScope c::k)) cs w)=.next (lone (b.atR a k) cs w) :=
 step_lone_go (by simp [stepG,stepG.exec,Frame.atR])
theorem wpIn_scope_straight {c:Code} (h:c.wpIn F n P (Exit.noGoto Q) a w):(Code.scope c).wpIn F n P Q a w:=by
 intro b k cs hro hb hr
 have h0:(lone (b.atR a (.code (.scope c)::k)) cs w).fenced P F:=fenced_calm hb hr rfl
 obtain ⟨e,a₁,w₁,hq,harr⟩:=h b (.inScope c::k) cs hro hb hr
 cases e with
 | normal=>exact ⟨.normal,a₁,w₁,hq,.head h0 stepR_scope (StepsIn.trans harr (.one (fenced_calm hb hr rfl) stepR_inScope))⟩
 | exit id =>
   have hx:exitTo id (.inScope c::k)=exitTo id k:=by simp [exitTo]
   exact ⟨.exit id,a₁,w₁,hq,fun k' hk=>.head h0 stepR_scope (harr.1 k' (by rw [hx];exact hk)),
    fun hr' hk=>let ⟨k₁,h1,h2⟩:=harr.2 hr' (by rw [hx];exact hk);⟨k₁,h1,.head h0 stepR_scope h2⟩⟩
 | goto l=>exact hq.elim
 | ret=>exact ⟨_,a₁,w₁,hq,.of_steps (.one h0 stepR_scope) harr⟩
 | panic ch=>exact ⟨_,a₁,w₁,hq,.of_steps (.one h0 stepR_scope) harr⟩
 | outgrown=>exact ⟨_,a₁,w₁,hq,.of_steps (.one h0 stepR_scope) harr⟩
end
theorem msk_and (a b:Bool):bits BinOp.and IntKind.u64 (msk a) (msk b)=msk (a && b):=by cases a <;> cases b <;> decide
theorem msk_not (a:Bool):bits BinOp.xor IntKind.u64 IntKind.u64.max (msk a)=msk (!a):=by cases a <;> decide
def okE (s:Int) (ps:List Pt) (i j:Nat):Bool :=
 decide (j=i) || decide (j=(i+1) % ps.length) || decide ((orientD (ptAt ps i) (ptAt ps ((i+1) % ps.length)) (ptAt ps j)).sign=s)
def innerF (s:Int) (ps:List Pt) (i:Nat) (v:Bool) (k:Nat):Bool:=(List.range k).foldl (fun v j=>v && okE s ps i j) v
theorem innerF_succ (s:Int) (ps:List Pt) (i:Nat) (v:Bool) (k:Nat):innerF s ps i v (k+1)=(innerF s ps i v k && okE s ps i k):=by
 simp [innerF,List.range_succ]
def vF (s:Int) (ps:List Pt) (pre:List Nat):Bool:=pre.foldl (fun v i=>innerF s ps i v ps.length) (!decide (s=0))
theorem vF_snoc (s:Int) (ps:List Pt) (pre:List Nat) (i:Nat):vF s ps (pre++[i])=innerF s ps i (vF s ps pre) ps.length:=by simp [vF]
def validV (ps:List Pt):Bool:=vF (orientV ps) ps (List.range (edgeN ps.length))
theorem xor_self_iff {a b:Int} (h0:0≤a) (h1:a<18446744073709551616) (h2:0≤b) (h3:b<18446744073709551616):0≤bits BinOp.xor IntKind.u64 a b∧bits BinOp.xor IntKind.u64 a b<18446744073709551616∧(bits BinOp.xor IntKind.u64 a b=0 ↔ a=b):=by
 rw [u64_xor a b h0 h1 h2 h3]
 have hx:a.toNat ^^^ b.toNat<2 ^ 64:=Nat.xor_lt_two_pow (by omega) (by omega)
 refine ⟨by omega,by omega,?_⟩
 constructor
 · intro h
   have h':a.toNat ^^^ b.toNat=0:=by omega
   have e:b.toNat=a.toNat ^^^ (a.toNat ^^^ b.toNat):=by rw [← Nat.xor_assoc,Nat.xor_self,Nat.zero_xor]
   rw [h',Nat.xor_zero] at e
   omega
 · rintro rfl
   simp
theorem equal_any (a b:Int) (h0:0≤a) (h1:a<18446744073709551616) (h2:0≤b) (h3:b<18446744073709551616) (w:World):Calls Tryz.prog 260 #[.int .u64 a,.int .u64 b] w fun e w'=>e=.returned (.int .u64 (msk (decide (a=b))))∧w=w':=by
 obtain ⟨x0,x1,x2⟩:=xor_self_iff h0 h1 h2 h3
 have HZ:=hide (zero_any (bits BinOp.xor IntKind.u64 a b) x0 x1 w)
 have e:decide (bits BinOp.xor IntKind.u64 a b=0)=decide (a=b):=by simp only [x2]
 rw [e] at HZ
 clear e x2 x0 x1
 go_enter Tryz.func260,Tryz.ntmps260
 go_wp2_with fail
 refine HZ.out.mono ?_
 rintro e w' ⟨rfl,rfl⟩
 go_wp2
 go_ret
 exact ⟨rfl,rfl⟩
theorem wrap_sign {x y:Int} (hx:x=-1∨x=0∨x=1) (hy:y=-1∨y=0∨y=1):(0≤IntKind.u64.wrap x∧IntKind.u64.wrap x<18446744073709551616)∧decide (IntKind.u64.wrap x=IntKind.u64.wrap y)=decide (x=y):=by
 rcases hx with rfl | rfl | rfl <;> rcases hy with rfl | rfl | rfl <;> decide
theorem equal_sign (x y:Int) (hx:x=-1∨x=0∨x=1) (hy:y=-1∨y=0∨y=1) (w:World):Calls Tryz.prog 260 #[.int .u64 (IntKind.u64.wrap x),.int .u64 (IntKind.u64.wrap y)] w fun e w'=>e=.returned (.int .u64 (msk (decide (x=y))))∧w=w':=by
 have h:=equal_any _ _ (wrap_sign hx hx).1.1 (wrap_sign hx hx).1.2 (wrap_sign hy hy).1.1 (wrap_sign hy hy).1.2 w
 rw [(wrap_sign hx hy).2] at h
 exact h
theorem orientV_bd (ps:List Pt):orientV ps=-1∨orientV ps=0∨orientV ps=1:=by
 rw [← orientV_sign];exact sign_bd _
def evI (x nx k:Nat):List Ev:=((List.range k).filter fun j=>!(decide (j=x) || decide (j=nx))).map fun (j:Nat)=>(4,(x:Int),(j:Int))
theorem evI_same {x nx k:Nat} (h:k=x∨k=nx):evI x nx (k+1)=evI x nx k:=by
 unfold evI
 rw [List.range_succ,List.filter_append]
 have e:(!(decide (k=x) || decide (k=nx)))=false:=by rcases h with h | h <;> simp [h]
 simp [List.filter,e]
theorem evI_next {x nx k:Nat} (h:k≠x) (h':k≠nx):evI x nx (k+1)=evI x nx k++[(4,(x:Int),(k:Int))]:=by
 unfold evI
 rw [List.range_succ,List.filter_append]
 simp [List.filter,h,h']
theorem evI_length (x nx k:Nat):(evI x nx k).length≤k:=by
 unfold evI
 rw [List.length_map]
 exact Nat.le_trans (List.length_filter_le _ _) (by simp)
def vEv (n:Nat) (pre:List Nat):List Ev:=pre.flatMap fun x=>evI x ((x+1) % n) n
theorem vEv_snoc (n:Nat) (pre:List Nat) (x:Nat):vEv n (pre++[x])=vEv n pre++evI x ((x+1) % n) n:=by simp [vEv]
theorem vEv_length (n:Nat):∀ pre:List Nat,(vEv n pre).length≤pre.length*n
 | []=>by simp [vEv]
 | x::r=>by
   have h1:=vEv_length n r
   have h2:=evI_length x ((x+1) % n) n
   have e:vEv n (x::r)=evI x ((x+1) % n) n++vEv n r:=by simp [vEv]
   rw [e,List.length_append,List.length_cons,Nat.add_mul]
   omega
theorem valid_any (P:Nat→Prop) (t:Option (Nat × Nat)) (es:List Ev) (ps:List Pt) (hps:PsJ ps) (hn:ps.length≤10000) (A:Option Addr) (c:Nat) (w:World) (hP:∀ k,P k→k<w.heap.size) (hg0:P 8) (hs:SlP w P A (ptCs ps)) (hw:MW w) (ht:Tp w P t es) (hl:es.length≤900000) :
 Calls Tryz.prog 192 #[.pointer (tapeA t),.slice A ps.length c] w fun e w'=>e=.returned (.int .u64 (msk (validV ps)))∧KeepP P w w'∧Tp w' P t (es++vEv ps.length (List.range (edgeN ps.length))):=by
 obtain ⟨w0,hw0⟩:∃ w0,w0=(w.alloc (.cells #[.pointer (tapeA t)] 193)).alloc (.cells #[.slice A ps.length c] 36):=⟨_,rfl⟩
 have hb0:Below w.heap.size w w0:=by rw [hw0];exact bl_alloc (bA) _
 have T0:Blk w0 w.heap.size 193 #[.pointer (tapeA t)]:=by rw [hw0];exact (Blk.new _ _ _).alloc _
 have P0:Blk w0 (w.heap.size+1) 36 #[.slice A ps.length c]:=by rw [hw0];exact Blk.new2 _ _ _ _
 have HOR:=hide (orientation_any ps hps hn A c w0 (((hs.sl hP).below hb0).more hb0.size) (hw.step hb0))
 have v0:w0.cell? ⟨w.heap.size+1,0,none⟩=some (.slice A ps.length c):=P0.cell (i:=0) rfl
 refine (callsIn_wide (n:=6)).1 ?_
 refine callsIn_of_wp_marks Tryz.func192 rfl trivial ?_ rfl
 simp only [Tryz.ntmps192,List.size_toArray,List.length_cons,List.length_nil,Nat.reduceAdd,Nat.reduceSub,Array.replicate_succ,Array.replicate_zero,List.push_toArray,List.append_toArray,List.nil_append,List.cons_append]
 gi_wp2_with fail
 rw [← hw0]
 have HW0:=hide hw0
 clear hw0
 refine ⟨trivial,?_⟩
 refine (callsIn_wide.2 HOR.out).mono ?_
 rintro e w1 ⟨rfl,hb1⟩
 obtain ⟨g,hg⟩:∃ g,g=w1.heap.size:=⟨_,rfl⟩
 have P1:=P0.step hb1
 have v1:w1.cell? ⟨w.heap.size+1,0,none⟩=some (.slice A ps.length c):=P1.cell (i:=0) rfl
 have HZE:=hide (zero_any (IntKind.u64.wrap (orientV ps)) (wrap_sign (orientV_bd ps) (orientV_bd ps)).1.1 (wrap_sign (orientV_bd ps) (orientV_bd ps)).1.2 (w1.alloc (.cells #[.int .i64 (orientV ps)] 2)))
 rw [(wrap_u64_zero (show -1≤orientV ps by rcases orientV_bd ps with h | h | h <;> omega) (by rcases orientV_bd ps with h | h | h <;> omega)).2] at HZE
 have hnot:=msk_not (decide (orientV ps=0))
 have v2:((w1.alloc (.cells #[.int .i64 (orientV ps)] 2)).alloc (.cells #[.int .u64 (msk (!decide (orientV ps=0)))] 44)).cell? ⟨w.heap.size+1,0,none⟩=some (.slice A ps.length c):=((P1.alloc _).alloc _).cell (i:=0) rfl
 gi_wp2_with fail
 refine ⟨trivial,?_⟩
 refine (callsIn_wide.2 HZE.out).mono ?_
 rintro e w2' ⟨rfl,rfl⟩
 gi_wp2_with fail
 refine ⟨trivial,?_⟩
 refine (callsIn_wide.2 (edges_any _ A ps.length c rfl _)).mono ?_
 rintro e w3 ⟨rfl,rfl⟩
 have hs2:((w1.alloc (.cells #[.int .i64 (orientV ps)] 2)).alloc (.cells #[.int .u64 (msk (!decide (orientV ps=0)))] 44)).heap.size=g+1+1:=by simp [hg]
 rw [hs2]
 have G0:Blk (((w1.alloc (.cells #[.int .i64 (orientV ps)] 2)).alloc (.cells #[.int .u64 (msk (!decide (orientV ps=0)))] 44)).alloc (.cells #[.slice A ps.length c] 36)) g 2 #[.int .i64 (orientV ps)]:=by rw [hg];exact ((Blk.new _ _ _).alloc _).alloc _
 have G1:Blk (((w1.alloc (.cells #[.int .i64 (orientV ps)] 2)).alloc (.cells #[.int .u64 (msk (!decide (orientV ps=0)))] 44)).alloc (.cells #[.slice A ps.length c] 36)) (g+1) 44 #[.int .u64 (msk (!decide (orientV ps=0)))]:=by rw [hg];exact (Blk.new2 _ _ _ _).alloc _
 have G2:Blk (((w1.alloc (.cells #[.int .i64 (orientV ps)] 2)).alloc (.cells #[.int .u64 (msk (!decide (orientV ps=0)))] 44)).alloc (.cells #[.slice A ps.length c] 36)) (g+1+1) 36 #[.slice A ps.length c]:=by
  have h2:=Blk.new ((w1.alloc (.cells #[.int .i64 (orientV ps)] 2)).alloc (.cells #[.int .u64 (msk (!decide (orientV ps=0)))] 44)) 36 #[.slice A ps.length c]
  rw [hs2] at h2
  exact h2
 have hb4:Below w1.heap.size w1 (((w1.alloc (.cells #[.int .i64 (orientV ps)] 2)).alloc (.cells #[.int .u64 (msk (!decide (orientV ps=0)))] 44)).alloc (.cells #[.slice A ps.length c] 36)):=bl_alloc (bl_alloc (bA) _) _
 have hs4:(((w1.alloc (.cells #[.int .i64 (orientV ps)] 2)).alloc (.cells #[.int .u64 (msk (!decide (orientV ps=0)))] 44)).alloc (.cells #[.slice A ps.length c] 36)).heap.size=g+3:=by simp [hg]
 obtain ⟨W4,hW4⟩:∃ W4,(((w1.alloc (.cells #[.int .i64 (orientV ps)] 2)).alloc (.cells #[.int .u64 (msk (!decide (orientV ps=0)))] 44)).alloc (.cells #[.slice A ps.length c] 36))=W4:=⟨_,rfl⟩
 rw [hW4] at G0 G1 G2 hb4 hs4
 gi_wp2_with fail
 rw [← hg]
 have hB4:Below w.heap.size w W4:=bl_step (bl_step hb0 hb1) hb4
 have hgw:w.heap.size+2≤g:=by
  have h1:=hb1.size
  have h2:w0.heap.size=w.heap.size+2:=by rw [HW0.out];simp
  omega
 have T4:=(T0.step hb1).step hb4
 have P4:=(P0.step hb1).step hb4
 have HPS:=hide hps
 have HW:=hide hw
 have HSL:=hide (hs.kept (KeepP.of_below hB4 hP))
 have hPE:∀ k,Also P (g+1+1) k→k<W4.heap.size:=fun k hk=>by
  rcases hk with hk | hk
  · exact Nat.lt_of_lt_of_le (hP k hk) hB4.size
  · omega
 have hT4:=ht.more hB4
 have hmb:∀ u,t=some u→u.2<W4.heap.size:=fun u hu=>Nat.lt_of_lt_of_le (ht.m_lt u hu) hB4.size
 have hE1:¬ Also P (g+1+1) (g+1):=by
  rintro (h | h)
  · have:=hP _ h;omega
  · omega
 have hM:∀ k,w.heap.size≤k→k<g+3→More P w W4 k:=fun k h1 h2=>.inr ⟨h1,by omega⟩
 have HMT:=hide (hM w.heap.size (by omega) (by omega));have HMP:=hide (hM (w.heap.size+1) (by omega) (by omega));have HMS:=hide (hM g (by omega) (by omega));have HMO:=hide (hM (g+1) (by omega) (by omega));have HMV:=hide (hM (g+1+1) (by omega) (by omega))
 have hK0:KeepP P w W4:=KeepP.of_below hB4 hP
 have hPP:∀ k,Also P (g+1+1) k→k<W4.heap.size∧k<W4.heap.size:=fun k hk=>⟨hPE k hk,hPE k hk⟩
 have hPM:∀ k,More P w W4 k→k<W4.heap.size:=more_lt hP hB4
 have HE1:=hide hE1;have HPE:=hide hPE;have HMB:=hide hmb;have HT4:=hide hT4;have HK0:=hide hK0;have HPP:=hide hPP;have HPM:=hide hPM;have HG0:=hide hg0;have HPPw:=hide (show ∀ k,P k→k<W4.heap.size from fun k hk=>hPE k (.inl hk))
 clear hE1 hPE hmb hT4 hM hK0 hPP hPM hg0 ht hP
 clear hW4 hg hs2 HZE HOR T0 P0 P1 v0 v1 v2 hps hw hs hb0 hb1 hb4 HW0 hnot hB4
 refine wpIn_rangeFunc_ownH rfl (by omega) (gf:=304) (lb:=#[.pointer (some ⟨g+1+1,0,none⟩)]) rfl trivial (enters_of Tryz.func304 (by kernel_rfl) rfl)
  (edges_stops 5 (by omega) (g+1+1) (Also P (g+1+1)) ps A c W4 HPE.out (.inr rfl) G2 (HSL.out.mono fun k h=>.inl h)) KeepP.trans (fun W l o o' hl _ _ _=>KeepP.putObj o' (fun h=>by have:=HPE.out _ h;omega) W) (Below.refl _ _) (fun _=>rfl)
  (fun pre W=>(((Blk W w.heap.size 193 #[.pointer (tapeA t)]∧Blk W (w.heap.size+1) 36 #[.slice A ps.length c])∧Blk W g 2 #[.int .i64 (orientV ps)])∧Blk W (g+1) 44 #[.int .u64 (msk (vF (orientV ps) ps pre))])∧(KeepP (Also P (g+1+1)) W4 W∧Tp W (More P w W4) t (es++vEv ps.length pre)))
  (fun _ _ _=>False)
  (OwnFrom.and (OwnFrom.and (OwnFrom.and (OwnFrom.and (Own.from (blk_own _ _ _) _) (Own.from (blk_own _ _ _) _)) (Own.from (blk_own _ _ _) _)) (Own.from (blk_own _ _ _) _)) (OwnFrom.and (keepP_ownFrom HPP.out) (tp_ownFrom _ (More P w W4) t (fun pre=>es++vEv ps.length pre) HMB.out)))
  (fun _ _ _ _ _ hs _ _=>hs)
  ⟨⟨⟨⟨T4,P4⟩,G0⟩,G1⟩,KeepP.refl _ _,by simpa [vEv] using HT4.out⟩
  (fun x a' W=>∃ Bx es',g+1<Bx∧Tp W (Also (More P w W4) Bx) t es'∧Blk W Bx 301 #[.int .i64 (x:Int),.int .i64 (((x:Int)+1) % (ps.length:Int)),.int .i64 (ptAt ps x).1,.int .i64 (ptAt ps x).2,.int .i64 (ptAt ps ((x+1) % ps.length)).1,.int .i64 (ptAt ps ((x+1) % ps.length)).2]∧a'={ tmps:=#[.pointer (tapeA t),.slice A ps.length c,.pointer (some ⟨w.heap.size,0,none⟩),.pointer (some ⟨w.heap.size+1,0,none⟩),.int .u64 0,.pointer (some ⟨g,0,none⟩),.pointer (some ⟨g+1,0,none⟩),.pointer (some ⟨Bx,0,none⟩),undef,undef,.slice A ps.length c,.int .i64 (orientV ps),.int .i64 (orientV ps),.int .u64 (IntKind.u64.wrap (orientV ps)),.int .u64 (msk (decide (orientV ps=0))),.int .u64 (msk (!decide (orientV ps=0))),.slice A ps.length c,.func (.func 304) #[] #[.pointer (some ⟨g+1+1,0,none⟩)],.agg #[.int .i64 (x:Int),.int .i64 (((x:Int)+1) % (ps.length:Int)),.int .i64 (ptAt ps x).1,.int .i64 (ptAt ps x).2,.int .i64 (ptAt ps ((x+1) % ps.length)).1,.int .i64 (ptAt ps ((x+1) % ps.length)).2],undef,undef,undef,undef,undef,undef,undef,undef,undef,undef,undef,undef,undef,undef,undef,undef,undef,undef,undef,undef,undef,undef,undef,undef,undef,undef,undef,undef,undef,undef,undef,undef,undef,undef,undef,undef],defers:=[] })
  (fun x a' _ X Y row hs hg hr=>by obtain ⟨Bx,es',h1,hT,h2,h3⟩:=hs;exact ⟨Bx,es',h1,tp_ownFrom _ _ t (fun _:Unit=>es') HMB.out () X Y row hT hg hr,blk_own Bx 301 (fun (_:Unit)=>#[.int .i64 (x:Int),.int .i64 (((x:Int)+1) % (ps.length:Int)),.int .i64 (ptAt ps x).1,.int .i64 (ptAt ps x).2,.int .i64 (ptAt ps ((x+1) % ps.length)).1,.int .i64 (ptAt ps ((x+1) % ps.length)).2]) () X Y row h2 hg (fun r e=>(hr r e).2),h3⟩)
  ?assign ?body ?done ?stop
 case assign =>
  rintro l pre x W K ⟨⟨⟨⟨T1,P1⟩,S1⟩,O1⟩,hB1,hT1⟩ hK
  have hlt:g+1<W.heap.size:=O1.lt
  unfold encE
  gi_wp2
  have hEW:∀ k,Also P (g+1+1) k→k<W.heap.size:=fun k hk=>Nat.lt_of_lt_of_le (HPE.out k hk) hB1.size
  refine hK _ _ ((KeepsOthers.alloc _ _).from _) (KeepP.of_below (bA) hEW) ⟨⟨⟨⟨T1.alloc _,P1.alloc _⟩,S1.alloc _⟩,O1.alloc _⟩,hB1.trans (KeepP.of_below (bA) hEW),hT1.step (bA)⟩ ⟨W.heap.size,es++vEv ps.length pre,hlt,?_,Blk.new _ _ _,rfl⟩
  refine (hT1.add (R:=Also (More P w W4) W.heap.size) fun k hk=>?_).step (bA)
  rcases hk with hk | hk
  · exact .inl hk
  · exact .inr (by omega)
 case body =>
  rintro l pre x a' W hl _ ⟨⟨⟨⟨T1,P1⟩,S1⟩,O1⟩,hB1,hT1⟩ ⟨Bx,es',hBx,hTx,bX,rfl⟩ hpl
  have hszW:W4.heap.size≤W.heap.size:=hB1.size
  have hTb:=hT1.with hTx
  clear hT1 hTx
  have h364:3≤ps.length∧ps.length≤64:=by
   unfold edgeN at hpl
   split at hpl
   · assumption
   · omega
  obtain ⟨h3,h64⟩:=h364
  have hmix:Tryz.prog.follows .mixedOrders=true:=by kernel_rfl
  obtain ⟨b,off,rfl,hb⟩:=sl_pts (HSL.out.sl HPPw.out) (by omega)
  obtain ⟨nx,hnx⟩:∃ nx,nx=(x+1) % ps.length:=⟨_,rfl⟩
  have hnxi:((x:Int)+1) % (ps.length:Int)=(nx:Int):=by rw [hnx];rfl
  obtain ⟨vp,hvp⟩:∃ vp,vp=vF (orientV ps) ps pre:=⟨_,rfl⟩
  have HSN:=hide (vF_snoc (orientV ps) ps pre x)
  rw [← hvp] at HSN O1
  rw [hnxi,← hnx] at bX ⊢
  have HOK:Hid (∀ k,okE (orientV ps) ps x k=(decide (k=x) || decide (k=nx) || decide ((orientD (ptAt ps x) (ptAt ps nx) (ptAt ps k)).sign=orientV ps))):=hide fun k=>by rw [hnx];rfl
  have v1:W.cell? ⟨w.heap.size+1,0,none⟩=some (.slice (some ⟨b,off,none⟩) ps.length c):=P1.cell (i:=0) rfl
  have hpre:(es++vEv ps.length pre).length≤910000:=by
   have h1:=vEv_length ps.length pre
   have h2:pre.length≤64:=by unfold edgeN at hpl;split at hpl <;> omega
   have h3:pre.length*ps.length≤64*64:=Nat.mul_le_mul h2 h64
   rw [List.length_append];omega
  have HVE:=hide (vEv_snoc ps.length pre x)
  rw [← hnx] at HVE
  have HPRE:=hide hpre
  have HTB:=hide hTb
  clear hpl hnx hnxi hvp hpre hTb
  gi_wp2_with fail
  refine wpIn_scope_straight ?_
  refine wpIn_seq_k (fun K hK=>wpIn_label ?_)
  refine hK _ _ ?_
  clear hK K
  gi_wp2_with fail
  gi_loopw [21] (fun i wr=>∃ k:Nat,k≤ps.length∧i=.int .i64 k∧(Blk wr w.heap.size 193 #[.pointer (tapeA t)]∧Blk wr (w.heap.size+1) 36 #[.slice (some ⟨b,off,none⟩) ps.length c]∧Blk wr g 2 #[.int .i64 (orientV ps)])∧Blk wr (g+1) 44 #[.int .u64 (msk (innerF (orientV ps) ps x vp k))]∧Blk wr Bx 301 #[.int .i64 (x:Int),.int .i64 (nx:Int),.int .i64 (ptAt ps x).1,.int .i64 (ptAt ps x).2,.int .i64 (ptAt ps nx).1,.int .i64 (ptAt ps nx).2]∧KeepP (Also P (g+1+1)) W wr∧KeepsFrom W4.heap.size W wr∧Tp wr (Also (More P w W4) Bx) t (es++vEv ps.length pre++evI x nx k))
   (fun i _=>ps.length - (intOf i).toNat)
  case atStart=>exact ⟨0,Nat.zero_le _,rfl,⟨T1,P1,S1⟩,O1,bX,KeepP.refl _ _,KeepsFrom.refl _ _,by simpa [evI] using HTB.out⟩
  case round =>
   clear T1 P1 S1 O1 bX v1
   obtain ⟨k,hk,rfl,⟨Tr,Pr,Sr⟩,Or,Xr,hkr,hfr,htr⟩:=hrel
   have hEr:∀ k,Also P (g+1+1) k→k<wr.heap.size:=fun k hk=>by have:=HPE.out k hk;have:=hkr.size;omega
   by_cases hlt:k<ps.length
   · have hlti:((k:Nat):Int)<((ps.length:Nat):Int):=by omega
     have hsr:=(HSL.out.kept ((hB1.trans hkr).mono fun k h=>.inl h)).sl HPPw.out
     obtain ⟨a0,a1⟩:=sl_pt hsr hlt
     obtain ⟨vk,hvk⟩:∃ vk,vk=innerF (orientV ps) ps x vp k:=⟨_,rfl⟩
     have HSC:=hide (innerF_succ (orientV ps) ps x vp k)
     rw [← hvk] at HSC Or
     obtain ⟨w9,hw9⟩:∃ w9,wr.alloc (.cells #[.int .i64 (ptAt ps k).1,.int .i64 (ptAt ps k).2] 41)=w9:=⟨_,rfl⟩
     have T9:Blk w9 w.heap.size 193 #[.pointer (tapeA t)]:=by rw [← hw9];exact Tr.alloc _
     have P9:Blk w9 (w.heap.size+1) 36 #[.slice (some ⟨b,off,none⟩) ps.length c]:=by rw [← hw9];exact Pr.alloc _
     have S9:Blk w9 g 2 #[.int .i64 (orientV ps)]:=by rw [← hw9];exact Sr.alloc _
     have O9:Blk w9 (g+1) 44 #[.int .u64 (msk vk)]:=by rw [← hw9];exact Or.alloc _
     have X9:Blk w9 Bx 301 #[.int .i64 (x:Int),.int .i64 (nx:Int),.int .i64 (ptAt ps x).1,.int .i64 (ptAt ps x).2,.int .i64 (ptAt ps nx).1,.int .i64 (ptAt ps nx).2]:=by rw [← hw9];exact Xr.alloc _
     have B9:Blk w9 wr.heap.size 41 #[.int .i64 (ptAt ps k).1,.int .i64 (ptAt ps k).2]:=by rw [← hw9];exact Blk.new _ _ _
     have hk9:KeepP (Also P (g+1+1)) W w9:=by rw [← hw9];exact hkr.trans (KeepP.of_below (bA) hEr)
     have hf9:KeepsFrom W4.heap.size W w9:=by rw [← hw9];exact hfr.trans (KeepsFrom.of_below (bA))
     have e0:w9.cell? ⟨Bx,0,none⟩=some (.int .i64 (x:Int)):=X9.cell (i:=0) rfl
     have e1:w9.cell? ⟨Bx,1,none⟩=some (.int .i64 (nx:Int)):=X9.cell (i:=1) rfl
     have t9:w9.cell? ⟨w.heap.size,0,none⟩=some (.pointer (tapeA t)):=T9.cell (i:=0) rfl
     have ht9:Tp w9 (Also (Also (More P w W4) Bx) wr.heap.size) t (es++vEv ps.length pre++evI x nx k):=by
      rw [← hw9]
      refine (htr.add fun j hj=>?_).step (bA)
      rcases hj with hj | hj
      · exact .inl hj
      · exact .inr (by omega)
     clear hvk hsr Tr Pr Sr Or Xr hkr hfr htr
     by_cases hkx:k=x
     · have hki:(k:Int)=(x:Int):=by omega
       have HO:innerF (orientV ps) ps x vp (k+1)=vk:=by rw [HSC.out,HOK.out,decide_eq_true hkx];simp
       have O9':=O9
       rw [← HO] at O9'
       have ht9':=ht9.mono (R:=Also (More P w W4) Bx) fun j h=>.inl h
       rw [← evI_same (x:=x) (nx:=nx) (k:=k) (.inl hkx)] at ht9'
       have HREL:=hide (show (Blk w9 w.heap.size 193 #[.pointer (tapeA t)]∧Blk w9 (w.heap.size+1) 36 #[.slice (some ⟨b,off,none⟩) ps.length c]∧Blk w9 g 2 #[.int .i64 (orientV ps)])∧Blk w9 (g+1) 44 #[.int .u64 (msk (innerF (orientV ps) ps x vp (k+1)))]∧Blk w9 Bx 301 #[.int .i64 (x:Int),.int .i64 (nx:Int),.int .i64 (ptAt ps x).1,.int .i64 (ptAt ps x).2,.int .i64 (ptAt ps nx).1,.int .i64 (ptAt ps nx).2]∧KeepP (Also P (g+1+1)) W w9∧KeepsFrom W4.heap.size W w9∧Tp w9 (Also (More P w W4) Bx) t (es++vEv ps.length pre++evI x nx (k+1)) from ⟨⟨T9,P9,S9⟩,O9',X9,hk9,hf9,ht9'⟩)
       clear O9' HO ht9' T9 P9 S9 O9 X9 B9 hk9 hf9 ht9 HSC HOK
       rw [hkx] at hw9 a0 a1
       gi_wp2_with fail
       go_roundw
       case rel=>exact ⟨k+1,by omega,by go_num,HREL.out⟩
       case measure=>simp [intOf];omega
     · have hki:¬ (k:Int)=(x:Int):=by omega
       by_cases hkn:k=nx
       · have hkni:(k:Int)=(nx:Int):=by omega
         have HO:innerF (orientV ps) ps x vp (k+1)=vk:=by rw [HSC.out,HOK.out,decide_eq_true hkn];simp
         have O9':=O9
         rw [← HO] at O9'
         have ht9':=ht9.mono (R:=Also (More P w W4) Bx) fun j h=>.inl h
         rw [← evI_same (x:=x) (nx:=nx) (k:=k) (.inr hkn)] at ht9'
         have HREL:=hide (show (Blk w9 w.heap.size 193 #[.pointer (tapeA t)]∧Blk w9 (w.heap.size+1) 36 #[.slice (some ⟨b,off,none⟩) ps.length c]∧Blk w9 g 2 #[.int .i64 (orientV ps)])∧Blk w9 (g+1) 44 #[.int .u64 (msk (innerF (orientV ps) ps x vp (k+1)))]∧Blk w9 Bx 301 #[.int .i64 (x:Int),.int .i64 (nx:Int),.int .i64 (ptAt ps x).1,.int .i64 (ptAt ps x).2,.int .i64 (ptAt ps nx).1,.int .i64 (ptAt ps nx).2]∧KeepP (Also P (g+1+1)) W w9∧KeepsFrom W4.heap.size W w9∧Tp w9 (Also (More P w W4) Bx) t (es++vEv ps.length pre++evI x nx (k+1)) from ⟨⟨T9,P9,S9⟩,O9',X9,hk9,hf9,ht9'⟩)
         clear O9' HO ht9' T9 P9 S9 O9 X9 B9 hk9 hf9 ht9 HSC HOK
         rw [hkn] at hw9 a0 a1
         gi_wp2_with fail
         go_roundw
         case rel=>exact ⟨k+1,by omega,by go_num,HREL.out⟩
         case measure=>simp [intOf];omega
       · have hkni:¬ (k:Int)=(nx:Int):=by omega
         obtain ⟨os,hos⟩:∃ os,os=(orientD (ptAt ps x) (ptAt ps nx) (ptAt ps k)).sign:=⟨_,rfl⟩
         have hO:innerF (orientV ps) ps x vp (k+1)=(vk && decide (os=orientV ps)):=by rw [HSC.out,HOK.out,hos,decide_eq_false hkx,decide_eq_false hkn];simp
         have HEV:=hide (evI_next hkx hkn)
         have HNEXT:=hide (fun (W8:World) (h1:(Blk W8 w.heap.size 193 #[.pointer (tapeA t)]∧Blk W8 (w.heap.size+1) 36 #[.slice (some ⟨b,off,none⟩) ps.length c]∧Blk W8 g 2 #[.int .i64 (orientV ps)])) (h2:Blk W8 (g+1) 44 #[.int .u64 (msk (vk && decide (os=orientV ps)))]) (h3:Blk W8 Bx 301 #[.int .i64 (x:Int),.int .i64 (nx:Int),.int .i64 (ptAt ps x).1,.int .i64 (ptAt ps x).2,.int .i64 (ptAt ps nx).1,.int .i64 (ptAt ps nx).2]) (h4:KeepP (Also P (g+1+1)) W W8) (h5:KeepsFrom W4.heap.size W W8) (h6:Tp W8 (Also (Also (More P w W4) Bx) wr.heap.size) t (es++vEv ps.length pre++evI x nx k++[(4,(x:Int),(k:Int))])) =>
          (show (Blk W8 w.heap.size 193 #[.pointer (tapeA t)]∧Blk W8 (w.heap.size+1) 36 #[.slice (some ⟨b,off,none⟩) ps.length c]∧Blk W8 g 2 #[.int .i64 (orientV ps)])∧Blk W8 (g+1) 44 #[.int .u64 (msk (innerF (orientV ps) ps x vp (k+1)))]∧Blk W8 Bx 301 #[.int .i64 (x:Int),.int .i64 (nx:Int),.int .i64 (ptAt ps x).1,.int .i64 (ptAt ps x).2,.int .i64 (ptAt ps nx).1,.int .i64 (ptAt ps nx).2]∧KeepP (Also P (g+1+1)) W W8∧KeepsFrom W4.heap.size W W8∧Tp W8 (Also (More P w W4) Bx) t (es++vEv ps.length pre++evI x nx (k+1)) from ⟨h1,by rw [hO];exact h2,h3,h4,h5,by rw [HEV.out,← List.append_assoc];exact h6.mono fun j h=>.inl h⟩))
         have hbo:os=-1∨os=0∨os=1:=by rw [hos];exact sign_bd _
         have hAl:∀ j,Also (Also (More P w W4) Bx) wr.heap.size j→j<w9.heap.size:=fun j hj=>by
          rcases hj with (hj | hj) | hj
          · have:=HPM.out j hj;have:=hk9.size;omega
          · subst hj;exact X9.lt
          · subst hj;exact B9.lt
         have HOS0:=hide (fun w9 (hM:MW w9)=>osign_any (ptAt ps x) (ptAt ps nx) (ptAt ps k) (HPS.out.at_ _) (HPS.out.at_ _) (HPS.out.at_ _) w9 hM)
         rw [← hos] at HOS0
         have hle:(es++vEv ps.length pre++evI x nx k).length≤1000000:=by
          have:=evI_length x nx k
          have:=HPRE.out
          rw [List.length_append];omega
         have HNO:=hide (note_any (Also (Also (More P w W4) Bx) wr.heap.size) t (es++vEv ps.length pre++evI x nx k) 4 (x:Int) (k:Int) w9 hAl ht9 hle (by unfold I64w;omega))
         have hNK:KeepP (Also P (g+1+1)) W w9:=hk9
         have HNK:=hide hNK
         have HNF:=hide hf9
         clear hO hos hAl hle hNK hk9 hf9 ht9 HSC HOK HEV
         gi_wp2_with fail
         case roundEnd =>
          rename_i h0
          exfalso
          simp at h0
          omega
         clear hkx hkn hki hkni
         refine ⟨trivial,?_⟩
         refine (CallsIn.inRound l (callsIn_wide.2 HNO.out)).mono ?_
         rintro e wn ⟨rfl,hkk,hmm,htn9⟩
         have Tn:=T9.kept hkk (.inl (.inl HMT.out))
         have Pn:=P9.kept hkk (.inl (.inl HMP.out))
         have Sn:=S9.kept hkk (.inl (.inl HMS.out))
         have On:=O9.kept hkk (.inl (.inl HMO.out))
         have Xn:=X9.kept hkk (.inl (.inr rfl))
         have Bn:=B9.kept hkk (.inr rfl)
         have hsubE:∀ j,Also P (g+1+1) j→Also (Also (More P w W4) Bx) wr.heap.size j:=fun j hj=>by
          rcases hj with hj | hj
          · exact .inl (.inl (.inl hj))
          · subst hj;exact .inl (.inl HMV.out)
         have hkn9:KeepP (Also P (g+1+1)) W wn:=HNK.out.trans (hkk.mono hsubE)
         have hfn9:KeepsFrom W4.heap.size W wn:=HNF.out.trans (hmm.from HMB.out)
         have hE9:∀ j,Also P (g+1+1) j→j<wn.drew.heap.size:=fun j hj=>Nat.lt_of_lt_of_le (HPE.out j hj) (Nat.le_trans hszW hkn9.size)
         have HOS:=hide (HOS0.out wn.drew ((HW.out.kept (HK0.out.trans ((hB1.trans hkn9).mono fun j h=>.inl h)) HG0.out).step (bl_drew (Below.refl _ _))))
         clear hkk hmm hsubE HNK HNF HOS0 HNO T9 P9 S9 O9 X9 B9 e0 e1 t9 hw9 a0 a1
         gi_wp2_with fail
         refine startH 12 (S:=fun w'=>Blk w' g 2 #[.int .i64 (orientV ps)]∧Blk w' Bx 301 #[.int .i64 (x:Int),.int .i64 (nx:Int),.int .i64 (ptAt ps x).1,.int .i64 (ptAt ps x).2,.int .i64 (ptAt ps nx).1,.int .i64 (ptAt ps nx).2]∧Blk w' wr.heap.size 41 #[.int .i64 (ptAt ps k).1,.int .i64 (ptAt ps k).2]∧Blk w' (g+1) 44 #[.int .u64 (msk vk)]) hmix ?_
         have hS:Blk wn.drew g 2 #[.int .i64 (orientV ps)]∧Blk wn.drew Bx 301 #[.int .i64 (x:Int),.int .i64 (nx:Int),.int .i64 (ptAt ps x).1,.int .i64 (ptAt ps x).2,.int .i64 (ptAt ps nx).1,.int .i64 (ptAt ps nx).2]∧Blk wn.drew wr.heap.size 41 #[.int .i64 (ptAt ps k).1,.int .i64 (ptAt ps k).2]∧Blk wn.drew (g+1) 44 #[.int .u64 (msk vk)]:=⟨Sn,Xn,Bn,On⟩
         refine' takeH (i:=0) (v:=_) (noDefer_of (by kernel_rfl)) rfl (by kernel_rfl) (by kernel_rfl) (by kernel_rfl) (fun _ _ _ h=>h) (by kernel_rfl) ⟨Or.inl ⟨by rfl,?hy0k1⟩,fun _=>rfl⟩ hS ?rest0k1
         case hy0k1 =>
          intro w' hSw
          obtain ⟨s1,s2,s3,s4⟩:=hSw
          have z1:=s1.cell (i:=0) rfl
          have z2:=s2.cell (i:=2) rfl
          have z3:=s2.cell (i:=3) rfl
          have z4:=s2.cell (i:=4) rfl
          have z5:=s2.cell (i:=5) rfl
          have z6:=s3.cell (i:=0) rfl
          have z7:=s3.cell (i:=1) rfl
          have z8:=s4.cell (i:=0) rfl
          go_simp
          rfl
         simp only [Act.put,getElem_toArray,getElem_cons_zero,setIfInBounds_toArray,set_cons_zero,set_cons_succ]
         refine' takeH (i:=1) (v:=_) (noDefer_of (by kernel_rfl)) rfl (by kernel_rfl) (by kernel_rfl) (by kernel_rfl) (fun _ _ _ h=>h) (by kernel_rfl) ⟨Or.inl ⟨by rfl,?hy1k2⟩,fun _=>rfl⟩ hS ?rest1k2
         case hy1k2 =>
          intro w' hSw
          go_simp
          rfl
         simp only [Act.put,getElem_toArray,getElem_cons_succ,getElem_cons_zero,setIfInBounds_toArray,set_cons_zero,set_cons_succ]
         refine' takeH (i:=2) (v:=_) (noDefer_of (by kernel_rfl)) rfl (by kernel_rfl) (by kernel_rfl) (by kernel_rfl) (fun _ _ _ h=>h) (by kernel_rfl) ⟨Or.inl ⟨by rfl,?hy2k3⟩,fun _=>rfl⟩ hS ?rest2k3
         case hy2k3 =>
          intro w' hSw
          obtain ⟨s1,s2,s3,s4⟩:=hSw
          have z1:=s1.cell (i:=0) rfl
          have z2:=s2.cell (i:=2) rfl
          have z3:=s2.cell (i:=3) rfl
          have z4:=s2.cell (i:=4) rfl
          have z5:=s2.cell (i:=5) rfl
          have z6:=s3.cell (i:=0) rfl
          have z7:=s3.cell (i:=1) rfl
          have z8:=s4.cell (i:=0) rfl
          go_simp
          rfl
         simp only [Act.put,getElem_toArray,getElem_cons_succ,getElem_cons_zero,setIfInBounds_toArray,set_cons_zero,set_cons_succ]
         refine' takeH (i:=3) (v:=_) (noDefer_of (by kernel_rfl)) rfl (by kernel_rfl) (by kernel_rfl) (by kernel_rfl) (fun _ _ _ h=>h) (by kernel_rfl) ⟨Or.inl ⟨by rfl,?hy3k4⟩,fun _=>rfl⟩ hS ?rest3k4
         case hy3k4 =>
          intro w' hSw
          go_simp
          rfl
         simp only [Act.put,getElem_toArray,getElem_cons_succ,getElem_cons_zero,setIfInBounds_toArray,set_cons_zero,set_cons_succ]
         refine' takeH (i:=4) (v:=_) (noDefer_of (by kernel_rfl)) rfl (by kernel_rfl) (by kernel_rfl) (by kernel_rfl) (fun _ _ _ h=>h) (by kernel_rfl) ⟨Or.inl ⟨by rfl,?hy4k5⟩,fun _=>rfl⟩ hS ?rest4k5
         case hy4k5 =>
          intro w' hSw
          obtain ⟨s1,s2,s3,s4⟩:=hSw
          have z1:=s1.cell (i:=0) rfl
          have z2:=s2.cell (i:=2) rfl
          have z3:=s2.cell (i:=3) rfl
          have z4:=s2.cell (i:=4) rfl
          have z5:=s2.cell (i:=5) rfl
          have z6:=s3.cell (i:=0) rfl
          have z7:=s3.cell (i:=1) rfl
          have z8:=s4.cell (i:=0) rfl
          go_simp
          rfl
         simp only [Act.put,getElem_toArray,getElem_cons_succ,getElem_cons_zero,setIfInBounds_toArray,set_cons_zero,set_cons_succ]
         refine' takeH (i:=5) (v:=_) (noDefer_of (by kernel_rfl)) rfl (by kernel_rfl) (by kernel_rfl) (by kernel_rfl) (fun _ _ _ h=>h) (by kernel_rfl) ⟨Or.inl ⟨by rfl,?hy5k6⟩,fun _=>rfl⟩ hS ?rest5k6
         case hy5k6 =>
          intro w' hSw
          obtain ⟨s1,s2,s3,s4⟩:=hSw
          have z1:=s1.cell (i:=0) rfl
          have z2:=s2.cell (i:=2) rfl
          have z3:=s2.cell (i:=3) rfl
          have z4:=s2.cell (i:=4) rfl
          have z5:=s2.cell (i:=5) rfl
          have z6:=s3.cell (i:=0) rfl
          have z7:=s3.cell (i:=1) rfl
          have z8:=s4.cell (i:=0) rfl
          go_simp
          rfl
         simp only [Act.put,getElem_toArray,getElem_cons_succ,getElem_cons_zero,setIfInBounds_toArray,set_cons_zero,set_cons_succ]
         refine' takeH (i:=8) (v:=_) (noDefer_of (by kernel_rfl)) rfl (by kernel_rfl) (by kernel_rfl) (by kernel_rfl) (fun _ _ _ h=>h) (by kernel_rfl) ⟨Or.inl ⟨by rfl,?hy8k7⟩,fun _=>rfl⟩ hS ?rest8k7
         case hy8k7 =>
          intro w' hSw
          obtain ⟨s1,s2,s3,s4⟩:=hSw
          have z1:=s1.cell (i:=0) rfl
          have z2:=s2.cell (i:=2) rfl
          have z3:=s2.cell (i:=3) rfl
          have z4:=s2.cell (i:=4) rfl
          have z5:=s2.cell (i:=5) rfl
          have z6:=s3.cell (i:=0) rfl
          have z7:=s3.cell (i:=1) rfl
          have z8:=s4.cell (i:=0) rfl
          go_simp
          rfl
         simp only [Act.put,getElem_toArray,getElem_cons_succ,getElem_cons_zero,setIfInBounds_toArray,set_cons_zero,set_cons_succ]
         refine' takeH (i:=9) (v:=_) (noDefer_of (by kernel_rfl)) rfl (by kernel_rfl) (by kernel_rfl) (by kernel_rfl) (fun _ _ _ h=>h) (by kernel_rfl) ⟨Or.inl ⟨by rfl,?hy9k8⟩,fun _=>rfl⟩ hS ?rest9k8
         case hy9k8 =>
          intro w' hSw
          go_simp
          rfl
         simp only [Act.put,getElem_toArray,getElem_cons_succ,getElem_cons_zero,setIfInBounds_toArray,set_cons_zero,set_cons_succ]
         refine oneH (i:=6) (by kernel_rfl) rfl ?_
         intro K hK
         rw [if_pos (by rfl)]
         go_simp
         refine ⟨trivial,?_⟩
         refine (CallsIn.inRound l (callsIn_wide.2 HOS.out)).mono ?_
         rintro e w10 ⟨rfl,hb10⟩
         have hS1:Blk w10 g 2 #[.int .i64 (orientV ps)]∧Blk w10 Bx 301 #[.int .i64 (x:Int),.int .i64 (nx:Int),.int .i64 (ptAt ps x).1,.int .i64 (ptAt ps x).2,.int .i64 (ptAt ps nx).1,.int .i64 (ptAt ps nx).2]∧Blk w10 wr.heap.size 41 #[.int .i64 (ptAt ps k).1,.int .i64 (ptAt ps k).2]∧Blk w10 (g+1) 44 #[.int .u64 (msk vk)]:=⟨Sn.drew.step hb10,Xn.drew.step hb10,Bn.drew.step hb10,On.drew.step hb10⟩
         refine hK.out _ _ (fun _=>hS1) ?_
         clear hK K
         (try simp only [Act.put,getElem_toArray,getElem_cons_succ,getElem_cons_zero,setIfInBounds_toArray,set_cons_zero,set_cons_succ])
         refine' takeH (i:=7) (v:=_) (noDefer_of (by kernel_rfl)) rfl (by kernel_rfl) (by kernel_rfl) (by kernel_rfl) (fun _ _ _ h=>h) (by kernel_rfl) ⟨Or.inl ⟨by rfl,?hy7k9⟩,fun _=>rfl⟩ hS1 ?rest7k9
         case hy7k9 =>
          intro w' hSw
          go_simp
          rfl
         simp only [Act.put,getElem_toArray,getElem_cons_succ,getElem_cons_zero,setIfInBounds_toArray,set_cons_zero,set_cons_succ]
         have HEQ:=hide (equal_sign os (orientV ps) hbo (orientV_bd ps) w10)
         refine oneH (i:=10) (by kernel_rfl) rfl ?_
         intro K hK
         rw [if_pos (by rfl)]
         go_simp
         refine ⟨trivial,?_⟩
         refine (CallsIn.inRound l (callsIn_wide.2 HEQ.out)).mono ?_
         rintro e w' ⟨rfl,rfl⟩
         refine hK.out _ _ (fun _=>hS1) ?_
         clear hK K
         have hand:=msk_and vk (decide (os=orientV ps))
         (try simp only [Act.put,getElem_toArray,getElem_cons_succ,getElem_cons_zero,setIfInBounds_toArray,set_cons_zero,set_cons_succ])
         refine' takeH (i:=11) (v:=_) (noDefer_of (by kernel_rfl)) rfl (by kernel_rfl) (by kernel_rfl) (by kernel_rfl) (fun _ _ _ h=>h) (by kernel_rfl) ⟨Or.inl ⟨by rfl,?hy11k10⟩,fun _=>rfl⟩ hS1 ?rest11k10
         case hy11k10 =>
          intro w' hSw
          go_simp
          rfl
         simp only [Act.put,getElem_toArray,getElem_cons_succ,getElem_cons_zero,setIfInBounds_toArray,set_cons_zero,set_cons_succ]
         obtain ⟨s10,x10,b10,o10⟩:=hS1
         have c7:w10.cell? ⟨g+1,0,none⟩=some (.int .u64 (msk vk)):=o10.cell (i:=0) rfl
         have f7:=o10.frozen 0
         refine oneH (i:=12) (by kernel_rfl) rfl ?_
         intro K hK
         rw [if_pos (by rfl)]
         go_simp
         refine hK.out _ _ (fun h=>absurd rfl h) ?_
         clear hK K
         refine doneH (by kernel_rfl) ?_ _
         have hk10:KeepP (Also P (g+1+1)) W (w10.setCell ⟨g+1,0,none⟩ (.int .u64 (msk (vk && decide (os=orientV ps))))):=hkn9.trans ((KeepP.drew _ _).trans ((KeepP.of_below hb10 hE9).trans (KeepP.setCell HE1.out _ _ _)))
         have hf10:KeepsFrom W4.heap.size W (w10.setCell ⟨g+1,0,none⟩ (.int .u64 (msk (vk && decide (os=orientV ps))))):=hfn9.trans ((KeepsFrom.of_below (bl_drew (Below.refl _ _))).trans ((KeepsFrom.of_below hb10).trans ((KeepsOthers.setCell _ _ _).from _)))
         have T10:=(Tn.drew.step hb10).far (p:=⟨g+1,0,none⟩) (by dsimp only;omega) (.int .u64 (msk (vk && decide (os=orientV ps))))
         have P10:=(Pn.drew.step hb10).far (p:=⟨g+1,0,none⟩) (by dsimp only;omega) (.int .u64 (msk (vk && decide (os=orientV ps))))
         have S10:=s10.far (p:=⟨g+1,0,none⟩) (by dsimp only;omega) (.int .u64 (msk (vk && decide (os=orientV ps))))
         have X10:=x10.far (p:=⟨g+1,0,none⟩) (by dsimp only;omega) (.int .u64 (msk (vk && decide (os=orientV ps))))
         have O10:=o10.set 0 (.int .u64 (msk (vk && decide (os=orientV ps))))
         have t10:=(htn9.drew.step hb10).set (.inl (.inl HMO.out)) 0 (.int .u64 (msk (vk && decide (os=orientV ps))))
         have HREL:=hide (HNEXT.out _ ⟨T10,P10,S10⟩ O10 X10 hk10 hf10 t10)
         clear T10 P10 S10 X10 O10 hk10 hf10 t10 hand c7 f7 s10 x10 b10 o10 hS hb10 Tn Pn Sn Xn On Bn hkn9 hfn9 htn9 hE9 HNEXT HOS HEQ
         gi_wp2
         go_roundw
         case rel=>exact ⟨k+1,by omega,by go_num,HREL.out⟩
         case measure=>simp [intOf];omega
   · obtain rfl:k=ps.length:=by omega
     have HIV:=hide Or
     rw [← HSN.out] at HIV
     have htr2:=htr.mono (R:=More P w W4) fun j h=>.inl h
     rw [List.append_assoc,← HVE.out] at htr2
     have HFIN:=hide (show KeepsFrom W4.heap.size W wr∧KeepP (Also P (g+1+1)) W wr∧(((Blk wr w.heap.size 193 #[.pointer (tapeA t)]∧Blk wr (w.heap.size+1) 36 #[.slice (some ⟨b,off,none⟩) ps.length c])∧Blk wr g 2 #[.int .i64 (orientV ps)])∧Blk wr (g+1) 44 #[.int .u64 (msk (vF (orientV ps) ps (pre++[x])))])∧(KeepP (Also P (g+1+1)) W4 wr∧Tp wr (More P w W4) t (es++vEv ps.length (pre++[x]))) from ⟨hfr,hkr,⟨⟨⟨Tr,Pr⟩,Sr⟩,HIV.out⟩,hB1.trans hkr,htr2⟩)
     clear Tr Pr Sr Or Xr hkr hfr htr htr2 HIV
     gi_wp2
     exact HFIN.out
 case done =>
  rintro D zs W hD rfl ⟨⟨⟨⟨T1,P1⟩,S1⟩,O1⟩,hB1,hT1⟩ hK
  have o1:=O1.cell (i:=0) rfl
  have hB2:KeepP P w W:=HK0.out.trans (hB1.mono fun k h=>.inl h)
  gi_wp2
  refine ⟨by simp,.inl ⟨_,_,rfl,run_takeDeferred hK,?_⟩⟩
  refine ⟨_,results_tmp rfl _ _ _,rfl,hB2.trans (KeepP.putObj _ (fun h=>?_) _),?_⟩
  · have:=HPE.out D (.inl h);omega
  · exact (hT1.mono (R:=P) fun k h=>.inl h).putObj (fun u hu=>Nat.lt_of_lt_of_le (HMB.out u hu) hD) hK rfl _
 case stop =>
  rintro D c pre W _ _ h _
  exact h.elim
end
end Go.Proofs.YthnenedoblncjaaGreatDoor
