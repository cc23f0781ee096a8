/- LawConvexT -/
import Derived.Test.YtpnoofphfomjoaaGreatDoorPkM40
import Derived.Test.YtpnoofphfomjoaaGreatDoorPkM55
import Derived.Test.YtpnoofphfomjoaaGreatDoorPkC06
set_option maxRecDepth 1000000
set_option maxHeartbeats 8000000
namespace Go.Proofs.YtpnoofphfomjoaaGreatDoor
open List (getElem_toArray getElem_cons_succ getElem_cons_zero setIfInBounds_toArray set_cons_zero set_cons_succ)
section
open Go.RowKit Go.Shelf
theorem sl_drop {w:World} {B b off:Nat} {ps:List Pt} (h:Sl w B (some ⟨b,off,none⟩) (ptCs ps)) (i:Nat):Sl w B (some ⟨b,off+i*2,none⟩) (ptCs (ps.drop i)):=by
 rcases h with h | ⟨b',off',hA,hB,hc⟩
 · refine .inl ?_
   have:ps=[]:=by
    cases ps with
    | nil=>rfl
    | cons x l=>simp [ptCs] at h
   rw [this];simp [ptCs]
 · cases hA
   refine Sl.mk hB fun j u hu=>?_
   by_cases hi:i≤ps.length
   · have e:ptCs ps=ptCs (ps.take i)++ptCs (ps.drop i):=by rw [← ptCs_app,List.take_append_drop]
     have h1:=hc (i*2+j) u (by
      rw [e,List.getElem?_append_right (by rw [ptCs_len,List.length_take];omega),ptCs_len,List.length_take,Nat.min_eq_left hi,Nat.add_sub_cancel_left]
      exact hu)
     rw [Nat.add_assoc]
     exact h1
   · rw [List.drop_eq_nil_of_le (by omega)] at hu
     simp [ptCs] at hu
theorem sl_takeP {w:World} {B b off:Nat} {ps:List Pt} (h:Sl w B (some ⟨b,off,none⟩) (ptCs ps)) (i:Nat):Sl w B (some ⟨b,off,none⟩) (ptCs (ps.take i)):=by
 rcases h with h | ⟨b',off',hA,hB,hc⟩
 · refine .inl ?_
   have:ps=[]:=by
    cases ps with
    | nil=>rfl
    | cons x l=>simp [ptCs] at h
   rw [this];simp [ptCs]
 · cases hA
   refine Sl.mk hB fun j u hu=>hc j u ?_
   have e:ptCs ps=ptCs (ps.take i)++ptCs (ps.drop i):=by rw [← ptCs_app,List.take_append_drop]
   rw [e,List.getElem?_append_left (List.getElem?_eq_some_iff.1 hu).1]
   exact hu
theorem ptCs_get:∀ (l:List Pt) (t:Nat) (c:Pt),l[t]?=some c→(ptCs l)[t*2]?=some (.int .i64 c.1)∧(ptCs l)[t*2+1]?=some (.int .i64 c.2)
 | [],t,c,h=>by simp at h
 | x::l,0,c,h=>by
   cases h
   exact ⟨rfl,rfl⟩
 | x::l,t+1,c,h=>by
   have h2:=ptCs_get l t c (by simpa using h)
   have e:ptCs (x::l)=Value.int .i64 x.1::Value.int .i64 x.2::ptCs l:=rfl
   rw [e,show (t+1)*2=t*2+1+1 by omega]
   exact h2
theorem rvC_of {W:List Pt} {n:Nat} {cur:Array Value} (hl:W.length=n) (ht:cur.toList.take (n*2)=ptCs W):RvC (ptAt W) n 0 cur:=fun j hj=>by
 have h:=ptCs_get W j (ptAt W j) (ptAt_get (by omega))
 have e:∀ x,x<n*2→cur[x]?=(ptCs W)[x]?:=fun x hx=>by
  rw [← ht,List.getElem?_take,if_pos hx,Array.getElem?_toList]
 unfold rvQ
 rw [if_neg (by omega),e _ (by omega),e _ (by omega)]
 exact h
theorem sl_rev {W:List Pt} {n g:Nat} {cs:Array Value} {w:World} (hl:W.length=n) (B:Blk w g 69 cs) (h:∀ j,j<n→cs[j*2]?=some (.int .i64 (ptAt W (n - 1 - j)).1)∧cs[j*2+1]?=some (.int .i64 (ptAt W (n - 1 - j)).2)):Sl w w.heap.size (some ⟨g,0,none⟩) (ptCs W.reverse):=by
 refine sl_of_cells B (pairs_get (fun p:Pt=>[Value.int .i64 p.1,.int .i64 p.2]) 2 (by omega) (fun _=>rfl) W.reverse cs fun i a ha j hj=>?_)
 have hi:i<n:=by have:=(List.getElem?_eq_some_iff.1 ha).1;rw [List.length_reverse] at this;omega
 have ha2:a=ptAt W (n - 1 - i):=by
  have h1:=ptAt_rev W (j:=i) (by omega)
  rw [hl] at h1
  rw [← h1]
  have h2:=ptAt_get (ps:=W.reverse) (i:=i) (by rw [List.length_reverse];omega)
  rw [ha] at h2
  exact Option.some.inj h2
 subst ha2
 have h2:=h i hi
 rcases (by omega:j=0∨j=1) with rfl | rfl
 · rw [Nat.add_zero];exact h2.1
 · exact h2.2
def Asks (vv:Int) (w:World) (e:Ending) (w':World):Prop:=∃ (E:List Int) (A:Option Addr) (c:Nat),e=.returned (.slice A E.length c)∧E.length≤c∧Sl w' w'.heap.size A (byCells E)∧Below w.heap.size w w'∧By E∧E.length≤300000∧hserve E=[0,vv]
theorem ask_any (n:Nat) (vv:Int) (L:List Pt) (hl:L.length=n) (h3:3≤n) (h64:n≤64) (hL:PsJ L) (px py:Int) (hp:PJ (px,py)) (hv:convexA L (px,py)=vv) (w':World) (A:Option Addr) (c:Nat) (hs:Sl w' w'.heap.size A (ptCs L)) :
 Calls Tryz.prog 40 #[.slice A n c,.agg #[.int .i64 px,.int .i64 py]] w' (Asks vv w'):=by
 subst hl hv
 obtain ⟨he,hsv⟩:=enc_convex L (px,py) h3 h64 hL hp
 have hbd:=(hencode_bd (Prod.ext rfl he:hencode 3 L.length [] 0 [] (L++[(px,py)]) []=((hencode 3 L.length [] 0 [] (L++[(px,py)]) []).1,0)) (by simp)).2 rfl
 refine (convex_req L A c (px,py) w' hs h3 h64).mono ?_
 rintro e w2 ⟨B,d,rfl,h1,h2,h4⟩
 exact ⟨_,B,d,rfl,h1,h2,h4,hbd.2,by omega,hsv⟩
section
variable (ps:List Pt) (PA:Option Addr) (pc:Nat) (kb px py:Int) (w:World)
variable (hs:Sl w w.heap.size PA (ptCs ps)) (hcap:ps.length≤pc) (hmx:pc≤maxLen) (hj:PsJ ps) (hk0:0≤kb) (hk1:kb≤255) (hp:PJ (px,py)) (hfix:Fixed w) (hg:0<w.heap.size) (hw:MW w)
include hs hcap hmx hj hk0 hk1 hp hfix hg hw
theorem lawConvexT:Calls Tryz.prog 9 #[.slice PA ps.length pc,.int .u8 kb,.agg #[.int .i64 px,.int .i64 py]] w fun e w'=>e=.returned (.bool true)∧Below w.heap.size w w':=by
 have hmix:Tryz.prog.follows .mixedOrders=true:=by kernel_rfl
 have HAL:=hide (fun (w':World) (hb:Below w.heap.size w w')=>serves_any w' (hfix.below hb hg) (Nat.lt_of_lt_of_le hg hb.size) (hw.step hb))
 have HSV:=hide (fun (w':World) (hb:Below w.heap.size w w') (bs:List Int) (A:Option Addr) (c:Nat) (hs:Sl w' w'.heap.size A (byCells bs)) (hcap:bs.length≤c) (hby:By bs) (hmax:bs.length≤300000)=>serve_any bs A c w' hs hcap hby hmax (hfix.below hb hg) (Nat.lt_of_lt_of_le hg hb.size) (hw.step hb))
 obtain ⟨w0,hw0⟩:∃ w0,w0=w.alloc (.cells #[.int .i64 px,.int .i64 py] 69):=⟨_,rfl⟩
 have HB0:Below w.heap.size w w0:=by rw [hw0];exact bA
 obtain ⟨pb,hpb⟩:∃ pb,pb=w.heap.size:=⟨_,rfl⟩
 have B0:Blk w0 pb 69 #[.int .i64 px,.int .i64 py]:=by rw [hw0,hpb];exact Blk.new _ _ _
 have HAK:=hide (fun (n:Nat) (vv:Int) (L:List Pt) (hl:L.length=n) (h3:3≤n) (h64:n≤64) (hL:PsJ L) (hv:convexA L (px,py)=vv) (w':World) (A:Option Addr) (c:Nat) (hs:Sl w' w'.heap.size A (ptCs L))=>ask_any n vv L hl h3 h64 hL px py hp hv w' A c hs)
 have HRC:=hide (fun (w':World) (A:Option Addr) (c:Nat) (hs:Sl w' w'.heap.size A (ptCs ps))=>rconvex_any ps hj (px,py) hp A c w' hs)
 have HJ:=hide hj
 have HIS:=hide (ris_any ps.length PA pc w0)
 have hmx2:pc≤9223372036854775807:=by unfold maxLen at hmx;omega
 clear hfix hg hw hmx
 refine (callsIn_wide (n:=6)).1 ?_
 refine callsIn_of_wp Tryz.func9 rfl trivial ?_ rfl
 simp only [Tryz.ntmps9,List.size_toArray,List.length_cons,List.length_nil,Nat.reduceAdd,Nat.reduceSub,Array.replicate_succ,Array.replicate_zero,List.push_toArray,List.append_toArray,List.nil_append,List.cons_append]
 gi_wp2_with fail
 rw [← hw0,← hpb]
 have HPB:=hide hpb
 clear hw0 hpb
 refine ⟨trivial,?_⟩
 refine (callsIn_wide.2 HIS.out).mono ?_
 rintro e wz ⟨rfl,hwz⟩
 have hwz2:=hwz.symm
 clear hwz
 subst hwz2
 clear HIS
 by_cases h:3≤ps.length∧ps.length≤64
 · obtain ⟨h3,h64⟩:=h
   have hip:isP ps.length=true:=by unfold isP;simp;omega
   rw [hip]
   obtain ⟨b,off,rfl,hbl⟩:=sl_pts hs (by omega)
   obtain ⟨n,hn⟩:∃ n,n=ps.length:=⟨_,rfl⟩
   obtain ⟨kn,hkn⟩:=Int.eq_ofNat_of_zero_le hk0
   subst hkn
   obtain ⟨i,hi⟩:∃ i,i=kn % n:=⟨_,rfl⟩
   have hin:i<n:=by rw [hi];exact Nat.mod_lt _ (by omega)
   have hrem:((kn:Nat):Int).tmod (n:Int)=(i:Int):=by rw [hi];rfl
   have hn0:¬ ((n:Nat):Int)=0:=by omega
   have hin2:(i:Int)≤(n:Int):=by omega
   have hcp2:(n:Int)≤(pc:Int):=by omega
   have hipc:i≤pc:=by omega
   have hinn:i≤n:=by omega
   have hpci:¬ pc=i:=by omega
   have hpci2:¬ i=pc:=by omega
   have HSL0:=hide ((hs.below HB0).more HB0.size)
   have HTN:=hide hi
   rw [← hn] at hcap h3 h64 ⊢
   have HNN:=hide hn
   clear hip hs hi hn
   gi_wp2_with fail
   have hB0:=B0.drew
   have HB0d:=bl_drew HB0
   refine startH 1000 (S:=fun _=>True) hmix ?_
   refine' takeH (i:=0) (v:=_) (noDefer_of (by kernel_rfl)) rfl (by kernel_rfl) (by kernel_rfl) (by kernel_rfl) (fun _ _ _ h=>h) (by kernel_rfl) ⟨Or.inl ⟨by rfl,?hy0k1⟩,fun _=>rfl⟩ trivial ?rest0k1
   case hy0k1 =>
    intro w' hSw
    go_simp
    rfl
   simp only [Act.put,getElem_toArray,getElem_cons_zero,setIfInBounds_toArray,set_cons_zero,set_cons_succ]
   refine' takeH (i:=1) (v:=_) (noDefer_of (by kernel_rfl)) rfl (by kernel_rfl) (by kernel_rfl) (by kernel_rfl) (fun _ _ _ h=>h) (by kernel_rfl) ⟨Or.inl ⟨by rfl,?hy1k2⟩,fun _=>rfl⟩ trivial ?rest1k2
   case hy1k2 =>
    intro w' hSw
    go_simp
    rfl
   simp only [Act.put,getElem_toArray,getElem_cons_succ,getElem_cons_zero,setIfInBounds_toArray,set_cons_zero,set_cons_succ]
   refine' takeH (i:=3) (v:=_) (noDefer_of (by kernel_rfl)) rfl (by kernel_rfl) (by kernel_rfl) (by kernel_rfl) (fun _ _ _ h=>h) (by kernel_rfl) ⟨Or.inl ⟨by rfl,?hy3k3⟩,fun _=>rfl⟩ trivial ?rest3k3
   case hy3k3 =>
    intro w' hSw
    go_simp
    rfl
   simp only [Act.put,getElem_toArray,getElem_cons_succ,getElem_cons_zero,setIfInBounds_toArray,set_cons_zero,set_cons_succ]
   refine' takeH (i:=4) (v:=_) (noDefer_of (by kernel_rfl)) rfl (by kernel_rfl) (by kernel_rfl) (by kernel_rfl) (fun _ _ _ h=>h) (by kernel_rfl) ⟨Or.inl ⟨by rfl,?hy4k4⟩,fun _=>rfl⟩ trivial ?rest4k4
   case hy4k4 =>
    intro w' hSw
    go_simp
    rfl
   simp only [Act.put,getElem_toArray,getElem_cons_succ,getElem_cons_zero,setIfInBounds_toArray,set_cons_zero,set_cons_succ]
   refine' takeH (i:=2) (v:=_) (noDefer_of (by kernel_rfl)) rfl (by kernel_rfl) (by kernel_rfl) (by kernel_rfl) (fun _ _ _ h=>h) (by kernel_rfl) ⟨Or.inl ⟨by rfl,?hy2k5⟩,fun _=>rfl⟩ trivial ?rest2k5
   case hy2k5 =>
    intro w' hSw
    go_simp
    rfl
   simp only [Act.put,getElem_toArray,getElem_cons_succ,getElem_cons_zero,setIfInBounds_toArray,set_cons_zero,set_cons_succ]
   refine' takeH (i:=5) (v:=_) (noDefer_of (by kernel_rfl)) rfl (by kernel_rfl) (by kernel_rfl) (by kernel_rfl) (fun _ _ _ h=>h) (by kernel_rfl) ⟨Or.inl ⟨by rfl,?hy5k6⟩,fun _=>rfl⟩ trivial ?rest5k6
   case hy5k6 =>
    intro w' hSw
    go_simp
    rfl
   simp only [Act.put,getElem_toArray,getElem_cons_succ,getElem_cons_zero,setIfInBounds_toArray,set_cons_zero,set_cons_succ]
   refine oneH (i:=6) (by kernel_rfl) rfl ?_
   intro K hK
   rw [if_pos (by rfl)]
   go_simp
   have N1:=(Blk.new w0 25 #[.slice (some ⟨b,off+i*2,none⟩) (n - i) (pc - i),.slice (some ⟨b,off,none⟩) i pc]).drew
   have hb1:=bl_drew (bl_alloc (Below.refl w0.heap.size w0) (.cells #[.slice (some ⟨b,off+i*2,none⟩) (n - i) (pc - i),.slice (some ⟨b,off,none⟩) i pc] 25))
   obtain ⟨u1,hu1⟩:∃ u1,u1=(w0.alloc (.cells #[.slice (some ⟨b,off+i*2,none⟩) (n - i) (pc - i),.slice (some ⟨b,off,none⟩) i pc] 25)).drew:=⟨_,rfl⟩
   rw [← hu1] at N1 hb1 ⊢
   obtain ⟨sb,hsb⟩:∃ sb,sb=w0.heap.size:=⟨_,rfl⟩
   rw [← hsb] at N1 ⊢
   have hS1:=(HSL0.out.below hb1).more hb1.size
   have hld:(ps.drop i).length=n - i:=by rw [List.length_drop,HNN.out]
   have hlt:(ps.take i).length=i:=by rw [List.length_take];have:=HNN.out;omega
   have C1:=hide (concatP (ptCs (ps.drop i)) (ptCs (ps.take i)) (n - i) i (by rw [ptCs_len,hld]) (by rw [ptCs_len,hlt]) (ptCs_one _) (ptCs_one _) _ _ _ _ sb u1 N1 (sl_drop hS1 i) (sl_takeP hS1 i) (by omega) (by omega))
   rw [← ptCs_app] at C1
   obtain ⟨W,hW⟩:∃ W,W=ps.drop i++ps.take i:=⟨_,rfl⟩
   have hWl:W.length=n:=by rw [hW,List.length_append,hld,hlt];omega
   have hWj:PsJ W:=fun q hq=>by
    rw [hW] at hq
    rcases List.mem_append.1 hq with h | h
    · exact HJ.out q (List.mem_of_mem_drop h)
    · exact HJ.out q (List.mem_of_mem_take h)
   have hWc:convexA W (px,py)=convexA ps (px,py):=by rw [hW];exact convexA_turn ps (by rw [← HNN.out];exact h3) (by rw [← HNN.out];exact h64) (by rw [← HNN.out];omega) _
   have hRc:convexA W.reverse (px,py)=convexA ps (px,py):=by rw [convexA_rev W (by omega) (by omega),hWc]
   have hRj:PsJ W.reverse:=fun q hq=>hWj q (List.mem_reverse.1 hq)
   rw [← hW,show n - i+i=n by omega] at C1
   have HWL:=hide hWl;have HWJ:=hide hWj;have HWC:=hide hWc;have HRCV:=hide hRc;have HRJ:=hide hRj
   have B1:=B0.step hb1
   have HB1:=bl_step HB0 hb1
   have HSL1:=hide hS1
   have hsz1:w0.heap.size≤u1.heap.size:=hb1.size
   have hpbl:=B0.lt
   clear hu1 hsb hS1 hld hlt hW hWl hWj hWc hRc hRj N1 hb1 HB0d hB0 B0 HSL0
   refine hK.out _ _ (fun _=>trivial) ?_
   clear hK K
   (try simp only [Act.put,getElem_toArray,getElem_cons_succ,getElem_cons_zero,setIfInBounds_toArray,set_cons_zero,set_cons_succ])
   refine oneH (i:=7) (by kernel_rfl) rfl ?_
   intro K hK
   rw [if_pos (by rfl)]
   go_simp
   refine ⟨trivial,?_⟩
   refine (callsIn_wide.2 C1.out).mono ?_
   rintro e w2 ⟨v,rfl,hown,hb2⟩
   obtain ⟨g,cap,cur,rfl,hbg,hgB,hnc,hcm,hcs,htk⟩:=hown.2.resolve_left (fun h=>by omega)
   have G2:Blk w2 g 69 cur:=hgB
   have HRV:=hide (rvC_of HWL.out htk)
   have HSW2:=hide (Sl.of_own hown)
   have HB2:=bl_step HB1 hb2
   have B2:=B1.step hb2
   have HSL2:=hide ((HSL1.out.below hb2).more hb2.size)
   have hgl:=G2.lt
   have hpg:pb≠g:=by omega
   clear hown hgB hcs htk hb2 B1 C1 HSL1 HB1 hnc hcm
   refine hK.out _ _ (fun _=>trivial) ?_
   clear hK K
   (try simp only [Act.put,getElem_toArray,getElem_cons_succ,getElem_cons_zero,setIfInBounds_toArray,set_cons_zero,set_cons_succ])
   refine' takeH (i:=8) (v:=_) (noDefer_of (by kernel_rfl)) rfl (by kernel_rfl) (by kernel_rfl) (by kernel_rfl) (fun _ _ _ h=>h) (by kernel_rfl) ⟨Or.inl ⟨by rfl,?hy8k7⟩,fun _=>rfl⟩ trivial ?rest8k7
   case hy8k7 =>
    intro w' hSw
    go_simp
    rfl
   simp only [Act.put,getElem_toArray,getElem_cons_succ,getElem_cons_zero,setIfInBounds_toArray,set_cons_zero,set_cons_succ]
   refine doneH (by kernel_rfl) ?_ _
   have z0:=B2.cell (i:=0) rfl
   have z1:=B2.cell (i:=1) rfl
   have R2:=HRC.out w2 _ pc HSL2.out
   rw [← HNN.out] at R2
   unfold ptV at R2
   have hvb:0≤convexA ps (px,py)∧convexA ps (px,py)≤3:=by
    have h:=sgnM_bd (locF (orientV ps) ps (px,py) (List.range (edgeN ps.length))).1 (locF (orientV ps) ps (px,py) (List.range (edgeN ps.length))).2
    have e:locV ps (px,py)=sgnM (locF (orientV ps) ps (px,py) (List.range (edgeN ps.length))).1 (locF (orientV ps) ps (px,py) (List.range (edgeN ps.length))).2:=rfl
    rw [← e] at h
    unfold convexA
    cases validV ps <;> simp <;> omega
   obtain ⟨vv,hvv⟩:∃ vv,vv=convexA ps (px,py):=⟨_,rfl⟩
   rw [← hvv] at R2 hvb HWC HRCV
   have HVV:=hide hvv
   have R2h:=hide R2
   obtain ⟨v0,v3⟩:=hvb
   have hwv:IntKind.u8.wrap vv=vv:=by rw [IntKind.wrap_u8];omega
   clear hvv R2 HRC
   gi_wp2_with fail
   refine ⟨trivial,?_⟩
   refine (callsIn_wide.2 R2h.out).mono ?_
   rintro e w3 ⟨rfl,hb3⟩
   obtain ⟨w4,hw4⟩:∃ w4,w4=w3.alloc (.cells #[.int .u8 0,.int .u8 vv] 5):=⟨_,rfl⟩
   obtain ⟨wb,hwb⟩:∃ wb,wb=w3.heap.size:=⟨_,rfl⟩
   have hb4:Below w3.heap.size w3 w4:=by rw [hw4];exact bA
   have W4:Blk w4 wb 5 #[.int .u8 0,.int .u8 vv]:=by rw [hw4,hwb];exact Blk.new _ _ _
   have hb24:=bl_step hb3 hb4
   have HB4:=bl_step HB2 hb24
   have B4:=B2.step hb24
   have G4:=G2.step hb24
   have HSL4:=hide ((HSL2.out.below hb24).more hb24.size)
   have HSW4:=hide ((HSW2.out.below hb24).more hb24.size)
   have hgw:g<wb:=by have:=hb3.size;omega
   have y0:=B4.cell (i:=0) rfl
   have y1:=B4.cell (i:=1) rfl
   rw [hw4] at y0 y1
   have A4:=hide (HAK.out n vv ps HNN.out.symm h3 h64 HJ.out HVV.out.symm w4 _ pc HSL4.out)
   clear z0 z1 B2 G2 HSL2 HSW2 hb3 hb4 hb24 R2h HB2
   gi_wp2_with fail
   rw [← hw4,← hwb]
   clear hw4 hwb y0 y1
   refine ⟨trivial,?_⟩
   refine (callsIn_wide.2 A4.out).mono ?_
   rintro e w5 ⟨E,EA,ec,rfl,hec,hse,hb,hby,hmx,hse2⟩
   have HB5:=bl_step HB4 hb
   have B5:=B4.step hb
   have W5:=W4.step hb
   have G5:=G4.step hb
   have HSW5:=hide ((HSW4.out.below hb).more hb.size)
   have V5:=HSV.out w5 HB5 E EA ec hse hec hby hmx
   rw [hse2] at V5
   have VH5:=hide V5
   clear hb hse hec hby hmx hse2 V5 A4 B4 W4 G4 HSW4
   gi_wp2_with fail
   refine ⟨trivial,?_⟩
   refine (callsIn_wide.2 VH5.out).mono ?_
   rintro e w6 ⟨SA,sc,rfl,hsc,hb,hss⟩
   have HB6:=bl_step HB5 hb
   have B6:=B5.step hb
   have W6:=W5.step hb
   have G6:=G5.step hb
   have HSW6:=hide ((HSW5.out.below hb).more hb.size)
   have EQ6:=hide (equal_true [0,vv] SA (some ⟨wb,0,none⟩) sc 2 w6 hss (slb W6))
   clear hb hss hsc VH5 B5 W5 G5 HSW5 HB5
   gi_wp2_with fail
   refine ⟨trivial,?_⟩
   refine (callsIn_wide.2 EQ6.out).mono ?_
   rintro e wz ⟨rfl,hwz⟩
   subst hwz
   clear EQ6
   have y0:=B6.cell (i:=0) rfl
   have y1:=B6.cell (i:=1) rfl
   have A6:=hide (HAK.out n vv W HWL.out h3 h64 HWJ.out HWC.out w6 _ cap HSW6.out)
   gi_wp2_with fail
   clear y0 y1
   refine ⟨trivial,?_⟩
   refine (callsIn_wide.2 A6.out).mono ?_
   rintro e w7 ⟨E,EA,ec,rfl,hec,hse,hb,hby,hmx,hse2⟩
   have HB7:=bl_step HB6 hb
   have B7:=B6.step hb
   have W7:=W6.step hb
   have G7:=G6.step hb
   have HSW7:=hide ((HSW6.out.below hb).more hb.size)
   have V7:=HSV.out w7 HB7 E EA ec hse hec hby hmx
   rw [hse2] at V7
   have VH7:=hide V7
   clear hb hse hec hby hmx hse2 V7 A6 B6 W6 G6 HSW6
   gi_wp2_with fail
   refine ⟨trivial,?_⟩
   refine (callsIn_wide.2 VH7.out).mono ?_
   rintro e w8 ⟨SA,sc,rfl,hsc,hb,hss⟩
   have HB8:=bl_step HB7 hb
   have B8:=B7.step hb
   have W8:=W7.step hb
   have G8:=G7.step hb
   have HSW8:=hide ((HSW7.out.below hb).more hb.size)
   have EQ8:=hide (equal_true [0,vv] SA (some ⟨wb,0,none⟩) sc 2 w8 hss (slb W8))
   clear hb hss hsc VH7 B7 W7 G7 HSW7 HB7
   gi_wp2_with fail
   refine ⟨trivial,?_⟩
   refine (callsIn_wide.2 EQ8.out).mono ?_
   rintro e wz ⟨rfl,hwz⟩
   subst hwz
   clear EQ8
   have RV:=hide (revPts (ptAt W) n cap g cur w8 (by omega) (by omega) G8 HRV.out)
   gi_wp2_with fail
   refine ⟨trivial,?_⟩
   refine (callsIn_wide.2 RV.out).mono ?_
   rintro e w9 ⟨rfl,hk9,cs',G9,hcs9⟩
   have HSW9:=hide (sl_rev HWL.out G9 hcs9)
   have B9:=B8.kept hk9 hpg
   have W9:=W8.kept hk9 (by omega)
   have HB9:Below w.heap.size w w9:=HB8.trans (hk9.below fun k hk=>by have:=HPB.out;omega)
   clear hk9 hcs9 RV B8 W8 G8 HSW8 HRV
   gi_wp2_with fail
   refine ⟨trivial,?_⟩
   refine (callsIn_wide.2 (HAL.out w9 HB9)).mono ?_
   rintro e w10 ⟨rfl,hb10⟩
   have HB10:=bl_step HB9 hb10
   have B10:=B9.step hb10
   have W10:=W9.step hb10
   have G10:=G9.step hb10
   have HSW10:=hide ((HSW9.out.below hb10).more hb10.size)
   have y0:=B10.cell (i:=0) rfl
   have y1:=B10.cell (i:=1) rfl
   have A10:=hide (HAK.out n vv W.reverse (by rw [List.length_reverse];exact HWL.out) h3 h64 HRJ.out HRCV.out w10 _ cap HSW10.out)
   clear hb10 B9 W9 G9 HSW9
   gi_wp2_with fail
   clear y0 y1
   refine ⟨trivial,?_⟩
   refine (callsIn_wide.2 A10.out).mono ?_
   rintro e w11 ⟨E,EA,ec,rfl,hec,hse,hb,hby,hmx,hse2⟩
   have HB11:=bl_step HB10 hb
   have B11:=B10.step hb
   have W11:=W10.step hb
   have G11:=G10.step hb
   have HSW11:=hide ((HSW10.out.below hb).more hb.size)
   have V11:=HSV.out w11 HB11 E EA ec hse hec hby hmx
   rw [hse2] at V11
   have VH11:=hide V11
   clear hb hse hec hby hmx hse2 V11 A10 B10 W10 G10 HSW10
   gi_wp2_with fail
   refine ⟨trivial,?_⟩
   refine (callsIn_wide.2 VH11.out).mono ?_
   rintro e w12 ⟨SA,sc,rfl,hsc,hb,hss⟩
   have HB12:=bl_step HB11 hb
   have B12:=B11.step hb
   have W12:=W11.step hb
   have G12:=G11.step hb
   have HSW12:=hide ((HSW11.out.below hb).more hb.size)
   have EQ12:=hide (equal_true [0,vv] SA (some ⟨wb,0,none⟩) sc 2 w12 hss (slb W12))
   clear hb hss hsc VH11 B11 W11 G11 HSW11 HB11
   gi_wp2_with fail
   refine ⟨trivial,?_⟩
   refine (callsIn_wide.2 EQ12.out).mono ?_
   rintro e wz ⟨rfl,hwz⟩
   subst hwz
   clear EQ12
   gi_wp2
   go_ret
   exact ⟨rfl,HB12⟩
 · have hip:isP ps.length=false:=by unfold isP;simpa using h
   rw [hip]
   clear hip h HAK HRC HSV B0
   gi_wp2_with fail
   refine ⟨trivial,?_⟩
   refine (callsIn_wide.2 (HAL.out w0 HB0)).mono ?_
   rintro e w1 ⟨rfl,hb1⟩
   gi_wp2
   go_ret
   exact ⟨rfl,bl_step HB0 hb1⟩
end
end
end Go.Proofs.YtpnoofphfomjoaaGreatDoor
