/- ScrClone LawScrClones -/
import Derived.Laws.BytesArg
import Derived.Lib.SliceRun
import Derived.Shelf.Strings.Prefix
import Derived.Test.YthnenedoblncjaaGreatDoorProg
import Derived.Test.YthnenedoblncjaaGreatDoorPkR49
set_option maxRecDepth 1000000
set_option maxHeartbeats 8000000
namespace Go.Proofs.YthnenedoblncjaaGreatDoor
open Go.Proofs.Tryz
open List (getElem_toArray getElem_cons_succ getElem_cons_zero setIfInBounds_toArray set_cons_zero set_cons_succ)
section
open Go.RowKit Go.Shelf
attribute [local go_sem] Oper.semAt_some
theorem zvj(rs:List Rg):∀ u∈rgCells rs,u.oneCell'=true:=by
 intro u hu;unfold rgCells at hu;obtain ⟨e,_,he⟩:=List.mem_flatMap.1 hu;simp [Rg.cells] at he;rcases he with rfl|rfl|rfl <;> rfl
theorem zur(qs:List ((Int × Int) × Int)):∀ u∈XC qs,u.oneCell'=true:=by
 intro u hu;unfold XC at hu;obtain ⟨e,_,he⟩:=List.mem_flatMap.1 hu;simp at he;rcases he with rfl|rfl|rfl <;> rfl
theorem wB(A:Option Addr)(n c:Nat)(xs:List Value)(w:World)(hs:Sl w w.heap.size A xs)(hA:A=none->n=0/\xs=[])(hl:xs.length=n*3)(h1:∀ u∈xs,u.oneCell'=true)(hn:n<=100000):
 Calls prog 64 #[.slice A n c] w fun e w'=>∃ v,e=.returned v/\w'.ownsRow w.heap.size 38 3 v n xs/\Below w.heap.size w w':=by
 have hnil:∀ (w:World) (a:Option Addr) (n c n' c':Nat),(binOp .eql 32 (.slice a n c) (.slice none n' c')).run prog w=.ok (.bool a.isNone) w:=fun w a n c n' c'=>Lib.run_eql_slice_nil w 32 38 a n c n' c' underlying32;rcases A with _|a
 · obtain ⟨rfl,rfl⟩:=hA rfl;clear hs hl h1 hn hA;go_enter func64,ntmps64;go_wp2;go_ret;exact ⟨_,rfl,World.ownsRow_nil _ _ _ _,Below.refl _ _⟩
 · have hc2:∀ j u,xs[j]?=some u->(w.alloc (.cells #[] 38)).cell? (a.add j)=some u:=by
    intro j u hu;rcases hs with h|⟨b,off,hA,hlt,hc⟩
    · rw [h] at hu;simp at hu
    · cases hA;have e:(⟨b,off,none⟩:Addr).add j=⟨b,off+j,none⟩:=(by unfold Addr.add;split <;> simp_all);rw [e];exact ((Z5 (Below.refl w.heap.size w) (.cells #[] 38)).cell (p:=⟨b,off+j,none⟩) hlt).trans (hc j u hu)
   have HC:=hide hc2;have HL:=hide hl;have H1:=hide h1;have HN:=hide hn;clear hs hc2 hA hl h1 hn;obtain ⟨i0,hi,hz0,hz1,hz2⟩:=info_parts KT;go_enter func64,ntmps64;go_wp2_with (at_builtin;refine wpList_append_own _ rfl (.tmp 5) (.tmp 6) 32 rfl w.heap.size 38 i0 (.agg #[.bool false,.int .i64 0,.slice none 0 0]) 3 40 underlying32 hi hz0 hz1 hz2 rfl (by decide) (.slice (some ⟨w.heap.size,0,none⟩) 0 0) 0 [] rfl (Xz (xs:=[]) (Z7.new _ _ _) (Nat.le_refl _) rfl (by unfold maxLen;omega)) a n c xs rfl ?c1 ?c2 ?c3 ?c4 ?c5 ?c6 ?_)
   case c1=>exact HL.out
   case c2=>exact HC.out
   case c3=>exact H1.out
   case c4=>have:=HN.out;unfold maxLen;omega
   case c5=>have:=HN.out;omega
   case c6=>simp
   intro v3 w3 Zt Zx _;have hb3:Below w.heap.size w w3:=(bA).grown Zx (by simp) (fun k hk=>by simp [Value.ownBlock] at hk;omega);have Y1:w3.ownsRow w.heap.size 38 3 v3 n xs:=(by simpa using Zt);have HO:=hide Y1;clear Zt Zx Y1;go_wp2;go_ret;exact ⟨v3,rfl,HO.out,hb3⟩
theorem wz(A:Option Addr)(n c:Nat)(xs:List Value)(w:World)(hs:Sl w w.heap.size A xs)(hA:A=none->n=0/\xs=[])(hl:xs.length=n*3)(h1:∀ u∈xs,u.oneCell'=true)(hn:n<=100000):
 Calls prog 65 #[.slice A n c] w fun e w'=>∃ v,e=.returned v/\w'.ownsRow w.heap.size 46 3 v n xs/\Below w.heap.size w w':=by
 have hnil:∀ (w:World) (a:Option Addr) (n c n' c':Nat),(binOp .eql 33 (.slice a n c) (.slice none n' c')).run prog w=.ok (.bool a.isNone) w:=fun w a n c n' c'=>Lib.run_eql_slice_nil w 33 46 a n c n' c' underlying33;rcases A with _|a
 · obtain ⟨rfl,rfl⟩:=hA rfl;clear hs hl h1 hn hA;go_enter func65,ntmps65;go_wp2;go_ret;exact ⟨_,rfl,World.ownsRow_nil _ _ _ _,Below.refl _ _⟩
 · have hc2:∀ j u,xs[j]?=some u->(w.alloc (.cells #[] 46)).cell? (a.add j)=some u:=by
    intro j u hu;rcases hs with h|⟨b,off,hA,hlt,hc⟩
    · rw [h] at hu;simp at hu
    · cases hA;have e:(⟨b,off,none⟩:Addr).add j=⟨b,off+j,none⟩:=(by unfold Addr.add;split <;> simp_all);rw [e];exact ((Z5 (Below.refl w.heap.size w) (.cells #[] 46)).cell (p:=⟨b,off+j,none⟩) hlt).trans (hc j u hu)
   have HC:=hide hc2;have HL:=hide hl;have H1:=hide h1;have HN:=hide hn;clear hs hc2 hA hl h1 hn;obtain ⟨i0,hi,hz0,hz1,hz2⟩:=info_parts LD;go_enter func65,ntmps65;go_wp2_with (at_builtin;refine wpList_append_own _ rfl (.tmp 5) (.tmp 6) 33 rfl w.heap.size 46 i0 (.agg #[.int .i64 0,.int .i64 0,.int .u64 0]) 3 24 underlying33 hi hz0 hz1 hz2 rfl (by decide) (.slice (some ⟨w.heap.size,0,none⟩) 0 0) 0 [] rfl (Xz (xs:=[]) (Z7.new _ _ _) (Nat.le_refl _) rfl (by unfold maxLen;omega)) a n c xs rfl ?c1 ?c2 ?c3 ?c4 ?c5 ?c6 ?_)
   case c1=>exact HL.out
   case c2=>exact HC.out
   case c3=>exact H1.out
   case c4=>have:=HN.out;unfold maxLen;omega
   case c5=>have:=HN.out;omega
   case c6=>simp
   intro v3 w3 Zt Zx _;have hb3:Below w.heap.size w w3:=(bA).grown Zx (by simp) (fun k hk=>by simp [Value.ownBlock] at hk;omega);have Y1:w3.ownsRow w.heap.size 46 3 v3 n xs:=(by simpa using Zt);have HO:=hide Y1;clear Zt Zx Y1;go_wp2;go_ret;exact ⟨v3,rfl,HO.out,hb3⟩
theorem CS{X:World}{base size n c m:Nat}{e:TypeId}{xs:List Value}(h:X.ownsRow base e size (.slice none n c) m xs):m=0/\xs=[]:=by
 rcases h.2 with ⟨_,h2⟩|⟨g,cap,cur,h2,_⟩
 · refine ⟨h2,List.eq_nil_of_length_eq_zero ?_⟩;rw [h.1,h2,Nat.zero_mul]
 · cases h2
section
variable {σ:St}{sb:Nat}{gs:List Gr}{vR vQ:Value}{Wr Rd:Nat->Prop}{w:World}(h:Qz σ sb gs vR vQ Wr Rd w)
include h
theorem lT{w2:World}{v3 v4:Value}{X1:World}(hb1:Below w.heap.size w X1)(hb2:Below X1.heap.size X1 w2)(h3:X1.ownsRow w.heap.size 38 3 v3 gs.length (rgCells (gs.map (·.1))))(h4:w2.ownsRow X1.heap.size 46 3 v4 σ.2.length (XC σ.2)):
 UJ σ w2.heap.size (fun k=>w.heap.size<=k/\k<(w2.alloc (.cells #[v3,v4] 70)).heap.size) Rd (w2.alloc (.cells #[v3,v4] 70)):=by
 have hb:=Z8 hb1 hb2;have hba:Below w2.heap.size w2 (w2.alloc (.cells #[v3,v4] 70)):=bA;have hz1:=hb1.size;have hz2:=hb2.size;have hza:(w2.alloc (.cells #[v3,v4] 70)).heap.size=w2.heap.size+1:=by simp
 have l3:∀ k,v3.ownBlock=some k->w.heap.size<=k/\k<X1.heap.size:=fun k e=>⟨ZN h3 e,Yk h3 e⟩;have l4:∀ k,v4.ownBlock=some k->X1.heap.size<=k/\k<w2.heap.size:=fun k e=>⟨ZN h4 e,Yk h4 e⟩;refine ⟨gs,v3,v4,h.data,Z7.new _ _ _,VT (ZI (ZI h3 hb2) hba) (Nat.zero_le _),VT (ZI h4 hba) (Nat.zero_le _),⟨by omega,by omega⟩,fun k e=>?_,fun k e=>?_,fun k e e2=>?_,fun g hg=>⟨(h.ZY g hg).1,(h.ZY g hg).2.kept (Z9.of_below (Z8 hb hba) h.zV)⟩,fun k hr hw=>?_,fun k hk=>hk.2,fun k hk=>?_,h.small⟩
 · have:=l3 k e;exact ⟨⟨by omega,by omega⟩,by omega⟩
 · have:=l4 k e;exact ⟨⟨by omega,by omega⟩,by omega⟩
 · have:=l3 k e;have:=l4 k e2;omega
 · have:=h.zV k hr;omega
 · have:=h.zV k hk;omega
theorem wC:Calls prog 29 #[.pointer (some ⟨sb,0,none⟩)] w fun e w'=>∃ cb,e=.returned (.pointer (some ⟨cb,0,none⟩))/\Below w.heap.size w w'/\w.heap.size<=cb/\UJ σ cb (fun k=>w.heap.size<=k/\k<w'.heap.size) Rd w':=by
 have Yv:prog.follows .mixedOrders=true:=by kernel_rfl
 obtain ⟨RA,rc,rfl,_⟩:=ZP h.rows;obtain ⟨QA,qc,rfl,_⟩:=ZP h.VW;have c0:=h.blk.cell (i:=0) (v:=.slice RA gs.length rc) rfl;have c1:=h.blk.cell (i:=1) (v:=.slice QA σ.2.length qc) rfl;have hsb:=h.blk.lt;have mV:=hide (fun (w2 X1:World) (v3 v4:Value)=>lT (w2:=w2) (v3:=v3) (v4:=v4) (X1:=X1) h);have HR:Hid (∀ X,Below w.heap.size w X->Calls prog 64 #[.slice RA gs.length rc] X fun e w'=>∃ v,e=.returned v/\w'.ownsRow X.heap.size 38 3 v gs.length (rgCells (gs.map (·.1)))/\Below X.heap.size X w'):=hide fun X hX =>
  wB RA gs.length rc (rgCells (gs.map (·.1))) X (Sl.Zv (h.below hX).rows) (fun e=>by have h1:=h.rows;rw [e] at h1;exact CS h1) (by rw [Rx,List.length_map];omega) (zvj _) (by have:=h.small.2.2.1;omega)
 have HQ:Hid (∀ X,Below w.heap.size w X->Calls prog 65 #[.slice QA σ.2.length qc] X fun e w'=>∃ v,e=.returned v/\w'.ownsRow X.heap.size 46 3 v σ.2.length (XC σ.2)/\Below X.heap.size X w'):=hide fun X hX =>
  wz QA σ.2.length qc (XC σ.2) X (Sl.Zv (h.below hX).VW) (fun e=>by have h1:=h.VW;rw [e] at h1;exact CS h1) h.VW.1 (zur _) (by have:=h.small.2.2.2;omega)
 obtain ⟨n,hn⟩:=eE gs.length;obtain ⟨m,hm⟩:=eE σ.2.length;rw [<- hn] at c0 HR mV;rw [<- hm] at c1 HQ mV;have Pp:Hid (∀ X Y,Below w.heap.size w X->(X.cell? ⟨sb,0,none⟩=some (.slice RA n rc)/\X.cell? ⟨sb,1,none⟩=some (.slice QA m qc))->Below X.heap.size X Y->(Y.cell? ⟨sb,0,none⟩=some (.slice RA n rc)/\Y.cell? ⟨sb,1,none⟩=some (.slice QA m qc))):=hide fun X Y hwX hc hb =>
  ⟨(hb.cell (p:=⟨sb,0,none⟩) (Nat.lt_of_lt_of_le hsb hwX.size)).trans hc.1,(hb.cell (p:=⟨sb,1,none⟩) (Nat.lt_of_lt_of_le hsb hwX.size)).trans hc.2⟩
 have Xe:Hid (Below w.heap.size w w.drew):=hide (ZV (Below.refl _ _));have HW:Hid (w.heap.size=w.drew.heap.size):=hide rfl;clear h hn hm;refine (callsIn_wide (n:=6)).1 ?_;refine callsIn_of_wp func29 rfl trivial ?_ rfl;simp only [ntmps29,List.size_toArray,List.length_cons,List.length_nil,Nat.reduceAdd,Nat.reduceSub,Array.replicate_succ,Array.replicate_zero,List.push_toArray,List.append_toArray,List.nil_append,List.cons_append];gi_wp2;have hS:w.drew.cell? ⟨sb,0,none⟩=some (.slice RA n rc)/\w.drew.cell? ⟨sb,1,none⟩=some (.slice QA m qc):=⟨c0,c1⟩;clear c0 c1 hsb;refine Yz 1000 (S:=fun w'=>w'.cell? ⟨sb,0,none⟩=some (.slice RA n rc)/\w'.cell? ⟨sb,1,none⟩=some (.slice QA m qc)) Yv ?_;generalize w.drew=u0 at *;refine' Z0 (i:=0) rfl ?VK hS ?Uz
 case VK =>
  intro w' hSw;obtain ⟨k0,k1⟩:=hSw;go_simp;rfl
 simp only [Act.put,getElem_toArray,getElem_cons_zero,setIfInBounds_toArray,set_cons_zero,set_cons_succ];refine' Z0 (i:=1) rfl ?VL hS ?UA
 case VL =>
  intro w' hSw;obtain ⟨k0,k1⟩:=hSw;go_simp;rfl
 simp only [Act.put,Z6];refine' Z0 (i:=2) rfl ?VN hS ?UC
 case VN =>
  intro w' hSw;obtain ⟨k0,k1⟩:=hSw;go_simp;rfl
 simp only [Act.put,Z6];refine' Z0 (i:=3) rfl ?U1 hS ?Tm
 case U1 =>
  intro w' hSw;obtain ⟨k0,k1⟩:=hSw;go_simp;rfl
 simp only [Act.put,Z6];refine' Z0 (i:=5) rfl ?Kq hS ?FI
 case Kq =>
  intro w' hSw;obtain ⟨k0,k1⟩:=hSw;go_simp;rfl
 simp only [Act.put,Z6];refine' Z0 (i:=6) rfl ?Kr hS ?FJ
 case Kr =>
  intro w' hSw;obtain ⟨k0,k1⟩:=hSw;go_simp;rfl
 simp only [Act.put,Z6];refine' Z0 (i:=7) rfl ?OC hS ?LJ
 case OC =>
  intro w' hSw;obtain ⟨k0,k1⟩:=hSw;go_simp;rfl
 simp only [Act.put,Z6];refine' Z0 (i:=8) rfl ?jG hS ?bf
 case jG =>
  intro w' hSw;obtain ⟨k0,k1⟩:=hSw;go_simp;rfl
 simp only [Act.put,Z6];refine Zc (i:=4) (by kernel_rfl) rfl ?_;intro K hK;rw [if_pos (by rfl)];go_simp;refine ⟨trivial,?_⟩;refine (callsIn_wide.2 (HR.out u0 Xe.out)).mono ?_;rintro e y1 ⟨v3,rfl,iT,UY⟩;obtain ⟨Av3,rv3,rfl,-⟩:=ZP iT;have hS1:=Pp.out _ _ Xe.out hS UY;have Nb:=Z8 Xe.out UY;refine hK.out _ _ (fun _=>hS1) ?_;clear hK K
 (try simp only [Act.put,Z6])
 refine Zc (i:=9) (by kernel_rfl) rfl ?_;intro K hK;rw [if_pos (by rfl)];go_simp;refine ⟨trivial,?_⟩;refine (callsIn_wide.2 (HQ.out y1 Nb)).mono ?_;rintro e y2 ⟨v4,rfl,iU,Ws⟩;obtain ⟨Av4,rv4,rfl,-⟩:=ZP iU;have hS2:=Pp.out _ _ Nb hS1 Ws;have Uq:=Z8 Nb Ws;refine hK.out _ _ (fun _=>hS2) ?_;clear hK K
 (try simp only [Act.put,Z6])
 refine Zc (i:=10) (by kernel_rfl) rfl ?_;intro K hK;rw [if_pos (by rfl)];go_simp;refine hK.out _ _ (fun _=>hS2) ?_;clear hK K
 (try simp only [Act.put,Z6])
 have hSA:Below y2.heap.size y2 (y2.alloc (.cells #[.slice Av3 n rv3,.slice Av4 m rv4] 70)):=bA;have D7:=Pp.out _ _ Uq hS2 hSA;have HBZ:=Z8 Uq hSA;refine Zc (i:=11) (by kernel_rfl) rfl ?_;intro K hK;rw [if_pos (by rfl)];go_simp;refine hK.out _ _ (fun _=>D7) ?_;clear hK K
 (try simp only [Act.put,Z6])
 refine Zc (i:=12) (by kernel_rfl) rfl ?_;intro K hK;rw [if_pos (by rfl)];go_simp;refine hK.out _ _ (fun _=>D7) ?_;clear hK K
 (try simp only [Act.put,Z6])
 refine Yc (by kernel_rfl) ?_ _
 have HF:Hid (∃ cb,y2.heap.size=cb/\Below w.heap.size w (y2.alloc (.cells #[.slice Av3 n rv3,.slice Av4 m rv4] 70))/\w.heap.size<=cb/\UJ σ cb (fun k=>w.heap.size<=k/\k<(y2.alloc (.cells #[.slice Av3 n rv3,.slice Av4 m rv4] 70)).heap.size) Rd (y2.alloc (.cells #[.slice Av3 n rv3,.slice Av4 m rv4] 70))) :=
  hide ⟨_,rfl,HBZ,Uq.size,mV.out y2 y1 _ _ Nb Ws (by rw [HW.out];exact iT) iU⟩
 clear hS hS1 hS2 D7 Nb Uq HBZ hSA iT iU UY Ws mV HR HQ Pp;gi_wp2;go_ret;obtain ⟨cb,h1,h2,h3,h4⟩:=HF.out;exact ⟨cb,by rw [<- h1];rfl,h2,h3,h4⟩
end
end
section
open Go.RowKit Go.Shelf
def cL1:List UInt8:=[99,108,101,97,114]
def cL2:List UInt8:=[97,108,108,111,119,32,100,105,115,99,32,49,32,48,32,48,32,49,32,45,49,32,48]
def cL3:List UInt8:=[97,100,100,32,53,32,48,32,48]
def JF:List UInt8:=[99,108,101,97,114,10,97,108,108,111,119,32,100,105,115,99,32,49,32,48,32,48,32,49,32,45,49,32,48,10,97,100,100,32,53,32,48,32,48]
theorem Nk:Yb JF=[cL1,cL2,cL3]:=by decide +kernel
def cS1:St:=([(false,0,[(1,0),(0,1),(-1,0)])],[])
def cS2:St:=([(false,0,[(1,0),(0,1),(-1,0)])],[((0,0),5)])
theorem c1(σ:St):UN σ cL1=([111,107],([],[])):=by kernel_rfl
theorem c2:UN ([],[]) cL2=(txt 1,cS1):=by kernel_rfl
theorem c3:UN cS1 cL3=(txt 1,cS2):=by kernel_rfl
theorem c4:UN cS2 fA=OU [] cS2:=by kernel_rfl
theorem c4r:Vy cS2=⟨1,1,[(1,5)]⟩:=by kernel_rfl
theorem c5:(OU [] cS2).1=[49,32,53]:=by
 unfold OU;rw [if_neg (by decide),if_neg (by decide)];unfold runT;rw [c4r,if_neg (by decide)];have e1:txt 1=[49]:=FX (n:=1) (by decide);have e2:NY 5=[53]:=by unfold NY;rw [UQ (by decide)];rfl
 show Lib.join (txt 1::[NY 5]) [32]=_;rw [e1,e2];rfl
theorem zfw(s:List (List UInt8)):Vi (s++Yb JF) fA=[49,32,53]:=by
 unfold Vi nC;rw [Nk,List.foldl_append,List.foldl_cons,List.foldl_cons,List.foldl_cons,List.foldl_nil,c1,c2,c3,c4,c5]
theorem G6{B sb:Nat}{W R:Nat->Prop}{s:List (List UInt8)}{X:World}(h:Y6 B UN ([],[]) sb W R s X):∀ k,R k->¬ W k:=by
 obtain ⟨⟨gs,vR,vQ,h⟩,_⟩:=h;exact h.apart
theorem Fb{B sb:Nat}{W R:Nat->Prop}{s:List (List UInt8)}{X:World}(h:Y6 B UN ([],[]) sb W R s X):∀ k,W k\/R k->k<X.heap.size:=fun k hk=>Wy ((UO B sb).cell h k hk)
theorem Gm{B sb:Nat}{W R:Nat->Prop}{s:List (List UInt8)}{X:World}(h:Y6 B UN ([],[]) sb W R s X):Calls prog 29 #[.pointer (some ⟨sb,0,none⟩)] X fun e Y=>∃ cb W' R',e=.returned (.pointer (some ⟨cb,0,none⟩))/\Below X.heap.size X Y/\Y6 B UN ([],[]) cb W' R' s Y/\(∀ k,W' k->X.heap.size<=k)/\∀ k,R' k->R k:=by
 have hB:=h.2.1;obtain ⟨⟨gs,vR,vQ,hs⟩,_⟩:=h;refine (wC hs).mono ?_;rintro e Y ⟨cb,rfl,hb,hcb,hsa⟩;refine ⟨cb,_,_,rfl,hb,⟨hsa.cells,hB.new hb,fun k hk=>Nat.le_trans hB.1 hk.1.1,fun k hk=>?_⟩,fun k hk=>hk.1.1,fun k hk=>hk.1⟩;rcases hk with hk|hk
 · exact hk.2
 · exact hk.2
section
variable (s1 s2:ByteArray)(h1:s1.size<=1048576)(h2:s2.size<=1048576)(w:World){B:Nat}(he:Env B w)
include h1 h2 he
theorem Fu:Calls prog 7 #[.string s1,.string s2] w fun e w'=>e=.returned (.bool true)/\Below w.heap.size w w':=by
 have sM:=hide (fun (X:World) (hb:Below w.heap.size w X)=>tF X (he.new hb));obtain ⟨t1,ht1⟩:∃ t,t=s1.data.toList:=⟨_,rfl⟩;obtain ⟨t2,ht2⟩:∃ t,t=s2.data.toList:=⟨_,rfl⟩;have e1:strOf t1=s1:=by rw [ht1];exact Tz s1
 have e2:strOf t2=s2:=by rw [ht2];exact Tz s2
 have l1:t1.length<=1048576:=by rw [<- ZK,e1];exact h1
 have l2:t2.length<=1048576:=by rw [<- ZK,e2];exact h2
 have SK1:=hide (FT t1 (by omega) w);have eU:=hide (fun X=>FT t2 (by omega) X);rw [e1] at SK1;rw [e2] at eU;have Qs:Hid (Env w.heap.size w):=hide ⟨Nat.le_refl _,fun w' hb=>he.2 w' (Vu hb he.1)⟩;have RO:=hide e1;have HE2:=hide e2;clear h1 h2 he l1 l2 e1 e2 ht1 ht2;go_enter func7,ntmps7;go_wp2_with fail;refine SK1.out.mono ?_;rintro e w1 ⟨z1,rfl,hz1,hb1⟩;have HB1:=hide hb1;cases z1 with
 | true =>
   clear hz1 hb1 SK1 eU;go_wp2_with fail;refine (sM.out w1 HB1.out).mono ?_;rintro e w3 ⟨rfl,hb3⟩;go_wp2;go_ret;exact ⟨rfl,Z8 HB1.out hb3⟩
 | false =>
   have dW:=hide (hz1 rfl);clear hz1 hb1 SK1;go_wp2_with fail;refine (eU.out w1).mono ?_;rintro e w2 ⟨z2,rfl,hz2,hb2⟩;have HB2:=hide (Z8 HB1.out hb2);cases z2 with
   | true =>
     clear hz2 hb2 eU;go_wp2_with fail;refine (sM.out w2 HB2.out).mono ?_;rintro e w3 ⟨rfl,hb3⟩;go_wp2;go_ret;exact ⟨rfl,Z8 HB2.out hb3⟩
   | false =>
     have HN2:=hide (hz2 rfl);clear hz2 hb2 eU
     have RF:Hid (∀ sb W R X,Y6 w.heap.size UN ([],[]) sb W R [] X->Calls prog 17 #[.pointer (some ⟨sb,0,none⟩),.string s1] X (Pv [] t1 Vi (Y6 w.heap.size UN ([],[]) sb) W R X)):=hide fun sb W R X hi=>by
      have hn1:=dW.out;exact Tw w.heap.size sb s1 t1 RO.out.symm (by omega) (fun l hl=>Nat.le_trans (WG hl) hn1.1) [] (by rw [List.length_nil];omega) W R X hi
     have RS:Hid (∀ sb W R X,Y6 w.heap.size UN ([],[]) sb W R (Yb t1) X->Calls prog 17 #[.pointer (some ⟨sb,0,none⟩),.string s2] X (Pv (Yb t1) t2 Vi (Y6 w.heap.size UN ([],[]) sb) W R X)):=hide fun sb W R X hi=>by
      have hn1:=dW.out;have hn2:=HN2.out;exact Tw w.heap.size sb s2 t2 HE2.out.symm (by omega) (fun l hl=>Nat.le_trans (WG hl) hn2.1) (Yb t1) (by omega) W R X hi
     have RC:Hid (∀ sb W R X,Y6 w.heap.size UN ([],[]) sb W R (Yb t1) X->Calls prog 17 #[.pointer (some ⟨sb,0,none⟩),.string (strOf JF)] X (Pv (Yb t1) JF Vi (Y6 w.heap.size UN ([],[]) sb) W R X)):=hide fun sb W R X hi=>by
      have hn1:=dW.out;have hc3:(Yb JF).length=3:=(by rw [Nk];rfl);exact Tw w.heap.size sb (strOf JF) JF rfl (by decide) (fun l hl=>Nat.le_trans (WG hl) (by decide)) (Yb t1) (by omega) W R X hi
     obtain ⟨n2,hn2⟩:∃ n,n=(Yb t2).length:=⟨_,rfl⟩;have zO:Hid (n2=(Yb t2).length/\n2<=30/\(Yb t1).length<=30):=hide ⟨hn2,by rw [hn2];exact HN2.out.2,dW.out.2⟩;obtain ⟨res,hres⟩:∃ r,r=Xf Vi (Yb t1) (Yb t2):=⟨_,rfl⟩;have HRE:Hid (res=Xf Vi (Yb t1) (Yb t2)/\res.length=n2):=hide ⟨hres,by rw [hres,Jw,hn2]⟩;obtain ⟨b1,hb1⟩:∃ z,z=w2.heap.size:=⟨_,rfl⟩;obtain ⟨b2,hb2⟩:∃ z,z=w2.heap.size+1:=⟨_,rfl⟩;obtain ⟨w3,hw3⟩:=eE (w2.alloc (.cells #[.slice none 0 0,.slice none 0 0] 70));obtain ⟨w4,hw4⟩:=eE (w3.alloc (.cells #[.slice none 0 0,.slice none 0 0] 70));have z3:w3.heap.size=b2:=(by rw [hw3,hb2];simp);have z4:w4.heap.size=b2+1:=(by rw [hw4];simp [z3]);have q3:=bE hw3;have q4:=bE hw4;have B3:=Z8 HB2.out q3;have J1:=QL (Qs.out.new HB2.out) UN;have J2:=QL (Qs.out.new B3) UN;rw [<- hw3,<- hb1] at J1;rw [<- hw4,z3] at J2;have HJ1:=hide (YR J1 q4);have HJ2:=hide J2;have LM:=hide (Z8 B3 q4);have HZ:Hid (w.heap.size<=b1/\b2=b1+1/\w4.heap.size=b1+2):=hide (by have:=HB2.out.size;omega);have N1:=hide (TU w2);have N2:=hide (TU w3);rw [<- hb1,<- hw3] at N1;rw [z3,<- hw4] at N2;clear z3 z4 q3 q4 B3 J1 J2 hw3 hw4 hb1 hb2 hn2 hres;go_wp2_with fail;refine N1.out.mono ?_;rintro e x3 ⟨rfl,hx3⟩;rw [hx3];clear hx3 N1;go_wp2_with fail;refine N2.out.mono ?_;rintro e x4 ⟨rfl,hx4⟩;rw [hx4];clear hx4 N2;have S1:=hide (RF.out b1 _ _ w4 HJ1.out);clear HJ1;go_wp2_with fail;refine S1.out.mono ?_;rintro e w5 ⟨W1,R1,v1,rfl,i1,-,hW1,hR1,-,k1⟩;rw [List.nil_append] at i1;have hz:=HZ.out;have it:=YS HJ2.out k1 (fun k hk h=>by rcases hk with hk|hk;have hk:k=b2:=hk;have h:k=b1:=h;omega;exact hk) (fun k hk=>by have hk:k=b1:=hk;omega)
     have hW1':∀ k,W1 k->k≠b2:=fun k h=>by
      rcases hW1 k h with h|h
      · have h:k=b1:=h;omega
      · omega
     have zge:∀ k,R1 k->k≠b2:=fun k h=>by
      rcases hR1 k h with h|h
      · exact h.elim
      · omega
     have CL1:=hide (Gm i1);have HI1:=hide i1;have HIT:=hide it;have HW1:=hide (And.intro hW1' zge);have HZ5:Hid (w4.heap.size<=w5.heap.size):=hide k1.size;have nG:Hid (Below w.heap.size w w5):=hide (Zd LM.out (k1.below fun k hk=>⟨by omega,fun h=>by have h:k=b1:=h;omega⟩));clear S1 HJ2 i1 it hW1 hR1 hW1' zge k1 hz RF
     have RF:Hid (∀ sb W R X,Y6 w.heap.size UN ([],[]) sb W R [] X->Calls prog 17 #[.pointer (some ⟨sb,0,none⟩),.string s1] X (Pv [] t1 Vi (Y6 w.heap.size UN ([],[]) sb) W R X)):=hide fun sb W R X hi=>by
      have hn1:=dW.out;exact Tw w.heap.size sb s1 t1 RO.out.symm (by omega) (fun l hl=>Nat.le_trans (WG hl) hn1.1) [] (by rw [List.length_nil];omega) W R X hi
     go_wp2_with fail;refine CL1.out.mono ?_;rintro e w6 ⟨cb,Wc,Rc,rfl,q6,ic,hWc,hRc⟩;have SC:=hide (RC.out cb _ _ w6 ic);have HIC:=hide ic;have HWC:=hide (And.intro hWc hRc);have Ee:=hide (YR HI1.out q6);have zew:=hide (YR HIT.out q6);have HL5:Hid ((∀ k,W1 k\/R1 k->k<w5.heap.size)/\b2<w5.heap.size):=hide ⟨Fb HI1.out,Fb HIT.out b2 (.inl rfl)⟩;have nH:=hide (Zd nG.out (Vu q6 nG.out.size));have HZ6:Hid (w5.heap.size<=w6.heap.size):=hide q6.size;clear CL1 ic hWc hRc q6 HI1 HIT nG RC;go_wp2_with fail;refine SC.out.mono ?_;rintro e w7 ⟨W3,R3,v3,rfl,i3,-,hW3,o9,-,k3⟩;have hz:=HZ.out;have h5:=HZ5.out;have h6:=HZ6.out;have hl5:=HL5.out;have hwc:=HWC.out;have i1:=YS Ee.out k3 (fun k hk h=>by have a:=hl5.1 k hk;have b:=hwc.1 k h;omega) (fun k h=>by have b:=hwc.1 k h;have:=nH.out.size;omega);have it:=YS zew.out k3 (fun k hk h=>by rcases hk with hk|hk;have hk:k=b2:=hk;have b:=hwc.1 k h;omega;exact hk) (fun k h=>by have b:=hwc.1 k h;omega);have h7:w6.heap.size<=w7.heap.size:=k3.size;have hl7:=Fb i3
     have h3b:∀ k,W3 k\/R3 k->k≠b2:=fun k hk e=>by
      rcases hk with hk|hk
      · rcases hW3 k hk with h|h
        · have b:=hwc.1 k h;omega
        · omega
      · rcases o9 k hk with h|h
        · exact HW1.out.2 k (hwc.2 k h) e
        · omega
     have h3w:∀ k,W3 k\/R3 k->¬ W1 k:=fun k hk e=>by
      have hlt:=hl5.1 k (.inl e);rcases hk with hk|hk
      · rcases hW3 k hk with h|h
        · have b:=hwc.1 k h;omega
        · omega
      · rcases o9 k hk with h|h
        · exact G6 i1 k (hwc.2 k h) e
        · omega
     have CL2:=hide (Gm i1);have dN:=hide (Zd nH.out (k3.below (B:=w.heap.size) fun k hk=>⟨by have:=nH.out.size;omega,fun h=>by have b:=hwc.1 k h;omega⟩));have HI1:=hide i1;have HIT:=hide it;have HI3:=hide i3;have H3:=hide (And.intro h3b (And.intro h3w hl7));have HZ7:=hide h7;clear SC i1 it i3 hW3 o9 k3 hz h5 h6 h7 hl5 hl7 hwc h3b h3w Ee zew HIC HWC nH;go_wp2_with fail;refine CL2.out.mono ?_;rintro e w8 ⟨db,Wd,Rd,rfl,q8,id,hWd,hRd⟩;have hlt3:=H3.out.2.2;have S4:=hide (RF.out b2 _ _ w8 (YR HIT.out q8));have Ee:=hide (YR HI1.out q8);have Ob:=hide (YR HI3.out q8);have HID:=hide id;have HD8:Hid ((∀ k,Wd k->w7.heap.size<=k)/\(∀ k,Rd k->R1 k)/\(∀ k,Wd k\/Rd k->k<w8.heap.size)):=hide ⟨hWd,hRd,Fb id⟩;have HB8:=hide (Zd dN.out (Vu q8 dN.out.size));have HZ8:Hid (w7.heap.size<=w8.heap.size):=hide q8.size;clear CL2 id hWd hRd q8 HI1 HIT HI3 dN hlt3 RF;go_wp2_with fail;refine S4.out.mono ?_;rintro e w9 ⟨W4,R4,v4,rfl,i4,-,um,-,-,k4⟩;rw [List.nil_append] at i4;have hz:=HZ.out;have h5:=HZ5.out;have h6:=HZ6.out;have h7:=HZ7.out;have h8:=HZ8.out;have hl5:=HL5.out;have i1:=YS Ee.out k4 (fun k hk h=>by have h:k=b2:=h;rcases hk with hk|hk;exact HW1.out.1 k hk h;exact HW1.out.2 k hk h) (fun k h=>by have h:k=b2:=h;omega);have i3:=YS Ob.out k4 (fun k hk h=>H3.out.1 k hk h) (fun k h=>by have h:k=b2:=h;omega)
     have id:=YS HID.out k4 (fun k hk h=>by
      have h:k=b2:=h;rcases hk with hk|hk
      · have:=HD8.out.1 k hk;omega
      · exact HW1.out.2 k (HD8.out.2.1 k hk) h) (fun k h=>by have h:k=b2:=h;omega)
     have S5:=hide (RS.out b2 _ _ w9 i4);have h9:w8.heap.size<=w9.heap.size:=k4.size;have HB9:=hide (Zd HB8.out (k4.below (B:=w.heap.size) fun k hk=>⟨by have:=HB8.out.size;omega,fun h=>by have h:k=b2:=h;omega⟩));have HW4:Hid (∀ k,W4 k->k=b2\/w8.heap.size<=k):=hide um;have HI1:=hide i1;have HI3:=hide i3;have dS:=hide id;have HZ9:=hide h9;clear S4 i1 i3 id i4 um k4 hz h5 h6 h7 h8 h9 hl5 Ee Ob HID HB8;go_wp2_with fail;refine S5.out.mono ?_;rintro e RL ⟨W5,R5,v5,rfl,-,-,-,-,o5,k5⟩;rw [<- HRE.out.1,<- zO.out.1] at o5;have hz:=HZ.out;have h5:=HZ5.out;have h6:=HZ6.out;have h7:=HZ7.out;have h8:=HZ8.out;have h9:=HZ9.out;have hl5:=HL5.out;have hnot:∀ k,k<w8.heap.size->k≠b2->¬ W4 k:=fun k a b h=>by rcases HW4.out k h with h|h <;> omega
     have zxo:∀ k,W4 k->w.heap.size<=k:=fun k h=>by have:=HB9.out.size;rcases HW4.out k h with h|h <;> omega
     have i1:=YS HI1.out k5 (fun k hk=>hnot k (by have:=hl5.1 k hk;omega) (by rcases hk with hk|hk;exact HW1.out.1 k hk;exact HW1.out.2 k hk)) zxo;have i3:=YS HI3.out k5 (fun k hk=>hnot k (by have:=H3.out.2.2 k hk;omega) (H3.out.1 k hk)) zxo
     have id:=YS dS.out k5 (fun k hk=>hnot k (HD8.out.2.2 k hk) (by
      rcases hk with hk|hk
      · have:=HD8.out.1 k hk;omega
      · exact HW1.out.2 k (HD8.out.2.1 k hk))) zxo
     have IC:=hide (Zd HB9.out (k5.below (B:=w.heap.size) fun k hk=>⟨by have:=HB9.out.size;omega,fun h=>by rcases HW4.out k h with h|h <;> omega⟩));have Ee:=hide i1;have Ob:=hide i3;have HID:=hide id;have cK:=hide o5;have hv5:∀ k,v5.ownBlock=some k->w9.heap.size<=k:=fun k e=>ZN o5 e;have HV5:=hide hv5;have yyw:Hid (w9.heap.size<=RL.heap.size):=hide k5.size;obtain ⟨A5,c5,rfl,-⟩:=ZP o5;have AL:=hide (sM.out RL IC.out);clear S5 i1 i3 id o5 k5 hz h5 h6 h7 h8 h9 hl5 hnot zxo hv5 HI1 HI3 dS HB9 HW4;go_wp2_with fail;refine AL.out.mono ?_;rintro e Qp ⟨rfl,q11⟩;have S6:=hide (RS.out b1 _ _ Qp (YR Ee.out q11));have HI3:=hide (YR Ob.out q11);have dS:=hide (YR HID.out q11);have dY:=hide (ZI cK.out q11);have zoi:=hide (Zd IC.out (Vu q11 IC.out.size));have yyx:Hid (RL.heap.size<=Qp.heap.size):=hide q11.size;clear AL q11 Ob HID cK IC;go_wp2_with fail;refine S6.out.mono ?_;rintro e M9 ⟨W6,R6,v6,rfl,-,-,-,-,o6,k6⟩;rw [<- HRE.out.1,<- zO.out.1] at o6;have hz:=HZ.out;have h5:=HZ5.out;have h6:=HZ6.out;have h7:=HZ7.out;have h8:=HZ8.out;have h9:=HZ9.out;have hl5:=HL5.out;have hBW1:∀ k,W1 k->w.heap.size<=k:=(UO w.heap.size b1).low Ee.out |>.2
     have i3:=YS HI3.out k6 H3.out.2.1 hBW1
     have id:=YS dS.out k6 (fun k hk h=>by
      rcases hk with hk|hk
      · have a:=HD8.out.1 k hk;have b:=hl5.1 k (.inl h);omega
      · exact G6 Ee.out k (HD8.out.2.1 k hk) h) hBW1
     have o5:=Xu dY.out k6 (fun k e h=>by have a:=HV5.out k e;have b:=hl5.1 k (.inl h);omega);have IE:=hide (Zd zoi.out (k6.below (B:=w.heap.size) fun k hk=>⟨by have:=zoi.out.size;omega,fun h=>by have:=hBW1 k h;omega⟩));obtain ⟨A6,c6,rfl,-⟩:=ZP o6;have hrl:=HRE.out.2;have zxv:=zO.out.2.1;have T1:=VF res A6 A5 c6 c5 M9 (by omega) (Sl.Zv o6) (Sl.Zv o5);rw [hrl] at T1;have E1:=hide T1;have Ob:=hide i3;have HID:=hide id;have cK:=hide o5;clear S6 T1 i3 id o5 o6 k6 hz h5 h6 h7 h8 h9 hl5 hBW1 hrl zxv HI3 dS dY zoi;go_wp2_with fail;refine E1.out.mono ?_;rintro e Ph ⟨rfl,q13⟩;have S7:=hide (RS.out db _ _ Ph (YR HID.out q13));have HI3:=hide (YR Ob.out q13);have dY:=hide (ZI cK.out q13);have vD:=hide (Zd IE.out (Vu q13 IE.out.size));clear E1 q13 Ob cK IE;go_wp2_with fail;refine S7.out.mono ?_;rintro e zJ ⟨W7,R7,v7,rfl,-,-,-,-,o7,k7⟩;rw [<- HRE.out.1,<- zO.out.1] at o7;have h9:=HZ9.out;have zpy:∀ k,Wd k->w.heap.size<=k:=(UO w.heap.size db).low HID.out |>.2
     have i3:=YS HI3.out k7 (fun k hk h=>by have a:=HD8.out.1 k h;have b:=H3.out.2.2 k hk;omega) zpy;have o5:=Xu dY.out k7 (fun k e h=>by have a:=HV5.out k e;have b:=HD8.out.2.2 k (.inl h);omega);have dM:=hide (Zd vD.out (k7.below (B:=w.heap.size) fun k hk=>⟨by have:=vD.out.size;omega,fun h=>by have:=zpy k h;omega⟩));obtain ⟨A7,c7,rfl,-⟩:=ZP o7;have hrl:=HRE.out.2;have zxv:=zO.out.2.1;have T1:=VF res A7 A5 c7 c5 zJ (by omega) (Sl.Zv o7) (Sl.Zv o5);rw [hrl] at T1;have E2:=hide T1;have Ob:=hide i3;clear S7 T1 i3 o5 o7 k7 h9 zpy hrl zxv HI3 dY vD;go_wp2_with fail;refine E2.out.mono ?_;rintro e w15 ⟨rfl,q15⟩;have DD:=hide ((UO w.heap.size cb).step fA (by decide) (by rw [List.length_append,Nk];have:=zO.out.2.2;simp;omega) (YR Ob.out q15));rw [zfw,show strOf [49,32,53]={ data:=#[49,32,53] } from rfl] at DD;have zes:=hide (Zd dM.out (Vu q15 dM.out.size));have zga:∀ k,W3 k->w.heap.size<=k:=(UO w.heap.size cb).low Ob.out |>.2
     have HW3:=hide zga;clear E2 q15 zga dM;go_wp2_with fail;refine DD.out.mono ?_;rintro e w16 ⟨rfl,-,-,-,-,-,k16⟩;have zat:=hide (Zd zes.out (k16.below (B:=w.heap.size) fun k hk=>⟨by have:=zes.out.size;omega,fun h=>by have:=HW3.out k h;omega⟩));clear k16 DD;go_wp2;go_ret;exact ⟨rfl,zat.out⟩
end
end
end Go.Proofs.YthnenedoblncjaaGreatDoor