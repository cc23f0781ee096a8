/- Parse Parse2 Parse3 RefParse2 RefParse3 ParseAny Classify RefPayload -/
import Derived.ChangeAlike
import Derived.Test.YthnenedoblncjaaGreatDoorPkR01
set_option maxRecDepth 1000000
set_option maxHeartbeats 8000000
namespace Go.Proofs.YthnenedoblncjaaGreatDoor
open Go.Proofs.Tryz
section
open Go.RowKit
def Parsed(r:PH × Int × Int)(w:World)(e:Ending)(w':World):Prop :=
 ∃ A c,e=.returned (.tuple #[.agg #[.int .i64 r.1.op,.int .i64 r.1.vs,.slice A r.1.rs.length c,.int .i64 r.1.ZY],.int .i64 r.2.1,.int .i64 r.2.2])/\Sl w' w'.heap.size A (rgCells r.1.rs)/\Below w.heap.size w w'
theorem YQ {fn:Func} {tmps:Array Value} {w:World} {g:Nat} {v0 v1 v2 v3:Value} (h:fn.results=#[.cell 2 53,.tmp 3,.tmp 4])
 (hp:tmps.getD 2 undef=.pointer (some ⟨g,0,none⟩)) (hb:Z7 w g 53 #[v0,v1,v2,v3]) :
 (results fn tmps).run prog w=.ok (.tuple #[.agg #[v0,v1,v2,v3],tmps.getD 3 undef,tmps.getD 4 undef]) w:=by
 have c0:=hb.q0 rfl;have c1:=hb.q1 rfl;have c2:=hb.q2 rfl;have c3:=hb.q3 rfl;have hp':tmps[2]?.getD undef=.pointer (some ⟨g,0,none⟩):=by rw [<- hp];simp
 simp [results,h,hp',go_sem,c0,c1,c2,c3]
section
variable (bs:List Int)(A:Option Addr)(c:Nat)(w:World)
theorem CW(h0:bs.length<1):
 Calls prog 226 #[.slice A bs.length c] w (Parsed (ZW bs) w):=by
 have hr:ZW bs=(Zh,0,4):=by unfold ZW;rw [if_pos h0]
 rw [hr];have HR:=hide hr;clear hr;go_enter func226,ntmps226;go_wp2;refine YM 0 rfl ?_;go_wp2
 go_step3
 go_wp2;refine Xo ?_;unfold Wu;go_wp2;rw [Exit.noGoto_ret];exact bodyPost_ret (v:=.tuple #[.agg #[.int .i64 0,.int .i64 0,.slice none 0 0,.int .i64 0],.int .i64 0,.int .i64 4]) (by simp [results,Tryz.results226,go_sem]) rfl ⟨none,0,rfl,Sl.nil _ _ _,Z5 (bA) _⟩
variable (hs:Sl w w.heap.size A (ZU bs))(hcap:bs.length<=c)(hmax:c<=maxLen)(hby:∀ (j:Nat) (x:Int),bs[j]?=some x->0<=x/\x<=255)
include hs in
theorem kH(h0:0<bs.length)(hop:bs.getD 0 0=1\/bs.getD 0 0=2):
 Calls prog 226 #[.slice A bs.length c] w (Parsed (ZW bs) w):=by
 obtain ⟨o,ho⟩:∃ o,bs[0]?=some o:=⟨_,List.getElem?_eq_getElem (by omega)⟩;have hod:bs.getD 0 0=o:=by rw [List.getD_eq_getElem?_getD,ho];rfl
 rw [hod] at hop;obtain ⟨b,off,rfl,hB,hc⟩:=hs.RU (by omega);have c0:=hc 0 o ho;rw [Nat.add_zero] at c0;have HC:=hide hc;clear hc;have hr:ZW bs=(⟨o,0,[],0⟩,1,0):=by unfold ZW;rw [if_neg (by omega),hod,if_pos hop]
 rw [hr];have HR:=hide hr;clear hr hod ho;rcases hop with rfl|rfl
 all_goals
  go_enter func226,ntmps226;go_wp2;refine YM 0 rfl ?_;go_wp2;refine bodyPost_ret (v:=.tuple #[.agg #[.int .i64 _,.int .i64 0,.slice none 0 0,.int .i64 0],.int .i64 1,.int .i64 0]) (by simp [results,Tryz.results226,go_sem]) rfl ⟨none,0,rfl,Sl.nil _ _ _,?_⟩;exact (Z5 (bA) _)
include hs hby in
theorem qM(h0:0<bs.length)(hop:bs.getD 0 0<1\/5<bs.getD 0 0):
 Calls prog 226 #[.slice A bs.length c] w (Parsed (ZW bs) w):=by
 obtain ⟨o,ho⟩:∃ o,bs[0]?=some o:=⟨_,List.getElem?_eq_getElem (by omega)⟩;have hod:bs.getD 0 0=o:=by rw [List.getD_eq_getElem?_getD,ho];rfl
 rw [hod] at hop;obtain ⟨b,off,rfl,hB,hc⟩:=hs.RU (by omega);have Sq:=hby 0 o ho;obtain ⟨xM,xO⟩:=Sq;have c0:=hc 0 o ho;rw [Nat.add_zero] at c0;have HC:=hide hc;clear hc;have hr:ZW bs=(Zh,0,5):=by unfold ZW;rw [if_neg (by omega),hod,if_neg (by omega),if_pos (by omega)]
 rw [hr];have HR:=hide hr;clear hr hod ho;have e1:(o == 1)=false:=by simp;omega
 have e2:(o == 2)=false:=by simp;omega
 have e3:(o == 3)=false:=by simp;omega
 have e4:(o == 4)=false:=by simp;omega
 have e5:(o == 5)=false:=by simp;omega
 go_enter func226,ntmps226;go_wp2;refine YM 0 rfl ?_;go_wp2
 go_step3
 go_wp2;refine Xo ?_;unfold Wu;go_wp2;rw [Exit.noGoto_ret];exact bodyPost_ret (v:=.tuple #[.agg #[.int .i64 0,.int .i64 0,.slice none 0 0,.int .i64 0],.int .i64 0,.int .i64 5]) (by simp [results,Tryz.results226,go_sem]) rfl ⟨none,0,rfl,Sl.nil _ _ _,Z5 (bA) _⟩
include hs in
theorem qN(h0:bs.length=1)(hop:bs.getD 0 0=3\/bs.getD 0 0=4\/bs.getD 0 0=5):
 Calls prog 226 #[.slice A bs.length c] w (Parsed (ZW bs) w):=by
 obtain ⟨o,ho⟩:∃ o,bs[0]?=some o:=⟨_,List.getElem?_eq_getElem (by omega)⟩;have hod:bs.getD 0 0=o:=by rw [List.getD_eq_getElem?_getD,ho];rfl
 rw [hod] at hop;obtain ⟨b,off,rfl,hB,hc⟩:=hs.RU (by omega);have c0:=hc 0 o ho;rw [Nat.add_zero] at c0;have hr:ZW bs=(Zh,0,4):=by unfold ZW;rw [if_neg (by omega),hod,if_neg (by omega),if_neg (by omega),if_pos (by omega)]
 rw [hr];have HR:=hide hr;clear hr hod ho;have HC:=hide hc;clear hc;have h0':bs.length<2:=by omega
 have h1':1<=bs.length:=by omega
 clear h0;rcases hop with rfl|rfl|rfl
 all_goals
  go_enter func226,ntmps226;go_wp2;refine YM 0 rfl ?_;go_wp2
  go_step3
  go_wp2;refine Xo ?_;unfold Wu;go_wp2;rw [Exit.noGoto_ret];exact bodyPost_ret (v:=.tuple #[.agg #[.int .i64 0,.int .i64 0,.slice none 0 0,.int .i64 0],.int .i64 0,.int .i64 4]) (by simp [results,Tryz.results226,go_sem]) rfl ⟨none,0,rfl,Sl.nil _ _ _,Z5 (bA) _⟩
include hs hby in
theorem yL(h0:2<=bs.length)(hop:bs.getD 0 0=3)(hkk:bs.getD 1 0<3\/64<bs.getD 1 0):
 Calls prog 226 #[.slice A bs.length c] w (Parsed (ZW bs) w):=by
 obtain ⟨o,ho⟩:∃ o,bs[0]?=some o:=⟨_,List.getElem?_eq_getElem (by omega)⟩;have hod:bs.getD 0 0=o:=by rw [List.getD_eq_getElem?_getD,ho];rfl
 rw [hod] at hop;obtain ⟨b,off,rfl,hB,hc⟩:=hs.RU (by omega);have c0:=hc 0 o ho;rw [Nat.add_zero] at c0;obtain ⟨k,hk⟩:∃ k,bs[1]?=some k:=⟨_,List.getElem?_eq_getElem (by omega)⟩;have hkd:bs.getD 1 0=k:=by rw [List.getD_eq_getElem?_getD,hk];rfl
 rw [hkd] at hkk;obtain ⟨iP,hkb2⟩:=hby 1 k hk;have c1:=hc 1 k hk;subst hop;have hr:ZW bs=(Zh,0,6):=by unfold ZW;rw [if_neg (by omega),hod,if_neg (by omega),if_neg (by omega),if_neg (by omega),if_pos rfl,hkd,if_pos hkk]
 rw [hr];have HR:=hide hr;clear hr hod ho hkd hk;have HC:=hide hc;clear hc;rcases hkk with hkk|hkk
 all_goals
  go_enter func226,ntmps226;go_wp2;refine YM 0 rfl ?_;go_wp2
  go_step3
  go_wp2;refine Xo ?_;unfold Wu;go_wp2;rw [Exit.noGoto_ret];exact bodyPost_ret (v:=.tuple #[.agg #[.int .i64 0,.int .i64 0,.slice none 0 0,.int .i64 0],.int .i64 0,.int .i64 6]) (by simp [results,Tryz.results226,go_sem]) rfl ⟨none,0,rfl,Sl.nil _ _ _,Z5 (bA) _⟩
include hs in
theorem qK(h0:2<=bs.length)(hop:bs.getD 0 0=3)(hkk:3<=bs.getD 1 0/\bs.getD 1 0<=64):
 Calls prog 226 #[.slice A bs.length c] w (Parsed (ZW bs) w):=by
 obtain ⟨o,ho⟩:∃ o,bs[0]?=some o:=⟨_,List.getElem?_eq_getElem (by omega)⟩;have hod:bs.getD 0 0=o:=by rw [List.getD_eq_getElem?_getD,ho];rfl
 rw [hod] at hop;obtain ⟨b,off,rfl,hB,hc⟩:=hs.RU (by omega);have c0:=hc 0 o ho;rw [Nat.add_zero] at c0;obtain ⟨k,hk⟩:∃ k,bs[1]?=some k:=⟨_,List.getElem?_eq_getElem (by omega)⟩;have hkd:bs.getD 1 0=k:=by rw [List.getD_eq_getElem?_getD,hk];rfl
 rw [hkd] at hkk;have c1:=hc 1 k hk;subst hop;have hr:ZW bs=(⟨3,k,[],0⟩,2,0):=by unfold ZW;rw [if_neg (by omega),hod,if_neg (by omega),if_neg (by omega),if_neg (by omega),if_pos rfl,hkd,if_neg (by omega)]
 rw [hr];have HR:=hide hr;clear hr hod ho hkd hk;have HC:=hide hc;clear hc;obtain ⟨hk1,hk2⟩:=hkk;go_enter func226,ntmps226;go_wp2;refine YM 0 rfl ?_;go_wp2;exact bodyPost_ret (v:=.tuple #[.agg #[.int .i64 3,.int .i64 k,.slice none 0 0,.int .i64 0],.int .i64 2,.int .i64 0]) (by simp [results,Tryz.results226,go_sem]) rfl ⟨none,0,rfl,Sl.nil _ _ _,Z5 (bA) _⟩
include hs hby in
theorem yM(h0:2<=bs.length)(hop:bs.getD 0 0=4\/bs.getD 0 0=5)(hkk:bs.getD 1 0<1\/64<bs.getD 1 0):
 Calls prog 226 #[.slice A bs.length c] w (Parsed (ZW bs) w):=by
 obtain ⟨o,ho⟩:∃ o,bs[0]?=some o:=⟨_,List.getElem?_eq_getElem (by omega)⟩;have hod:bs.getD 0 0=o:=by rw [List.getD_eq_getElem?_getD,ho];rfl
 rw [hod] at hop;obtain ⟨b,off,rfl,hB,hc⟩:=hs.RU (by omega);have c0:=hc 0 o ho;rw [Nat.add_zero] at c0;obtain ⟨k,hk⟩:∃ k,bs[1]?=some k:=⟨_,List.getElem?_eq_getElem (by omega)⟩;have hkd:bs.getD 1 0=k:=by rw [List.getD_eq_getElem?_getD,hk];rfl
 rw [hkd] at hkk;obtain ⟨iP,hkb2⟩:=hby 1 k hk;have c1:=hc 1 k hk;have hr:ZW bs=(Zh,0,6):=by unfold ZW;rw [if_neg (by omega),hod,if_neg (by omega),if_neg (by omega),if_neg (by omega),if_neg (by omega),hkd,if_pos hkk]
 rw [hr];have HR:=hide hr;clear hr hod ho hkd hk;have HC:=hide hc;clear hc;rcases hop with rfl|rfl <;> rcases hkk with hkk|hkk
 all_goals
  go_enter func226,ntmps226;go_wp2;refine YM 0 rfl ?_;go_wp2
  go_step3
  go_wp2;refine Xo ?_;unfold Wu;go_wp2;rw [Exit.noGoto_ret];exact bodyPost_ret (v:=.tuple #[.agg #[.int .i64 0,.int .i64 0,.slice none 0 0,.int .i64 0],.int .i64 0,.int .i64 6]) (by simp [results,Tryz.results226,go_sem]) rfl ⟨none,0,rfl,Sl.nil _ _ _,Z5 (bA) _⟩
include hs in
theorem FC(h0:2<=bs.length)(hop:bs.getD 0 0=4\/bs.getD 0 0=5)(hkk:1<=bs.getD 1 0/\bs.getD 1 0<=64)(hl:(bs.length:Int)<2+bs.getD 1 0):
 Calls prog 226 #[.slice A bs.length c] w (Parsed (ZW bs) w):=by
 obtain ⟨o,ho⟩:∃ o,bs[0]?=some o:=⟨_,List.getElem?_eq_getElem (by omega)⟩;have hod:bs.getD 0 0=o:=by rw [List.getD_eq_getElem?_getD,ho];rfl
 rw [hod] at hop;obtain ⟨b,off,rfl,hB,hc⟩:=hs.RU (by omega);have c0:=hc 0 o ho;rw [Nat.add_zero] at c0;obtain ⟨k,hk⟩:∃ k,bs[1]?=some k:=⟨_,List.getElem?_eq_getElem (by omega)⟩;have hkd:bs.getD 1 0=k:=by rw [List.getD_eq_getElem?_getD,hk];rfl
 rw [hkd] at hkk;have c1:=hc 1 k hk;rw [hkd] at hl;have hr:ZW bs=(Zh,0,4):=by unfold ZW;rw [if_neg (by omega),hod,if_neg (by omega),if_neg (by omega),if_neg (by omega),if_neg (by omega),hkd,if_neg (by omega),if_pos hl]
 rw [hr];have HR:=hide hr;clear hr hod ho hkd hk;have HC:=hide hc;clear hc;obtain ⟨hk1,hk2⟩:=hkk;rcases hop with rfl|rfl
 all_goals
  go_enter func226,ntmps226;go_wp2;refine YM 0 rfl ?_;go_wp2
  go_step3
  go_wp2;refine Xo ?_;unfold Wu;go_wp2;rw [Exit.noGoto_ret];exact bodyPost_ret (v:=.tuple #[.agg #[.int .i64 0,.int .i64 0,.slice none 0 0,.int .i64 0],.int .i64 0,.int .i64 4]) (by simp [results,Tryz.results226,go_sem]) rfl ⟨none,0,rfl,Sl.nil _ _ _,Z5 (bA) _⟩
end
end
section
open Go.RowKit
theorem QT:(prog.info? 38).map (fun i=>(i.zero,i.size,i.bytes))=some (some (.agg #[.bool false,.int .i64 0,.slice none 0 0]),3,40):=by kernel_rfl
theorem vW:∀ n:Fin 256,wrap64 (bits BinOp.andNot IntKind.u8 (n.val:Int) 128)=(n.val:Int) % 128:=by decide +kernel
theorem Jv(x:Int)(h0:0<=x)(h1:x<=255):wrap64 (bits BinOp.andNot IntKind.u8 x 128)=x % 128:=by
 obtain ⟨n,rfl⟩:=Int.eq_ofNat_of_zero_le h0;exact vW ⟨n,by omega⟩
theorem KS(a b:List Rg):rgCells (a++b)=rgCells a++rgCells b:=by simp [rgCells]
def Gf(w:World)(op:Int)(xs:List Int)(wr:World):Prop :=
 ∃ v,Z7 wr w.heap.size 53 #[.int .i64 0,.int .i64 0,.slice none 0 0,.int .i64 0] /\
   Z7 wr (w.heap.size+1) 53 #[.int .i64 op,.int .i64 0,v,.int .i64 0] /\
   wr.ownsRow (w.heap.size+2) 38 3 v xs.length (rgCells (xs.map YX))/\Below w.heap.size w wr
theorem Ux(w:World)(op:Int):
 Gf w op [] ((w.alloc (.cells #[.int .i64 0,.int .i64 0,.slice none 0 0,.int .i64 0] 53)).alloc (.cells #[.int .i64 op,.int .i64 0,.slice none 0 0,.int .i64 0] 53)):=by
 refine ⟨.slice none 0 0,(Z7.new _ _ _).alloc _,?_,World.ownsRow_nil _ _ _ _,Z5 (bA) _⟩;have:=Z7.new (w.alloc (.cells #[.int .i64 0,.int .i64 0,.slice none 0 0,.int .i64 0] 53)) 53 #[.int .i64 op,.int .i64 0,.slice none 0 0,.int .i64 0];simpa using this
theorem Tj {w wr w1:World} {op x:Int} {xs:List Int} {v v':Value} {o:Obj}
 (hv0:Z7 wr w.heap.size 53 #[.int .i64 0,.int .i64 0,.slice none 0 0,.int .i64 0])
 (hv1:Z7 wr (w.heap.size+1) 53 #[.int .i64 op,.int .i64 0,v,.int .i64 0])
 (ZT:wr.ownsRow (w.heap.size+2) 38 3 v xs.length (rgCells (xs.map YX))) (hb:Below w.heap.size w wr)
 (hown':w1.ownsRow (w.heap.size+2) 38 3 v' (xs.length+1) (rgCells (xs.map YX)++rgCells [YX x])) (ZL:(wr.alloc o).grownBy w1 v.ownBlock) :
 Gf w op (xs++[x]) (w1.setCell ⟨w.heap.size+1,2,none⟩ v'):=by
 refine ⟨v',?_,?_,?_,?_⟩
 · exact ((hv0.alloc _).grown ZL (own_ne ZT (by omega))).far (by simp) _
 · exact ((hv1.alloc _).grown ZL (own_ne ZT (by omega))).set 2 v'
 · have:=ownsRow_setCell_below hown' (a:=⟨w.heap.size+1,2,none⟩) (by simp) v';simpa [KS] using this
 · exact ((hb.alloc hb.size _).grown ZL (by have:=hb.size;simp;omega) (fun k hk=>by have:=ZN ZT hk;omega)).setCell (by simp) _
theorem MP:Nh 288 Zq:=by
 intro r w;go_enter func288,ntmps288;go_wp2_with fail;refine (TT _ _ _ _ _ _).mono ?_;rintro e w1 ⟨rfl,hb⟩;go_wp2;go_ret;exact ⟨rfl,((Below.refl _ _).alloc (Nat.le_refl _) _).trans (hb.mono (by simp))⟩
theorem Qk:Enters 288:=fun _ _=>by kernel_rfl
section
variable (bs:List Int)(A:Option Addr)(c:Nat)(w:World)
variable (hs:Sl w w.heap.size A (ZU bs))(hcap:bs.length<=c)(hby:∀ (j:Nat) (x:Int),bs[j]?=some x->0<=x/\x<=255)
include hs hcap hby
theorem KI(kn:Nat)(hop:bs.getD 0 0=4)(hkk:bs.getD 1 0=kn)(hk1:1<=kn)(hk2:kn<=64)(hl:2+kn<=bs.length):
 Calls prog 226 #[.slice A bs.length c] w (Parsed (ZW bs) w):=by
 obtain ⟨o,ho⟩:∃ o,bs[0]?=some o:=⟨_,List.getElem?_eq_getElem (by omega)⟩;have hod:bs.getD 0 0=o:=by rw [List.getD_eq_getElem?_getD,ho];rfl
 rw [hod] at hop;obtain ⟨b,off,rfl,hB,hc⟩:=hs.RU (by omega);have c0:=hc 0 o ho;rw [Nat.add_zero] at c0;obtain ⟨k,hk⟩:∃ k,bs[1]?=some k:=⟨_,List.getElem?_eq_getElem (by omega)⟩;have hkd:bs.getD 1 0=k:=by rw [List.getD_eq_getElem?_getD,hk];rfl
 have hkn:k=kn:=by rw [<- hkd,hkk]
 subst hkn;have c1:=hc 1 _ hk;have HC:=hide hc;clear hc;have vG:=hide hkk;clear hkk;have vH:=hide hod;clear hod ho hkd hk;obtain ⟨i0,hi,hz0,hz1,hz2⟩:=info_parts QT;subst hop;have e26:2+kn - 2=kn:=by omega
 have b1:decide ((bs.length:Int)<1)=false:=decide_eq_false (by omega);have b2:decide ((bs.length:Int)<2)=false:=decide_eq_false (by omega);have b3:decide ((kn:Int)<1)=false:=decide_eq_false (by omega);have b4:decide (64<(kn:Int))=false:=decide_eq_false (by omega);have b5:decide ((bs.length:Int)<2+kn)=false:=decide_eq_false (by omega);go_enter func226,ntmps226;go_wp2;refine YM 0 rfl ?_;go_wp2;rw [e26]
 go_loopw [9,63] (fun _ i wr=>∃ j:Nat,j<=kn/\i=.int .i64 j/\Gf w 4 ((bs.drop 2).take j) wr)
  (fun _ i _=>kn - (intOf i).toNat)
 case atStart=>exact ⟨0,by omega,rfl,Ux w 4⟩
 case round =>
  obtain ⟨j,hj,rfl,v,hv0,hv1,ZT,hb⟩:=hrel;have hz1:=hb.size
  by_cases hlt:j<kn
  · obtain ⟨x,hx⟩:∃ x,bs[2+j]?=some x:=⟨_,List.getElem?_eq_getElem (by omega)⟩;have cx':=HC.out _ x hx;rw [<- Nat.add_assoc] at cx';have cx:=(hb.cell (p:=⟨b,off+2+j,none⟩) hB).trans cx';clear cx';obtain ⟨hx1,hx2⟩:=hby _ _ hx;have HX:=hide hx;clear hx;have d0:=hv1.q2 rfl;have d1:=hv1.frozen 2;have hlen:(List.take j (List.drop 2 bs)).length=j:=(by simp;omega);have hand:=Jv x hx1 hx2;have hl1:w.heap.size+1<wr.heap.size:=hv1.lt;go_wp2_with (at_builtin;refine wpList_append_own _ rfl (.tmp 68) (.tmp 75) 32 rfl (w.heap.size+2) 38 i0 (.agg #[.bool false,.int .i64 0,.slice none 0 0]) 3 40 underlying32 hi hz0 ‹_› hz2 rfl (by decide) v _ _ rfl (ZT.alloc _) ⟨wr.heap.size,0,none⟩ 1 1 (rgCells [YX x]) rfl rfl ?c1 ?c2 ?c3 ?c4 ?c5 ?_;rotate_right;intro v' w1 hown' ZL _;obtain ⟨g1,Vv,rfl,hg1,hg1',hg2⟩:=Rs hown' (by omega);have TL:=(hv1.alloc _).grown ZL (own_ne ZT (by omega));have d2:=TL.q2 rfl;have d3:=TL.frozen 2)
    case c1 =>
     intro i u hu
     match i,hu with
     | 0,hu=>simp [rgCells,Rg.cells,YX] at hu;subst hu;simp [Addr.add]
     | 1,hu=>simp [rgCells,Rg.cells,YX] at hu;subst hu;simp [Addr.add]
     | 2,hu=>simp [rgCells,Rg.cells,YX] at hu;subst hu;simp [Addr.add]
    case c2=>intro u hu;simp [rgCells,Rg.cells,YX] at hu;rcases hu with rfl|rfl|rfl <;> rfl
    case c3=>rw [hlen];unfold maxLen;omega
    case c4=>rw [hlen];omega
    case c5=>simp;omega
    have hts:List.take (j+1) (List.drop 2 bs)=List.take j (List.drop 2 bs)++[x]:=by
     rw [List.take_add_one,List.getElem?_drop,HX.out];rfl
    have R:=Tj hv0 hv1 ZT hb (x:=x) (by rw [hlen] at hown' ⊢;exact hown') ZL;have Mj:=hide hts;have HR2:=hide R;clear hts R hlen hown' ZL ZT hv0 hv1 d0 d1 d2 d3 TL;go_roundw
    case rel=>exact ⟨j+1,by omega,by go_num,by rw [Mj.out];exact HR2.out⟩
    case measure=>simp [intOf];omega
  · have hjk:j=kn:=(by omega);subst hjk;obtain ⟨A1,Vv,rfl,hcap1⟩:=ZP ZT;have hlen:(List.take j (List.drop 2 bs)).length=j:=(by simp;omega);have hsl:=Sl.Zv ZT;have d0:=hv1.q2 rfl;go_wp2_with fail;refine (QX _ Qk _ MP A1 Vv _ ((List.take j (List.drop 2 bs)).map YX) (by rw [List.length_map,hlen]) wr hsl (by rw [List.length_map,hlen];unfold maxLen;omega)).mono ?_;rintro e w2 ⟨rfl,hb2⟩;have e0:=(hv0.step hb2);have e1:=(hv1.step hb2);have hsl2:=hsl.below hb2;have hbw:Below w.heap.size w w2:=hb.trans (hb2.mono hb.size);have c1':=(hbw.cell (p:=⟨b,off+1,none⟩) hB).trans c1;have f00:=e0.q0 rfl;have f01:=e0.q1 rfl;have f02:=e0.q2 rfl;have f03:=e0.q3 rfl;have z00:=e0.frozen 0;have z01:=e0.frozen 1;have z02:=e0.frozen 2;have z03:=e0.frozen 3;have f10:=e1.q0 rfl;have f11:=e1.q1 rfl;have f12:=e1.q2 rfl;have f13:=e1.q3 rfl;have z13:=e1.frozen 3;generalize hq:((List.take j (List.drop 2 bs)).map YX).any Zq=q;have HQ:=hide hq;clear hq;cases q
    · go_wp2;have E:Z7 _ w.heap.size 53 #[.int .i64 4,.int .i64 0,.slice A1 j Vv,.int .i64 0]:=(((e0.set 0 (.int .i64 4)).set 1 (.int .i64 0)).set 2 (.slice A1 j Vv)).set 3 (.int .i64 0);have O:=ownsRow_setCell_below (ownsRow_setCell_below (ownsRow_setCell_below (ownsRow_setCell_below (ZI ZT hb2) (a:=⟨w.heap.size,0,none⟩) (by simp) (.int .i64 4)) (a:=⟨w.heap.size,1,none⟩) (by simp) (.int .i64 0)) (a:=⟨w.heap.size,2,none⟩) (by simp) (.slice A1 j Vv)) (a:=⟨w.heap.size,3,none⟩) (by simp) (.int .i64 0);have hr:ZW bs=(PH.mk 4 0 (((bs.drop 2).take j).map YX) 0,2+(j:Int),0):=by
       unfold ZW;rw [if_neg (by omega),vH.out,if_neg (by omega),if_neg (by omega),if_neg (by omega),if_neg (by omega),vG.out,if_neg (by omega),if_neg (by omega),Int.toNat_natCast,HQ.out,if_neg (by simp),if_pos rfl]
      refine bodyPost_ret (YQ rfl rfl E) rfl ⟨A1,Vv,?_,?_,?_⟩
      · rw [hr];simp only [List.length_map,hlen];rfl
      · rw [hr];exact Sl.Zv O
      · exact (((hbw.setCell (by simp) _).setCell (by simp) _).setCell (by simp) _).setCell (by simp) _
    · go_wp2
      go_step3
      go_wp2;refine Xo ?_;unfold Wu;go_wp2;rw [Exit.noGoto_ret];have E:Z7 _ w.heap.size 53 #[.int .i64 0,.int .i64 0,.slice none 0 0,.int .i64 0]:=(((e0.set 0 (.int .i64 0)).set 1 (.int .i64 0)).set 2 (.slice none 0 0)).set 3 (.int .i64 0);have hr:ZW bs=(Zh,0,7):=by
       unfold ZW;rw [if_neg (by omega),vH.out,if_neg (by omega),if_neg (by omega),if_neg (by omega),if_neg (by omega),vG.out,if_neg (by omega),if_neg (by omega),Int.toNat_natCast,HQ.out,if_pos rfl]
      refine bodyPost_ret (YQ rfl rfl E) rfl ⟨none,0,?_,?_,?_⟩
      · rw [hr];rfl
      · rw [hr];exact Sl.nil _ _ _
      · exact (((hbw.setCell (by simp) _).setCell (by simp) _).setCell (by simp) _).setCell (by simp) _
end
end
section
open Go.RowKit
theorem ML(a:Nat)(ha:a<9223372036854775808):(BitVec.ofInt 64 (a:Int)).toNat=a:=by
 rw [BitVec.ofInt_natCast,BitVec.toNat_ofNat];exact Nat.mod_eq_of_lt (by omega)
theorem kD(p q:Int)(hp1:0<=p)(hp2:p<=255)(hq1:0<=q)(hq2:q<=255):bits BinOp.or IntKind.i64 p (q*256)=p+q*256:=by
 obtain ⟨a,rfl⟩:=Int.eq_ofNat_of_zero_le hp1;obtain ⟨d,rfl⟩:=Int.eq_ofNat_of_zero_le hq1;have e:((d:Int)*256)=((d*256:Nat):Int):=by omega
 rw [e];show IntKind.i64.wrap ((BitVec.ofInt 64 (a:Int) ||| BitVec.ofInt 64 ((d*256:Nat):Int)).toNat:Int)=_;rw [BitVec.toNat_or,ML a (by omega),ML (d*256) (by omega),IntKind.wrap_i64];have h:d*256 ||| a=d*256+a:=by
  have h2:=@Nat.shiftLeft_add_eq_or_of_lt 8 a (by omega) d;rw [Nat.shiftLeft_eq,show (2:Nat) ^ 8=256 from rfl] at h2;exact h2.symm
 rw [Nat.or_comm,h];omega
section
variable (bs:List Int)(A:Option Addr)(c:Nat)(w:World)
variable (hs:Sl w w.heap.size A (ZU bs))(hcap:bs.length<=c)(hby:∀ (j:Nat) (x:Int),bs[j]?=some x->0<=x/\x<=255)
include hs hcap hby
theorem KJ(kn:Nat)(hop:bs.getD 0 0=5)(hkk:bs.getD 1 0=kn)(hk1:1<=kn)(hk2:kn<=64)(hl:2+kn<=bs.length):
 Calls prog 226 #[.slice A bs.length c] w (Parsed (ZW bs) w):=by
 obtain ⟨o,ho⟩:∃ o,bs[0]?=some o:=⟨_,List.getElem?_eq_getElem (by omega)⟩;have hod:bs.getD 0 0=o:=by rw [List.getD_eq_getElem?_getD,ho];rfl
 rw [hod] at hop;obtain ⟨b,off,rfl,hB,hc⟩:=hs.RU (by omega);have c0:=hc 0 o ho;rw [Nat.add_zero] at c0;obtain ⟨k,hk⟩:∃ k,bs[1]?=some k:=⟨_,List.getElem?_eq_getElem (by omega)⟩;have hkd:bs.getD 1 0=k:=by rw [List.getD_eq_getElem?_getD,hk];rfl
 have hkn:k=kn:=by rw [<- hkd,hkk]
 subst hkn;have c1:=hc 1 _ hk;have HC:=hide hc;clear hc;have vG:=hide hkk;clear hkk;have vH:=hide hod;clear hod ho hkd hk;obtain ⟨i0,hi,hz0,hz1,hz2⟩:=info_parts QT;subst hop;have e26:2+kn - 2=kn:=by omega
 have b1:decide ((bs.length:Int)<1)=false:=decide_eq_false (by omega);have b2:decide ((bs.length:Int)<2)=false:=decide_eq_false (by omega);have b3:decide ((kn:Int)<1)=false:=decide_eq_false (by omega);have b4:decide (64<(kn:Int))=false:=decide_eq_false (by omega);have b5:decide ((bs.length:Int)<2+kn)=false:=decide_eq_false (by omega);go_enter func226,ntmps226;go_wp2;refine YM 0 rfl ?_;go_wp2;rw [e26]
 go_loopw [9,63] (fun _ i wr=>∃ j:Nat,j<=kn/\i=.int .i64 j/\Gf w 5 ((bs.drop 2).take j) wr)
  (fun _ i _=>kn - (intOf i).toNat)
 case atStart=>exact ⟨0,by omega,rfl,Ux w 5⟩
 case round =>
  obtain ⟨j,hj,rfl,v,hv0,hv1,ZT,hb⟩:=hrel;have hz1:=hb.size
  by_cases hlt:j<kn
  · obtain ⟨x,hx⟩:∃ x,bs[2+j]?=some x:=⟨_,List.getElem?_eq_getElem (by omega)⟩;have cx':=HC.out _ x hx;rw [<- Nat.add_assoc] at cx';have cx:=(hb.cell (p:=⟨b,off+2+j,none⟩) hB).trans cx';clear cx';obtain ⟨hx1,hx2⟩:=hby _ _ hx;have HX:=hide hx;clear hx;have d0:=hv1.q2 rfl;have d1:=hv1.frozen 2;have hlen:(List.take j (List.drop 2 bs)).length=j:=(by simp;omega);have hand:=Jv x hx1 hx2;have hl1:w.heap.size+1<wr.heap.size:=hv1.lt;go_wp2_with (at_builtin;refine wpList_append_own _ rfl (.tmp 68) (.tmp 75) 32 rfl (w.heap.size+2) 38 i0 (.agg #[.bool false,.int .i64 0,.slice none 0 0]) 3 40 underlying32 hi hz0 ‹_› hz2 rfl (by decide) v _ _ rfl (ZT.alloc _) ⟨wr.heap.size,0,none⟩ 1 1 (rgCells [YX x]) rfl rfl ?c1 ?c2 ?c3 ?c4 ?c5 ?_;rotate_right;intro v' w1 hown' ZL _;obtain ⟨g1,Vv,rfl,hg1,hg1',hg2⟩:=Rs hown' (by omega);have TL:=(hv1.alloc _).grown ZL (own_ne ZT (by omega));have d2:=TL.q2 rfl;have d3:=TL.frozen 2)
    case c1 =>
     intro i u hu
     match i,hu with
     | 0,hu=>simp [rgCells,Rg.cells,YX] at hu;subst hu;simp [Addr.add]
     | 1,hu=>simp [rgCells,Rg.cells,YX] at hu;subst hu;simp [Addr.add]
     | 2,hu=>simp [rgCells,Rg.cells,YX] at hu;subst hu;simp [Addr.add]
    case c2=>intro u hu;simp [rgCells,Rg.cells,YX] at hu;rcases hu with rfl|rfl|rfl <;> rfl
    case c3=>rw [hlen];unfold maxLen;omega
    case c4=>rw [hlen];omega
    case c5=>simp;omega
    have hts:List.take (j+1) (List.drop 2 bs)=List.take j (List.drop 2 bs)++[x]:=by
     rw [List.take_add_one,List.getElem?_drop,HX.out];rfl
    have R:=Tj hv0 hv1 ZT hb (x:=x) (by rw [hlen] at hown' ⊢;exact hown') ZL;have Mj:=hide hts;have HR2:=hide R;clear hts R hlen hown' ZL ZT hv0 hv1 d0 d1 d2 d3 TL;go_roundw
    case rel=>exact ⟨j+1,by omega,by go_num,by rw [Mj.out];exact HR2.out⟩
    case measure=>simp [intOf];omega
  · have hjk:j=kn:=(by omega);subst hjk;obtain ⟨A1,Vv,rfl,hcap1⟩:=ZP ZT;have hlen:(List.take j (List.drop 2 bs)).length=j:=(by simp;omega);have hsl:=Sl.Zv ZT;have d0:=hv1.q2 rfl;go_wp2_with fail;refine (QX _ Qk _ MP A1 Vv _ ((List.take j (List.drop 2 bs)).map YX) (by rw [List.length_map,hlen]) wr hsl (by rw [List.length_map,hlen];unfold maxLen;omega)).mono ?_;rintro e w2 ⟨rfl,hb2⟩;have e0:=(hv0.step hb2);have e1:=(hv1.step hb2);have hsl2:=hsl.below hb2;have hbw:Below w.heap.size w w2:=hb.trans (hb2.mono hb.size);have c1':=(hbw.cell (p:=⟨b,off+1,none⟩) hB).trans c1;have f00:=e0.q0 rfl;have f01:=e0.q1 rfl;have f02:=e0.q2 rfl;have f03:=e0.q3 rfl;have z00:=e0.frozen 0;have z01:=e0.frozen 1;have z02:=e0.frozen 2;have z03:=e0.frozen 3;have f10:=e1.q0 rfl;have f11:=e1.q1 rfl;have f12:=e1.q2 rfl;have f13:=e1.q3 rfl;have z13:=e1.frozen 3;generalize hq:((List.take j (List.drop 2 bs)).map YX).any Zq=q;have HQ:=hide hq;clear hq;cases q
    · by_cases hl4:(bs.length:Int)<4+j
      · go_wp2
        go_step3
        go_wp2;refine Xo ?_;unfold Wu;go_wp2;rw [Exit.noGoto_ret];have E:Z7 _ w.heap.size 53 #[.int .i64 0,.int .i64 0,.slice none 0 0,.int .i64 0]:=(((e0.set 0 (.int .i64 0)).set 1 (.int .i64 0)).set 2 (.slice none 0 0)).set 3 (.int .i64 0);have hr:ZW bs=(Zh,0,4):=by
         unfold ZW;rw [if_neg (by omega),vH.out,if_neg (by omega),if_neg (by omega),if_neg (by omega),if_neg (by omega),vG.out,if_neg (by omega),if_neg (by omega),Int.toNat_natCast,HQ.out,if_neg (by simp),if_neg (by omega),if_pos hl4]
        refine bodyPost_ret (YQ rfl rfl E) rfl ⟨none,0,?_,?_,?_⟩
        · rw [hr];rfl
        · rw [hr];exact Sl.nil _ _ _
        · exact (((hbw.setCell (by simp) _).setCell (by simp) _).setCell (by simp) _).setCell (by simp) _
      · obtain ⟨p,hp⟩:∃ p,bs[2+j]?=some p:=⟨_,List.getElem?_eq_getElem (by omega)⟩;obtain ⟨q,hq⟩:∃ q,bs[3+j]?=some q:=⟨_,List.getElem?_eq_getElem (by omega)⟩;obtain ⟨hp1,hp2⟩:=hby _ _ hp;obtain ⟨hq1,hq2⟩:=hby _ _ hq;have cp:=(hbw.cell (p:=⟨b,off+(2+j),none⟩) hB).trans (HC.out _ p hp);have cq:=(hbw.cell (p:=⟨b,off+(3+j),none⟩) hB).trans (HC.out _ q hq);have HP:=hide hp;clear hp;have HQQ:=hide hq;clear hq;have hor:=kD p q hp1 hp2 hq1 hq2;have hpd:bs.getD (2+j) 0=p:=(by rw [List.getD_eq_getElem?_getD,HP.out];rfl);have hqd:bs.getD (3+j) 0=q:=(by rw [List.getD_eq_getElem?_getD,HQQ.out];rfl);have HPD:=hide hpd;clear hpd;have HQD:=hide hqd;clear hqd;go_wp2
        go_region
        by_cases hpt:p+q*256<1\/4096<p+q*256
        · rcases hpt with hpt|hpt
          all_goals
           go_wp2
           go_step3
           go_wp2;have E:Z7 _ w.heap.size 53 #[.int .i64 0,.int .i64 0,.slice none 0 0,.int .i64 0]:=(((((e0.far (p:=⟨w.heap.size+1,3,none⟩) (by simp) (.int .i64 (p+q*256))).drew).set 0 (.int .i64 0)).set 1 (.int .i64 0)).set 2 (.slice none 0 0)).set 3 (.int .i64 0);have hr:ZW bs=(Zh,0,6):=by
            unfold ZW;rw [if_neg (by omega),vH.out,if_neg (by omega),if_neg (by omega),if_neg (by omega),if_neg (by omega),vG.out,if_neg (by omega),if_neg (by omega),Int.toNat_natCast,HQ.out,if_neg (by simp),if_neg (by omega),if_neg (by omega),HPD.out,HQD.out,if_pos (by omega)]
           refine bodyPost_ret (YQ rfl rfl E) rfl ⟨none,0,?_,?_,?_⟩
           · rw [hr];rfl
           · rw [hr];exact Sl.nil _ _ _
           · exact (((((hbw.setCell (by simp) _).drew).setCell (by simp) _).setCell (by simp) _).setCell (by simp) _).setCell (by simp) _
        · have zcz:1<=p+q*256:=(by omega);have zda:p+q*256<=4096:=(by omega);go_wp2;have E:Z7 _ w.heap.size 53 #[.int .i64 5,.int .i64 0,.slice A1 j Vv,.int .i64 (p+q*256)]:=(((((e0.far (p:=⟨w.heap.size+1,3,none⟩) (by simp) (.int .i64 (p+q*256))).drew).set 0 (.int .i64 5)).set 1 (.int .i64 0)).set 2 (.slice A1 j Vv)).set 3 (.int .i64 (p+q*256));have O:=ownsRow_setCell_below (ownsRow_setCell_below (ownsRow_setCell_below (ownsRow_setCell_below (ownsRow_setCell_below (ZI ZT hb2) (a:=⟨w.heap.size+1,3,none⟩) (by simp) (.int .i64 (p+q*256))).drew (a:=⟨w.heap.size,0,none⟩) (by simp) (.int .i64 5)) (a:=⟨w.heap.size,1,none⟩) (by simp) (.int .i64 0)) (a:=⟨w.heap.size,2,none⟩) (by simp) (.slice A1 j Vv)) (a:=⟨w.heap.size,3,none⟩) (by simp) (.int .i64 (p+q*256));have hr:ZW bs=(PH.mk 5 0 (((bs.drop 2).take j).map YX) (p+256*q),4+(j:Int),0):=by
           unfold ZW;rw [if_neg (by omega),vH.out,if_neg (by omega),if_neg (by omega),if_neg (by omega),if_neg (by omega),vG.out,if_neg (by omega),if_neg (by omega),Int.toNat_natCast,HQ.out,if_neg (by simp),if_neg (by omega),if_neg (by omega),HPD.out,HQD.out,if_neg (by omega)]
          refine bodyPost_ret (YQ rfl rfl E) rfl ⟨A1,Vv,?_,?_,?_⟩
          · rw [hr];simp only [List.length_map,hlen];rw [Int.mul_comm 256 q];rfl
          · rw [hr];exact Sl.Zv O
          · exact (((((hbw.setCell (by simp) _).drew).setCell (by simp) _).setCell (by simp) _).setCell (by simp) _).setCell (by simp) _
    · go_wp2
      go_step3
      go_wp2;refine Xo ?_;unfold Wu;go_wp2;rw [Exit.noGoto_ret];have E:Z7 _ w.heap.size 53 #[.int .i64 0,.int .i64 0,.slice none 0 0,.int .i64 0]:=(((e0.set 0 (.int .i64 0)).set 1 (.int .i64 0)).set 2 (.slice none 0 0)).set 3 (.int .i64 0);have hr:ZW bs=(Zh,0,7):=by
       unfold ZW;rw [if_neg (by omega),vH.out,if_neg (by omega),if_neg (by omega),if_neg (by omega),if_neg (by omega),vG.out,if_neg (by omega),if_neg (by omega),Int.toNat_natCast,HQ.out,if_pos rfl]
      refine bodyPost_ret (YQ rfl rfl E) rfl ⟨none,0,?_,?_,?_⟩
      · rw [hr];rfl
      · rw [hr];exact Sl.nil _ _ _
      · exact (((hbw.setCell (by simp) _).setCell (by simp) _).setCell (by simp) _).setCell (by simp) _
end
end
section
open Go.RowKit
section
variable (bs:List Int)(A:Option Addr)(c:Nat)(w:World)
theorem FN(h0:bs.length<1):
 Calls prog 107 #[.slice A bs.length c] w (Parsed (ZW bs) w):=by
 have hr:ZW bs=(Zh,0,4):=by unfold ZW;rw [if_pos h0]
 rw [hr];have HR:=hide hr;clear hr;have h0':bs.length=0:=by omega
 go_enter func107,ntmps107;go_wp2;exact bodyPost_ret (v:=.tuple #[.agg #[.int .i64 0,.int .i64 0,.slice none 0 0,.int .i64 0],.int .i64 0,.int .i64 4]) (by simp [results,Tryz.results107,go_sem]) rfl ⟨none,0,rfl,Sl.nil _ _ _,by repeat first|exact Below.refl _ _|refine Z5 ?_ _⟩
variable (hs:Sl w w.heap.size A (ZU bs))(hby:∀ (j:Nat) (x:Int),bs[j]?=some x->0<=x/\x<=255)
include hs hby
theorem rF(h0:0<bs.length)(hop:bs.getD 0 0=1\/bs.getD 0 0=2):
 Calls prog 107 #[.slice A bs.length c] w (Parsed (ZW bs) w):=by
 obtain ⟨o,ho⟩:∃ o,bs[0]?=some o:=⟨_,List.getElem?_eq_getElem (by omega)⟩;have hod:bs.getD 0 0=o:=by rw [List.getD_eq_getElem?_getD,ho];rfl
 rw [hod] at hop;obtain ⟨b,off,rfl,hB,hc⟩:=hs.RU (by omega);obtain ⟨xM,xO⟩:=hby 0 o ho;have c0:=hc 0 o ho;rw [Nat.add_zero] at c0;have hr:ZW bs=(⟨o,0,[],0⟩,1,0):=by unfold ZW;rw [if_neg (by omega),hod,if_pos hop]
 rw [hr];have HR:=hide hr;clear hr hod ho;have HC:=hide hc;clear hc;have hz:((bs.length:Int) == 0)=false:=by rw [beq_eq_false_iff_ne];omega
 rcases hop with rfl|rfl
 all_goals
  go_enter func107,ntmps107;go_wp2;exact bodyPost_ret (v:=.tuple #[.agg #[.int .i64 _,.int .i64 0,.slice none 0 0,.int .i64 0],.int .i64 1,.int .i64 0]) (by simp [results,Tryz.results107,go_sem]) rfl ⟨none,0,rfl,Sl.nil _ _ _,by repeat first|exact Below.refl _ _|refine Z5 ?_ _⟩
theorem za(h0:0<bs.length)(hop:bs.getD 0 0<1\/5<bs.getD 0 0):
 Calls prog 107 #[.slice A bs.length c] w (Parsed (ZW bs) w):=by
 obtain ⟨o,ho⟩:∃ o,bs[0]?=some o:=⟨_,List.getElem?_eq_getElem (by omega)⟩;have hod:bs.getD 0 0=o:=by rw [List.getD_eq_getElem?_getD,ho];rfl
 rw [hod] at hop;obtain ⟨b,off,rfl,hB,hc⟩:=hs.RU (by omega);obtain ⟨xM,xO⟩:=hby 0 o ho;have c0:=hc 0 o ho;rw [Nat.add_zero] at c0;have hr:ZW bs=(Zh,0,5):=by unfold ZW;rw [if_neg (by omega),hod,if_neg (by omega),if_pos (by omega)]
 rw [hr];have HR:=hide hr;clear hr hod ho;have HC:=hide hc;clear hc;have hz:((bs.length:Int) == 0)=false:=by rw [beq_eq_false_iff_ne];omega
 rcases hop with hop|hop
 all_goals
  go_enter func107,ntmps107;go_wp2;exact bodyPost_ret (v:=.tuple #[.agg #[.int .i64 0,.int .i64 0,.slice none 0 0,.int .i64 0],.int .i64 0,.int .i64 5]) (by simp [results,Tryz.results107,go_sem]) rfl ⟨none,0,rfl,Sl.nil _ _ _,by repeat first|exact Below.refl _ _|refine Z5 ?_ _⟩
theorem ze(h0:bs.length=1)(hop:bs.getD 0 0=3\/bs.getD 0 0=4\/bs.getD 0 0=5):
 Calls prog 107 #[.slice A bs.length c] w (Parsed (ZW bs) w):=by
 obtain ⟨o,ho⟩:∃ o,bs[0]?=some o:=⟨_,List.getElem?_eq_getElem (by omega)⟩;have hod:bs.getD 0 0=o:=by rw [List.getD_eq_getElem?_getD,ho];rfl
 rw [hod] at hop;obtain ⟨b,off,rfl,hB,hc⟩:=hs.RU (by omega);obtain ⟨xM,xO⟩:=hby 0 o ho;have c0:=hc 0 o ho;rw [Nat.add_zero] at c0;have hr:ZW bs=(Zh,0,4):=by unfold ZW;rw [if_neg (by omega),hod,if_neg (by omega),if_neg (by omega),if_pos (by omega)]
 rw [hr];have HR:=hide hr;clear hr hod ho;have HC:=hide hc;clear hc;have hz:((bs.length:Int) == 0)=false:=by rw [beq_eq_false_iff_ne];omega
 have h0':bs.length<2:=by omega
 have h1':1<=bs.length:=by omega
 clear h0;rcases hop with rfl|rfl|rfl
 all_goals
  go_enter func107,ntmps107;go_wp2;exact bodyPost_ret (v:=.tuple #[.agg #[.int .i64 0,.int .i64 0,.slice none 0 0,.int .i64 0],.int .i64 0,.int .i64 4]) (by simp [results,Tryz.results107,go_sem]) rfl ⟨none,0,rfl,Sl.nil _ _ _,by repeat first|exact Below.refl _ _|refine Z5 ?_ _⟩
theorem Dn(h0:2<=bs.length)(hop:bs.getD 0 0=3)(hkk:bs.getD 1 0<3\/64<bs.getD 1 0):
 Calls prog 107 #[.slice A bs.length c] w (Parsed (ZW bs) w):=by
 obtain ⟨o,ho⟩:∃ o,bs[0]?=some o:=⟨_,List.getElem?_eq_getElem (by omega)⟩;have hod:bs.getD 0 0=o:=by rw [List.getD_eq_getElem?_getD,ho];rfl
 rw [hod] at hop;obtain ⟨b,off,rfl,hB,hc⟩:=hs.RU (by omega);obtain ⟨xM,xO⟩:=hby 0 o ho;have c0:=hc 0 o ho;rw [Nat.add_zero] at c0;obtain ⟨k,hk⟩:∃ k,bs[1]?=some k:=⟨_,List.getElem?_eq_getElem (by omega)⟩;have hkd:bs.getD 1 0=k:=by rw [List.getD_eq_getElem?_getD,hk];rfl
 rw [hkd] at hkk;obtain ⟨iP,hkb2⟩:=hby 1 k hk;have c1:=hc 1 k hk;subst hop;have hr:ZW bs=(Zh,0,6):=by unfold ZW;rw [if_neg (by omega),hod,if_neg (by omega),if_neg (by omega),if_neg (by omega),if_pos rfl,hkd,if_pos hkk]
 rw [hr];have HR:=hide hr;clear hr hod ho hkd hk;have HC:=hide hc;clear hc;have hz:((bs.length:Int) == 0)=false:=by rw [beq_eq_false_iff_ne];omega
 rcases hkk with hkk|hkk
 all_goals
  go_enter func107,ntmps107;go_wp2;exact bodyPost_ret (v:=.tuple #[.agg #[.int .i64 0,.int .i64 0,.slice none 0 0,.int .i64 0],.int .i64 0,.int .i64 6]) (by simp [results,Tryz.results107,go_sem]) rfl ⟨none,0,rfl,Sl.nil _ _ _,by repeat first|exact Below.refl _ _|refine Z5 ?_ _⟩
theorem y9(h0:2<=bs.length)(hop:bs.getD 0 0=3)(hkk:3<=bs.getD 1 0/\bs.getD 1 0<=64):
 Calls prog 107 #[.slice A bs.length c] w (Parsed (ZW bs) w):=by
 obtain ⟨o,ho⟩:∃ o,bs[0]?=some o:=⟨_,List.getElem?_eq_getElem (by omega)⟩;have hod:bs.getD 0 0=o:=by rw [List.getD_eq_getElem?_getD,ho];rfl
 rw [hod] at hop;obtain ⟨b,off,rfl,hB,hc⟩:=hs.RU (by omega);obtain ⟨xM,xO⟩:=hby 0 o ho;have c0:=hc 0 o ho;rw [Nat.add_zero] at c0;obtain ⟨k,hk⟩:∃ k,bs[1]?=some k:=⟨_,List.getElem?_eq_getElem (by omega)⟩;have hkd:bs.getD 1 0=k:=by rw [List.getD_eq_getElem?_getD,hk];rfl
 rw [hkd] at hkk;obtain ⟨iP,hkb2⟩:=hby 1 k hk;have c1:=hc 1 k hk;subst hop;have hr:ZW bs=(⟨3,k,[],0⟩,2,0):=by unfold ZW;rw [if_neg (by omega),hod,if_neg (by omega),if_neg (by omega),if_neg (by omega),if_pos rfl,hkd,if_neg (by omega)]
 rw [hr];have HR:=hide hr;clear hr hod ho hkd hk;have HC:=hide hc;clear hc;have hz:((bs.length:Int) == 0)=false:=by rw [beq_eq_false_iff_ne];omega
 obtain ⟨hk1,hk2⟩:=hkk;go_enter func107,ntmps107;go_wp2;exact bodyPost_ret (v:=.tuple #[.agg #[.int .i64 3,.int .i64 k,.slice none 0 0,.int .i64 0],.int .i64 2,.int .i64 0]) (by simp [results,Tryz.results107,go_sem]) rfl ⟨none,0,rfl,Sl.nil _ _ _,by repeat first|exact Below.refl _ _|refine Z5 ?_ _⟩
theorem Dp(h0:2<=bs.length)(hop:bs.getD 0 0=4\/bs.getD 0 0=5)(hkk:bs.getD 1 0<1\/64<bs.getD 1 0):
 Calls prog 107 #[.slice A bs.length c] w (Parsed (ZW bs) w):=by
 obtain ⟨o,ho⟩:∃ o,bs[0]?=some o:=⟨_,List.getElem?_eq_getElem (by omega)⟩;have hod:bs.getD 0 0=o:=by rw [List.getD_eq_getElem?_getD,ho];rfl
 rw [hod] at hop;obtain ⟨b,off,rfl,hB,hc⟩:=hs.RU (by omega);obtain ⟨xM,xO⟩:=hby 0 o ho;have c0:=hc 0 o ho;rw [Nat.add_zero] at c0;obtain ⟨k,hk⟩:∃ k,bs[1]?=some k:=⟨_,List.getElem?_eq_getElem (by omega)⟩;have hkd:bs.getD 1 0=k:=by rw [List.getD_eq_getElem?_getD,hk];rfl
 rw [hkd] at hkk;obtain ⟨iP,hkb2⟩:=hby 1 k hk;have c1:=hc 1 k hk;have hr:ZW bs=(Zh,0,6):=by unfold ZW;rw [if_neg (by omega),hod,if_neg (by omega),if_neg (by omega),if_neg (by omega),if_neg (by omega),hkd,if_pos hkk]
 rw [hr];have HR:=hide hr;clear hr hod ho hkd hk;have HC:=hide hc;clear hc;have hz:((bs.length:Int) == 0)=false:=by rw [beq_eq_false_iff_ne];omega
 rcases hop with rfl|rfl <;> rcases hkk with hkk|hkk
 all_goals
  go_enter func107,ntmps107;go_wp2;exact bodyPost_ret (v:=.tuple #[.agg #[.int .i64 0,.int .i64 0,.slice none 0 0,.int .i64 0],.int .i64 0,.int .i64 6]) (by simp [results,Tryz.results107,go_sem]) rfl ⟨none,0,rfl,Sl.nil _ _ _,by repeat first|exact Below.refl _ _|refine Z5 ?_ _⟩
theorem Jb(h0:2<=bs.length)(hop:bs.getD 0 0=4\/bs.getD 0 0=5)(hkk:1<=bs.getD 1 0/\bs.getD 1 0<=64)(hl:(bs.length:Int)<2+bs.getD 1 0):
 Calls prog 107 #[.slice A bs.length c] w (Parsed (ZW bs) w):=by
 obtain ⟨o,ho⟩:∃ o,bs[0]?=some o:=⟨_,List.getElem?_eq_getElem (by omega)⟩;have hod:bs.getD 0 0=o:=by rw [List.getD_eq_getElem?_getD,ho];rfl
 rw [hod] at hop;obtain ⟨b,off,rfl,hB,hc⟩:=hs.RU (by omega);obtain ⟨xM,xO⟩:=hby 0 o ho;have c0:=hc 0 o ho;rw [Nat.add_zero] at c0;obtain ⟨k,hk⟩:∃ k,bs[1]?=some k:=⟨_,List.getElem?_eq_getElem (by omega)⟩;have hkd:bs.getD 1 0=k:=by rw [List.getD_eq_getElem?_getD,hk];rfl
 rw [hkd] at hkk;obtain ⟨iP,hkb2⟩:=hby 1 k hk;have c1:=hc 1 k hk;rw [hkd] at hl;have hr:ZW bs=(Zh,0,4):=by unfold ZW;rw [if_neg (by omega),hod,if_neg (by omega),if_neg (by omega),if_neg (by omega),if_neg (by omega),hkd,if_neg (by omega),if_pos hl]
 rw [hr];have HR:=hide hr;clear hr hod ho hkd hk;have HC:=hide hc;clear hc;have hz:((bs.length:Int) == 0)=false:=by rw [beq_eq_false_iff_ne];omega
 obtain ⟨hk1,hk2⟩:=hkk;rcases hop with rfl|rfl
 all_goals
  go_enter func107,ntmps107;go_wp2;exact bodyPost_ret (v:=.tuple #[.agg #[.int .i64 0,.int .i64 0,.slice none 0 0,.int .i64 0],.int .i64 0,.int .i64 4]) (by simp [results,Tryz.results107,go_sem]) rfl ⟨none,0,rfl,Sl.nil _ _ _,by repeat first|exact Below.refl _ _|refine Z5 ?_ _⟩
end
end
section
open Go.RowKit
section
variable (bs:List Int)(A:Option Addr)(c:Nat)(w:World)
variable (hs:Sl w w.heap.size A (ZU bs))(hby:∀ (j:Nat) (x:Int),bs[j]?=some x->0<=x/\x<=255)
include hs hby
theorem Mf(kn:Nat)(hop:bs.getD 0 0=4)(hkk:bs.getD 1 0=kn)(hk1:1<=kn)(hk2:kn<=64)(hl:2+kn<=bs.length):
 Calls prog 107 #[.slice A bs.length c] w (Parsed (ZW bs) w):=by
 obtain ⟨o,ho⟩:∃ o,bs[0]?=some o:=⟨_,List.getElem?_eq_getElem (by omega)⟩;have hod:bs.getD 0 0=o:=by rw [List.getD_eq_getElem?_getD,ho];rfl
 rw [hod] at hop;obtain ⟨b,off,rfl,hB,hc⟩:=hs.RU (by omega);have c0:=hc 0 o ho;rw [Nat.add_zero] at c0;obtain ⟨k,hk⟩:∃ k,bs[1]?=some k:=⟨_,List.getElem?_eq_getElem (by omega)⟩;have hkd:bs.getD 1 0=k:=by rw [List.getD_eq_getElem?_getD,hk];rfl
 have hkn:k=kn:=by rw [<- hkd,hkk]
 subst hkn;have c1:=hc 1 _ hk;have HC:=hide hc;clear hc;have vG:=hide hkk;clear hkk;have vH:=hide hod;clear hod ho hkd hk;obtain ⟨i0,hi,hz0,hz1,hz2⟩:=info_parts QT;subst hop;have b0:((bs.length:Int) == 0)=false:=by rw [beq_eq_false_iff_ne];omega
 have b2:decide ((bs.length:Int)<2)=false:=decide_eq_false (by omega);have b3:decide ((kn:Int)<1)=false:=decide_eq_false (by omega);have b4:decide (64<(kn:Int))=false:=decide_eq_false (by omega);have b5:decide ((bs.length:Int)<2+kn)=false:=decide_eq_false (by omega);go_enter func107,ntmps107;go_wp2
 go_loopw [7,8] (fun i _ wr=>∃ j:Nat,j<=kn/\i=.int .i64 j/\Gf w 4 ((bs.drop 2).take j) wr/\(((bs.drop 2).take j).map YX).any Zq=false)
  (fun i _ _=>kn - (intOf i).toNat)
 case atStart=>exact ⟨0,by omega,rfl,Ux w 4,rfl⟩
 case round =>
  obtain ⟨j,hj,rfl,⟨v,hv0,hv1,ZT,hb⟩,hany⟩:=hrel;have hz1:=hb.size;have Jl:=hide hany;clear hany
  by_cases hlt:j<kn
  · obtain ⟨x,hx⟩:∃ x,bs[2+j]?=some x:=⟨_,List.getElem?_eq_getElem (by omega)⟩;have cx:=(hb.cell (p:=⟨b,off+(2+j),none⟩) hB).trans (HC.out _ x hx);obtain ⟨hx1,hx2⟩:=hby _ _ hx;have HX:=hide hx;clear hx;have d0:=hv1.q2 rfl;have d1:=hv1.frozen 2;have hlen:(List.take j (List.drop 2 bs)).length=j:=(by simp;omega);have hl1:w.heap.size+1<wr.heap.size:=hv1.lt;have hbB:b<wr.heap.size:=(by omega);go_wp2
    go_region
    go_wp2_with fail;refine (Uy _ _).mono ?_;rintro e w' ⟨rfl,rfl⟩
    by_cases hsz:ZJ (x % 128)=0
    · have hbad:((bs.drop 2).take kn |>.map YX).any Zq=true:=by
       refine UK _ _ j (YX x) ?_ (by simp [Zq,YX,hsz]);rw [List.getElem?_map,List.getElem?_take,if_pos hlt,List.getElem?_drop,HX.out];rfl
      have hr:ZW bs=(Zh,0,7):=by
       unfold ZW;rw [if_neg (by omega),vH.out,if_neg (by omega),if_neg (by omega),if_neg (by omega),if_neg (by omega),vG.out,if_neg (by omega),if_neg (by omega),Int.toNat_natCast,hbad,if_pos rfl]
      have HR:=hide hr;clear hr hbad;have hl0:w.heap.size<wr.heap.size:=hv0.lt;have f00:=hv0.q0 rfl;have f01:=hv0.q1 rfl;have f02:=hv0.q2 rfl;have f03:=hv0.q3 rfl;have z00:=hv0.frozen 0;have z01:=hv0.frozen 1;have z02:=hv0.frozen 2;have z03:=hv0.frozen 3;go_wp2;have E:Z7 _ w.heap.size 53 #[.int .i64 0,.int .i64 0,.slice none 0 0,.int .i64 0]:=(((((hv0.set 0 (.int .i64 0)).set 1 (.int .i64 0)).set 2 (.slice none 0 0)).set 3 (.int .i64 0)).alloc (.cells #[.bool (decide (128<=x)),.int .i64 (x % 128),.slice none 0 0] 38)).drew;refine bodyPost_ret (YQ rfl rfl E) rfl ⟨none,0,?_,?_,?_⟩
      · rw [HR.out];rfl
      · rw [HR.out];exact Sl.nil _ _ _
      · exact (((((hb.setCell (by simp) _).setCell (by simp) _).setCell (by simp) _).setCell (by simp) _).alloc (by simp;omega) _).drew
    · have hsz':(ZJ (x % 128) == 0)=false:=(by simpa using hsz);have Qx:=hide hsz;clear hsz;go_wp2_with (at_builtin;refine wpList_append_own _ rfl (.tmp 90) (.tmp 92) 32 rfl (w.heap.size+2) 38 i0 (.agg #[.bool false,.int .i64 0,.slice none 0 0]) 3 40 underlying32 hi hz0 ‹_› hz2 rfl (by decide) v _ _ rfl (((ZT.alloc _).drew).alloc _) ⟨wr.heap.size+1,0,none⟩ 1 1 (rgCells [YX x]) rfl rfl ?c1 ?c2 ?c3 ?c4 ?c5 ?_;rotate_right;intro v' w1 hown' ZL _;obtain ⟨g1,Vv,rfl,hg1,hg1',hg2⟩:=Rs hown' (by omega);have TL:=(((hv1.alloc _).drew).alloc _).grown ZL (own_ne ZT (by omega));have d2:=TL.q2 rfl;have d3:=TL.frozen 2)
      case c1 =>
       intro i u hu
       match i,hu with
       | 0,hu=>simp [rgCells,Rg.cells,YX] at hu;subst hu;simp [Addr.add]
       | 1,hu=>simp [rgCells,Rg.cells,YX] at hu;subst hu;simp [Addr.add]
       | 2,hu=>simp [rgCells,Rg.cells,YX] at hu;subst hu;simp [Addr.add]
      case c2=>intro u hu;simp [rgCells,Rg.cells,YX] at hu;rcases hu with rfl|rfl|rfl <;> rfl
      case c3=>rw [hlen];unfold maxLen;omega
      case c4=>rw [hlen];omega
      case c5=>simp;omega
      have hts:List.take (j+1) (List.drop 2 bs)=List.take j (List.drop 2 bs)++[x]:=by
       rw [List.take_add_one,List.getElem?_drop,HX.out];rfl
      have R:=Tj (wr:=(wr.alloc (.cells #[.bool (decide (128<=x)),.int .i64 (x % 128),.slice none 0 0] 38)).drew) ((hv0.alloc _).drew) ((hv1.alloc _).drew) ((ZT.alloc _).drew) ((hb.alloc hb.size _).drew) (x:=x) (by rw [hlen] at hown' ⊢;exact hown') ZL;have Mj:=hide hts;have HR2:=hide R;clear hts R hlen hown' ZL ZT hv0 hv1 d0 d1 d2 d3 TL;go_roundw
      case rel=>exact ⟨j+1,by omega,by go_num,by rw [Mj.out];exact HR2.out,by rw [Mj.out,List.map_append,List.any_append,Jl.out];simp [Zq,YX];exact Qx.out⟩
      case measure=>simp [intOf];omega
  · have hjk:j=kn:=(by omega);subst hjk;obtain ⟨A1,Vv,rfl,hcap1⟩:=ZP ZT;have hlen:(List.take j (List.drop 2 bs)).length=j:=(by simp;omega);have e0:=hv0;have f00:=e0.q0 rfl;have f01:=e0.q1 rfl;have f02:=e0.q2 rfl;have f03:=e0.q3 rfl;have z00:=e0.frozen 0;have z01:=e0.frozen 1;have z02:=e0.frozen 2;have z03:=e0.frozen 3;have f10:=hv1.q0 rfl;have f11:=hv1.q1 rfl;have f12:=hv1.q2 rfl;have f13:=hv1.q3 rfl;have z13:=hv1.frozen 3;go_wp2;have E:Z7 _ w.heap.size 53 #[.int .i64 4,.int .i64 0,.slice A1 j Vv,.int .i64 0]:=(((e0.set 0 (.int .i64 4)).set 1 (.int .i64 0)).set 2 (.slice A1 j Vv)).set 3 (.int .i64 0);have O:=ownsRow_setCell_below (ownsRow_setCell_below (ownsRow_setCell_below (ownsRow_setCell_below ZT (a:=⟨w.heap.size,0,none⟩) (by simp) (.int .i64 4)) (a:=⟨w.heap.size,1,none⟩) (by simp) (.int .i64 0)) (a:=⟨w.heap.size,2,none⟩) (by simp) (.slice A1 j Vv)) (a:=⟨w.heap.size,3,none⟩) (by simp) (.int .i64 0);have hr:ZW bs=(PH.mk 4 0 (((bs.drop 2).take j).map YX) 0,2+(j:Int),0):=by
     unfold ZW;rw [if_neg (by omega),vH.out,if_neg (by omega),if_neg (by omega),if_neg (by omega),if_neg (by omega),vG.out,if_neg (by omega),if_neg (by omega),Int.toNat_natCast,Jl.out,if_neg (by simp),if_pos rfl]
    refine bodyPost_ret (YQ rfl rfl E) rfl ⟨A1,Vv,?_,?_,?_⟩
    · rw [hr];simp only [List.length_map,hlen];rfl
    · rw [hr];exact Sl.Zv O
    · exact (((hb.setCell (by simp) _).setCell (by simp) _).setCell (by simp) _).setCell (by simp) _
end
end
section
open Go.RowKit
section
variable (bs:List Int)(A:Option Addr)(c:Nat)(w:World)
variable (hs:Sl w w.heap.size A (ZU bs))(hby:∀ (j:Nat) (x:Int),bs[j]?=some x->0<=x/\x<=255)
include hs hby
theorem Mg(kn:Nat)(hop:bs.getD 0 0=5)(hkk:bs.getD 1 0=kn)(hk1:1<=kn)(hk2:kn<=64)(hl:2+kn<=bs.length):
 Calls prog 107 #[.slice A bs.length c] w (Parsed (ZW bs) w):=by
 obtain ⟨o,ho⟩:∃ o,bs[0]?=some o:=⟨_,List.getElem?_eq_getElem (by omega)⟩;have hod:bs.getD 0 0=o:=by rw [List.getD_eq_getElem?_getD,ho];rfl
 rw [hod] at hop;obtain ⟨b,off,rfl,hB,hc⟩:=hs.RU (by omega);have c0:=hc 0 o ho;rw [Nat.add_zero] at c0;obtain ⟨k,hk⟩:∃ k,bs[1]?=some k:=⟨_,List.getElem?_eq_getElem (by omega)⟩;have hkd:bs.getD 1 0=k:=by rw [List.getD_eq_getElem?_getD,hk];rfl
 have hkn:k=kn:=by rw [<- hkd,hkk]
 subst hkn;have c1:=hc 1 _ hk;have HC:=hide hc;clear hc;have vG:=hide hkk;clear hkk;have vH:=hide hod;clear hod ho hkd hk;obtain ⟨i0,hi,hz0,hz1,hz2⟩:=info_parts QT;subst hop;have b0:((bs.length:Int) == 0)=false:=by rw [beq_eq_false_iff_ne];omega
 have b2:decide ((bs.length:Int)<2)=false:=decide_eq_false (by omega);have b3:decide ((kn:Int)<1)=false:=decide_eq_false (by omega);have b4:decide (64<(kn:Int))=false:=decide_eq_false (by omega);have b5:decide ((bs.length:Int)<2+kn)=false:=decide_eq_false (by omega);go_enter func107,ntmps107;go_wp2
 go_loopw [7,8] (fun i _ wr=>∃ j:Nat,j<=kn/\i=.int .i64 j/\Gf w 5 ((bs.drop 2).take j) wr/\(((bs.drop 2).take j).map YX).any Zq=false)
  (fun i _ _=>kn - (intOf i).toNat)
 case atStart=>exact ⟨0,by omega,rfl,Ux w 5,rfl⟩
 case round =>
  obtain ⟨j,hj,rfl,⟨v,hv0,hv1,ZT,hb⟩,hany⟩:=hrel;have hz1:=hb.size;have Jl:=hide hany;clear hany
  by_cases hlt:j<kn
  · obtain ⟨x,hx⟩:∃ x,bs[2+j]?=some x:=⟨_,List.getElem?_eq_getElem (by omega)⟩;have cx:=(hb.cell (p:=⟨b,off+(2+j),none⟩) hB).trans (HC.out _ x hx);obtain ⟨hx1,hx2⟩:=hby _ _ hx;have HX:=hide hx;clear hx;have d0:=hv1.q2 rfl;have d1:=hv1.frozen 2;have hlen:(List.take j (List.drop 2 bs)).length=j:=(by simp;omega);have hl1:w.heap.size+1<wr.heap.size:=hv1.lt;have hbB:b<wr.heap.size:=(by omega);go_wp2
    go_region
    go_wp2_with fail;refine (Uy _ _).mono ?_;rintro e w' ⟨rfl,rfl⟩
    by_cases hsz:ZJ (x % 128)=0
    · have hbad:((bs.drop 2).take kn |>.map YX).any Zq=true:=by
       refine UK _ _ j (YX x) ?_ (by simp [Zq,YX,hsz]);rw [List.getElem?_map,List.getElem?_take,if_pos hlt,List.getElem?_drop,HX.out];rfl
      have hr:ZW bs=(Zh,0,7):=by
       unfold ZW;rw [if_neg (by omega),vH.out,if_neg (by omega),if_neg (by omega),if_neg (by omega),if_neg (by omega),vG.out,if_neg (by omega),if_neg (by omega),Int.toNat_natCast,hbad,if_pos rfl]
      have HR:=hide hr;clear hr hbad;have hl0:w.heap.size<wr.heap.size:=hv0.lt;have f00:=hv0.q0 rfl;have f01:=hv0.q1 rfl;have f02:=hv0.q2 rfl;have f03:=hv0.q3 rfl;have z00:=hv0.frozen 0;have z01:=hv0.frozen 1;have z02:=hv0.frozen 2;have z03:=hv0.frozen 3;go_wp2;have E:Z7 _ w.heap.size 53 #[.int .i64 0,.int .i64 0,.slice none 0 0,.int .i64 0]:=(((((hv0.set 0 (.int .i64 0)).set 1 (.int .i64 0)).set 2 (.slice none 0 0)).set 3 (.int .i64 0)).alloc (.cells #[.bool (decide (128<=x)),.int .i64 (x % 128),.slice none 0 0] 38)).drew;refine bodyPost_ret (YQ rfl rfl E) rfl ⟨none,0,?_,?_,?_⟩
      · rw [HR.out];rfl
      · rw [HR.out];exact Sl.nil _ _ _
      · exact (((((hb.setCell (by simp) _).setCell (by simp) _).setCell (by simp) _).setCell (by simp) _).alloc (by simp;omega) _).drew
    · have hsz':(ZJ (x % 128) == 0)=false:=(by simpa using hsz);have Qx:=hide hsz;clear hsz;go_wp2_with (at_builtin;refine wpList_append_own _ rfl (.tmp 90) (.tmp 92) 32 rfl (w.heap.size+2) 38 i0 (.agg #[.bool false,.int .i64 0,.slice none 0 0]) 3 40 underlying32 hi hz0 ‹_› hz2 rfl (by decide) v _ _ rfl (((ZT.alloc _).drew).alloc _) ⟨wr.heap.size+1,0,none⟩ 1 1 (rgCells [YX x]) rfl rfl ?c1 ?c2 ?c3 ?c4 ?c5 ?_;rotate_right;intro v' w1 hown' ZL _;obtain ⟨g1,Vv,rfl,hg1,hg1',hg2⟩:=Rs hown' (by omega);have TL:=(((hv1.alloc _).drew).alloc _).grown ZL (own_ne ZT (by omega));have d2:=TL.q2 rfl;have d3:=TL.frozen 2)
      case c1 =>
       intro i u hu
       match i,hu with
       | 0,hu=>simp [rgCells,Rg.cells,YX] at hu;subst hu;simp [Addr.add]
       | 1,hu=>simp [rgCells,Rg.cells,YX] at hu;subst hu;simp [Addr.add]
       | 2,hu=>simp [rgCells,Rg.cells,YX] at hu;subst hu;simp [Addr.add]
      case c2=>intro u hu;simp [rgCells,Rg.cells,YX] at hu;rcases hu with rfl|rfl|rfl <;> rfl
      case c3=>rw [hlen];unfold maxLen;omega
      case c4=>rw [hlen];omega
      case c5=>simp;omega
      have hts:List.take (j+1) (List.drop 2 bs)=List.take j (List.drop 2 bs)++[x]:=by
       rw [List.take_add_one,List.getElem?_drop,HX.out];rfl
      have R:=Tj (wr:=(wr.alloc (.cells #[.bool (decide (128<=x)),.int .i64 (x % 128),.slice none 0 0] 38)).drew) ((hv0.alloc _).drew) ((hv1.alloc _).drew) ((ZT.alloc _).drew) ((hb.alloc hb.size _).drew) (x:=x) (by rw [hlen] at hown' ⊢;exact hown') ZL;have Mj:=hide hts;have HR2:=hide R;clear hts R hlen hown' ZL ZT hv0 hv1 d0 d1 d2 d3 TL;go_roundw
      case rel=>exact ⟨j+1,by omega,by go_num,by rw [Mj.out];exact HR2.out,by rw [Mj.out,List.map_append,List.any_append,Jl.out];simp [Zq,YX];exact Qx.out⟩
      case measure=>simp [intOf];omega
  · have hjk:j=kn:=(by omega);subst hjk;obtain ⟨A1,Vv,rfl,hcap1⟩:=ZP ZT;have hlen:(List.take j (List.drop 2 bs)).length=j:=(by simp;omega);have e0:=hv0;have f00:=e0.q0 rfl;have f01:=e0.q1 rfl;have f02:=e0.q2 rfl;have f03:=e0.q3 rfl;have z00:=e0.frozen 0;have z01:=e0.frozen 1;have z02:=e0.frozen 2;have z03:=e0.frozen 3;have f10:=hv1.q0 rfl;have f11:=hv1.q1 rfl;have f12:=hv1.q2 rfl;have f13:=hv1.q3 rfl;have z13:=hv1.frozen 3
    by_cases hl4:(bs.length:Int)<4+j
    · go_wp2;have E:Z7 _ w.heap.size 53 #[.int .i64 0,.int .i64 0,.slice none 0 0,.int .i64 0]:=(((e0.set 0 (.int .i64 0)).set 1 (.int .i64 0)).set 2 (.slice none 0 0)).set 3 (.int .i64 0);have hr:ZW bs=(Zh,0,4):=by
       unfold ZW;rw [if_neg (by omega),vH.out,if_neg (by omega),if_neg (by omega),if_neg (by omega),if_neg (by omega),vG.out,if_neg (by omega),if_neg (by omega),Int.toNat_natCast,Jl.out,if_neg (by simp),if_neg (by omega),if_pos hl4]
      refine bodyPost_ret (YQ rfl rfl E) rfl ⟨none,0,?_,?_,?_⟩
      · rw [hr];rfl
      · rw [hr];exact Sl.nil _ _ _
      · exact (((hb.setCell (by simp) _).setCell (by simp) _).setCell (by simp) _).setCell (by simp) _
    · obtain ⟨p,hp⟩:∃ p,bs[2+j]?=some p:=⟨_,List.getElem?_eq_getElem (by omega)⟩;obtain ⟨q,hq⟩:∃ q,bs[3+j]?=some q:=⟨_,List.getElem?_eq_getElem (by omega)⟩;obtain ⟨hp1,hp2⟩:=hby _ _ hp;obtain ⟨hq1,hq2⟩:=hby _ _ hq;have cp:=(hb.cell (p:=⟨b,off+(2+j),none⟩) hB).trans (HC.out _ p hp);have cq:=(hb.cell (p:=⟨b,off+(3+j),none⟩) hB).trans (HC.out _ q hq);have HP:=hide hp;clear hp;have HQQ:=hide hq;clear hq;have hpd:bs.getD (2+j) 0=p:=(by rw [List.getD_eq_getElem?_getD,HP.out];rfl);have hqd:bs.getD (3+j) 0=q:=(by rw [List.getD_eq_getElem?_getD,HQQ.out];rfl);have HPD:=hide hpd;clear hpd;have HQD:=hide hqd;clear hqd;go_wp2
      go_region
      by_cases hpt:p+256*q<1\/4096<p+256*q
      · rcases hpt with hpt|hpt
        all_goals
         go_wp2;have E:Z7 _ w.heap.size 53 #[.int .i64 0,.int .i64 0,.slice none 0 0,.int .i64 0]:=(((((e0.far (p:=⟨w.heap.size+1,3,none⟩) (by simp) (.int .i64 (p+256*q))).drew).set 0 (.int .i64 0)).set 1 (.int .i64 0)).set 2 (.slice none 0 0)).set 3 (.int .i64 0);have hr:ZW bs=(Zh,0,6):=by
          unfold ZW;rw [if_neg (by omega),vH.out,if_neg (by omega),if_neg (by omega),if_neg (by omega),if_neg (by omega),vG.out,if_neg (by omega),if_neg (by omega),Int.toNat_natCast,Jl.out,if_neg (by simp),if_neg (by omega),if_neg (by omega),HPD.out,HQD.out,if_pos (by omega)]
         refine bodyPost_ret (YQ rfl rfl E) rfl ⟨none,0,?_,?_,?_⟩
         · rw [hr];rfl
         · rw [hr];exact Sl.nil _ _ _
         · exact (((((hb.setCell (by simp) _).drew).setCell (by simp) _).setCell (by simp) _).setCell (by simp) _).setCell (by simp) _
      · have zcz:1<=p+256*q:=(by omega);have zda:p+256*q<=4096:=(by omega);go_wp2;have E:Z7 _ w.heap.size 53 #[.int .i64 5,.int .i64 0,.slice A1 j Vv,.int .i64 (p+256*q)]:=(((((e0.far (p:=⟨w.heap.size+1,3,none⟩) (by simp) (.int .i64 (p+256*q))).drew).set 0 (.int .i64 5)).set 1 (.int .i64 0)).set 2 (.slice A1 j Vv)).set 3 (.int .i64 (p+256*q));have O:=ownsRow_setCell_below (ownsRow_setCell_below (ownsRow_setCell_below (ownsRow_setCell_below (ownsRow_setCell_below ZT (a:=⟨w.heap.size+1,3,none⟩) (by simp) (.int .i64 (p+256*q))).drew (a:=⟨w.heap.size,0,none⟩) (by simp) (.int .i64 5)) (a:=⟨w.heap.size,1,none⟩) (by simp) (.int .i64 0)) (a:=⟨w.heap.size,2,none⟩) (by simp) (.slice A1 j Vv)) (a:=⟨w.heap.size,3,none⟩) (by simp) (.int .i64 (p+256*q));have hr:ZW bs=(PH.mk 5 0 (((bs.drop 2).take j).map YX) (p+256*q),4+(j:Int),0):=by
         unfold ZW;rw [if_neg (by omega),vH.out,if_neg (by omega),if_neg (by omega),if_neg (by omega),if_neg (by omega),vG.out,if_neg (by omega),if_neg (by omega),Int.toNat_natCast,Jl.out,if_neg (by simp),if_neg (by omega),if_neg (by omega),HPD.out,HQD.out,if_neg (by omega)]
        refine bodyPost_ret (YQ rfl rfl E) rfl ⟨A1,Vv,?_,?_,?_⟩
        · rw [hr];simp only [List.length_map,hlen];rfl
        · rw [hr];exact Sl.Zv O
        · exact (((((hb.setCell (by simp) _).drew).setCell (by simp) _).setCell (by simp) _).setCell (by simp) _).setCell (by simp) _
end
end
section
open Go.RowKit
section
variable (bs:List Int)(A:Option Addr)(c:Nat)(w:World)
variable (hs:Sl w w.heap.size A (ZU bs))(hcap:bs.length<=c)(hby:∀ (j:Nat) (x:Int),bs[j]?=some x->0<=x/\x<=255)
include hs hby
theorem KW :
 Calls prog 107 #[.slice A bs.length c] w (Parsed (ZW bs) w):=by
 by_cases h0:bs.length<1
 · exact FN bs A c w h0
 have h0':0<bs.length:=by omega
 by_cases h1:bs.getD 0 0=1\/bs.getD 0 0=2
 · exact rF bs A c w hs hby h0' h1
 by_cases h2:bs.getD 0 0<1\/5<bs.getD 0 0
 · exact za bs A c w hs hby h0' h2
 by_cases hl:bs.length=1
 · exact ze bs A c w hs hby hl (by omega)
 have hl2:2<=bs.length:=by omega
 by_cases h3:bs.getD 0 0=3
 · by_cases hk:bs.getD 1 0<3\/64<bs.getD 1 0
   · exact Dn bs A c w hs hby hl2 h3 hk
   · exact y9 bs A c w hs hby hl2 h3 (by omega)
 by_cases hk:bs.getD 1 0<1\/64<bs.getD 1 0
 · exact Dp bs A c w hs hby hl2 (by omega) hk
 by_cases hsh:(bs.length:Int)<2+bs.getD 1 0
 · exact Jb bs A c w hs hby hl2 (by omega) (by omega) hsh
 obtain ⟨kn,hkn⟩:=Int.eq_ofNat_of_zero_le (show 0<=bs.getD 1 0 by omega)
 by_cases h4:bs.getD 0 0=4
 · exact Mf bs A c w hs hby kn h4 hkn (by omega) (by omega) (by omega)
 · exact Mg bs A c w hs hby kn (by omega) hkn (by omega) (by omega) (by omega)
include hcap
theorem Hz :
 Calls prog 226 #[.slice A bs.length c] w (Parsed (ZW bs) w):=by
 by_cases h0:bs.length<1
 · exact CW bs A c w h0
 have h0':0<bs.length:=by omega
 by_cases h1:bs.getD 0 0=1\/bs.getD 0 0=2
 · exact kH bs A c w hs h0' h1
 by_cases h2:bs.getD 0 0<1\/5<bs.getD 0 0
 · exact qM bs A c w hs hby h0' h2
 by_cases hl:bs.length=1
 · exact qN bs A c w hs hl (by omega)
 have hl2:2<=bs.length:=by omega
 by_cases h3:bs.getD 0 0=3
 · by_cases hk:bs.getD 1 0<3\/64<bs.getD 1 0
   · exact yL bs A c w hs hby hl2 h3 hk
   · exact qK bs A c w hs hl2 h3 (by omega)
 by_cases hk:bs.getD 1 0<1\/64<bs.getD 1 0
 · exact yM bs A c w hs hby hl2 (by omega) hk
 by_cases hsh:(bs.length:Int)<2+bs.getD 1 0
 · exact FC bs A c w hs hl2 (by omega) (by omega) hsh
 obtain ⟨kn,hkn⟩:=Int.eq_ofNat_of_zero_le (show 0<=bs.getD 1 0 by omega)
 by_cases h4:bs.getD 0 0=4
 · exact KI bs A c w hs hcap hby kn h4 hkn (by omega) (by omega) (by omega)
 · exact KJ bs A c w hs hcap hby kn (by omega) hkn (by omega) (by omega) (by omega)
end
end
section
open Go.RowKit
section
variable (bs:List Int)(A:Option Addr)(c:Nat)(w:World)
variable (hs:Sl w w.heap.size A (ZU bs))(hcap:bs.length<=c)(hby:∀ (j:Nat) (x:Int),bs[j]?=some x->0<=x/\x<=255)(hmax:bs.length<=9223372036854775807)
variable (hfix:Fixed w)(hg:9<w.heap.size)
include hs hcap hby hmax hfix hg
theorem Er :
 Calls prog 225 #[.slice A bs.length c] w fun e w'=>e=.returned (.int .i64 (Y7 bs))/\Below w.heap.size w w':=by
 have hlen:=xQ bs;have hpb:=uq (ZW bs).1.op (ZW bs).1.vs (ZW bs).1.rs (ZW bs).1.ZY;have hnb:=Kl bs;obtain ⟨v,hv⟩:=eE (Y7 bs);unfold Y7 at hv;rw [show Y7 bs=v from by rw [hv];rfl];have P:=Hz bs A c w hs hcap hby;revert P hv hlen hpb hnb;generalize ZW bs=r;obtain ⟨⟨op,vs,rs,ZY⟩,n,er⟩:=r;intro hlen hpb hnb hv P;simp only at hlen hpb hnb hv;have HV:=hide hv;clear hv;have HP:=hide P;clear P;have HPB:=hide hpb;clear hpb;have HNB:=hide hnb;clear hnb;go_enter func225,ntmps225;go_wp2_with fail;refine HP.out.mono ?_;rintro e w1 ⟨A1,c1,rfl,hsl,hb1⟩;simp only at hsl
 by_cases he:er=0
 · subst he;go_wp2_with fail;refine (CX vs rs A1 c1 ZY _ ((hsl.below (bA)).more (by simp)) (by unfold maxLen;omega) (fun j hj=>(World.cell?_alloc_lt _ _ _ (by have:=hb1.size;simp;omega)).trans ((hfix.below hb1 hg) j hj)) (by have:=hb1.size;rw [World.size_alloc];omega) op).mono ?_;rintro e w2 ⟨rfl,hb2⟩;obtain ⟨zcx,zcy⟩:=HPB.out;obtain ⟨zcv,zcw⟩:=HNB.out
   by_cases hq:(bs.length:Int)=n+hpay op vs rs ZY
   · have hq':((bs.length:Int) != n+hpay op vs rs ZY)=false:=(by rw [bne_eq_false_iff_eq];exact hq);have HQ:=hide hq;clear hq;go_wp2;go_ret;exact ⟨Zf (by rw [HV.out,if_pos trivial,if_pos HQ.out]),Z8 (Z5 hb1 _) hb2⟩
   · have hq':((bs.length:Int) != n+hpay op vs rs ZY)=true:=(by rw [bne_iff_ne];exact hq);have HQ:=hide hq;clear hq;go_wp2;go_ret;exact ⟨Zf (by rw [HV.out,if_pos trivial,if_neg HQ.out]),Z8 (Z5 hb1 _) hb2⟩
 · have he':(er == 0)=false:=(by simpa using he);have HE:=hide he;clear he;go_wp2;go_ret;exact ⟨Zf (by rw [HV.out,if_neg HE.out]),Z5 hb1 _⟩
end
end
section
open Go.RowKit
theorem M0(op vs ZY:Int)(rs:List Rg)(A:Option Addr)(c:Nat)(w:World)(hs:Sl w w.heap.size A (rgCells rs))(hn:rs.length<=65536):
 Calls prog 222 #[.agg #[.int .i64 op,.int .i64 vs,.slice A rs.length c,.int .i64 ZY]] w fun e w'=>e=.returned (.int .i64 (YA rs))/\Below w.heap.size w w':=by
 have hsW:=hs.below (Z5 (Below.refl _ _) (.cells #[.int .i64 op,.int .i64 vs,.slice A rs.length c,.int .i64 ZY] 53));have HS:=hide hs;clear hs;go_enter func222,ntmps222;go_wp2
 go_loop [3,4] (fun t i=>∃ k:Nat,k<=rs.length/\i=.int .i64 k/\t=.int .i64 (YA (rs.take k)))
  (fun _ i=>rs.length - (intOf i).toNat)
 case atStart=>exact ⟨0,by omega,rfl,by simp [YA]⟩
 case round =>
  obtain ⟨k,hk,rfl,rfl⟩:=hrel;have hsb:=TA (rs.take k);rw [List.length_take,Nat.min_eq_left hk] at hsb;obtain ⟨zxy,zxz⟩:=hsb
  by_cases hlt:k<rs.length
  · obtain ⟨r,hr⟩:∃ r,rs[k]?=some r:=⟨_,List.getElem?_eq_getElem hlt⟩;obtain ⟨b,off,rfl,hB,c0,c1,c2⟩:=hsW.rg hr;have hsn:=OZ rs k r hr;have hzb:=Xv r.v;obtain ⟨zdo,zdp⟩:=hzb;have HR:=hide hr;clear hr;have HN:=hide hsn;clear hsn;go_wp2_with fail;refine (Uy _ _).mono ?_;rintro e w' ⟨rfl,rfl⟩;go_wp2
    go_round
    case rel=>exact ⟨k+1,by omega,by go_num,by rw [HN.out]⟩
    case measure=>simp [intOf];omega
  · have hk':k=rs.length:=(by omega);rw [hk',List.take_length] at zxy zxz ⊢;clear hk' hlt hk;go_wp2;go_ret;exact ⟨rfl,bA⟩
section
variable (op vs ZY:Int)(rs:List Rg)(A:Option Addr)(c:Nat)(w:World)(hs:Sl w w.heap.size A (rgCells rs))(hz:ZM op vs rs ZY=0)
include hz
include hs
theorem FP :
 Calls prog 158 #[.agg #[.int .i64 op,.int .i64 vs,.slice A rs.length c,.int .i64 ZY]] w fun e w'=>e=.returned (.int .i64 (hpay op vs rs ZY))/\Below w.heap.size w w':=by
 obtain ⟨ho1,ho2,h3,hn3,h4,hl4,h5,ni,_⟩:=ZA hz;have hr:hpay op vs rs ZY=(XF op+vs+YA rs)*16+ZY*24:=by unfold hpay;rw [if_pos hz]
 have HZ:=hide hz;clear hz;have HR:=hide hr;clear hr;have hop:op=1\/op=2\/op=3\/op=4\/op=5:=by omega
 have hsb:=TA rs;obtain ⟨zxy,zxz⟩:=hsb;have hs':=hide hs;clear hs;rcases hop with rfl|rfl|rfl|rfl|rfl
 · have e1:=hl4 (by omega);have e2:=hn3 (by omega);have e3:=ni (by omega);subst e1 e2 e3;clear h3 hn3 h4 hl4 h5 ni;go_enter func158,ntmps158;go_wp2;go_ret;exact ⟨Zf (by rw [HR.out];rfl),bA⟩
 · have e1:=hl4 (by omega);have e2:=hn3 (by omega);have e3:=ni (by omega);subst e1 e2 e3;clear h3 hn3 h4 hl4 h5 ni;go_enter func158,ntmps158;go_wp2;go_ret;exact ⟨Zf (by rw [HR.out];rfl),bA⟩
 · have e1:=hl4 (by omega);have e3:=ni (by omega);obtain ⟨hv1,hv2⟩:=h3 rfl;subst e1 e3;clear h3 hn3 h4 hl4 h5 ni;go_enter func158,ntmps158;go_wp2;go_ret;exact ⟨Zf (by rw [HR.out];simp [XF,YA];omega),bA⟩
 · have e2:=hn3 (by omega);have e3:=ni (by omega);obtain ⟨hl1,hl2,_⟩:=h4 (by omega);subst e2 e3;clear h3 hn3 h4 hl4 h5 ni;go_enter func158,ntmps158;go_wp2_with fail;refine (M0 4 0 0 rs A c _ ((hs'.out.below (bA)).more (by simp)) (by omega)).mono ?_;rintro e w1 ⟨rfl,hb⟩;go_wp2;go_ret;exact ⟨Zf (by rw [HR.out];simp [XF];omega),Z8 (bA) hb⟩
 · have e2:=hn3 (by omega);obtain ⟨hl1,hl2,_⟩:=h4 (by omega);obtain ⟨hp1,hp2⟩:=h5 rfl;subst e2;clear h3 hn3 h4 hl4 h5 ni;go_enter func158,ntmps158;go_wp2
   go_region_with (go_at_call 222;refine (M0 5 0 ZY rs A c _ ((hs'.out.below (ZV (bA))).more (by simp)) (by omega)).mono ?_;rintro e w1 ⟨rfl,hb⟩;obtain ⟨hcl,hfr⟩:=Mq hb)
   all_goals go_wp2
   all_goals go_ret
   all_goals exact ⟨Zf (by rw [HR.out,IntWalk.i64_in (16*YA rs) (by omega),IntWalk.i64_in (24*ZY) (by omega),IntWalk.i64_in _ (by omega)];simp [XF];omega),Z8 (ZV (bA)) (by assumption)⟩
end
end
end Go.Proofs.YthnenedoblncjaaGreatDoor