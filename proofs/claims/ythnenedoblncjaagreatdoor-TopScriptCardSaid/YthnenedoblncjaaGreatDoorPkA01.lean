/- Parse Parse2 Parse3 -/
import Derived.ChangeAlike
import Derived.Test.YthnenedoblncjaaGreatDoorPkA00
set_option maxRecDepth 1000000
set_option maxHeartbeats 8000000
namespace Go.Proofs.YthnenedoblncjaaGreatDoor
open Go.Proofs.Tryz
section
open Go.RowKit
def Parsed(r:PH × Int × Int)(w:World)(e:Ending)(w':World):Prop :=
 ∃ A c,e=.returned (.tuple #[.agg #[.int .i64 r.1.op,.int .i64 r.1.vs,.slice A r.1.rs.length c,.int .i64 r.1.Z0],.int .i64 r.2.1,.int .i64 r.2.2])/\Sl w' w'.heap.size A (rgCells r.1.rs)/\Below w.heap.size w w'
theorem YL {fn:Func} {tmps:Array Value} {w:World} {g:Nat} {v0 v1 v2 v3:Value} (h:fn.results=#[.cell 2 53,.tmp 3,.tmp 4])
 (hp:tmps.getD 2 undef=.pointer (some ⟨g,0,none⟩)) (hb:Z6 w g 53 #[v0,v1,v2,v3]) :
 (results fn tmps).run prog w=.ok (.tuple #[.agg #[v0,v1,v2,v3],tmps.getD 3 undef,tmps.getD 4 undef]) w:=by
 have c0:=hb.q0 rfl;have c1:=hb.q1 rfl;have c2:=hb.q2 rfl;have c3:=hb.q3 rfl;have hp':tmps[2]?.getD undef=.pointer (some ⟨g,0,none⟩):=by rw [<- hp];simp
 simp [results,h,hp',go_sem,c0,c1,c2,c3]
section
variable (bs:List Int)(A:Option Addr)(c:Nat)(w:World)
theorem F9(h0:bs.length<1):
 Calls prog 226 #[.slice A bs.length c] w (Parsed (ZX bs) w):=by
 have hr:ZX bs=(Y5,0,4):=by unfold ZX;rw [if_pos h0]
 rw [hr];have HR:=hide hr;clear hr;go_enter func226,ntmps226;go_wp2;refine YJ 0 rfl ?_;go_wp2
 go_step3
 go_wp2;refine WX ?_;unfold VU;go_wp2;rw [Exit.noGoto_ret];exact bodyPost_ret (v:=.tuple #[.agg #[.int .i64 0,.int .i64 0,.slice none 0 0,.int .i64 0],.int .i64 0,.int .i64 4]) (by simp [results,Tryz.results226,go_sem]) rfl ⟨none,0,rfl,Sl.nil _ _ _,Z7 (bA) _⟩
variable (hs:Sl w w.heap.size A (ZY bs))(hcap:bs.length<=c)(hmax:c<=maxLen)(hby:∀ (j:Nat) (x:Int),bs[j]?=some x->0<=x/\x<=255)
include hs in
theorem vN(h0:0<bs.length)(hop:bs.getD 0 0=1\/bs.getD 0 0=2):
 Calls prog 226 #[.slice A bs.length c] w (Parsed (ZX bs) w):=by
 obtain ⟨o,ho⟩:∃ o,bs[0]?=some o:=⟨_,List.getElem?_eq_getElem (by omega)⟩;have hod:bs.getD 0 0=o:=by rw [List.getD_eq_getElem?_getD,ho];rfl
 rw [hod] at hop;obtain ⟨b,off,rfl,hB,hc⟩:=hs.Q5 (by omega);have c0:=hc 0 o ho;rw [Nat.add_zero] at c0;have HC:=hide hc;clear hc;have hr:ZX bs=(⟨o,0,[],0⟩,1,0):=by unfold ZX;rw [if_neg (by omega),hod,if_pos hop]
 rw [hr];have HR:=hide hr;clear hr hod ho;rcases hop with rfl|rfl
 all_goals
  go_enter func226,ntmps226;go_wp2;refine YJ 0 rfl ?_;go_wp2;refine bodyPost_ret (v:=.tuple #[.agg #[.int .i64 _,.int .i64 0,.slice none 0 0,.int .i64 0],.int .i64 1,.int .i64 0]) (by simp [results,Tryz.results226,go_sem]) rfl ⟨none,0,rfl,Sl.nil _ _ _,?_⟩;exact (Z7 (bA) _)
include hs hby in
theorem zl(h0:0<bs.length)(hop:bs.getD 0 0<1\/5<bs.getD 0 0):
 Calls prog 226 #[.slice A bs.length c] w (Parsed (ZX bs) w):=by
 obtain ⟨o,ho⟩:∃ o,bs[0]?=some o:=⟨_,List.getElem?_eq_getElem (by omega)⟩;have hod:bs.getD 0 0=o:=by rw [List.getD_eq_getElem?_getD,ho];rfl
 rw [hod] at hop;obtain ⟨b,off,rfl,hB,hc⟩:=hs.Q5 (by omega);have Sw:=hby 0 o ho;obtain ⟨CB,CF⟩:=Sw;have c0:=hc 0 o ho;rw [Nat.add_zero] at c0;have HC:=hide hc;clear hc;have hr:ZX bs=(Y5,0,5):=by unfold ZX;rw [if_neg (by omega),hod,if_neg (by omega),if_pos (by omega)]
 rw [hr];have HR:=hide hr;clear hr hod ho;have e1:(o == 1)=false:=by simp;omega
 have e2:(o == 2)=false:=by simp;omega
 have e3:(o == 3)=false:=by simp;omega
 have e4:(o == 4)=false:=by simp;omega
 have e5:(o == 5)=false:=by simp;omega
 go_enter func226,ntmps226;go_wp2;refine YJ 0 rfl ?_;go_wp2
 go_step3
 go_wp2;refine WX ?_;unfold VU;go_wp2;rw [Exit.noGoto_ret];exact bodyPost_ret (v:=.tuple #[.agg #[.int .i64 0,.int .i64 0,.slice none 0 0,.int .i64 0],.int .i64 0,.int .i64 5]) (by simp [results,Tryz.results226,go_sem]) rfl ⟨none,0,rfl,Sl.nil _ _ _,Z7 (bA) _⟩
include hs in
theorem zm(h0:bs.length=1)(hop:bs.getD 0 0=3\/bs.getD 0 0=4\/bs.getD 0 0=5):
 Calls prog 226 #[.slice A bs.length c] w (Parsed (ZX bs) w):=by
 obtain ⟨o,ho⟩:∃ o,bs[0]?=some o:=⟨_,List.getElem?_eq_getElem (by omega)⟩;have hod:bs.getD 0 0=o:=by rw [List.getD_eq_getElem?_getD,ho];rfl
 rw [hod] at hop;obtain ⟨b,off,rfl,hB,hc⟩:=hs.Q5 (by omega);have c0:=hc 0 o ho;rw [Nat.add_zero] at c0;have hr:ZX bs=(Y5,0,4):=by unfold ZX;rw [if_neg (by omega),hod,if_neg (by omega),if_neg (by omega),if_pos (by omega)]
 rw [hr];have HR:=hide hr;clear hr hod ho;have HC:=hide hc;clear hc;have h0':bs.length<2:=by omega
 have h1':1<=bs.length:=by omega
 clear h0;rcases hop with rfl|rfl|rfl
 all_goals
  go_enter func226,ntmps226;go_wp2;refine YJ 0 rfl ?_;go_wp2
  go_step3
  go_wp2;refine WX ?_;unfold VU;go_wp2;rw [Exit.noGoto_ret];exact bodyPost_ret (v:=.tuple #[.agg #[.int .i64 0,.int .i64 0,.slice none 0 0,.int .i64 0],.int .i64 0,.int .i64 4]) (by simp [results,Tryz.results226,go_sem]) rfl ⟨none,0,rfl,Sl.nil _ _ _,Z7 (bA) _⟩
include hs hby in
theorem Dn(h0:2<=bs.length)(hop:bs.getD 0 0=3)(hkk:bs.getD 1 0<3\/64<bs.getD 1 0):
 Calls prog 226 #[.slice A bs.length c] w (Parsed (ZX bs) w):=by
 obtain ⟨o,ho⟩:∃ o,bs[0]?=some o:=⟨_,List.getElem?_eq_getElem (by omega)⟩;have hod:bs.getD 0 0=o:=by rw [List.getD_eq_getElem?_getD,ho];rfl
 rw [hod] at hop;obtain ⟨b,off,rfl,hB,hc⟩:=hs.Q5 (by omega);have c0:=hc 0 o ho;rw [Nat.add_zero] at c0;obtain ⟨k,hk⟩:∃ k,bs[1]?=some k:=⟨_,List.getElem?_eq_getElem (by omega)⟩;have hkd:bs.getD 1 0=k:=by rw [List.getD_eq_getElem?_getD,hk];rfl
 rw [hkd] at hkk;obtain ⟨tF,hkb2⟩:=hby 1 k hk;have c1:=hc 1 k hk;subst hop;have hr:ZX bs=(Y5,0,6):=by unfold ZX;rw [if_neg (by omega),hod,if_neg (by omega),if_neg (by omega),if_neg (by omega),if_pos rfl,hkd,if_pos hkk]
 rw [hr];have HR:=hide hr;clear hr hod ho hkd hk;have HC:=hide hc;clear hc;rcases hkk with hkk|hkk
 all_goals
  go_enter func226,ntmps226;go_wp2;refine YJ 0 rfl ?_;go_wp2
  go_step3
  go_wp2;refine WX ?_;unfold VU;go_wp2;rw [Exit.noGoto_ret];exact bodyPost_ret (v:=.tuple #[.agg #[.int .i64 0,.int .i64 0,.slice none 0 0,.int .i64 0],.int .i64 0,.int .i64 6]) (by simp [results,Tryz.results226,go_sem]) rfl ⟨none,0,rfl,Sl.nil _ _ _,Z7 (bA) _⟩
include hs in
theorem zk(h0:2<=bs.length)(hop:bs.getD 0 0=3)(hkk:3<=bs.getD 1 0/\bs.getD 1 0<=64):
 Calls prog 226 #[.slice A bs.length c] w (Parsed (ZX bs) w):=by
 obtain ⟨o,ho⟩:∃ o,bs[0]?=some o:=⟨_,List.getElem?_eq_getElem (by omega)⟩;have hod:bs.getD 0 0=o:=by rw [List.getD_eq_getElem?_getD,ho];rfl
 rw [hod] at hop;obtain ⟨b,off,rfl,hB,hc⟩:=hs.Q5 (by omega);have c0:=hc 0 o ho;rw [Nat.add_zero] at c0;obtain ⟨k,hk⟩:∃ k,bs[1]?=some k:=⟨_,List.getElem?_eq_getElem (by omega)⟩;have hkd:bs.getD 1 0=k:=by rw [List.getD_eq_getElem?_getD,hk];rfl
 rw [hkd] at hkk;have c1:=hc 1 k hk;subst hop;have hr:ZX bs=(⟨3,k,[],0⟩,2,0):=by unfold ZX;rw [if_neg (by omega),hod,if_neg (by omega),if_neg (by omega),if_neg (by omega),if_pos rfl,hkd,if_neg (by omega)]
 rw [hr];have HR:=hide hr;clear hr hod ho hkd hk;have HC:=hide hc;clear hc;obtain ⟨hk1,hk2⟩:=hkk;go_enter func226,ntmps226;go_wp2;refine YJ 0 rfl ?_;go_wp2;exact bodyPost_ret (v:=.tuple #[.agg #[.int .i64 3,.int .i64 k,.slice none 0 0,.int .i64 0],.int .i64 2,.int .i64 0]) (by simp [results,Tryz.results226,go_sem]) rfl ⟨none,0,rfl,Sl.nil _ _ _,Z7 (bA) _⟩
include hs hby in
theorem Dp(h0:2<=bs.length)(hop:bs.getD 0 0=4\/bs.getD 0 0=5)(hkk:bs.getD 1 0<1\/64<bs.getD 1 0):
 Calls prog 226 #[.slice A bs.length c] w (Parsed (ZX bs) w):=by
 obtain ⟨o,ho⟩:∃ o,bs[0]?=some o:=⟨_,List.getElem?_eq_getElem (by omega)⟩;have hod:bs.getD 0 0=o:=by rw [List.getD_eq_getElem?_getD,ho];rfl
 rw [hod] at hop;obtain ⟨b,off,rfl,hB,hc⟩:=hs.Q5 (by omega);have c0:=hc 0 o ho;rw [Nat.add_zero] at c0;obtain ⟨k,hk⟩:∃ k,bs[1]?=some k:=⟨_,List.getElem?_eq_getElem (by omega)⟩;have hkd:bs.getD 1 0=k:=by rw [List.getD_eq_getElem?_getD,hk];rfl
 rw [hkd] at hkk;obtain ⟨tF,hkb2⟩:=hby 1 k hk;have c1:=hc 1 k hk;have hr:ZX bs=(Y5,0,6):=by unfold ZX;rw [if_neg (by omega),hod,if_neg (by omega),if_neg (by omega),if_neg (by omega),if_neg (by omega),hkd,if_pos hkk]
 rw [hr];have HR:=hide hr;clear hr hod ho hkd hk;have HC:=hide hc;clear hc;rcases hop with rfl|rfl <;> rcases hkk with hkk|hkk
 all_goals
  go_enter func226,ntmps226;go_wp2;refine YJ 0 rfl ?_;go_wp2
  go_step3
  go_wp2;refine WX ?_;unfold VU;go_wp2;rw [Exit.noGoto_ret];exact bodyPost_ret (v:=.tuple #[.agg #[.int .i64 0,.int .i64 0,.slice none 0 0,.int .i64 0],.int .i64 0,.int .i64 6]) (by simp [results,Tryz.results226,go_sem]) rfl ⟨none,0,rfl,Sl.nil _ _ _,Z7 (bA) _⟩
include hs in
theorem IC(h0:2<=bs.length)(hop:bs.getD 0 0=4\/bs.getD 0 0=5)(hkk:1<=bs.getD 1 0/\bs.getD 1 0<=64)(hl:(bs.length:Int)<2+bs.getD 1 0):
 Calls prog 226 #[.slice A bs.length c] w (Parsed (ZX bs) w):=by
 obtain ⟨o,ho⟩:∃ o,bs[0]?=some o:=⟨_,List.getElem?_eq_getElem (by omega)⟩;have hod:bs.getD 0 0=o:=by rw [List.getD_eq_getElem?_getD,ho];rfl
 rw [hod] at hop;obtain ⟨b,off,rfl,hB,hc⟩:=hs.Q5 (by omega);have c0:=hc 0 o ho;rw [Nat.add_zero] at c0;obtain ⟨k,hk⟩:∃ k,bs[1]?=some k:=⟨_,List.getElem?_eq_getElem (by omega)⟩;have hkd:bs.getD 1 0=k:=by rw [List.getD_eq_getElem?_getD,hk];rfl
 rw [hkd] at hkk;have c1:=hc 1 k hk;rw [hkd] at hl;have hr:ZX bs=(Y5,0,4):=by unfold ZX;rw [if_neg (by omega),hod,if_neg (by omega),if_neg (by omega),if_neg (by omega),if_neg (by omega),hkd,if_neg (by omega),if_pos hl]
 rw [hr];have HR:=hide hr;clear hr hod ho hkd hk;have HC:=hide hc;clear hc;obtain ⟨hk1,hk2⟩:=hkk;rcases hop with rfl|rfl
 all_goals
  go_enter func226,ntmps226;go_wp2;refine YJ 0 rfl ?_;go_wp2
  go_step3
  go_wp2;refine WX ?_;unfold VU;go_wp2;rw [Exit.noGoto_ret];exact bodyPost_ret (v:=.tuple #[.agg #[.int .i64 0,.int .i64 0,.slice none 0 0,.int .i64 0],.int .i64 0,.int .i64 4]) (by simp [results,Tryz.results226,go_sem]) rfl ⟨none,0,rfl,Sl.nil _ _ _,Z7 (bA) _⟩
end
end
section
open Go.RowKit
theorem RU:(prog.info? 38).map (fun i=>(i.zero,i.size,i.bytes))=some (some (.agg #[.bool false,.int .i64 0,.slice none 0 0]),3,40):=by kernel_rfl
theorem Bz:∀ n:Fin 256,wrap64 (bits BinOp.andNot IntKind.u8 (n.val:Int) 128)=(n.val:Int) % 128:=by decide +kernel
theorem La(x:Int)(h0:0<=x)(h1:x<=255):wrap64 (bits BinOp.andNot IntKind.u8 x 128)=x % 128:=by
 obtain ⟨n,rfl⟩:=Int.eq_ofNat_of_zero_le h0;exact Bz ⟨n,by omega⟩
theorem Mr(a b:List Rg):rgCells (a++b)=rgCells a++rgCells b:=by simp [rgCells]
def Jy(w:World)(op:Int)(xs:List Int)(wr:World):Prop :=
 ∃ v,Z6 wr w.heap.size 53 #[.int .i64 0,.int .i64 0,.slice none 0 0,.int .i64 0] /\
   Z6 wr (w.heap.size+1) 53 #[.int .i64 op,.int .i64 0,v,.int .i64 0] /\
   wr.ownsRow (w.heap.size+2) 38 3 v xs.length (rgCells (xs.map YR))/\Below w.heap.size w wr
theorem UH(w:World)(op:Int):
 Jy w op [] ((w.alloc (.cells #[.int .i64 0,.int .i64 0,.slice none 0 0,.int .i64 0] 53)).alloc (.cells #[.int .i64 op,.int .i64 0,.slice none 0 0,.int .i64 0] 53)):=by
 refine ⟨.slice none 0 0,(Z6.new _ _ _).alloc _,?_,World.ownsRow_nil _ _ _ _,Z7 (bA) _⟩;have:=Z6.new (w.alloc (.cells #[.int .i64 0,.int .i64 0,.slice none 0 0,.int .i64 0] 53)) 53 #[.int .i64 op,.int .i64 0,.slice none 0 0,.int .i64 0];simpa using this
theorem TP {w wr w1:World} {op x:Int} {xs:List Int} {v v':Value} {o:Obj}
 (hv0:Z6 wr w.heap.size 53 #[.int .i64 0,.int .i64 0,.slice none 0 0,.int .i64 0])
 (hv1:Z6 wr (w.heap.size+1) 53 #[.int .i64 op,.int .i64 0,v,.int .i64 0])
 (ZL:wr.ownsRow (w.heap.size+2) 38 3 v xs.length (rgCells (xs.map YR))) (hb:Below w.heap.size w wr)
 (hown':w1.ownsRow (w.heap.size+2) 38 3 v' (xs.length+1) (rgCells (xs.map YR)++rgCells [YR x])) (ZQ:(wr.alloc o).grownBy w1 v.ownBlock) :
 Jy w op (xs++[x]) (w1.setCell ⟨w.heap.size+1,2,none⟩ v'):=by
 refine ⟨v',?_,?_,?_,?_⟩
 · exact ((hv0.alloc _).grown ZQ (own_ne ZL (by omega))).far (by simp) _
 · exact ((hv1.alloc _).grown ZQ (own_ne ZL (by omega))).set 2 v'
 · have:=ownsRow_setCell_below hown' (a:=⟨w.heap.size+1,2,none⟩) (by simp) v';simpa [Mr] using this
 · exact ((hb.alloc hb.size _).grown ZQ (by have:=hb.size;simp;omega) (fun k hk=>by have:=ZG ZL hk;omega)).setCell (by simp) _
theorem Ol:OL 288 Zt:=by
 intro r w;go_enter func288,ntmps288;go_wp2_with fail;refine (Us _ _ _ _ _ _).mono ?_;rintro e w1 ⟨rfl,hb⟩;go_wp2;go_ret;exact ⟨rfl,((Below.refl _ _).alloc (Nat.le_refl _) _).trans (hb.mono (by simp))⟩
theorem Rc:Enters 288:=fun _ _=>by kernel_rfl
section
variable (bs:List Int)(A:Option Addr)(c:Nat)(w:World)
variable (hs:Sl w w.heap.size A (ZY bs))(hcap:bs.length<=c)(hby:∀ (j:Nat) (x:Int),bs[j]?=some x->0<=x/\x<=255)
include hs hcap hby
theorem Mf(kn:Nat)(hop:bs.getD 0 0=4)(hkk:bs.getD 1 0=kn)(hk1:1<=kn)(hk2:kn<=64)(hl:2+kn<=bs.length):
 Calls prog 226 #[.slice A bs.length c] w (Parsed (ZX bs) w):=by
 obtain ⟨o,ho⟩:∃ o,bs[0]?=some o:=⟨_,List.getElem?_eq_getElem (by omega)⟩;have hod:bs.getD 0 0=o:=by rw [List.getD_eq_getElem?_getD,ho];rfl
 rw [hod] at hop;obtain ⟨b,off,rfl,hB,hc⟩:=hs.Q5 (by omega);have c0:=hc 0 o ho;rw [Nat.add_zero] at c0;obtain ⟨k,hk⟩:∃ k,bs[1]?=some k:=⟨_,List.getElem?_eq_getElem (by omega)⟩;have hkd:bs.getD 1 0=k:=by rw [List.getD_eq_getElem?_getD,hk];rfl
 have hkn:k=kn:=by rw [<- hkd,hkk]
 subst hkn;have c1:=hc 1 _ hk;have HC:=hide hc;clear hc;have Bj:=hide hkk;clear hkk;have Bp:=hide hod;clear hod ho hkd hk;obtain ⟨i0,hi,hz0,hz1,hz2⟩:=info_parts RU;subst hop;have e26:2+kn - 2=kn:=by omega
 have b1:decide ((bs.length:Int)<1)=false:=decide_eq_false (by omega);have b2:decide ((bs.length:Int)<2)=false:=decide_eq_false (by omega);have b3:decide ((kn:Int)<1)=false:=decide_eq_false (by omega);have b4:decide (64<(kn:Int))=false:=decide_eq_false (by omega);have b5:decide ((bs.length:Int)<2+kn)=false:=decide_eq_false (by omega);go_enter func226,ntmps226;go_wp2;refine YJ 0 rfl ?_;go_wp2;rw [e26]
 go_loopw [9,63] (fun _ i wr=>∃ j:Nat,j<=kn/\i=.int .i64 j/\Jy w 4 ((bs.drop 2).take j) wr)
  (fun _ i _=>kn - (intOf i).toNat)
 case atStart=>exact ⟨0,by omega,rfl,UH w 4⟩
 case round =>
  obtain ⟨j,hj,rfl,v,hv0,hv1,ZL,hb⟩:=hrel;have hz1:=hb.size
  by_cases hlt:j<kn
  · obtain ⟨x,hx⟩:∃ x,bs[2+j]?=some x:=⟨_,List.getElem?_eq_getElem (by omega)⟩;have bL:=HC.out _ x hx;rw [<- Nat.add_assoc] at bL;have cx:=(hb.cell (p:=⟨b,off+2+j,none⟩) hB).trans bL;clear bL;obtain ⟨hx1,hx2⟩:=hby _ _ hx;have HX:=hide hx;clear hx;have d0:=hv1.q2 rfl;have d1:=hv1.frozen 2;have hlen:(List.take j (List.drop 2 bs)).length=j:=(by simp;omega);have hand:=La x hx1 hx2;have hl1:w.heap.size+1<wr.heap.size:=hv1.lt;go_wp2_with (at_builtin;refine wpList_append_own _ rfl (.tmp 68) (.tmp 75) 32 rfl (w.heap.size+2) 38 i0 (.agg #[.bool false,.int .i64 0,.slice none 0 0]) 3 40 underlying32 hi hz0 ‹_› hz2 rfl (by decide) v _ _ rfl (ZL.alloc _) ⟨wr.heap.size,0,none⟩ 1 1 (rgCells [YR x]) rfl rfl ?c1 ?c2 ?c3 ?c4 ?c5 ?_;rotate_right;intro v' w1 hown' ZQ _;obtain ⟨g1,Vl,rfl,hg1,hg1',hg2⟩:=Um hown' (by omega);have Vn:=(hv1.alloc _).grown ZQ (own_ne ZL (by omega));have d2:=Vn.q2 rfl;have d3:=Vn.frozen 2)
    case c1 =>
     intro i u hu
     match i,hu with
     | 0,hu=>simp [rgCells,Rg.cells,YR] at hu;subst hu;simp [Addr.add]
     | 1,hu=>simp [rgCells,Rg.cells,YR] at hu;subst hu;simp [Addr.add]
     | 2,hu=>simp [rgCells,Rg.cells,YR] at hu;subst hu;simp [Addr.add]
    case c2=>intro u hu;simp [rgCells,Rg.cells,YR] at hu;rcases hu with rfl|rfl|rfl <;> rfl
    case c3=>rw [hlen];unfold maxLen;omega
    case c4=>rw [hlen];omega
    case c5=>simp;omega
    have hts:List.take (j+1) (List.drop 2 bs)=List.take j (List.drop 2 bs)++[x]:=by
     rw [List.take_add_one,List.getElem?_drop,HX.out];rfl
    have R:=TP hv0 hv1 ZL hb (x:=x) (by rw [hlen] at hown' ⊢;exact hown') ZQ;have Pz:=hide hts;have HR2:=hide R;clear hts R hlen hown' ZQ ZL hv0 hv1 d0 d1 d2 d3 Vn;go_roundw
    case rel=>exact ⟨j+1,by omega,by go_num,by rw [Pz.out];exact HR2.out⟩
    case measure=>simp [intOf];omega
  · have hjk:j=kn:=(by omega);subst hjk;obtain ⟨A1,Vl,rfl,hcap1⟩:=Zl ZL;have hlen:(List.take j (List.drop 2 bs)).length=j:=(by simp;omega);have hsl:=Sl.Xw ZL;have d0:=hv1.q2 rfl;go_wp2_with fail;refine (Sb _ Rc _ Ol A1 Vl _ ((List.take j (List.drop 2 bs)).map YR) (by rw [List.length_map,hlen]) wr hsl (by rw [List.length_map,hlen];unfold maxLen;omega)).mono ?_;rintro e w2 ⟨rfl,hb2⟩;have e0:=(hv0.step hb2);have e1:=(hv1.step hb2);have hsl2:=hsl.below hb2;have hbw:Below w.heap.size w w2:=hb.trans (hb2.mono hb.size);have c1':=(hbw.cell (p:=⟨b,off+1,none⟩) hB).trans c1;have f00:=e0.q0 rfl;have f01:=e0.q1 rfl;have f02:=e0.q2 rfl;have f03:=e0.q3 rfl;have z00:=e0.frozen 0;have z01:=e0.frozen 1;have z02:=e0.frozen 2;have z03:=e0.frozen 3;have f10:=e1.q0 rfl;have f11:=e1.q1 rfl;have f12:=e1.q2 rfl;have f13:=e1.q3 rfl;have z13:=e1.frozen 3;generalize hq:((List.take j (List.drop 2 bs)).map YR).any Zt=q;have HQ:=hide hq;clear hq;cases q
    · go_wp2;have E:Z6 _ w.heap.size 53 #[.int .i64 4,.int .i64 0,.slice A1 j Vl,.int .i64 0]:=(((e0.set 0 (.int .i64 4)).set 1 (.int .i64 0)).set 2 (.slice A1 j Vl)).set 3 (.int .i64 0);have O:=ownsRow_setCell_below (ownsRow_setCell_below (ownsRow_setCell_below (ownsRow_setCell_below (ZH ZL hb2) (a:=⟨w.heap.size,0,none⟩) (by simp) (.int .i64 4)) (a:=⟨w.heap.size,1,none⟩) (by simp) (.int .i64 0)) (a:=⟨w.heap.size,2,none⟩) (by simp) (.slice A1 j Vl)) (a:=⟨w.heap.size,3,none⟩) (by simp) (.int .i64 0);have hr:ZX bs=(PH.mk 4 0 (((bs.drop 2).take j).map YR) 0,2+(j:Int),0):=by
       unfold ZX;rw [if_neg (by omega),Bp.out,if_neg (by omega),if_neg (by omega),if_neg (by omega),if_neg (by omega),Bj.out,if_neg (by omega),if_neg (by omega),Int.toNat_natCast,HQ.out,if_neg (by simp),if_pos rfl]
      refine bodyPost_ret (YL rfl rfl E) rfl ⟨A1,Vl,?_,?_,?_⟩
      · rw [hr];simp only [List.length_map,hlen];rfl
      · rw [hr];exact Sl.Xw O
      · exact (((hbw.setCell (by simp) _).setCell (by simp) _).setCell (by simp) _).setCell (by simp) _
    · go_wp2
      go_step3
      go_wp2;refine WX ?_;unfold VU;go_wp2;rw [Exit.noGoto_ret];have E:Z6 _ w.heap.size 53 #[.int .i64 0,.int .i64 0,.slice none 0 0,.int .i64 0]:=(((e0.set 0 (.int .i64 0)).set 1 (.int .i64 0)).set 2 (.slice none 0 0)).set 3 (.int .i64 0);have hr:ZX bs=(Y5,0,7):=by
       unfold ZX;rw [if_neg (by omega),Bp.out,if_neg (by omega),if_neg (by omega),if_neg (by omega),if_neg (by omega),Bj.out,if_neg (by omega),if_neg (by omega),Int.toNat_natCast,HQ.out,if_pos rfl]
      refine bodyPost_ret (YL rfl rfl E) rfl ⟨none,0,?_,?_,?_⟩
      · rw [hr];rfl
      · rw [hr];exact Sl.nil _ _ _
      · exact (((hbw.setCell (by simp) _).setCell (by simp) _).setCell (by simp) _).setCell (by simp) _
end
end
section
open Go.RowKit
theorem Oe(a:Nat)(ha:a<9223372036854775808):(BitVec.ofInt 64 (a:Int)).toNat=a:=by
 rw [BitVec.ofInt_natCast,BitVec.toNat_ofNat];exact Nat.mod_eq_of_lt (by omega)
theorem vJ(p q:Int)(hp1:0<=p)(hp2:p<=255)(hq1:0<=q)(hq2:q<=255):bits BinOp.or IntKind.i64 p (q*256)=p+q*256:=by
 obtain ⟨a,rfl⟩:=Int.eq_ofNat_of_zero_le hp1;obtain ⟨d,rfl⟩:=Int.eq_ofNat_of_zero_le hq1;have e:((d:Int)*256)=((d*256:Nat):Int):=by omega
 rw [e];show IntKind.i64.wrap ((BitVec.ofInt 64 (a:Int) ||| BitVec.ofInt 64 ((d*256:Nat):Int)).toNat:Int)=_;rw [BitVec.toNat_or,Oe a (by omega),Oe (d*256) (by omega),IntKind.wrap_i64];have h:d*256 ||| a=d*256+a:=by
  have h2:=@Nat.shiftLeft_add_eq_or_of_lt 8 a (by omega) d;rw [Nat.shiftLeft_eq,show (2:Nat) ^ 8=256 from rfl] at h2;exact h2.symm
 rw [Nat.or_comm,h];omega
section
variable (bs:List Int)(A:Option Addr)(c:Nat)(w:World)
variable (hs:Sl w w.heap.size A (ZY bs))(hcap:bs.length<=c)(hby:∀ (j:Nat) (x:Int),bs[j]?=some x->0<=x/\x<=255)
include hs hcap hby
theorem Mg(kn:Nat)(hop:bs.getD 0 0=5)(hkk:bs.getD 1 0=kn)(hk1:1<=kn)(hk2:kn<=64)(hl:2+kn<=bs.length):
 Calls prog 226 #[.slice A bs.length c] w (Parsed (ZX bs) w):=by
 obtain ⟨o,ho⟩:∃ o,bs[0]?=some o:=⟨_,List.getElem?_eq_getElem (by omega)⟩;have hod:bs.getD 0 0=o:=by rw [List.getD_eq_getElem?_getD,ho];rfl
 rw [hod] at hop;obtain ⟨b,off,rfl,hB,hc⟩:=hs.Q5 (by omega);have c0:=hc 0 o ho;rw [Nat.add_zero] at c0;obtain ⟨k,hk⟩:∃ k,bs[1]?=some k:=⟨_,List.getElem?_eq_getElem (by omega)⟩;have hkd:bs.getD 1 0=k:=by rw [List.getD_eq_getElem?_getD,hk];rfl
 have hkn:k=kn:=by rw [<- hkd,hkk]
 subst hkn;have c1:=hc 1 _ hk;have HC:=hide hc;clear hc;have Bj:=hide hkk;clear hkk;have Bp:=hide hod;clear hod ho hkd hk;obtain ⟨i0,hi,hz0,hz1,hz2⟩:=info_parts RU;subst hop;have e26:2+kn - 2=kn:=by omega
 have b1:decide ((bs.length:Int)<1)=false:=decide_eq_false (by omega);have b2:decide ((bs.length:Int)<2)=false:=decide_eq_false (by omega);have b3:decide ((kn:Int)<1)=false:=decide_eq_false (by omega);have b4:decide (64<(kn:Int))=false:=decide_eq_false (by omega);have b5:decide ((bs.length:Int)<2+kn)=false:=decide_eq_false (by omega);go_enter func226,ntmps226;go_wp2;refine YJ 0 rfl ?_;go_wp2;rw [e26]
 go_loopw [9,63] (fun _ i wr=>∃ j:Nat,j<=kn/\i=.int .i64 j/\Jy w 5 ((bs.drop 2).take j) wr)
  (fun _ i _=>kn - (intOf i).toNat)
 case atStart=>exact ⟨0,by omega,rfl,UH w 5⟩
 case round =>
  obtain ⟨j,hj,rfl,v,hv0,hv1,ZL,hb⟩:=hrel;have hz1:=hb.size
  by_cases hlt:j<kn
  · obtain ⟨x,hx⟩:∃ x,bs[2+j]?=some x:=⟨_,List.getElem?_eq_getElem (by omega)⟩;have bL:=HC.out _ x hx;rw [<- Nat.add_assoc] at bL;have cx:=(hb.cell (p:=⟨b,off+2+j,none⟩) hB).trans bL;clear bL;obtain ⟨hx1,hx2⟩:=hby _ _ hx;have HX:=hide hx;clear hx;have d0:=hv1.q2 rfl;have d1:=hv1.frozen 2;have hlen:(List.take j (List.drop 2 bs)).length=j:=(by simp;omega);have hand:=La x hx1 hx2;have hl1:w.heap.size+1<wr.heap.size:=hv1.lt;go_wp2_with (at_builtin;refine wpList_append_own _ rfl (.tmp 68) (.tmp 75) 32 rfl (w.heap.size+2) 38 i0 (.agg #[.bool false,.int .i64 0,.slice none 0 0]) 3 40 underlying32 hi hz0 ‹_› hz2 rfl (by decide) v _ _ rfl (ZL.alloc _) ⟨wr.heap.size,0,none⟩ 1 1 (rgCells [YR x]) rfl rfl ?c1 ?c2 ?c3 ?c4 ?c5 ?_;rotate_right;intro v' w1 hown' ZQ _;obtain ⟨g1,Vl,rfl,hg1,hg1',hg2⟩:=Um hown' (by omega);have Vn:=(hv1.alloc _).grown ZQ (own_ne ZL (by omega));have d2:=Vn.q2 rfl;have d3:=Vn.frozen 2)
    case c1 =>
     intro i u hu
     match i,hu with
     | 0,hu=>simp [rgCells,Rg.cells,YR] at hu;subst hu;simp [Addr.add]
     | 1,hu=>simp [rgCells,Rg.cells,YR] at hu;subst hu;simp [Addr.add]
     | 2,hu=>simp [rgCells,Rg.cells,YR] at hu;subst hu;simp [Addr.add]
    case c2=>intro u hu;simp [rgCells,Rg.cells,YR] at hu;rcases hu with rfl|rfl|rfl <;> rfl
    case c3=>rw [hlen];unfold maxLen;omega
    case c4=>rw [hlen];omega
    case c5=>simp;omega
    have hts:List.take (j+1) (List.drop 2 bs)=List.take j (List.drop 2 bs)++[x]:=by
     rw [List.take_add_one,List.getElem?_drop,HX.out];rfl
    have R:=TP hv0 hv1 ZL hb (x:=x) (by rw [hlen] at hown' ⊢;exact hown') ZQ;have Pz:=hide hts;have HR2:=hide R;clear hts R hlen hown' ZQ ZL hv0 hv1 d0 d1 d2 d3 Vn;go_roundw
    case rel=>exact ⟨j+1,by omega,by go_num,by rw [Pz.out];exact HR2.out⟩
    case measure=>simp [intOf];omega
  · have hjk:j=kn:=(by omega);subst hjk;obtain ⟨A1,Vl,rfl,hcap1⟩:=Zl ZL;have hlen:(List.take j (List.drop 2 bs)).length=j:=(by simp;omega);have hsl:=Sl.Xw ZL;have d0:=hv1.q2 rfl;go_wp2_with fail;refine (Sb _ Rc _ Ol A1 Vl _ ((List.take j (List.drop 2 bs)).map YR) (by rw [List.length_map,hlen]) wr hsl (by rw [List.length_map,hlen];unfold maxLen;omega)).mono ?_;rintro e w2 ⟨rfl,hb2⟩;have e0:=(hv0.step hb2);have e1:=(hv1.step hb2);have hsl2:=hsl.below hb2;have hbw:Below w.heap.size w w2:=hb.trans (hb2.mono hb.size);have c1':=(hbw.cell (p:=⟨b,off+1,none⟩) hB).trans c1;have f00:=e0.q0 rfl;have f01:=e0.q1 rfl;have f02:=e0.q2 rfl;have f03:=e0.q3 rfl;have z00:=e0.frozen 0;have z01:=e0.frozen 1;have z02:=e0.frozen 2;have z03:=e0.frozen 3;have f10:=e1.q0 rfl;have f11:=e1.q1 rfl;have f12:=e1.q2 rfl;have f13:=e1.q3 rfl;have z13:=e1.frozen 3;generalize hq:((List.take j (List.drop 2 bs)).map YR).any Zt=q;have HQ:=hide hq;clear hq;cases q
    · by_cases hl4:(bs.length:Int)<4+j
      · go_wp2
        go_step3
        go_wp2;refine WX ?_;unfold VU;go_wp2;rw [Exit.noGoto_ret];have E:Z6 _ w.heap.size 53 #[.int .i64 0,.int .i64 0,.slice none 0 0,.int .i64 0]:=(((e0.set 0 (.int .i64 0)).set 1 (.int .i64 0)).set 2 (.slice none 0 0)).set 3 (.int .i64 0);have hr:ZX bs=(Y5,0,4):=by
         unfold ZX;rw [if_neg (by omega),Bp.out,if_neg (by omega),if_neg (by omega),if_neg (by omega),if_neg (by omega),Bj.out,if_neg (by omega),if_neg (by omega),Int.toNat_natCast,HQ.out,if_neg (by simp),if_neg (by omega),if_pos hl4]
        refine bodyPost_ret (YL rfl rfl E) rfl ⟨none,0,?_,?_,?_⟩
        · rw [hr];rfl
        · rw [hr];exact Sl.nil _ _ _
        · exact (((hbw.setCell (by simp) _).setCell (by simp) _).setCell (by simp) _).setCell (by simp) _
      · obtain ⟨p,hp⟩:∃ p,bs[2+j]?=some p:=⟨_,List.getElem?_eq_getElem (by omega)⟩;obtain ⟨q,hq⟩:∃ q,bs[3+j]?=some q:=⟨_,List.getElem?_eq_getElem (by omega)⟩;obtain ⟨hp1,hp2⟩:=hby _ _ hp;obtain ⟨hq1,hq2⟩:=hby _ _ hq;have cp:=(hbw.cell (p:=⟨b,off+(2+j),none⟩) hB).trans (HC.out _ p hp);have cq:=(hbw.cell (p:=⟨b,off+(3+j),none⟩) hB).trans (HC.out _ q hq);have HP:=hide hp;clear hp;have HQQ:=hide hq;clear hq;have hor:=vJ p q hp1 hp2 hq1 hq2;have j3:bs.getD (2+j) 0=p:=(by rw [List.getD_eq_getElem?_getD,HP.out];rfl);have hqd:bs.getD (3+j) 0=q:=(by rw [List.getD_eq_getElem?_getD,HQQ.out];rfl);have HPD:=hide j3;clear j3;have HQD:=hide hqd;clear hqd;go_wp2
        go_region
        by_cases hpt:p+q*256<1\/4096<p+q*256
        · rcases hpt with hpt|hpt
          all_goals
           go_wp2
           go_step3
           go_wp2;have E:Z6 _ w.heap.size 53 #[.int .i64 0,.int .i64 0,.slice none 0 0,.int .i64 0]:=(((((e0.far (p:=⟨w.heap.size+1,3,none⟩) (by simp) (.int .i64 (p+q*256))).drew).set 0 (.int .i64 0)).set 1 (.int .i64 0)).set 2 (.slice none 0 0)).set 3 (.int .i64 0);have hr:ZX bs=(Y5,0,6):=by
            unfold ZX;rw [if_neg (by omega),Bp.out,if_neg (by omega),if_neg (by omega),if_neg (by omega),if_neg (by omega),Bj.out,if_neg (by omega),if_neg (by omega),Int.toNat_natCast,HQ.out,if_neg (by simp),if_neg (by omega),if_neg (by omega),HPD.out,HQD.out,if_pos (by omega)]
           refine bodyPost_ret (YL rfl rfl E) rfl ⟨none,0,?_,?_,?_⟩
           · rw [hr];rfl
           · rw [hr];exact Sl.nil _ _ _
           · exact (((((hbw.setCell (by simp) _).drew).setCell (by simp) _).setCell (by simp) _).setCell (by simp) _).setCell (by simp) _
        · have zps:1<=p+q*256:=(by omega);have zpt:p+q*256<=4096:=(by omega);go_wp2;have E:Z6 _ w.heap.size 53 #[.int .i64 5,.int .i64 0,.slice A1 j Vl,.int .i64 (p+q*256)]:=(((((e0.far (p:=⟨w.heap.size+1,3,none⟩) (by simp) (.int .i64 (p+q*256))).drew).set 0 (.int .i64 5)).set 1 (.int .i64 0)).set 2 (.slice A1 j Vl)).set 3 (.int .i64 (p+q*256));have O:=ownsRow_setCell_below (ownsRow_setCell_below (ownsRow_setCell_below (ownsRow_setCell_below (ownsRow_setCell_below (ZH ZL hb2) (a:=⟨w.heap.size+1,3,none⟩) (by simp) (.int .i64 (p+q*256))).drew (a:=⟨w.heap.size,0,none⟩) (by simp) (.int .i64 5)) (a:=⟨w.heap.size,1,none⟩) (by simp) (.int .i64 0)) (a:=⟨w.heap.size,2,none⟩) (by simp) (.slice A1 j Vl)) (a:=⟨w.heap.size,3,none⟩) (by simp) (.int .i64 (p+q*256));have hr:ZX bs=(PH.mk 5 0 (((bs.drop 2).take j).map YR) (p+256*q),4+(j:Int),0):=by
           unfold ZX;rw [if_neg (by omega),Bp.out,if_neg (by omega),if_neg (by omega),if_neg (by omega),if_neg (by omega),Bj.out,if_neg (by omega),if_neg (by omega),Int.toNat_natCast,HQ.out,if_neg (by simp),if_neg (by omega),if_neg (by omega),HPD.out,HQD.out,if_neg (by omega)]
          refine bodyPost_ret (YL rfl rfl E) rfl ⟨A1,Vl,?_,?_,?_⟩
          · rw [hr];simp only [List.length_map,hlen];rw [Int.mul_comm 256 q];rfl
          · rw [hr];exact Sl.Xw O
          · exact (((((hbw.setCell (by simp) _).drew).setCell (by simp) _).setCell (by simp) _).setCell (by simp) _).setCell (by simp) _
    · go_wp2
      go_step3
      go_wp2;refine WX ?_;unfold VU;go_wp2;rw [Exit.noGoto_ret];have E:Z6 _ w.heap.size 53 #[.int .i64 0,.int .i64 0,.slice none 0 0,.int .i64 0]:=(((e0.set 0 (.int .i64 0)).set 1 (.int .i64 0)).set 2 (.slice none 0 0)).set 3 (.int .i64 0);have hr:ZX bs=(Y5,0,7):=by
       unfold ZX;rw [if_neg (by omega),Bp.out,if_neg (by omega),if_neg (by omega),if_neg (by omega),if_neg (by omega),Bj.out,if_neg (by omega),if_neg (by omega),Int.toNat_natCast,HQ.out,if_pos rfl]
      refine bodyPost_ret (YL rfl rfl E) rfl ⟨none,0,?_,?_,?_⟩
      · rw [hr];rfl
      · rw [hr];exact Sl.nil _ _ _
      · exact (((hbw.setCell (by simp) _).setCell (by simp) _).setCell (by simp) _).setCell (by simp) _
end
end
end Go.Proofs.YthnenedoblncjaaGreatDoor