/- RefParse2 RefParse3 ParseAny Classify RefPayload -/
import Derived.Test.YthnenedoblncjaaGreatDoorPkA01
set_option maxRecDepth 1000000
set_option maxHeartbeats 8000000
namespace Go.Proofs.YthnenedoblncjaaGreatDoor
open Go.Proofs.Tryz
section
open Go.RowKit
section
variable (bs:List Int)(A:Option Addr)(c:Nat)(w:World)
theorem Ji(h0:bs.length<1):
 Calls prog 107 #[.slice A bs.length c] w (Parsed (ZX bs) w):=by
 have hr:ZX bs=(Y5,0,4):=by unfold ZX;rw [if_pos h0]
 rw [hr];have HR:=hide hr;clear hr;have h0':bs.length=0:=by omega
 go_enter func107,ntmps107;go_wp2;exact bodyPost_ret (v:=.tuple #[.agg #[.int .i64 0,.int .i64 0,.slice none 0 0,.int .i64 0],.int .i64 0,.int .i64 4]) (by simp [results,Tryz.results107,go_sem]) rfl ⟨none,0,rfl,Sl.nil _ _ _,by repeat first|exact Below.refl _ _|refine Z7 ?_ _⟩
variable (hs:Sl w w.heap.size A (ZY bs))(hby:∀ (j:Nat) (x:Int),bs[j]?=some x->0<=x/\x<=255)
include hs hby
theorem zD(h0:0<bs.length)(hop:bs.getD 0 0=1\/bs.getD 0 0=2):
 Calls prog 107 #[.slice A bs.length c] w (Parsed (ZX bs) w):=by
 obtain ⟨o,ho⟩:∃ o,bs[0]?=some o:=⟨_,List.getElem?_eq_getElem (by omega)⟩;have hod:bs.getD 0 0=o:=by rw [List.getD_eq_getElem?_getD,ho];rfl
 rw [hod] at hop;obtain ⟨b,off,rfl,hB,hc⟩:=hs.Q5 (by omega);obtain ⟨CB,CF⟩:=hby 0 o ho;have c0:=hc 0 o ho;rw [Nat.add_zero] at c0;have hr:ZX bs=(⟨o,0,[],0⟩,1,0):=by unfold ZX;rw [if_neg (by omega),hod,if_pos hop]
 rw [hr];have HR:=hide hr;clear hr hod ho;have HC:=hide hc;clear hc;have hz:((bs.length:Int) == 0)=false:=by rw [beq_eq_false_iff_ne];omega
 rcases hop with rfl|rfl
 all_goals
  go_enter func107,ntmps107;go_wp2;exact bodyPost_ret (v:=.tuple #[.agg #[.int .i64 _,.int .i64 0,.slice none 0 0,.int .i64 0],.int .i64 1,.int .i64 0]) (by simp [results,Tryz.results107,go_sem]) rfl ⟨none,0,rfl,Sl.nil _ _ _,by repeat first|exact Below.refl _ _|refine Z7 ?_ _⟩
theorem DR(h0:0<bs.length)(hop:bs.getD 0 0<1\/5<bs.getD 0 0):
 Calls prog 107 #[.slice A bs.length c] w (Parsed (ZX bs) w):=by
 obtain ⟨o,ho⟩:∃ o,bs[0]?=some o:=⟨_,List.getElem?_eq_getElem (by omega)⟩;have hod:bs.getD 0 0=o:=by rw [List.getD_eq_getElem?_getD,ho];rfl
 rw [hod] at hop;obtain ⟨b,off,rfl,hB,hc⟩:=hs.Q5 (by omega);obtain ⟨CB,CF⟩:=hby 0 o ho;have c0:=hc 0 o ho;rw [Nat.add_zero] at c0;have hr:ZX bs=(Y5,0,5):=by unfold ZX;rw [if_neg (by omega),hod,if_neg (by omega),if_pos (by omega)]
 rw [hr];have HR:=hide hr;clear hr hod ho;have HC:=hide hc;clear hc;have hz:((bs.length:Int) == 0)=false:=by rw [beq_eq_false_iff_ne];omega
 rcases hop with hop|hop
 all_goals
  go_enter func107,ntmps107;go_wp2;exact bodyPost_ret (v:=.tuple #[.agg #[.int .i64 0,.int .i64 0,.slice none 0 0,.int .i64 0],.int .i64 0,.int .i64 5]) (by simp [results,Tryz.results107,go_sem]) rfl ⟨none,0,rfl,Sl.nil _ _ _,by repeat first|exact Below.refl _ _|refine Z7 ?_ _⟩
theorem DT(h0:bs.length=1)(hop:bs.getD 0 0=3\/bs.getD 0 0=4\/bs.getD 0 0=5):
 Calls prog 107 #[.slice A bs.length c] w (Parsed (ZX bs) w):=by
 obtain ⟨o,ho⟩:∃ o,bs[0]?=some o:=⟨_,List.getElem?_eq_getElem (by omega)⟩;have hod:bs.getD 0 0=o:=by rw [List.getD_eq_getElem?_getD,ho];rfl
 rw [hod] at hop;obtain ⟨b,off,rfl,hB,hc⟩:=hs.Q5 (by omega);obtain ⟨CB,CF⟩:=hby 0 o ho;have c0:=hc 0 o ho;rw [Nat.add_zero] at c0;have hr:ZX bs=(Y5,0,4):=by unfold ZX;rw [if_neg (by omega),hod,if_neg (by omega),if_neg (by omega),if_pos (by omega)]
 rw [hr];have HR:=hide hr;clear hr hod ho;have HC:=hide hc;clear hc;have hz:((bs.length:Int) == 0)=false:=by rw [beq_eq_false_iff_ne];omega
 have h0':bs.length<2:=by omega
 have h1':1<=bs.length:=by omega
 clear h0;rcases hop with rfl|rfl|rfl
 all_goals
  go_enter func107,ntmps107;go_wp2;exact bodyPost_ret (v:=.tuple #[.agg #[.int .i64 0,.int .i64 0,.slice none 0 0,.int .i64 0],.int .i64 0,.int .i64 4]) (by simp [results,Tryz.results107,go_sem]) rfl ⟨none,0,rfl,Sl.nil _ _ _,by repeat first|exact Below.refl _ _|refine Z7 ?_ _⟩
theorem Gx(h0:2<=bs.length)(hop:bs.getD 0 0=3)(hkk:bs.getD 1 0<3\/64<bs.getD 1 0):
 Calls prog 107 #[.slice A bs.length c] w (Parsed (ZX bs) w):=by
 obtain ⟨o,ho⟩:∃ o,bs[0]?=some o:=⟨_,List.getElem?_eq_getElem (by omega)⟩;have hod:bs.getD 0 0=o:=by rw [List.getD_eq_getElem?_getD,ho];rfl
 rw [hod] at hop;obtain ⟨b,off,rfl,hB,hc⟩:=hs.Q5 (by omega);obtain ⟨CB,CF⟩:=hby 0 o ho;have c0:=hc 0 o ho;rw [Nat.add_zero] at c0;obtain ⟨k,hk⟩:∃ k,bs[1]?=some k:=⟨_,List.getElem?_eq_getElem (by omega)⟩;have hkd:bs.getD 1 0=k:=by rw [List.getD_eq_getElem?_getD,hk];rfl
 rw [hkd] at hkk;obtain ⟨tF,hkb2⟩:=hby 1 k hk;have c1:=hc 1 k hk;subst hop;have hr:ZX bs=(Y5,0,6):=by unfold ZX;rw [if_neg (by omega),hod,if_neg (by omega),if_neg (by omega),if_neg (by omega),if_pos rfl,hkd,if_pos hkk]
 rw [hr];have HR:=hide hr;clear hr hod ho hkd hk;have HC:=hide hc;clear hc;have hz:((bs.length:Int) == 0)=false:=by rw [beq_eq_false_iff_ne];omega
 rcases hkk with hkk|hkk
 all_goals
  go_enter func107,ntmps107;go_wp2;exact bodyPost_ret (v:=.tuple #[.agg #[.int .i64 0,.int .i64 0,.slice none 0 0,.int .i64 0],.int .i64 0,.int .i64 6]) (by simp [results,Tryz.results107,go_sem]) rfl ⟨none,0,rfl,Sl.nil _ _ _,by repeat first|exact Below.refl _ _|refine Z7 ?_ _⟩
theorem DN(h0:2<=bs.length)(hop:bs.getD 0 0=3)(hkk:3<=bs.getD 1 0/\bs.getD 1 0<=64):
 Calls prog 107 #[.slice A bs.length c] w (Parsed (ZX bs) w):=by
 obtain ⟨o,ho⟩:∃ o,bs[0]?=some o:=⟨_,List.getElem?_eq_getElem (by omega)⟩;have hod:bs.getD 0 0=o:=by rw [List.getD_eq_getElem?_getD,ho];rfl
 rw [hod] at hop;obtain ⟨b,off,rfl,hB,hc⟩:=hs.Q5 (by omega);obtain ⟨CB,CF⟩:=hby 0 o ho;have c0:=hc 0 o ho;rw [Nat.add_zero] at c0;obtain ⟨k,hk⟩:∃ k,bs[1]?=some k:=⟨_,List.getElem?_eq_getElem (by omega)⟩;have hkd:bs.getD 1 0=k:=by rw [List.getD_eq_getElem?_getD,hk];rfl
 rw [hkd] at hkk;obtain ⟨tF,hkb2⟩:=hby 1 k hk;have c1:=hc 1 k hk;subst hop;have hr:ZX bs=(⟨3,k,[],0⟩,2,0):=by unfold ZX;rw [if_neg (by omega),hod,if_neg (by omega),if_neg (by omega),if_neg (by omega),if_pos rfl,hkd,if_neg (by omega)]
 rw [hr];have HR:=hide hr;clear hr hod ho hkd hk;have HC:=hide hc;clear hc;have hz:((bs.length:Int) == 0)=false:=by rw [beq_eq_false_iff_ne];omega
 obtain ⟨hk1,hk2⟩:=hkk;go_enter func107,ntmps107;go_wp2;exact bodyPost_ret (v:=.tuple #[.agg #[.int .i64 3,.int .i64 k,.slice none 0 0,.int .i64 0],.int .i64 2,.int .i64 0]) (by simp [results,Tryz.results107,go_sem]) rfl ⟨none,0,rfl,Sl.nil _ _ _,by repeat first|exact Below.refl _ _|refine Z7 ?_ _⟩
theorem Gy(h0:2<=bs.length)(hop:bs.getD 0 0=4\/bs.getD 0 0=5)(hkk:bs.getD 1 0<1\/64<bs.getD 1 0):
 Calls prog 107 #[.slice A bs.length c] w (Parsed (ZX bs) w):=by
 obtain ⟨o,ho⟩:∃ o,bs[0]?=some o:=⟨_,List.getElem?_eq_getElem (by omega)⟩;have hod:bs.getD 0 0=o:=by rw [List.getD_eq_getElem?_getD,ho];rfl
 rw [hod] at hop;obtain ⟨b,off,rfl,hB,hc⟩:=hs.Q5 (by omega);obtain ⟨CB,CF⟩:=hby 0 o ho;have c0:=hc 0 o ho;rw [Nat.add_zero] at c0;obtain ⟨k,hk⟩:∃ k,bs[1]?=some k:=⟨_,List.getElem?_eq_getElem (by omega)⟩;have hkd:bs.getD 1 0=k:=by rw [List.getD_eq_getElem?_getD,hk];rfl
 rw [hkd] at hkk;obtain ⟨tF,hkb2⟩:=hby 1 k hk;have c1:=hc 1 k hk;have hr:ZX bs=(Y5,0,6):=by unfold ZX;rw [if_neg (by omega),hod,if_neg (by omega),if_neg (by omega),if_neg (by omega),if_neg (by omega),hkd,if_pos hkk]
 rw [hr];have HR:=hide hr;clear hr hod ho hkd hk;have HC:=hide hc;clear hc;have hz:((bs.length:Int) == 0)=false:=by rw [beq_eq_false_iff_ne];omega
 rcases hop with rfl|rfl <;> rcases hkk with hkk|hkk
 all_goals
  go_enter func107,ntmps107;go_wp2;exact bodyPost_ret (v:=.tuple #[.agg #[.int .i64 0,.int .i64 0,.slice none 0 0,.int .i64 0],.int .i64 0,.int .i64 6]) (by simp [results,Tryz.results107,go_sem]) rfl ⟨none,0,rfl,Sl.nil _ _ _,by repeat first|exact Below.refl _ _|refine Z7 ?_ _⟩
theorem KS(h0:2<=bs.length)(hop:bs.getD 0 0=4\/bs.getD 0 0=5)(hkk:1<=bs.getD 1 0/\bs.getD 1 0<=64)(hl:(bs.length:Int)<2+bs.getD 1 0):
 Calls prog 107 #[.slice A bs.length c] w (Parsed (ZX bs) w):=by
 obtain ⟨o,ho⟩:∃ o,bs[0]?=some o:=⟨_,List.getElem?_eq_getElem (by omega)⟩;have hod:bs.getD 0 0=o:=by rw [List.getD_eq_getElem?_getD,ho];rfl
 rw [hod] at hop;obtain ⟨b,off,rfl,hB,hc⟩:=hs.Q5 (by omega);obtain ⟨CB,CF⟩:=hby 0 o ho;have c0:=hc 0 o ho;rw [Nat.add_zero] at c0;obtain ⟨k,hk⟩:∃ k,bs[1]?=some k:=⟨_,List.getElem?_eq_getElem (by omega)⟩;have hkd:bs.getD 1 0=k:=by rw [List.getD_eq_getElem?_getD,hk];rfl
 rw [hkd] at hkk;obtain ⟨tF,hkb2⟩:=hby 1 k hk;have c1:=hc 1 k hk;rw [hkd] at hl;have hr:ZX bs=(Y5,0,4):=by unfold ZX;rw [if_neg (by omega),hod,if_neg (by omega),if_neg (by omega),if_neg (by omega),if_neg (by omega),hkd,if_neg (by omega),if_pos hl]
 rw [hr];have HR:=hide hr;clear hr hod ho hkd hk;have HC:=hide hc;clear hc;have hz:((bs.length:Int) == 0)=false:=by rw [beq_eq_false_iff_ne];omega
 obtain ⟨hk1,hk2⟩:=hkk;rcases hop with rfl|rfl
 all_goals
  go_enter func107,ntmps107;go_wp2;exact bodyPost_ret (v:=.tuple #[.agg #[.int .i64 0,.int .i64 0,.slice none 0 0,.int .i64 0],.int .i64 0,.int .i64 4]) (by simp [results,Tryz.results107,go_sem]) rfl ⟨none,0,rfl,Sl.nil _ _ _,by repeat first|exact Below.refl _ _|refine Z7 ?_ _⟩
end
end
section
open Go.RowKit
section
variable (bs:List Int)(A:Option Addr)(c:Nat)(w:World)
variable (hs:Sl w w.heap.size A (ZY bs))(hby:∀ (j:Nat) (x:Int),bs[j]?=some x->0<=x/\x<=255)
include hs hby
theorem NA(kn:Nat)(hop:bs.getD 0 0=4)(hkk:bs.getD 1 0=kn)(hk1:1<=kn)(hk2:kn<=64)(hl:2+kn<=bs.length):
 Calls prog 107 #[.slice A bs.length c] w (Parsed (ZX bs) w):=by
 obtain ⟨o,ho⟩:∃ o,bs[0]?=some o:=⟨_,List.getElem?_eq_getElem (by omega)⟩;have hod:bs.getD 0 0=o:=by rw [List.getD_eq_getElem?_getD,ho];rfl
 rw [hod] at hop;obtain ⟨b,off,rfl,hB,hc⟩:=hs.Q5 (by omega);have c0:=hc 0 o ho;rw [Nat.add_zero] at c0;obtain ⟨k,hk⟩:∃ k,bs[1]?=some k:=⟨_,List.getElem?_eq_getElem (by omega)⟩;have hkd:bs.getD 1 0=k:=by rw [List.getD_eq_getElem?_getD,hk];rfl
 have hkn:k=kn:=by rw [<- hkd,hkk]
 subst hkn;have c1:=hc 1 _ hk;have HC:=hide hc;clear hc;have Bj:=hide hkk;clear hkk;have Bp:=hide hod;clear hod ho hkd hk;obtain ⟨i0,hi,hz0,hz1,hz2⟩:=info_parts RU;subst hop;have b0:((bs.length:Int) == 0)=false:=by rw [beq_eq_false_iff_ne];omega
 have b2:decide ((bs.length:Int)<2)=false:=decide_eq_false (by omega);have b3:decide ((kn:Int)<1)=false:=decide_eq_false (by omega);have b4:decide (64<(kn:Int))=false:=decide_eq_false (by omega);have b5:decide ((bs.length:Int)<2+kn)=false:=decide_eq_false (by omega);go_enter func107,ntmps107;go_wp2
 go_loopw [7,8] (fun i _ wr=>∃ j:Nat,j<=kn/\i=.int .i64 j/\Jy w 4 ((bs.drop 2).take j) wr/\(((bs.drop 2).take j).map YR).any Zt=false)
  (fun i _ _=>kn - (intOf i).toNat)
 case atStart=>exact ⟨0,by omega,rfl,UH w 4,rfl⟩
 case round =>
  obtain ⟨j,hj,rfl,⟨v,hv0,hv1,ZL,hb⟩,hany⟩:=hrel;have hz1:=hb.size;have R6:=hide hany;clear hany
  by_cases hlt:j<kn
  · obtain ⟨x,hx⟩:∃ x,bs[2+j]?=some x:=⟨_,List.getElem?_eq_getElem (by omega)⟩;have cx:=(hb.cell (p:=⟨b,off+(2+j),none⟩) hB).trans (HC.out _ x hx);obtain ⟨hx1,hx2⟩:=hby _ _ hx;have HX:=hide hx;clear hx;have d0:=hv1.q2 rfl;have d1:=hv1.frozen 2;have hlen:(List.take j (List.drop 2 bs)).length=j:=(by simp;omega);have hl1:w.heap.size+1<wr.heap.size:=hv1.lt;have hbB:b<wr.heap.size:=(by omega);go_wp2
    go_region
    go_wp2_with fail;refine (XO _ _).mono ?_;rintro e w' ⟨rfl,rfl⟩
    by_cases hsz:ZO (x % 128)=0
    · have hbad:((bs.drop 2).take kn |>.map YR).any Zt=true:=by
       refine Yo _ _ j (YR x) ?_ (by simp [Zt,YR,hsz]);rw [List.getElem?_map,List.getElem?_take,if_pos hlt,List.getElem?_drop,HX.out];rfl
      have hr:ZX bs=(Y5,0,7):=by
       unfold ZX;rw [if_neg (by omega),Bp.out,if_neg (by omega),if_neg (by omega),if_neg (by omega),if_neg (by omega),Bj.out,if_neg (by omega),if_neg (by omega),Int.toNat_natCast,hbad,if_pos rfl]
      have HR:=hide hr;clear hr hbad;have hl0:w.heap.size<wr.heap.size:=hv0.lt;have f00:=hv0.q0 rfl;have f01:=hv0.q1 rfl;have f02:=hv0.q2 rfl;have f03:=hv0.q3 rfl;have z00:=hv0.frozen 0;have z01:=hv0.frozen 1;have z02:=hv0.frozen 2;have z03:=hv0.frozen 3;go_wp2;have E:Z6 _ w.heap.size 53 #[.int .i64 0,.int .i64 0,.slice none 0 0,.int .i64 0]:=(((((hv0.set 0 (.int .i64 0)).set 1 (.int .i64 0)).set 2 (.slice none 0 0)).set 3 (.int .i64 0)).alloc (.cells #[.bool (decide (128<=x)),.int .i64 (x % 128),.slice none 0 0] 38)).drew;refine bodyPost_ret (YL rfl rfl E) rfl ⟨none,0,?_,?_,?_⟩
      · rw [HR.out];rfl
      · rw [HR.out];exact Sl.nil _ _ _
      · exact (((((hb.setCell (by simp) _).setCell (by simp) _).setCell (by simp) _).setCell (by simp) _).alloc (by simp;omega) _).drew
    · have hsz':(ZO (x % 128) == 0)=false:=(by simpa using hsz);have Va:=hide hsz;clear hsz;go_wp2_with (at_builtin;refine wpList_append_own _ rfl (.tmp 90) (.tmp 92) 32 rfl (w.heap.size+2) 38 i0 (.agg #[.bool false,.int .i64 0,.slice none 0 0]) 3 40 underlying32 hi hz0 ‹_› hz2 rfl (by decide) v _ _ rfl (((ZL.alloc _).drew).alloc _) ⟨wr.heap.size+1,0,none⟩ 1 1 (rgCells [YR x]) rfl rfl ?c1 ?c2 ?c3 ?c4 ?c5 ?_;rotate_right;intro v' w1 hown' ZQ _;obtain ⟨g1,Vl,rfl,hg1,hg1',hg2⟩:=Um hown' (by omega);have Vn:=(((hv1.alloc _).drew).alloc _).grown ZQ (own_ne ZL (by omega));have d2:=Vn.q2 rfl;have d3:=Vn.frozen 2)
      case c1 =>
       intro i u hu
       match i,hu with
       | 0,hu=>simp [rgCells,Rg.cells,YR] at hu;subst hu;simp [Addr.add]
       | 1,hu=>simp [rgCells,Rg.cells,YR] at hu;subst hu;simp [Addr.add]
       | 2,hu=>simp [rgCells,Rg.cells,YR] at hu;subst hu;simp [Addr.add]
      case c2=>intro u hu;simp [rgCells,Rg.cells,YR] at hu;rcases hu with rfl|rfl|rfl <;> rfl
      case c3=>rw [hlen];unfold maxLen;omega
      case c4=>rw [hlen];omega
      case c5=>simp;omega
      have hts:List.take (j+1) (List.drop 2 bs)=List.take j (List.drop 2 bs)++[x]:=by
       rw [List.take_add_one,List.getElem?_drop,HX.out];rfl
      have R:=TP (wr:=(wr.alloc (.cells #[.bool (decide (128<=x)),.int .i64 (x % 128),.slice none 0 0] 38)).drew) ((hv0.alloc _).drew) ((hv1.alloc _).drew) ((ZL.alloc _).drew) ((hb.alloc hb.size _).drew) (x:=x) (by rw [hlen] at hown' ⊢;exact hown') ZQ;have Pz:=hide hts;have HR2:=hide R;clear hts R hlen hown' ZQ ZL hv0 hv1 d0 d1 d2 d3 Vn;go_roundw
      case rel=>exact ⟨j+1,by omega,by go_num,by rw [Pz.out];exact HR2.out,by rw [Pz.out,List.map_append,List.any_append,R6.out];simp [Zt,YR];exact Va.out⟩
      case measure=>simp [intOf];omega
  · have hjk:j=kn:=(by omega);subst hjk;obtain ⟨A1,Vl,rfl,hcap1⟩:=Zl ZL;have hlen:(List.take j (List.drop 2 bs)).length=j:=(by simp;omega);have e0:=hv0;have f00:=e0.q0 rfl;have f01:=e0.q1 rfl;have f02:=e0.q2 rfl;have f03:=e0.q3 rfl;have z00:=e0.frozen 0;have z01:=e0.frozen 1;have z02:=e0.frozen 2;have z03:=e0.frozen 3;have f10:=hv1.q0 rfl;have f11:=hv1.q1 rfl;have f12:=hv1.q2 rfl;have f13:=hv1.q3 rfl;have z13:=hv1.frozen 3;go_wp2;have E:Z6 _ w.heap.size 53 #[.int .i64 4,.int .i64 0,.slice A1 j Vl,.int .i64 0]:=(((e0.set 0 (.int .i64 4)).set 1 (.int .i64 0)).set 2 (.slice A1 j Vl)).set 3 (.int .i64 0);have O:=ownsRow_setCell_below (ownsRow_setCell_below (ownsRow_setCell_below (ownsRow_setCell_below ZL (a:=⟨w.heap.size,0,none⟩) (by simp) (.int .i64 4)) (a:=⟨w.heap.size,1,none⟩) (by simp) (.int .i64 0)) (a:=⟨w.heap.size,2,none⟩) (by simp) (.slice A1 j Vl)) (a:=⟨w.heap.size,3,none⟩) (by simp) (.int .i64 0);have hr:ZX bs=(PH.mk 4 0 (((bs.drop 2).take j).map YR) 0,2+(j:Int),0):=by
     unfold ZX;rw [if_neg (by omega),Bp.out,if_neg (by omega),if_neg (by omega),if_neg (by omega),if_neg (by omega),Bj.out,if_neg (by omega),if_neg (by omega),Int.toNat_natCast,R6.out,if_neg (by simp),if_pos rfl]
    refine bodyPost_ret (YL rfl rfl E) rfl ⟨A1,Vl,?_,?_,?_⟩
    · rw [hr];simp only [List.length_map,hlen];rfl
    · rw [hr];exact Sl.Xw O
    · exact (((hb.setCell (by simp) _).setCell (by simp) _).setCell (by simp) _).setCell (by simp) _
end
end
section
open Go.RowKit
section
variable (bs:List Int)(A:Option Addr)(c:Nat)(w:World)
variable (hs:Sl w w.heap.size A (ZY bs))(hby:∀ (j:Nat) (x:Int),bs[j]?=some x->0<=x/\x<=255)
include hs hby
theorem NC(kn:Nat)(hop:bs.getD 0 0=5)(hkk:bs.getD 1 0=kn)(hk1:1<=kn)(hk2:kn<=64)(hl:2+kn<=bs.length):
 Calls prog 107 #[.slice A bs.length c] w (Parsed (ZX bs) w):=by
 obtain ⟨o,ho⟩:∃ o,bs[0]?=some o:=⟨_,List.getElem?_eq_getElem (by omega)⟩;have hod:bs.getD 0 0=o:=by rw [List.getD_eq_getElem?_getD,ho];rfl
 rw [hod] at hop;obtain ⟨b,off,rfl,hB,hc⟩:=hs.Q5 (by omega);have c0:=hc 0 o ho;rw [Nat.add_zero] at c0;obtain ⟨k,hk⟩:∃ k,bs[1]?=some k:=⟨_,List.getElem?_eq_getElem (by omega)⟩;have hkd:bs.getD 1 0=k:=by rw [List.getD_eq_getElem?_getD,hk];rfl
 have hkn:k=kn:=by rw [<- hkd,hkk]
 subst hkn;have c1:=hc 1 _ hk;have HC:=hide hc;clear hc;have Bj:=hide hkk;clear hkk;have Bp:=hide hod;clear hod ho hkd hk;obtain ⟨i0,hi,hz0,hz1,hz2⟩:=info_parts RU;subst hop;have b0:((bs.length:Int) == 0)=false:=by rw [beq_eq_false_iff_ne];omega
 have b2:decide ((bs.length:Int)<2)=false:=decide_eq_false (by omega);have b3:decide ((kn:Int)<1)=false:=decide_eq_false (by omega);have b4:decide (64<(kn:Int))=false:=decide_eq_false (by omega);have b5:decide ((bs.length:Int)<2+kn)=false:=decide_eq_false (by omega);go_enter func107,ntmps107;go_wp2
 go_loopw [7,8] (fun i _ wr=>∃ j:Nat,j<=kn/\i=.int .i64 j/\Jy w 5 ((bs.drop 2).take j) wr/\(((bs.drop 2).take j).map YR).any Zt=false)
  (fun i _ _=>kn - (intOf i).toNat)
 case atStart=>exact ⟨0,by omega,rfl,UH w 5,rfl⟩
 case round =>
  obtain ⟨j,hj,rfl,⟨v,hv0,hv1,ZL,hb⟩,hany⟩:=hrel;have hz1:=hb.size;have R6:=hide hany;clear hany
  by_cases hlt:j<kn
  · obtain ⟨x,hx⟩:∃ x,bs[2+j]?=some x:=⟨_,List.getElem?_eq_getElem (by omega)⟩;have cx:=(hb.cell (p:=⟨b,off+(2+j),none⟩) hB).trans (HC.out _ x hx);obtain ⟨hx1,hx2⟩:=hby _ _ hx;have HX:=hide hx;clear hx;have d0:=hv1.q2 rfl;have d1:=hv1.frozen 2;have hlen:(List.take j (List.drop 2 bs)).length=j:=(by simp;omega);have hl1:w.heap.size+1<wr.heap.size:=hv1.lt;have hbB:b<wr.heap.size:=(by omega);go_wp2
    go_region
    go_wp2_with fail;refine (XO _ _).mono ?_;rintro e w' ⟨rfl,rfl⟩
    by_cases hsz:ZO (x % 128)=0
    · have hbad:((bs.drop 2).take kn |>.map YR).any Zt=true:=by
       refine Yo _ _ j (YR x) ?_ (by simp [Zt,YR,hsz]);rw [List.getElem?_map,List.getElem?_take,if_pos hlt,List.getElem?_drop,HX.out];rfl
      have hr:ZX bs=(Y5,0,7):=by
       unfold ZX;rw [if_neg (by omega),Bp.out,if_neg (by omega),if_neg (by omega),if_neg (by omega),if_neg (by omega),Bj.out,if_neg (by omega),if_neg (by omega),Int.toNat_natCast,hbad,if_pos rfl]
      have HR:=hide hr;clear hr hbad;have hl0:w.heap.size<wr.heap.size:=hv0.lt;have f00:=hv0.q0 rfl;have f01:=hv0.q1 rfl;have f02:=hv0.q2 rfl;have f03:=hv0.q3 rfl;have z00:=hv0.frozen 0;have z01:=hv0.frozen 1;have z02:=hv0.frozen 2;have z03:=hv0.frozen 3;go_wp2;have E:Z6 _ w.heap.size 53 #[.int .i64 0,.int .i64 0,.slice none 0 0,.int .i64 0]:=(((((hv0.set 0 (.int .i64 0)).set 1 (.int .i64 0)).set 2 (.slice none 0 0)).set 3 (.int .i64 0)).alloc (.cells #[.bool (decide (128<=x)),.int .i64 (x % 128),.slice none 0 0] 38)).drew;refine bodyPost_ret (YL rfl rfl E) rfl ⟨none,0,?_,?_,?_⟩
      · rw [HR.out];rfl
      · rw [HR.out];exact Sl.nil _ _ _
      · exact (((((hb.setCell (by simp) _).setCell (by simp) _).setCell (by simp) _).setCell (by simp) _).alloc (by simp;omega) _).drew
    · have hsz':(ZO (x % 128) == 0)=false:=(by simpa using hsz);have Va:=hide hsz;clear hsz;go_wp2_with (at_builtin;refine wpList_append_own _ rfl (.tmp 90) (.tmp 92) 32 rfl (w.heap.size+2) 38 i0 (.agg #[.bool false,.int .i64 0,.slice none 0 0]) 3 40 underlying32 hi hz0 ‹_› hz2 rfl (by decide) v _ _ rfl (((ZL.alloc _).drew).alloc _) ⟨wr.heap.size+1,0,none⟩ 1 1 (rgCells [YR x]) rfl rfl ?c1 ?c2 ?c3 ?c4 ?c5 ?_;rotate_right;intro v' w1 hown' ZQ _;obtain ⟨g1,Vl,rfl,hg1,hg1',hg2⟩:=Um hown' (by omega);have Vn:=(((hv1.alloc _).drew).alloc _).grown ZQ (own_ne ZL (by omega));have d2:=Vn.q2 rfl;have d3:=Vn.frozen 2)
      case c1 =>
       intro i u hu
       match i,hu with
       | 0,hu=>simp [rgCells,Rg.cells,YR] at hu;subst hu;simp [Addr.add]
       | 1,hu=>simp [rgCells,Rg.cells,YR] at hu;subst hu;simp [Addr.add]
       | 2,hu=>simp [rgCells,Rg.cells,YR] at hu;subst hu;simp [Addr.add]
      case c2=>intro u hu;simp [rgCells,Rg.cells,YR] at hu;rcases hu with rfl|rfl|rfl <;> rfl
      case c3=>rw [hlen];unfold maxLen;omega
      case c4=>rw [hlen];omega
      case c5=>simp;omega
      have hts:List.take (j+1) (List.drop 2 bs)=List.take j (List.drop 2 bs)++[x]:=by
       rw [List.take_add_one,List.getElem?_drop,HX.out];rfl
      have R:=TP (wr:=(wr.alloc (.cells #[.bool (decide (128<=x)),.int .i64 (x % 128),.slice none 0 0] 38)).drew) ((hv0.alloc _).drew) ((hv1.alloc _).drew) ((ZL.alloc _).drew) ((hb.alloc hb.size _).drew) (x:=x) (by rw [hlen] at hown' ⊢;exact hown') ZQ;have Pz:=hide hts;have HR2:=hide R;clear hts R hlen hown' ZQ ZL hv0 hv1 d0 d1 d2 d3 Vn;go_roundw
      case rel=>exact ⟨j+1,by omega,by go_num,by rw [Pz.out];exact HR2.out,by rw [Pz.out,List.map_append,List.any_append,R6.out];simp [Zt,YR];exact Va.out⟩
      case measure=>simp [intOf];omega
  · have hjk:j=kn:=(by omega);subst hjk;obtain ⟨A1,Vl,rfl,hcap1⟩:=Zl ZL;have hlen:(List.take j (List.drop 2 bs)).length=j:=(by simp;omega);have e0:=hv0;have f00:=e0.q0 rfl;have f01:=e0.q1 rfl;have f02:=e0.q2 rfl;have f03:=e0.q3 rfl;have z00:=e0.frozen 0;have z01:=e0.frozen 1;have z02:=e0.frozen 2;have z03:=e0.frozen 3;have f10:=hv1.q0 rfl;have f11:=hv1.q1 rfl;have f12:=hv1.q2 rfl;have f13:=hv1.q3 rfl;have z13:=hv1.frozen 3
    by_cases hl4:(bs.length:Int)<4+j
    · go_wp2;have E:Z6 _ w.heap.size 53 #[.int .i64 0,.int .i64 0,.slice none 0 0,.int .i64 0]:=(((e0.set 0 (.int .i64 0)).set 1 (.int .i64 0)).set 2 (.slice none 0 0)).set 3 (.int .i64 0);have hr:ZX bs=(Y5,0,4):=by
       unfold ZX;rw [if_neg (by omega),Bp.out,if_neg (by omega),if_neg (by omega),if_neg (by omega),if_neg (by omega),Bj.out,if_neg (by omega),if_neg (by omega),Int.toNat_natCast,R6.out,if_neg (by simp),if_neg (by omega),if_pos hl4]
      refine bodyPost_ret (YL rfl rfl E) rfl ⟨none,0,?_,?_,?_⟩
      · rw [hr];rfl
      · rw [hr];exact Sl.nil _ _ _
      · exact (((hb.setCell (by simp) _).setCell (by simp) _).setCell (by simp) _).setCell (by simp) _
    · obtain ⟨p,hp⟩:∃ p,bs[2+j]?=some p:=⟨_,List.getElem?_eq_getElem (by omega)⟩;obtain ⟨q,hq⟩:∃ q,bs[3+j]?=some q:=⟨_,List.getElem?_eq_getElem (by omega)⟩;obtain ⟨hp1,hp2⟩:=hby _ _ hp;obtain ⟨hq1,hq2⟩:=hby _ _ hq;have cp:=(hb.cell (p:=⟨b,off+(2+j),none⟩) hB).trans (HC.out _ p hp);have cq:=(hb.cell (p:=⟨b,off+(3+j),none⟩) hB).trans (HC.out _ q hq);have HP:=hide hp;clear hp;have HQQ:=hide hq;clear hq;have j3:bs.getD (2+j) 0=p:=(by rw [List.getD_eq_getElem?_getD,HP.out];rfl);have hqd:bs.getD (3+j) 0=q:=(by rw [List.getD_eq_getElem?_getD,HQQ.out];rfl);have HPD:=hide j3;clear j3;have HQD:=hide hqd;clear hqd;go_wp2
      go_region
      by_cases hpt:p+256*q<1\/4096<p+256*q
      · rcases hpt with hpt|hpt
        all_goals
         go_wp2;have E:Z6 _ w.heap.size 53 #[.int .i64 0,.int .i64 0,.slice none 0 0,.int .i64 0]:=(((((e0.far (p:=⟨w.heap.size+1,3,none⟩) (by simp) (.int .i64 (p+256*q))).drew).set 0 (.int .i64 0)).set 1 (.int .i64 0)).set 2 (.slice none 0 0)).set 3 (.int .i64 0);have hr:ZX bs=(Y5,0,6):=by
          unfold ZX;rw [if_neg (by omega),Bp.out,if_neg (by omega),if_neg (by omega),if_neg (by omega),if_neg (by omega),Bj.out,if_neg (by omega),if_neg (by omega),Int.toNat_natCast,R6.out,if_neg (by simp),if_neg (by omega),if_neg (by omega),HPD.out,HQD.out,if_pos (by omega)]
         refine bodyPost_ret (YL rfl rfl E) rfl ⟨none,0,?_,?_,?_⟩
         · rw [hr];rfl
         · rw [hr];exact Sl.nil _ _ _
         · exact (((((hb.setCell (by simp) _).drew).setCell (by simp) _).setCell (by simp) _).setCell (by simp) _).setCell (by simp) _
      · have zps:1<=p+256*q:=(by omega);have zpt:p+256*q<=4096:=(by omega);go_wp2;have E:Z6 _ w.heap.size 53 #[.int .i64 5,.int .i64 0,.slice A1 j Vl,.int .i64 (p+256*q)]:=(((((e0.far (p:=⟨w.heap.size+1,3,none⟩) (by simp) (.int .i64 (p+256*q))).drew).set 0 (.int .i64 5)).set 1 (.int .i64 0)).set 2 (.slice A1 j Vl)).set 3 (.int .i64 (p+256*q));have O:=ownsRow_setCell_below (ownsRow_setCell_below (ownsRow_setCell_below (ownsRow_setCell_below (ownsRow_setCell_below ZL (a:=⟨w.heap.size+1,3,none⟩) (by simp) (.int .i64 (p+256*q))).drew (a:=⟨w.heap.size,0,none⟩) (by simp) (.int .i64 5)) (a:=⟨w.heap.size,1,none⟩) (by simp) (.int .i64 0)) (a:=⟨w.heap.size,2,none⟩) (by simp) (.slice A1 j Vl)) (a:=⟨w.heap.size,3,none⟩) (by simp) (.int .i64 (p+256*q));have hr:ZX bs=(PH.mk 5 0 (((bs.drop 2).take j).map YR) (p+256*q),4+(j:Int),0):=by
         unfold ZX;rw [if_neg (by omega),Bp.out,if_neg (by omega),if_neg (by omega),if_neg (by omega),if_neg (by omega),Bj.out,if_neg (by omega),if_neg (by omega),Int.toNat_natCast,R6.out,if_neg (by simp),if_neg (by omega),if_neg (by omega),HPD.out,HQD.out,if_neg (by omega)]
        refine bodyPost_ret (YL rfl rfl E) rfl ⟨A1,Vl,?_,?_,?_⟩
        · rw [hr];simp only [List.length_map,hlen];rfl
        · rw [hr];exact Sl.Xw O
        · exact (((((hb.setCell (by simp) _).drew).setCell (by simp) _).setCell (by simp) _).setCell (by simp) _).setCell (by simp) _
end
end
section
open Go.RowKit
section
variable (bs:List Int)(A:Option Addr)(c:Nat)(w:World)
variable (hs:Sl w w.heap.size A (ZY bs))(hcap:bs.length<=c)(hby:∀ (j:Nat) (x:Int),bs[j]?=some x->0<=x/\x<=255)
include hs hby
theorem Mv :
 Calls prog 107 #[.slice A bs.length c] w (Parsed (ZX bs) w):=by
 by_cases h0:bs.length<1
 · exact Ji bs A c w h0
 have h0':0<bs.length:=by omega
 by_cases h1:bs.getD 0 0=1\/bs.getD 0 0=2
 · exact zD bs A c w hs hby h0' h1
 by_cases h2:bs.getD 0 0<1\/5<bs.getD 0 0
 · exact DR bs A c w hs hby h0' h2
 by_cases hl:bs.length=1
 · exact DT bs A c w hs hby hl (by omega)
 have hl2:2<=bs.length:=by omega
 by_cases h3:bs.getD 0 0=3
 · by_cases hk:bs.getD 1 0<3\/64<bs.getD 1 0
   · exact Gx bs A c w hs hby hl2 h3 hk
   · exact DN bs A c w hs hby hl2 h3 (by omega)
 by_cases hk:bs.getD 1 0<1\/64<bs.getD 1 0
 · exact Gy bs A c w hs hby hl2 (by omega) hk
 by_cases hsh:(bs.length:Int)<2+bs.getD 1 0
 · exact KS bs A c w hs hby hl2 (by omega) (by omega) hsh
 obtain ⟨kn,hkn⟩:=Int.eq_ofNat_of_zero_le (show 0<=bs.getD 1 0 by omega)
 by_cases h4:bs.getD 0 0=4
 · exact NA bs A c w hs hby kn h4 hkn (by omega) (by omega) (by omega)
 · exact NC bs A c w hs hby kn (by omega) hkn (by omega) (by omega) (by omega)
include hcap
theorem J9 :
 Calls prog 226 #[.slice A bs.length c] w (Parsed (ZX bs) w):=by
 by_cases h0:bs.length<1
 · exact F9 bs A c w h0
 have h0':0<bs.length:=by omega
 by_cases h1:bs.getD 0 0=1\/bs.getD 0 0=2
 · exact vN bs A c w hs h0' h1
 by_cases h2:bs.getD 0 0<1\/5<bs.getD 0 0
 · exact zl bs A c w hs hby h0' h2
 by_cases hl:bs.length=1
 · exact zm bs A c w hs hl (by omega)
 have hl2:2<=bs.length:=by omega
 by_cases h3:bs.getD 0 0=3
 · by_cases hk:bs.getD 1 0<3\/64<bs.getD 1 0
   · exact Dn bs A c w hs hby hl2 h3 hk
   · exact zk bs A c w hs hl2 h3 (by omega)
 by_cases hk:bs.getD 1 0<1\/64<bs.getD 1 0
 · exact Dp bs A c w hs hby hl2 (by omega) hk
 by_cases hsh:(bs.length:Int)<2+bs.getD 1 0
 · exact IC bs A c w hs hl2 (by omega) (by omega) hsh
 obtain ⟨kn,hkn⟩:=Int.eq_ofNat_of_zero_le (show 0<=bs.getD 1 0 by omega)
 by_cases h4:bs.getD 0 0=4
 · exact Mf bs A c w hs hcap hby kn h4 hkn (by omega) (by omega) (by omega)
 · exact Mg bs A c w hs hcap hby kn (by omega) hkn (by omega) (by omega) (by omega)
end
end
section
open Go.RowKit
section
variable (bs:List Int)(A:Option Addr)(c:Nat)(w:World)
variable (hs:Sl w w.heap.size A (ZY bs))(hcap:bs.length<=c)(hby:∀ (j:Nat) (x:Int),bs[j]?=some x->0<=x/\x<=255)(hmax:bs.length<=9223372036854775807)
variable (hfix:Fixed w)(hg:9<w.heap.size)
include hs hcap hby hmax hfix hg
theorem Hl :
 Calls prog 225 #[.slice A bs.length c] w fun e w'=>e=.returned (.int .i64 (YX bs))/\Below w.heap.size w w':=by
 have hlen:=CG bs;have hpb:=Ao (ZX bs).1.op (ZX bs).1.vs (ZX bs).1.rs (ZX bs).1.Z0;have hnb:=LV bs;obtain ⟨v,hv⟩:=eE (YX bs);unfold YX at hv;rw [show YX bs=v from by rw [hv];rfl];have P:=J9 bs A c w hs hcap hby;revert P hv hlen hpb hnb;generalize ZX bs=r;obtain ⟨⟨op,vs,rs,Z0⟩,n,er⟩:=r;intro hlen hpb hnb hv P;simp only at hlen hpb hnb hv;have HV:=hide hv;clear hv;have HP:=hide P;clear P;have HPB:=hide hpb;clear hpb;have aG:=hide hnb;clear hnb;go_enter func225,ntmps225;go_wp2_with fail;refine HP.out.mono ?_;rintro e w1 ⟨A1,c1,rfl,hsl,hb1⟩;simp only at hsl
 by_cases he:er=0
 · subst he;go_wp2_with fail;refine (Ga vs rs A1 c1 Z0 _ ((hsl.below (bA)).more (by simp)) (by unfold maxLen;omega) (fun j hj=>(World.cell?_alloc_lt _ _ _ (by have:=hb1.size;simp;omega)).trans ((hfix.below hb1 hg) j hj)) (by have:=hb1.size;rw [World.size_alloc];omega) op).mono ?_;rintro e w2 ⟨rfl,hb2⟩;obtain ⟨zpq,zpr⟩:=HPB.out;obtain ⟨zpo,zpp⟩:=aG.out
   by_cases hq:(bs.length:Int)=n+hpay op vs rs Z0
   · have hq':((bs.length:Int) != n+hpay op vs rs Z0)=false:=(by rw [bne_eq_false_iff_eq];exact hq);have HQ:=hide hq;clear hq;go_wp2;go_ret;exact ⟨Y3 (by rw [HV.out,if_pos trivial,if_pos HQ.out]),Z9 (Z7 hb1 _) hb2⟩
   · have hq':((bs.length:Int) != n+hpay op vs rs Z0)=true:=(by rw [bne_iff_ne];exact hq);have HQ:=hide hq;clear hq;go_wp2;go_ret;exact ⟨Y3 (by rw [HV.out,if_pos trivial,if_neg HQ.out]),Z9 (Z7 hb1 _) hb2⟩
 · have he':(er == 0)=false:=(by simpa using he);have HE:=hide he;clear he;go_wp2;go_ret;exact ⟨Y3 (by rw [HV.out,if_neg HE.out]),Z7 hb1 _⟩
end
end
section
open Go.RowKit
theorem OB(op vs Z0:Int)(rs:List Rg)(A:Option Addr)(c:Nat)(w:World)(hs:Sl w w.heap.size A (rgCells rs))(hn:rs.length<=65536):
 Calls prog 222 #[.agg #[.int .i64 op,.int .i64 vs,.slice A rs.length c,.int .i64 Z0]] w fun e w'=>e=.returned (.int .i64 (Yy rs))/\Below w.heap.size w w':=by
 have dh:=hs.below (Z7 (Below.refl _ _) (.cells #[.int .i64 op,.int .i64 vs,.slice A rs.length c,.int .i64 Z0] 53));have HS:=hide hs;clear hs;go_enter func222,ntmps222;go_wp2
 go_loop [3,4] (fun t i=>∃ k:Nat,k<=rs.length/\i=.int .i64 k/\t=.int .i64 (Yy (rs.take k)))
  (fun _ i=>rs.length - (intOf i).toNat)
 case atStart=>exact ⟨0,by omega,rfl,by simp [Yy]⟩
 case round =>
  obtain ⟨k,hk,rfl,rfl⟩:=hrel;have hsb:=TV (rs.take k);rw [List.length_take,Nat.min_eq_left hk] at hsb;obtain ⟨mH,mI⟩:=hsb
  by_cases hlt:k<rs.length
  · obtain ⟨r,hr⟩:∃ r,rs[k]?=some r:=⟨_,List.getElem?_eq_getElem hlt⟩;obtain ⟨b,off,rfl,hB,c0,c1,c2⟩:=dh.rg hr;have hsn:=Qs rs k r hr;have hzb:=W9 r.v;obtain ⟨zqh,zqi⟩:=hzb;have HR:=hide hr;clear hr;have HN:=hide hsn;clear hsn;go_wp2_with fail;refine (XO _ _).mono ?_;rintro e w' ⟨rfl,rfl⟩;go_wp2
    go_round
    case rel=>exact ⟨k+1,by omega,by go_num,by rw [HN.out]⟩
    case measure=>simp [intOf];omega
  · have hk':k=rs.length:=(by omega);rw [hk',List.take_length] at mH mI ⊢;clear hk' hlt hk;go_wp2;go_ret;exact ⟨rfl,bA⟩
section
variable (op vs Z0:Int)(rs:List Rg)(A:Option Addr)(c:Nat)(w:World)(hs:Sl w w.heap.size A (rgCells rs))(hz:ZT op vs rs Z0=0)
include hz
include hs
theorem Jj :
 Calls prog 158 #[.agg #[.int .i64 op,.int .i64 vs,.slice A rs.length c,.int .i64 Z0]] w fun e w'=>e=.returned (.int .i64 (hpay op vs rs Z0))/\Below w.heap.size w w':=by
 obtain ⟨ho1,ho2,h3,mD,h4,hl4,h5,yL,_⟩:=Zu hz;have hr:hpay op vs rs Z0=(Xm op+vs+Yy rs)*16+Z0*24:=by unfold hpay;rw [if_pos hz]
 have HZ:=hide hz;clear hz;have HR:=hide hr;clear hr;have hop:op=1\/op=2\/op=3\/op=4\/op=5:=by omega
 have hsb:=TV rs;obtain ⟨mH,mI⟩:=hsb;have hs':=hide hs;clear hs;rcases hop with rfl|rfl|rfl|rfl|rfl
 · have e1:=hl4 (by omega);have e2:=mD (by omega);have e3:=yL (by omega);subst e1 e2 e3;clear h3 mD h4 hl4 h5 yL;go_enter func158,ntmps158;go_wp2;go_ret;exact ⟨Y3 (by rw [HR.out];rfl),bA⟩
 · have e1:=hl4 (by omega);have e2:=mD (by omega);have e3:=yL (by omega);subst e1 e2 e3;clear h3 mD h4 hl4 h5 yL;go_enter func158,ntmps158;go_wp2;go_ret;exact ⟨Y3 (by rw [HR.out];rfl),bA⟩
 · have e1:=hl4 (by omega);have e3:=yL (by omega);obtain ⟨hv1,hv2⟩:=h3 rfl;subst e1 e3;clear h3 mD h4 hl4 h5 yL;go_enter func158,ntmps158;go_wp2;go_ret;exact ⟨Y3 (by rw [HR.out];simp [Xm,Yy];omega),bA⟩
 · have e2:=mD (by omega);have e3:=yL (by omega);obtain ⟨hl1,hl2,_⟩:=h4 (by omega);subst e2 e3;clear h3 mD h4 hl4 h5 yL;go_enter func158,ntmps158;go_wp2_with fail;refine (OB 4 0 0 rs A c _ ((hs'.out.below (bA)).more (by simp)) (by omega)).mono ?_;rintro e w1 ⟨rfl,hb⟩;go_wp2;go_ret;exact ⟨Y3 (by rw [HR.out];simp [Xm];omega),Z9 (bA) hb⟩
 · have e2:=mD (by omega);obtain ⟨hl1,hl2,_⟩:=h4 (by omega);obtain ⟨hp1,hp2⟩:=h5 rfl;subst e2;clear h3 mD h4 hl4 h5 yL;go_enter func158,ntmps158;go_wp2
   go_region_with (go_at_call 222;refine (OB 5 0 Z0 rs A c _ ((hs'.out.below (ZU (bA))).more (by simp)) (by omega)).mono ?_;rintro e w1 ⟨rfl,hb⟩;obtain ⟨hcl,hfr⟩:=NM hb)
   all_goals go_wp2
   all_goals go_ret
   all_goals exact ⟨Y3 (by rw [HR.out,IntWalk.i64_in (16*Yy rs) (by omega),IntWalk.i64_in (24*Z0) (by omega),IntWalk.i64_in _ (by omega)];simp [Xm];omega),Z9 (ZU (bA)) (by assumption)⟩
end
end
end Go.Proofs.YthnenedoblncjaaGreatDoor