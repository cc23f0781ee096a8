/- Alive22 RefEv21 LawEvents21 LawTrace5 -/
import Derived.Test.YtfljlmleiggmjaaGreatDoorPkD18
import Derived.Test.YtfljlmleiggmjaaGreatDoorPkD46
import Derived.Test.YtfljlmleiggmjaaGreatDoorPkD47
set_option maxRecDepth 1000000
set_option maxHeartbeats 8000000
namespace Go.Proofs.YtfljlmleiggmjaaGreatDoor
open Go.Proofs.Tryz
section
open Go.RowKit Go.Shelf
section
variable (bs:List Int)(A:Option Addr)(c:Nat)(w:World)
variable (hs:Sl w w.heap.size A (ZY bs))(hcap:bs.length<=c)(hby:∀ (j:Nat) (x:Int),bs[j]?=some x->0<=x/\x<=255)(hmax:bs.length<=9223372036854775807)
variable (hfix:Fixed w)(hg:1<w.heap.size)
include hs hcap hby hmax hfix hg
theorem Cg(hc:Zb bs≠0):Calls prog 17 #[.slice A bs.length c] w fun e w'=>e=.returned (.tuple #[.int .i64 0,.int .i64 (Zb bs)])/\Below w.heap.size w w':=by
 have HC:=hide (Ol bs A c w hs hcap hby hmax hfix hg);obtain ⟨E,hE⟩:=eE (Zb bs);rw [<- hE] at HC hc ⊢;have hne:(E != 0)=true:=by simpa using hc
 clear hs hcap hby hmax hfix hg hE;go_enter func17,ntmps17;go_wp2_with fail;refine HC.out.mono ?_;rintro e w1 ⟨rfl,hb1⟩;have HB:=hide hb1;clear hb1 HC;go_wp2;go_ret2;exact ⟨rfl,HB.out⟩
end
def ug:List Rg:=[⟨false,0,none,0,0⟩]
theorem GU{n:Nat}(h:n<10):txt (n:Int)=[UInt8.ofNat (48+n)]:=by
 unfold txt dgB;rw [if_neg (by omega),Int.natAbs_natCast,Ou h];rfl
theorem nA:Lg 4 0 ug 0=[(7,0,0),(4,0,2),(7,0,1),(6,0,0)]:=by decide +kernel
theorem zwq:strOf (Du [(7,0,0),(4,0,2),(7,0,1),(6,0,0)])={ data:=#[97,48,44,48,32,101,48,44,50,32,97,48,44,49,32,99] }:=by
 have h0:txt 0=[48]:=GU (n:=0) (by decide);have h1:txt 1=[49]:=GU (n:=1) (by decide);have h2:txt 2=[50]:=GU (n:=2) (by decide);have e:Du [(7,0,0),(4,0,2),(7,0,1),(6,0,0)]=[97,48,44,48,32,101,48,44,50,32,97,48,44,49,32,99]:=by
  simp [Du,V6,h0,h1,h2,qJ]
 rw [e];rfl
theorem zm:ZT 5 0 ug 2=0/\ZT 4 0 ug 0=0:=by decide +kernel
theorem nC:(Lg 5 0 ug 2).length=11:=by
 have h:Lg 5 0 ug 2=nY ug 2:=by unfold Lg;rw [if_pos zm.1];rfl
 rw [h,iy,qW.2.1];decide +kernel
theorem gQ(w:World)(hfix:Fixed w)(hg:1<w.heap.size)(hp:PT w):Calls prog 11 #[] w fun e w'=>e=.returned (.bool true)/\Below w.heap.size w w':=by
 have HX:Hid (∀ (w':World) (A:Option Addr) (c:Nat),Sl w' w'.heap.size A [.bool false,.int .i64 0,.slice none 0 0]->Calls prog 12 #[.agg #[.int .i64 4,.int .i64 0,.slice A 1 c,.int .i64 0]] w' fun e w2 =>
  ∃ v,e=.returned (.tuple #[v,.int .i64 0])/\w2.ownsRow w'.heap.size 66 3 v 4 (Y5 [(7,0,0),(4,0,2),(7,0,1),(6,0,0)])/\Below w'.heap.size w' w2):=hide fun w' A c hs=>by
  have h:=Qm 4 0 0 ug A c w' hs (by decide) (by rw [nA];decide);rw [nA,zm.2] at h;exact h
 have HCt:Hid (∀ (w':World) (A:Option Addr) (c:Nat),Sl w' w'.heap.size A [.bool false,.int .i64 0,.slice none 0 0]->Calls prog 14 #[.agg #[.int .i64 5,.int .i64 0,.slice A 1 c,.int .i64 2]] w' fun e w2 =>
  e=.returned (.tuple #[.int .i64 11,.int .i64 0])/\Below w'.heap.size w' w2):=hide fun w' A c hs=>by
  have h:=Ch 5 0 2 ug A c w' hs (by decide) (by rw [nC];decide);rw [nC,zm.1] at h;exact h
 have HCk:Hid (∀ (w':World),Below w.heap.size w w'->Calls prog 17 #[.slice none 0 0] w' fun e w2=>e=.returned (.tuple #[.int .i64 0,.int .i64 4])/\Below w'.heap.size w' w2):=hide fun w' hb=>by
  have h:=Cg [] none 0 w' (Sl.nil _ _ _) (by decide) (fun j x h=>by simp at h) (by decide) (hfix.below hb hg) (Nat.lt_of_lt_of_le hg hb.size) (by decide);exact h
 have HFm:Hid (∀ (w':World) (A:Option Addr) (c:Nat),Below w.heap.size w w'->Sl w' w'.heap.size A (Y5 [(7,0,0),(4,0,2),(7,0,1),(6,0,0)])->Calls prog 19 #[.slice A 4 c] w' fun e w2=>e=.returned (.string { data:=#[97,48,44,48,32,101,48,44,50,32,97,48,44,49,32,99] })/\Below w'.heap.size w' w2):=hide fun w' A c hb hs=>by
  have h:=EM [(7,0,0),(4,0,2),(7,0,1),(6,0,0)] (by
   intro e he;simp only [List.mem_cons,List.not_mem_nil,or_false] at he
   rcases he with rfl|rfl|rfl|rfl <;> (unfold EvJ Yu;decide)) (by decide) A c w' hs (hp.step hb)
  rw [zwq] at h;exact h
 clear hfix hg hp;go_enter func11,ntmps11;have hb1:=Z7 (Below.refl w.heap.size w) (.cells #[.bool false,.int .i64 0,.slice none 0 0] 61);have N1:=Z6.new w 61 #[.bool false,.int .i64 0,.slice none 0 0];have X1:=hide (HX.out _ (some ⟨w.heap.size,0,none⟩) 1 (.inr ⟨w.heap.size,0,rfl,N1.lt,fun j u hu=>by rw [Nat.zero_add];exact N1.cell (by simpa using hu)⟩));have HB1:=hide hb1;clear N1 hb1 HX;go_wp2_with fail;refine X1.out.mono ?_;rintro e w2 ⟨v,rfl,Zj,hb2⟩;obtain ⟨A2,c2,rfl,_⟩:=ZJ Zj;have HB2:=hide (Z9 HB1.out hb2);have S2:=hide (Sl.YI Zj);have hb3:=Z7 (Below.refl w2.heap.size w2) (.cells #[.bool false,.int .i64 0,.slice none 0 0] 61);have N3:=Z6.new w2 61 #[.bool false,.int .i64 0,.slice none 0 0];have X3:=hide (HCt.out _ (some ⟨w2.heap.size,0,none⟩) 1 (.inr ⟨w2.heap.size,0,rfl,N3.lt,fun j u hu=>by rw [Nat.zero_add];exact N3.cell (by simpa using hu)⟩));have HB3:=hide (Z9 HB2.out hb3);have S3:=hide ((S2.out.below hb3).more hb3.size);clear Zj hb2 hb3 N3 X1 HCt;go_wp2_with fail;refine X3.out.mono ?_;rintro e w4 ⟨rfl,hb4⟩;have Qv:=hide (Z9 HB3.out hb4);have S4:=hide ((S3.out.below hb4).more hb4.size);clear hb4 X3;go_wp2_with fail;refine (HCk.out w4 Qv.out).mono ?_;rintro e w5 ⟨rfl,hb5⟩;have fK:=hide (Z9 Qv.out hb5);have F5:=hide (HFm.out w5 A2 c2 fK.out ((S4.out.below hb5).more hb5.size));clear hb5;go_wp2_with fail;refine F5.out.mono ?_;rintro e w6 ⟨rfl,hb6⟩;have fM:=hide (Z9 fK.out hb6);clear hb6;go_wp2;go_ret;exact ⟨rfl,fM.out⟩
end
section
open Go.RowKit Go.Shelf
theorem ztv(op vs Z0:Int)(rs:List Rg)(HA:Option Addr)(hc:Nat)(w:World)(hh:Sl w w.heap.size HA (rgCells rs))(hz:ZT op vs rs Z0=0)(Qq:op=5->Z0<=100):
 Calls prog 34 #[.agg #[.int .i64 op,.int .i64 vs,.slice HA rs.length hc,.int .i64 Z0]] w (Evs (Sd op vs rs Z0) w):=by
 obtain ⟨-,-,c3,-,c5,-,c7,-⟩:=Zp hz;have N0:=Z6.new w 24 #[.int .i64 op,.int .i64 vs,.slice HA rs.length hc,.int .i64 Z0];have hb0:=Z7 (Below.refl w.heap.size w) (.cells #[.int .i64 op,.int .i64 vs,.slice HA rs.length hc,.int .i64 Z0] 24);have b0:=N0.q0 rfl;have b1:=N0.q1 rfl;have b2:=N0.q2 rfl;have b3:=N0.q3 rfl
 by_cases h5:op=5
 · subst h5;obtain ⟨l1,aO,hwr⟩:=c5 (by omega);obtain ⟨p1,-⟩:=c7 rfl;have zld:=Qq rfl;obtain ⟨n,rfl⟩:∃ n:Nat,Z0=(n:Int):=⟨Z0.toNat,by omega⟩;have H:=hide (ztu rs HA hc n _ ((hh.below hb0).more hb0.size) aO (Pf hwr) (by omega) (by omega));have he:Sd 5 vs rs (n:Int)=nY rs n:=rfl;rw [he];clear c3 c5 c7 hwr hz Qq hh he N0 p1 zld l1 aO;go_enter func34,ntmps34;go_wp2_with fail;refine H.out.mono ?_;rintro e w1 ⟨v,rfl,ZQ,hb1⟩;obtain ⟨A,c,rfl,_⟩:=ZJ ZQ;go_wp2;go_ret;exact ⟨A,c,rfl,Sl.YI ZQ,Z9 hb0 hb1⟩
 · have H:=hide (Eu op vs Z0 rs HA hc _ ((hh.below hb0).more hb0.size) c3 (fun h=>⟨(c5 (by omega)).1,(c5 (by omega)).2.1,Pf (c5 (by omega)).2.2⟩));have he:Sd op vs rs Z0=mG op vs rs:=if_neg h5;rw [he];clear c3 c5 c7 hz Qq hh he N0;go_enter func34,ntmps34;go_wp2_with fail;refine H.out.mono ?_;rintro e w1 ⟨A,c,rfl,hs,hb1⟩;go_wp2;go_ret;exact ⟨A,c,rfl,hs,Z9 hb0 hb1⟩
section
variable (bs:List Int)(A:Option Addr)(c:Nat)(w:World)
variable (hs:Sl w w.heap.size A (ZY bs))(hby:By bs)(Qq:(Zz bs).1.qs.length<=100)
include hby Qq
theorem nZ(hc:Zb bs=0):(ZW bs).1.op=5->(ZW bs).1.Z0<=100:=fun h5=>by
 have h:=(Tc hby hc).2.2;unfold WX at h;rw [if_neg (by omega)] at h;omega
theorem Nl:(XC bs).length<=1000000:=by
 by_cases hc:Zb bs=0
 · obtain ⟨he,hz,_⟩:=Tc hby hc;have hp:=nZ bs hby Qq hc;obtain ⟨_,_,c3,_,c5,_,c7,_⟩:=Zp hz;rw [he];obtain ⟨⟨op,vs,rs,Z0⟩,hP⟩:∃ r,r=(ZW bs).1:=⟨_,rfl⟩;rw [<- hP] at hp c3 c5 c7 ⊢;dsimp only at hp c3 c5 c7 ⊢;unfold Sd
   by_cases h5:op=5
   · rw [if_pos h5];have h1:=hp h5;have h2:=c7 h5;obtain ⟨_,aO,_⟩:=c5 (by omega);have a1:=WJ 0 rs;have a2:=Ug aO Z0.toNat;have a3:=QB Z0.toNat;have a4:=SY (YZ (lg Z0.toNat));have a5:=KJ (n:=Z0.toNat) (by omega);unfold nY;rw [List.length_append,List.length_append,List.length_append];omega
   · rw [if_neg h5];unfold mG;split
     · have a1:=I7 vs.toNat;have a2:=VE (List.range (ZA vs.toNat));have a3:=(Kh vs.toNat).2;rw [List.length_range] at a2;rw [List.length_append];omega
     · split
       · obtain ⟨_,aO,_⟩:=c5 (by omega);have a1:=WJ 0 rs;have a2:=LH 0 rs;rw [List.length_append];omega
       · simp
 · rw [Nk hc];simp
include hs
theorem ztw:Calls prog 25 #[.slice A bs.length c] w (Evs (XC bs) w):=by
 have Oz:∀ (j:Nat) (x:Int),bs[j]?=some x->0<=x/\x<=255:=fun j x h=>hby x (List.mem_of_getElem? h);have RN:=hide (Qk bs A c w hs Oz);have Ls:=hide (fun (w':World) (hb:Below w.heap.size w w')=>P6 bs A c w' ((hs.below hb).more hb.size) Oz)
 by_cases hc:Zb bs=0
 · obtain ⟨he,hz,-⟩:=Tc hby hc;have hp:=nZ bs hby Qq hc;rw [he];rw [hc] at RN;obtain ⟨⟨⟨op,vs,rs,Z0⟩,n,er⟩,hP⟩:∃ r,r=ZW bs:=⟨_,rfl⟩;rw [<- hP] at Ls hz hp ⊢;dsimp only at hz hp ⊢;have RO:=hide (fun (w':World) (B:Option Addr) (k:Nat) (h:Sl w' w'.heap.size B (rgCells rs))=>ztv op vs Z0 rs B k w' h hz hp);clear hP he hz hp hc hs hby Oz Qq;go_enter func25,ntmps25;go_wp2_with fail;refine RN.out.mono ?_;rintro e w1 ⟨rfl,hb1⟩;clear RN;go_wp2_with fail;refine (Ls.out w1 hb1).mono ?_;rintro e w2 ⟨PA,pc,rfl,hs2,hb2⟩;dsimp only at hs2 ⊢;have HB2:=Z9 hb1 hb2;have N3:=Z6.new w2 24 #[.int .i64 op,.int .i64 vs,.slice PA rs.length pc,.int .i64 Z0];have hb3:=Z7 (Below.refl w2.heap.size w2) (.cells #[.int .i64 op,.int .i64 vs,.slice PA rs.length pc,.int .i64 Z0] 24);have E3:=hide (RO.out _ PA pc ((hs2.below hb3).more hb3.size));have b0:=N3.q0 rfl;have b1:=N3.q1 rfl;have b2:=N3.q2 rfl;have b3:=N3.q3 rfl;clear hs2 Ls RO N3;go_wp2_with fail;refine E3.out.mono ?_;rintro e w4 ⟨EA,ec,rfl,hs4,hb4⟩;go_wp2;go_ret;exact ⟨EA,ec,rfl,hs4,Z9 (Z9 HB2 hb3) hb4⟩
 · rw [Nk hc];have hne:(Zb bs != 0)=true:=(by simpa using hc);clear Ls hs hby Oz Qq;go_enter func25,ntmps25;go_wp2_with fail;refine RN.out.mono ?_;rintro e w1 ⟨rfl,hb1⟩;clear RN;go_wp2;go_ret;exact ⟨none,0,rfl,Sl.nil _ _ _,hb1⟩
end
end
section
open Go.RowKit Go.Shelf
theorem jX{n:Nat}(h:n<=100):4161*n+(YZ (lg n)).length<=600000:=by
 have:=KJ h;omega
section
variable (bs:List Int)(A:Option Addr)(c:Nat)(w:World)
variable (hs:Sl w w.heap.size A (ZY bs))(hcap:bs.length<=c)(hby:By bs)(hfix:Fixed w)(hg:1<w.heap.size)(hw:MW w)
include hs hcap hby hfix hg hw
end
end
section
open Go.RowKit Go.Shelf
section
variable (bs:List Int)(A:Option Addr)(c:Nat)(w:World)
variable (hs:Sl w w.heap.size A (ZY bs))(hcap:bs.length<=c)(hby:By bs)(hfix:Fixed w)(hg:1<w.heap.size)(hw:MW w)
include hs hcap hby hfix hg hw
theorem lM(hmax:bs.length<=300000)(hl:4161*(Zz bs).1.qs.length+(YZ (lg (Zz bs).1.qs.length)).length<=600000)(hel:(XC bs).length<=1000000):
 Calls prog 22 #[.slice A bs.length c] w fun e w'=>∃ A1 c1 A2 c2,e=.returned (.tuple #[.slice A1 (Xj bs).length c1,.slice A2 (XC bs).length c2])/\Sl w' w'.heap.size A1 (ZY (Xj bs))/\Sl w' w'.heap.size A2 (Y5 (XC bs))/\Below w.heap.size w w':=by
 have HTR:=hide (fun (w':World) (hb:Below w.heap.size w w') (t:Option (Nat × Nat)) (hf:UU w' t)=>Ck t bs A c w' ((hs.below hb).more hb.size) hcap hby hmax (hfix.below hb hg) (Nat.lt_of_lt_of_le hg hb.size) (hw.step hb) hf (.inr hl));obtain ⟨es,hes⟩:=eE (XC bs);obtain ⟨SB,iJ⟩:=eE (Xj bs)
 have HSB:Hid (∀ t w' e w2,Nu t bs w' e w2->∃ A c,e=.returned (.slice A SB.length c)/\Z8 (NT t w'.heap.size) w' w2/\Tp w2 (NT t w'.heap.size) t es/\Sl w2 w2.heap.size A (ZY SB)):=hide fun t w' e w2 h=>by
  obtain ⟨A,c,he,_,hk,ht,hs⟩:=h;rw [hes,iJ];exact ⟨A,c,he,hk,ht,hs⟩
 rw [<- hes] at hel ⊢;rw [<- iJ];have HL:=hide hel;clear hs hcap hby hfix hg hw hes iJ hel hl hmax;go_enter func22,ntmps22;go_wp2_with fail;refine (wF w).mono ?_;rintro e w2 ⟨rfl,hb2,hf2⟩
 have HNT:Hid (∀ k,k<w.heap.size->NT (newT w) w2.heap.size k):=hide fun k hk=>by
  refine ⟨Nat.lt_of_lt_of_le hk hb2.size,fun u hu=>?_⟩;unfold newT at hu;injection hu with hu;subst hu;dsimp only;omega
 have HB2:=hide hb2;have T2:=hide (HTR.out w2 hb2 (newT w) hf2);clear hb2 hf2 HTR;go_wp2_with fail;refine T2.out.mono ?_;intro e w3 Qe;obtain ⟨A1,c1,rfl,hk3,ht3,hs3⟩:=HSB.out _ _ _ _ Qe;have HB3:Hid (Below w.heap.size w w3):=hide ⟨hk3.os.trans HB2.out.os,hk3.tape.trans HB2.out.tape,hk3.output.trans HB2.out.output,Nat.le_trans HB2.out.size hk3.size,fun k hk=>(hk3.block k (HNT.out k hk)).trans (HB2.out.block k hk)⟩;have E3:=hide (zM _ _ _ es w3 ht3 HL.out);have ng:=hide hs3;clear Qe hk3 ht3 hs3 T2 HNT HSB HB2;go_wp2_with fail;refine E3.out.mono ?_;rintro e w4 ⟨A2,c2,rfl,hs4,hb4⟩;have Qv:=hide (Z9 HB3.out hb4);have HS4:=hide hs4;have HS5:=hide ((ng.out.below hb4).more hb4.size);clear hs4 hb4 E3 ng HB3;go_wp2;go_ret2;exact ⟨A1,c1,A2,c2,rfl,HS5.out,HS4.out,Qv.out⟩
variable (hp:PT w)
include hp
theorem jW:Calls prog 7 #[.slice A bs.length c] w fun e w'=>e=.returned (.bool true)/\Below w.heap.size w w':=by
 have HK:=hide (lJ bs A c w hs hby);have dF:=hide (fun (w':World) (hb:Below w.heap.size w w')=>gQ w' (hfix.below hb hg) (Nat.lt_of_lt_of_le hg hb.size) (hp.step hb));have HEL:=hide (fun (Qq:(Zz bs).1.qs.length<=100)=>Nl bs hby Qq);have HOF:=hide (fun (w':World) (hb:Below w.heap.size w w') (hmax:bs.length<=6000) (Qq:(Zz bs).1.qs.length<=100)=>lM bs A c w' ((hs.below hb).more hb.size) hcap hby (hfix.below hb hg) (Nat.lt_of_lt_of_le hg hb.size) (hw.step hb) (by omega) (jX Qq) (Nl bs hby Qq));have tQ:=hide (fun (w':World) (hb:Below w.heap.size w w') (Qq:(Zz bs).1.qs.length<=100)=>ztw bs A c w' ((hs.below hb).more hb.size) hby Qq);have HRF:=hide (fun (w':World) (hb:Below w.heap.size w w') (hmax:bs.length<=6000)=>bQ bs A c w' ((hs.below hb).more hb.size) hby (by omega));obtain ⟨es,hes⟩:=eE (XC bs);obtain ⟨SB,iJ⟩:=eE (Xj bs);rw [<- hes] at HOF tQ HEL;rw [<- iJ] at HOF HRF;clear hs hcap hby hfix hg hw hp hes iJ;go_enter func7,ntmps7;go_wp2_with fail;refine HK.out.mono ?_;rintro e w1 ⟨z,rfl,hz,hT,HB1⟩;rcases hz with rfl|rfl
 · obtain ⟨h6,yx⟩:=hT rfl;have HL:=hide (HEL.out yx);have O1:=hide (HOF.out w1 HB1 h6 yx);have znf:=hide (fun (w':World) (hb:Below w.heap.size w w')=>tQ.out w' hb yx);have zne:=hide (fun (w':World) (hb:Below w.heap.size w w')=>HRF.out w' hb h6);clear hT h6 yx HRF tQ HOF HEL HK;go_wp2_with fail;refine O1.out.mono ?_;rintro e w2 ⟨A1,c1,A2,c2,rfl,hs1,hs2,hb2⟩;have HB2:=Z9 HB1 hb2;have Lv:=hide hs1;have HS2:=hide hs2;clear hs1 hs2 hb2 O1;go_wp2_with fail;refine (dF.out w2 HB2).mono ?_;rintro e w3 ⟨rfl,hb3⟩;have HB3:=Z9 HB2 hb3;have Jj:=hide ((Lv.out.below hb3).more hb3.size);have znh:=hide ((HS2.out.below hb3).more hb3.size);have R3:=hide (zne.out w3 HB3);clear hb3 Lv HS2 dF zne;go_wp2_with fail;refine R3.out.mono ?_;rintro e w4 ⟨WA,wc,rfl,hb4,hs4⟩;have Qv:=Z9 HB3 hb4;have zni:=hide ((znh.out.below hb4).more hb4.size);have E4:=hide (zL SB A1 WA c1 wc w4 ((Jj.out.below hb4).more hb4.size) hs4);clear hs4 hb4 Jj znh R3;go_wp2_with fail;refine E4.out.mono ?_;rintro e w5 ⟨rfl,rfl⟩;have R5:=hide (znf.out w4 Qv);clear E4 znf;go_wp2_with fail;refine R5.out.mono ?_;rintro e w6 ⟨A6,c6,rfl,hs6,hb6⟩;have fM:=Z9 Qv hb6;have S6:=hide (EH es A2 A6 c2 c6 w6 ((zni.out.below hb6).more hb6.size) hs6 (by have:=HL.out;unfold maxLen;omega));clear hs6 hb6 zni R5;go_wp2_with fail;refine S6.out.mono ?_;rintro e w7 ⟨rfl,Ju⟩;go_wp2;go_ret;exact ⟨rfl,Z9 fM Ju⟩
 · clear HOF tQ HRF HEL;go_wp2_with fail;refine (dF.out w1 HB1).mono ?_;rintro e w5 ⟨rfl,hb5⟩;go_wp2;go_ret;exact ⟨rfl,Z9 HB1 hb5⟩
end
end
end Go.Proofs.YtfljlmleiggmjaaGreatDoor