/- ScrMath LawTopScript -/
import Derived.BigQuiet
import Derived.Deep.QuietTactic
import Derived.Lib.SliceRun
import Derived.Test.YthnenedoblncjaaGreatDoorPkA18
import Derived.Test.YthnenedoblncjaaGreatDoorPkA22
import Derived.Test.YthnenedoblncjaaGreatDoorPkA47
import Derived.Test.YthnenedoblncjaaGreatDoorPkA48
set_option maxRecDepth 1000000
set_option maxHeartbeats 8000000
namespace Go.Proofs.YthnenedoblncjaaGreatDoor
open Go.Proofs.Tryz
section
open Go.RowKit Go.Shelf
theorem Gz{bs:List Int}(hby:By bs):By (YZ bs)/\(YZ bs).length<=100000:=by
 by_cases hc:YX bs=0
 · obtain ⟨_,_,_,_,_,_,_,_,_,_,hl,hb,_⟩:=wu hby hc;exact ⟨hb,hl⟩
 · rw [Kr hc];have:=OW bs;refine ⟨fun x hx=>?_,by simp⟩;rw [List.mem_singleton] at hx;omega
def Gm:List UInt8:=[114,101,113,117,101,115,116]
theorem zy{bs:List Int}(hby:By bs):sp 32 (Gm++32::XE bs)=[Gm,XE bs]:=by
 rw [jk (by decide),pQ (Ik hby)]
end
section
open Go.RowKit Go.Shelf
theorem oz(w:World):Calls prog 12 #[] w fun e w'=>e=.returned (.pointer (some ⟨w.heap.size,0,none⟩))/\w'=w.alloc (.cells #[.slice none 0 0,.slice none 0 0] 70):=by
 go_enter func12,ntmps12;go_wp2;go_ret;exact ⟨rfl,rfl⟩
section
variable (bs:List Int)(hby:By bs)(hne:bs≠[])(hn:bs.length<=6000)(w:World)(hfix:Fixed w)(hg:9<w.heap.size)(hw:MW w)
include hby hne hn hfix hg hw
theorem FZ(sA:Addr)(A:Option Addr)(c:Nat)(hs:Sl w w.heap.size A (Ri [XE bs])):Calls prog 101 #[.pointer (some sA),.slice A 1 c] w fun e w'=>e=.returned (.string (strOf (XE (YZ bs))))/\Below w.heap.size w w':=by
 obtain ⟨b,off,rfl,hb,hcell⟩:=hs.open_ (by simp [Ri]);have c0:=hcell 0 (.string (strOf (XE bs))) (wE rfl);rw [Nat.add_zero] at c0;have U:=hide (Eh bs hby hne (by omega) w);have jK:=hide (fun (w':World) (A:Option Addr) (hb:Below w.heap.size w w') (hs:Sl w' w'.heap.size A (ZY bs))=>Kq bs A bs.length w' hs (Nat.le_refl _) hby (by omega) (hfix.below hb hg) (Nat.lt_of_lt_of_le hg hb.size) (hw.step hb));obtain ⟨Cu,hl2⟩:=Gz hby;obtain ⟨X,hX⟩:=eE (YZ bs);rw [<- hX] at Cu hl2 jK ⊢;have aj:=hide Cu;have HL2:=hide hl2;obtain ⟨T,hT⟩:=eE (strOf (XE bs));obtain ⟨n,hnn⟩:=eE bs.length;rw [<- hT] at c0 U;rw [<- hnn] at U jK;clear hs hcell hby hne hn hfix hg hw hX Cu hl2 hT hnn;go_enter func101,ntmps101;go_wp2_with fail;refine U.out.mono ?_;rintro e w1 ⟨A1,rfl,hs1,hb1⟩;have V:=hide (jK.out w1 A1 hb1 hs1);clear jK U hs1 c0;go_wp2_with fail;refine V.out.mono ?_;rintro e w2 ⟨A2,c2,rfl,hc2,hb2,hs2⟩;have HX:=hide (l7 X A2 c2 w2 hs2 aj.out (by have:=HL2.out;omega));have HB2:=Z9 hb1 hb2;clear V hs2 hb2 hb1 hc2;go_wp2_with fail;refine HX.out.mono ?_;rintro e w3 ⟨rfl,hb3⟩;go_wp2;go_ret;exact ⟨rfl,Z9 HB2 hb3⟩
end
theorem Hz:∀ args w,(callFunc 101 args).run prog w=.ok (.enter 101 args) w:=enters_of func101 (by kernel_rfl) rfl
theorem lT:PN Gm=101:=by decide +kernel
section
variable (bs:List Int)(hby:By bs)(hne:bs≠[])(hn:bs.length<=6000)(w:World)(hfix:Fixed w)(hg:9<w.heap.size)(hw:MW w)
include hby hne hn hfix hg hw
theorem BU(sA:Addr):Calls prog 21 #[.pointer (some sA),.string (strOf (Gm++32::XE bs))] w fun e w'=>e=.returned (.string (strOf (XE (YZ bs))))/\Below w.heap.size w w':=by
 refine (rW (Gm++32::XE bs) Gm [XE bs] (by rw [List.length_append,List.length_cons,Sq];simp [Gm];omega) (zy hby) 101 lT sA w (by decide) Hz (fun t w'=>t=strOf (XE (YZ bs))/\Below w.heap.size w w') ?_).mono ?_
 · intro w1 A c hb hs hc;refine (FZ bs hby hne hn w1 (hfix.below hb hg) (Nat.lt_of_lt_of_le hg hb.size) (hw.step hb) sA A c hs).mono ?_;rintro e w2 ⟨rfl,hb2⟩;exact ⟨_,rfl,rfl,Z9 hb hb2⟩
 · rintro e w' ⟨t,rfl,rfl,hb⟩;exact ⟨rfl,hb⟩
end
section
variable (bs:List Int)(A:Option Addr)(c:Nat)(w:World)
variable (hs:Sl w w.heap.size A (ZY bs))(hby:By bs)(hfix:Fixed w)(hg:9<w.heap.size)(hw:MW w)
include hs hby hfix hg hw
theorem Ip:Calls prog 9 #[.slice A bs.length c] w fun e w'=>e=.returned (.bool true)/\Below w.heap.size w w':=by
 have HK:=hide (pO bs A c w hs hby);have jy:=hide (fun (w':World) (hb:Below w.heap.size w w')=>DZ w' (hfix.below hb hg) (Nat.lt_of_lt_of_le hg hb.size) (hw.step hb));have HS:=hide (fun (w':World) (hb:Below w.heap.size w w')=>(hs.below hb).more hb.size);have aA:=hide (fun (w':World) (hb:Below w.heap.size w w') (h0:bs≠[]) (hn:bs.length<=6000) (sA:Addr)=>BU bs hby h0 hn w' (hfix.below hb hg) (Nat.lt_of_lt_of_le hg hb.size) (hw.step hb) sA);have HRF:=hide (fun (w':World) (hb:Below w.heap.size w w') (hmax:bs.length<=300000)=>je bs A c w' ((hs.below hb).more hb.size) hby hmax);have HHX:=hide (fun (w':World) (hb:Below w.heap.size w w') (hmax:bs.length<=6000)=>Gt bs A c w' ((hs.below hb).more hb.size) hby (by omega));obtain ⟨Cu,hl2⟩:=Gz hby;obtain ⟨SB,hSB⟩:=eE (YZ bs);rw [<- hSB] at aA HRF Cu hl2;have aj:=hide Cu;have HL2:=hide hl2;obtain ⟨R,hR⟩:=eE (strOf (XE SB));rw [<- hR] at aA;obtain ⟨q,hq⟩:=eE bs.length;have HQ:=hide hq;rw [<- hq] at HK HRF HHX aA ⊢;have HRR:=hide hR;clear hs hby hfix hg hw hSB Cu hl2 hR
 by_cases h0:q=0
 · rw [h0];clear HK HRF HHX aA HQ hq h0 HS;go_enter func9,ntmps9;go_wp2_with fail;refine (jy.out w (Below.refl _ _)).mono ?_;rintro e w1 ⟨rfl,hb1⟩;go_wp2;go_ret;exact ⟨rfl,hb1⟩
 · have hz:((q:Int) == 0)=false:=(by rw [beq_eq_false_iff_ne];omega);have hbs:Hid (bs≠[]):=hide (by intro e;rw [e] at hq;exact h0 hq);clear hq;go_enter func9,ntmps9;go_wp2_with fail;refine HK.out.mono ?_;rintro e w1 ⟨z,rfl,hz1,hT,HB1⟩;rcases hz1 with rfl|rfl
   · obtain ⟨h6,-⟩:=hT rfl;have H6:Hid (q<=6000):=hide (by rw [HQ.out];exact h6);clear hT h6;go_wp2_with fail;refine (oz w1).mono ?_;rintro e w2 ⟨rfl,hw2⟩;have HB2:Below w.heap.size w w2:=(by rw [hw2];exact Z7 HB1 _);obtain ⟨sb,hsb⟩:=eE w1.heap.size;rw [<- hsb];clear hw2 hsb;go_wp2_with fail;refine (jy.out w2 HB2).mono ?_;rintro e w3 ⟨rfl,hb3⟩;have HB3:=Z9 HB2 hb3;have X3:=hide (HHX.out w3 HB3 H6.out);clear hb3 HHX;go_wp2_with fail;refine X3.out.mono ?_;rintro e w4 ⟨rfl,hb4⟩;have KX:=Z9 HB3 hb4;have D4:=hide (aA.out w4 KX hbs.out H6.out ⟨sb,0,none⟩);have hcs:¬ 9223372036854775807<8+(strOf (XE bs)).size:=by
      rw [VO,Sq,<- HQ.out];have:=H6.out;omega
     have HEQ:Hid (({ data:=#[114,101,113,117,101,115,116,32] }:ByteArray)++strOf (XE bs)=strOf (Gm++32::XE bs)):=hide (zN [114,101,113,117,101,115,116,32] (XE bs));clear hb4 X3 aA;go_wp2_with fail;rw [HEQ.out];refine D4.out.mono ?_;rintro e w5 ⟨rfl,hb5⟩;have kM:=Z9 KX hb5;have R5:=hide (HRF.out w5 kM (by have:=H6.out;omega));clear hb5 D4 hcs HRF;go_wp2_with fail;refine R5.out.mono ?_;rintro e w6 ⟨A6,c6,rfl,hb6,hs6⟩;have ah:=Z9 kM hb6;have X6:=hide (Gt SB A6 c6 w6 hs6 aj.out (by have:=HL2.out;omega));rw [<- HRR.out] at X6;clear hb6 hs6 R5;go_wp2_with fail;refine X6.out.mono ?_;rintro e w7 ⟨rfl,Nr⟩;have HB7:=Z9 ah Nr;clear Nr X6;go_wp2;go_ret;exact ⟨rfl,HB7⟩
   · clear aA HRF HHX;go_wp2_with fail;refine (jy.out w1 HB1).mono ?_;rintro e w5 ⟨rfl,hb5⟩;go_wp2;go_ret;exact ⟨rfl,Z9 HB1 hb5⟩
end
end
end Go.Proofs.YthnenedoblncjaaGreatDoor