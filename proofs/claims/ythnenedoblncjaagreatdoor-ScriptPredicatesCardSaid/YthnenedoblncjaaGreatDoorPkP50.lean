/- PredLine PredWord AlvMath ScrAlive LawScrPred -/
import Derived.BigQuiet
import Derived.ChangeAlike
import Derived.Deep.AppendLies
import Derived.Deep.CutBlock
import Derived.Deep.QuietTactic
import Derived.Deep.RegionLaw
import Derived.Deep.RegionWith
import Derived.Laws.Bits64b
import Derived.Lib.OthersKept
import Derived.Lib.SlTrimSet
import Derived.Lib.SliceRun
import Derived.Outline
import Derived.Shelf.Bits.Mul64
import Derived.Shelf.Small.Bits
import Derived.Shelf.Strings.Builder1
import Derived.Shelf.Strings.SlTrimAscii
import Derived.Test.YthnenedoblncjaaGreatDoorProg
import Derived.Test.YthnenedoblncjaaGreatDoorPkP47
import Derived.Test.YthnenedoblncjaaGreatDoorPkP48
import Derived.Test.YthnenedoblncjaaGreatDoorPkP49
set_option maxRecDepth 1000000
set_option maxHeartbeats 8000000
namespace Go.Proofs.YthnenedoblncjaaGreatDoor
section
open Go.RowKit Go.Shelf
def oriW:List UInt8:=[111,114,105,101,110,116]
def cirW:List UInt8:=[99,105,114,99,108,101]
def cvxW:List UInt8:=[99,111,110,118,101,120]
def memW:List UInt8:=[109,101,109,98,101,114]
def alwW:List UInt8:=[97,108,108,111,119]
def dnyW:List UInt8:=[100,101,110,121]
def doP (σ:St) (L:List UInt8):List UInt8 × St :=
 match sp 32 L with
 | []=>(errT 11,σ)
 | x::xs=>if x=oriW then orientR xs σ else if x=cirW then circleR xs σ else if x=cvxW then convexR xs σ else if x=memW then memberR xs σ else if x=alwW then addR false xs σ else addR true xs σ
def PLine (L:List UInt8):Prop:=L.length≤1000∧∃ x r,L=x++32::r∧(x=oriW∨x=cirW∨x=cvxW∨x=memW∨((x=alwW∨x=dnyW)∧∃ (kd:Bool) (q:List UInt8),r=(if kd then polyW else discW)++32::q))
theorem cmd_n32 {x:List UInt8} (h:x=oriW∨x=cirW∨x=cvxW∨x=memW∨x=alwW∨x=dnyW):32 ∉ x:=by
 rcases h with rfl | rfl | rfl | rfl | rfl | rfl <;> decide
theorem PLine.words {L:List UInt8} (h:PLine L):∃ x xs,sp 32 L=x::xs∧xs≠[]∧(∀ y∈xs,y.length≤1000)∧xs.length≤1000000∧(x=oriW∨x=cirW∨x=cvxW∨x=memW∨((x=alwW∨x=dnyW)∧∃ (kd:Bool) (ws:List (List UInt8)),xs=(if kd then polyW else discW)::ws∧ws≠[])):=by
 obtain ⟨hL,x,r,rfl,hx⟩:=h
 have hn:32 ∉ x:=cmd_n32 (by rcases hx with h | h | h | h | ⟨h | h,_⟩ <;> simp [h])
 have hsp:=sp_app hn r
 have hlen:=sp_len 32 (x++32::r)
 have hcnt:=List.count_le_length (a:=(32:UInt8)) (l:=x++32::r)
 refine ⟨x,sp 32 r,hsp,sp_ne 32 r,fun y hy=>?_,?_,?_⟩
 · have:=sp_mem_len 32 _ y (by rw [hsp];exact List.mem_cons_of_mem _ hy)
   omega
 · rw [hsp,List.length_cons] at hlen
   omega
 · rcases hx with h | h | h | h | ⟨h,kd,q,rfl⟩
   · exact .inl h
   · exact .inr (.inl h)
   · exact .inr (.inr (.inl h))
   · exact .inr (.inr (.inr (.inl h)))
   · refine .inr (.inr (.inr (.inr ⟨h,kd,sp 32 q,sp_app ?_ q,sp_ne 32 q⟩)))
     cases kd <;> decide
theorem ido (L:List UInt8) (hp:PLine L) {σ:St} {sb:Nat} {Wr Rd:Nat→Prop} (w:World) {B:Nat} (hs:SesAt σ sb Wr Rd w) (he:Env B w) (hWB:∀ k,Wr k→B≤k) :
 Calls Tryz.prog 21 #[.pointer (some ⟨sb,0,none⟩),.string (strOf L)] w (Ans23 (doP σ L) sb Wr Rd w):=by
 obtain ⟨x,xs,hsp,_,hl,hxn,hx⟩:=hp.words
 have hL1:L.length≤1000000:=by have:=hp.1;omega
 have hxl:∀ y∈xs,y.length≤1000000:=words_len hL1 hsp
 have hd:doP σ L=if x=oriW then orientR xs σ else if x=cirW then circleR xs σ else if x=cvxW then convexR xs σ else if x=memW then memberR xs σ else if x=alwW then addR false xs σ else addR true xs σ:=by unfold doP;rw [hsp]
 rw [hd]
 rcases hx with rfl | rfl | rfl | rfl | ⟨rfl | rfl,_⟩
 · exact do_ses L _ xs hL1 hsp 91 (by decide +kernel) (by decide) (enters_of Tryz.func91 (by kernel_rfl) rfl) _ w hs he fun w1 bb ob c gs vR vQ h hE hsl hc=>sorient_any xs bb ob c hc hxl hxn w1 h hsl hE
 · exact do_ses L _ xs hL1 hsp 92 (by decide +kernel) (by decide) (enters_of Tryz.func92 (by kernel_rfl) rfl) _ w hs he fun w1 bb ob c gs vR vQ h hE hsl hc=>scircle_any xs bb ob c hc hxl hxn w1 h hsl hE
 · exact do_ses L _ xs hL1 hsp 93 (by decide +kernel) (by decide) (enters_of Tryz.func93 (by kernel_rfl) rfl) _ w hs he fun w1 bb ob c gs vR vQ h hE hsl hc=>sconvex_any xs bb ob c hc hxl hxn w1 h hsl hE
 · exact do_ses L _ xs hL1 hsp 96 (by decide +kernel) (by decide) (enters_of Tryz.func96 (by kernel_rfl) rfl) _ w hs he fun w1 bb ob c gs vR vQ h hE hsl hc=>smember_any xs bb ob c hc hxl hxn w1 h hsl hE
 · exact do_ses L _ xs hL1 hsp 94 (by decide +kernel) (by decide) (enters_of Tryz.func94 (by kernel_rfl) rfl) _ w hs he fun w1 bb ob c gs vR vQ h hE hsl hc=>allow_any xs bb ob c hc hxl hxn w1 h hsl hE hWB
 · exact do_ses L _ xs hL1 hsp 95 (by decide +kernel) (by decide) (enters_of Tryz.func95 (by kernel_rfl) rfl) _ w hs he fun w1 bb ob c gs vR vQ h hE hsl hc=>deny_any xs bb ob c hc hxl hxn w1 h hsl hE hWB
theorem rdo (L:List UInt8) (hp:PLine L) {σ:St} {gb:Nat} {Rd:Nat→Prop} (w:World) (h:RAt σ.1 gb Rd w):Calls Tryz.prog 15 #[.pointer (some ⟨gb,0,none⟩),.string (strOf L)] w (RAns (doP σ L) gb Rd w):=by
 obtain ⟨x,xs,hsp,hx0,hl,hxn,hx⟩:=hp.words
 obtain ⟨gs,vR,vQ,h⟩:=h
 have hL1:L.length≤1000000:=by have:=hp.1;omega
 have hd:doP σ L=if x=oriW then orientR xs σ else if x=cirW then circleR xs σ else if x=cvxW then convexR xs σ else if x=memW then memberR xs σ else if x=alwW then addR false xs σ else addR true xs σ:=by unfold doP;rw [hsp]
 rw [hd]
 rcases hx with rfl | rfl | rfl | rfl | ⟨rfl | rfl,kd,ws,hxs,hw0⟩
 · exact rdo_orient L _ xs hL1 hsp hx0 hl w h rfl
 · exact rdo_circle L _ xs hL1 hsp hx0 hl w h rfl
 · exact rdo_convex L _ xs hL1 hsp hx0 hl w h rfl
 · exact rdo_member L _ xs hL1 hsp hx0 hl w h rfl
 · exact rdo_allow L _ xs hL1 hsp hx0 hl w h kd _ ws hxs hw0 rfl rfl
 · exact rdo_deny L _ xs hL1 hsp hx0 hl w h kd _ ws hxs hw0 rfl rfl
end
section
open Go.RowKit Go.Shelf
def wordT (p:Int × Int):List UInt8:=32::(txt p.1++32::txt p.2)
theorem pword_any (x y:Int) (hx:I64w x) (hy:I64w y) (w:World) (hp:PT w):Calls Tryz.prog 20 #[.agg #[.int .i64 x,.int .i64 y]] w fun e w'=>e=.returned (.string (strOf (wordT (x,y))))∧Below w.heap.size w w':=by
 obtain ⟨w0,hw0⟩:∃ w0,w0=w.alloc (.cells #[.int .i64 x,.int .i64 y] 41):=⟨_,rfl⟩
 have hb0:Below w.heap.size w w0:=by rw [hw0];exact bA
 have B0:Blk w0 w.heap.size 41 #[.int .i64 x,.int .i64 y]:=by rw [hw0];exact Blk.new _ _ _
 have HK:Hid (∀ X,Below w0.heap.size w0 X→Below w0.heap.size w0 X∧X.cell? ⟨w.heap.size,0,none⟩=some (.int .i64 x)∧X.cell? ⟨w.heap.size,1,none⟩=some (.int .i64 y)):=hide fun X hX=>⟨hX,(B0.step hX).cell (i:=0) rfl,(B0.step hX).cell (i:=1) rfl⟩
 have HK2:Hid (∀ X Y,(Below w0.heap.size w0 X∧X.cell? ⟨w.heap.size,0,none⟩=some (.int .i64 x)∧X.cell? ⟨w.heap.size,1,none⟩=some (.int .i64 y))→Below X.heap.size X Y→(Below w0.heap.size w0 Y∧Y.cell? ⟨w.heap.size,0,none⟩=some (.int .i64 x)∧Y.cell? ⟨w.heap.size,1,none⟩=some (.int .i64 y))):=hide fun X Y hX hb=>HK.out Y (bl_step hX.1 hb)
 have hd0:=HK.out w0.drew (bl_drew (Below.refl _ _))
 obtain ⟨_,g0,g1⟩:=HK.out w0 (Below.refl _ _)
 obtain ⟨S1,hS1⟩:∃ S,S=strOf (txt x):=⟨_,rfl⟩
 obtain ⟨S2,hS2⟩:∃ S,S=strOf (txt y):=⟨_,rfl⟩
 have HF1:Hid (∀ X,Below w0.heap.size w0 X→Calls Tryz.prog 48 #[.int .i64 x,.int .i64 10] X fun e w'=>e=.returned (.string S1)∧Below X.heap.size X w'):=hide fun X hX=>by rw [hS1];exact formatI_any x hx X (fun w' hb=>hp w' (bl_step (bl_step hb0 hX) hb))
 have HF2:Hid (∀ X,Below w0.heap.size w0 X→Calls Tryz.prog 48 #[.int .i64 y,.int .i64 10] X fun e w'=>e=.returned (.string S2)∧Below X.heap.size X w'):=hide fun X hX=>by rw [hS2];exact formatI_any y hy X (fun w' hb=>hp w' (bl_step (bl_step hb0 hX) hb))
 have z1:S1.size≤30:=by rw [hS1,strOf_size];exact txt_len hx
 have z2:S2.size≤30:=by rw [hS2,strOf_size];exact txt_len hy
 have HE:Hid (({ data:=#[32] }:ByteArray)++S1++({ data:=#[32] }:ByteArray)++S2=strOf (wordT (x,y))):=hide (by
  rw [hS1,hS2,show ({ data:=#[32] }:ByteArray)=strOf [32] from rfl,strOf_app,strOf_app,strOf_app]
  unfold wordT
  simp)
 have c1:¬ 9223372036854775807<1+S1.size:=by omega
 have c2:¬ 9223372036854775807<1+S1.size+1:=by omega
 have c3:¬ 9223372036854775807<1+S1.size+1+S2.size:=by omega
 have HB0:=hide hb0
 clear hb0 B0 hS1 hS2 hx hy hp z1 z2
 go_enter Tryz.func20,Tryz.ntmps20
 go_wp2
 rw [← hw0]
 clear hw0
 go_region_held3 (fun w'=>Below w0.heap.size w0 w'∧w'.cell? ⟨w.heap.size,0,none⟩=some (.int .i64 x)∧w'.cell? ⟨w.heap.size,1,none⟩=some (.int .i64 y))
  (first | with_reducible exact hd0 | with_reducible exact HK2.out _ _ (by assumption) (by assumption))
  (first
    | (go_at_call 48;((with_reducible refine (HF1.out _ (And.left (by assumption))).mono ?_);rintro e w4 ⟨rfl,hb4⟩))
    | (go_at_call 48;((with_reducible refine (HF2.out _ (And.left (by assumption))).mono ?_);rintro e w5 ⟨rfl,hb5⟩)))
 all_goals
  go_wp2
  go_ret
  exact ⟨by rw [← HE.out];rfl,bl_step HB0.out (And.left (by assumption))⟩
def triT (p0 p1 p2:Int × Int):List UInt8:=wordT p0++wordT p1++wordT p2
def prLines (t w3:List UInt8):List (List UInt8):=[oriW++t,cirW++t++w3,cvxW++t++w3,[97,108,108,111,119,32,100,105,115,99]++t,memW++w3,[100,101,110,121,32,112,111,108,121,103,111,110]++t,memW++w3]
theorem word_len {x y:Int} (hx:I64w x) (hy:I64w y):(wordT (x,y)).length≤62:=by
 have h1:=txt_len hx
 have h2:=txt_len hy
 unfold wordT
 simp only [List.length_cons,List.length_append]
 omega
theorem pr_lines {t w3 a b:List UInt8} (ht:t=32::a) (hw:w3=32::b) (l1:t.length≤200) (l2:w3.length≤200):∀ L∈prLines t w3,PLine L:=by
 intro L hL
 have e1:[97,108,108,111,119,32,100,105,115,99]++t=alwW++32::(discW++32::a):=by rw [ht];rfl
 have e2:[100,101,110,121,32,112,111,108,121,103,111,110]++t=dnyW++32::(polyW++32::a):=by rw [ht];rfl
 have hlen:L.length≤1000:=by
  simp only [prLines,List.mem_cons,List.not_mem_nil,or_false] at hL
  rcases hL with rfl | rfl | rfl | rfl | rfl | rfl | rfl <;> simp [oriW,cirW,cvxW,memW] <;> omega
 refine ⟨hlen,?_⟩
 simp only [prLines,List.mem_cons,List.not_mem_nil,or_false] at hL
 rcases hL with h | h | h | h | h | h | h
 · exact ⟨oriW,a,by rw [h,ht],.inl rfl⟩
 · exact ⟨cirW,a++w3,by rw [h,ht,List.append_assoc];rfl,.inr (.inl rfl)⟩
 · exact ⟨cvxW,a++w3,by rw [h,ht,List.append_assoc];rfl,.inr (.inr (.inl rfl))⟩
 · exact ⟨alwW,_,by rw [h,e1];rfl,.inr (.inr (.inr (.inr ⟨.inl rfl,false,a,rfl⟩)))⟩
 · exact ⟨memW,b,by rw [h,hw],.inr (.inr (.inr (.inl rfl)))⟩
 · exact ⟨dnyW,_,by rw [h,e2];rfl,.inr (.inr (.inr (.inr ⟨.inr rfl,true,a,rfl⟩)))⟩
 · exact ⟨memW,b,by rw [h,hw],.inr (.inr (.inr (.inl rfl)))⟩
end
section
open Go.RowKit Go.Shelf
def aL1:List UInt8:=[97,108,108,111,119,32,100,105,115,99,32,53,32,48,32,48,32,53,32,45,53,32,48]
def aL2:List UInt8:=[97,100,100,32,55,32,51,32,52]
def aL3:List UInt8:=[97,100,100,32,56,32,52,32,52]
def aL4:List UInt8:=[114,117,110]
def aL5:List UInt8:=[109,101,109,98,101,114,32,49]
def aL6:List UInt8:=[99,108,101,97,114]
def aText:List UInt8:=[97,108,108,111,119,32,100,105,115,99,32,53,32,48,32,48,32,53,32,45,53,32,48,10,97,100,100,32,55,32,51,32,52,10,97,100,100,32,56,32,52,32,52,10,114,117,110]
theorem aText_lns:lns aText=[aL1,aL2,aL3,aL4]:=by decide +kernel
theorem aL1_sp:sp 32 aL1=[97,108,108,111,119]::[[100,105,115,99],[53],[48],[48],[53],[45,53],[48]]:=by decide +kernel
theorem aL2_sp:sp 32 aL2=[97,100,100]::[[55],[51],[52]]:=by decide +kernel
theorem aL3_sp:sp 32 aL3=[97,100,100]::[[56],[52],[52]]:=by decide +kernel
theorem aL4_sp:sp 32 aL4=[114,117,110]::[]:=by decide +kernel
theorem aL5_sp:sp 32 aL5=[109,101,109,98,101,114]::[[49]]:=by decide +kernel
theorem aL6_sp:sp 32 aL6=[99,108,101,97,114]::[]:=by decide +kernel
def aDo (σ:St) (l:List UInt8):List UInt8 × St :=
 if l=aL1 then addR false [[100,105,115,99],[53],[48],[48],[53],[45,53],[48]] σ else if l=aL2 then queryR [[55],[51],[52]] σ else if l=aL3 then queryR [[56],[52],[52]] σ else if l=aL4 then runR [] σ else if l=aL5 then memberR [[49]] σ else clearR [] σ
theorem aDo1 (σ:St):aDo σ aL1=addR false [[100,105,115,99],[53],[48],[48],[53],[45,53],[48]] σ:=rfl
theorem aDo2 (σ:St):aDo σ aL2=queryR [[55],[51],[52]] σ:=rfl
theorem aDo3 (σ:St):aDo σ aL3=queryR [[56],[52],[52]] σ:=rfl
theorem aDo4 (σ:St):aDo σ aL4=runR [] σ:=rfl
theorem aDo5 (σ:St):aDo σ aL5=memberR [[49]] σ:=rfl
theorem aDo6 (σ:St):aDo σ aL6=clearR [] σ:=rfl
def aS1:St:=([(false,0,[(5,0),(0,5),(-5,0)])],[])
def aS2:St:=([(false,0,[(5,0),(0,5),(-5,0)])],[((3,4),7)])
def aS3:St:=([(false,0,[(5,0),(0,5),(-5,0)])],[((3,4),7),((4,4),8)])
theorem a1:aDo ([],[]) aL1=(txt 1,aS1):=by kernel_rfl
theorem a2:aDo aS1 aL2=(txt 1,aS2):=by kernel_rfl
theorem a3:aDo aS2 aL3=(txt 2,aS3):=by kernel_rfl
theorem a4r:runA aS3=⟨1,1,[(1,7),(0,0)]⟩:=by kernel_rfl
theorem txt_dg {n:Nat} (h:n<10):txt (n:Int)=[UInt8.ofNat (48+n)]:=by
 unfold txt dgB
 rw [if_neg (by omega),Int.natAbs_natCast,dr_small h]
 rfl
theorem a4:aDo aS3 aL4=([49,32,55],aS3):=by
 rw [aDo4]
 unfold runR
 rw [if_neg (by decide),if_neg (by decide)]
 unfold runT
 rw [a4r,if_neg (by decide)]
 have e1:txt 1=[49]:=txt_dg (n:=1) (by decide)
 have e2:dgB 7=[55]:=by unfold dgB;rw [dr_small (by decide)];rfl
 show (Lib.join (txt 1::[dgB 7]) [32],aS3)=_
 rw [e1,e2]
 rfl
theorem a5:aDo aS3 aL5=(errT 11,aS3):=by kernel_rfl
theorem a6 (σ:St):aDo σ aL6=([111,107],([],[])):=by kernel_rfl
def aAns (s:List (List UInt8)) (l:List UInt8):List UInt8:=(aDo (stL aDo ([],[]) s) l).1
theorem aS_4:stL aDo ([],[]) [aL1,aL2,aL3,aL4]=aS3:=by
 unfold stL
 simp only [List.foldl_cons,List.foldl_nil,a1,a2,a3,a4]
theorem a_lines:ansL aAns [] (lns aText)=[[49],[49],[50],[49,32,55]]:=by
 rw [aText_lns]
 simp only [ansL,aAns,stL,List.nil_append,List.cons_append,List.foldl_cons,List.foldl_nil,a1,a2,a3,a4]
 rw [show txt 1=[49] from txt_dg (n:=1) (by decide),show txt 2=[50] from txt_dg (n:=2) (by decide)]
theorem a_mem:aAns (lns aText) aL5=errT 11:=by
 unfold aAns
 rw [aText_lns,aS_4,a5]
theorem a_clr:aAns (lns aText++[aL5]) aL6=[111,107]:=by
 unfold aAns
 rw [a6]
def aT (l:List UInt8):Prop:=l=aL1∨l=aL2∨l=aL3∨l=aL4∨l=aL5∨l=aL6
theorem aC1:cmdOf [97,108,108,111,119]=94:=by decide +kernel
theorem aC2:cmdOf [97,100,100]=97:=by decide +kernel
theorem aC3:cmdOf [97,100,100]=97:=by decide +kernel
theorem aC4:cmdOf [114,117,110]=98:=by decide +kernel
theorem aC5:cmdOf [109,101,109,98,101,114]=96:=by decide +kernel
theorem aC6:cmdOf [99,108,101,97,114]=102:=by decide +kernel
theorem aE_allow:∀ args w,(callFunc 94 args).run Tryz.prog w=.ok (.enter 94 args) w:=enters_of Tryz.func94 (by kernel_rfl) rfl
theorem aE_clear:∀ args w,(callFunc 102 args).run Tryz.prog w=.ok (.enter 102 args) w:=enters_of Tryz.func102 (by kernel_rfl) rfl
theorem aE_member:∀ args w,(callFunc 96 args).run Tryz.prog w=.ok (.enter 96 args) w:=enters_of Tryz.func96 (by kernel_rfl) rfl
theorem aE_query:∀ args w,(callFunc 97 args).run Tryz.prog w=.ok (.enter 97 args) w:=enters_of Tryz.func97 (by kernel_rfl) rfl
theorem aE_run:∀ args w,(callFunc 98 args).run Tryz.prog w=.ok (.enter 98 args) w:=enters_of Tryz.func98 (by kernel_rfl) rfl
theorem a_do (B sb:Nat) (line:List UInt8) (ht:aT line) (σ:St) (Wr Rd:Nat→Prop) (X:World) (_:True) (hs:SesAt σ sb Wr Rd X) (he:Env B X) (hWB:∀ k,Wr k→B≤k) :
 Calls Tryz.prog 21 #[.pointer (some ⟨sb,0,none⟩),.string (strOf line)] X (Ans23 (aDo σ line) sb Wr Rd X):=by
 rcases ht with rfl | rfl | rfl | rfl | rfl | rfl
 · rw [aDo1]
   exact do_ses aL1 _ _ (by decide) aL1_sp _ aC1 (by decide) aE_allow _ X hs he fun w1 bb ob c gs vR vQ h hE hsl hc=>allow_any ([[100,105,115,99],[53],[48],[48],[53],[45,53],[48]]) bb ob c hc (by decide) (by decide) w1 h hsl hE hWB
 · rw [aDo2]
   exact do_ses aL2 _ _ (by decide) aL2_sp _ aC2 (by decide) aE_query _ X hs he fun w1 bb ob c gs vR vQ h hE hsl hc=>squery_any ([[55],[51],[52]]) bb ob c hc (by decide) w1 h hsl hE hWB
 · rw [aDo3]
   exact do_ses aL3 _ _ (by decide) aL3_sp _ aC3 (by decide) aE_query _ X hs he fun w1 bb ob c gs vR vQ h hE hsl hc=>squery_any ([[56],[52],[52]]) bb ob c hc (by decide) w1 h hsl hE hWB
 · rw [aDo4]
   exact do_ses aL4 _ _ (by decide) aL4_sp _ aC4 (by decide) aE_run _ X hs he fun w1 bb ob c gs vR vQ h hE hsl hc=>srun_any ([]) (some ⟨bb,ob,none⟩) c h hE
 · rw [aDo5]
   exact do_ses aL5 _ _ (by decide) aL5_sp _ aC5 (by decide) aE_member _ X hs he fun w1 bb ob c gs vR vQ h hE hsl hc=>smember_any ([[49]]) bb ob c hc (by decide) (by decide) w1 h hsl hE
 · rw [aDo6]
   exact do_ses aL6 _ _ (by decide) aL6_sp _ aC6 (by decide) aE_clear _ X hs he fun w1 bb ob c gs vR vQ h hE hsl hc=>clear_any ([]) (some ⟨bb,ob,none⟩) c h hE
theorem a_inv (B sb:Nat):DoInv B 100 aT (.pointer (some ⟨sb,0,none⟩)) aAns (SesInv B aDo ([],[]) sb):=ses_inv B 100 aT (fun _=>True) aDo ([],[]) sb (fun _ _=>trivial) (a_do B sb)
end
section
open Go.RowKit Go.Shelf
theorem ses_new (w:World):SesAt ([],[]) w.heap.size (fun k=>k=w.heap.size) (fun _=>False) (w.alloc (.cells #[.slice none 0 0,.slice none 0 0] 70)) :=
 ⟨[],_,_,rfl,Blk.new _ _ _,World.ownsRow_nil _ _ _ _,World.ownsRow_nil _ _ _ _,rfl,fun k e=>(by cases e),fun k e=>(by cases e),fun k e=>(by cases e),fun g hg=>(by cases hg),fun k h=>h.elim,fun k hk=>by rw [hk];simp,fun k h=>h.elim,fun g hg=>(by cases hg),fun q hq=>(by cases hq),by decide,by decide⟩
theorem new_inv {B:Nat} {w:World} (he:Env B w) (f:St→List UInt8→List UInt8 × St):SesInv B f ([],[]) w.heap.size (fun k=>k=w.heap.size) (fun _=>False) [] (w.alloc (.cells #[.slice none 0 0,.slice none 0 0] 70)) :=
 ⟨ses_new w,he.new (bA),fun k hk=>by rw [hk];exact he.1,fun k hk=>by
   rcases hk with rfl | hk
   · exact ⟨_,Blk.new _ _ _,rfl⟩
   · exact hk.elim⟩
theorem equalS_true (xs:List (List UInt8)) (A A':Option Addr) (c c':Nat) (w:World) (hn:xs.length≤1000000) (hs:Sl w w.heap.size A (strCs xs)) (hs':Sl w w.heap.size A' (strCs xs)) :
 Calls Tryz.prog 16 #[.slice A xs.length c,.slice A' xs.length c'] w fun e w'=>e=.returned (.bool true)∧Below w.heap.size w w':=by
 have strb:∀ (b off:Nat),(∀ j u,(strCs xs)[j]?=some u→w.cell? ⟨b,off+j,none⟩=some u)→∀ j,j<(xs.map strOf).length→w.cell? ⟨b,off+j,none⟩=some (.string ((xs.map strOf).getD j ByteArray.empty)):=fun b off hc j hj=>by
  rw [List.length_map] at hj
  have h2:xs[j]?=some xs[j]:=List.getElem?_eq_getElem hj
  rw [hc j _ (strCs_at h2),List.getD_eq_getElem?_getD,List.getElem?_map,h2];rfl
 by_cases h0:xs=[]
 · subst h0
   refine (Any.slices_Equal_string_empty Tryz.lays193 A A' c 0 c' w (by omega)).mono ?_
   rintro e w' ⟨rfl,rfl⟩
   exact ⟨rfl,Below.refl _ _⟩
 · obtain ⟨b,off,rfl,hb,hc⟩:=hs.open_ (by unfold strCs;rw [List.length_map];exact List.length_pos_iff.2 h0)
   obtain ⟨b',off',rfl,hb',hc'⟩:=hs'.open_ (by unfold strCs;rw [List.length_map];exact List.length_pos_iff.2 h0)
   refine (Any.slices_Equal_string Tryz.lays193 b off xs.length c b' off' xs.length c' (xs.map strOf) (xs.map strOf) w (by simp) (by simp) (by omega) (by omega) (strb b off hc) (strb b' off' hc')).mono ?_
   rintro e w' ⟨rfl,q,rfl⟩
   refine ⟨?_,bl_drewN (Below.refl _ _) q⟩
   rw [decide_eq_true rfl]
theorem err_11:strOf (errT 11)={ data:=#[101,114,114,111,114,32,49,49] }:=by
 unfold errT txt dgB
 rw [if_neg (by decide),show (11:Int).natAbs=11 from rfl,dr_big (by decide),dr_small (by decide)]
 rfl
theorem ok_lit:strOf [111,107]={ data:=#[111,107] }:=rfl
def aRes:List (List UInt8):=[[49],[49],[50],[49,32,55]]
section
variable (w:World) {B:Nat} (he:Env B w)
include he
theorem alive23:Calls Tryz.prog 11 #[] w fun e w'=>e=.returned (.bool true)∧Below w.heap.size w w':=by
 obtain ⟨w1,hw1⟩:∃ w1,w1=w.alloc (.cells #[.slice none 0 0,.slice none 0 0] 70):=⟨_,rfl⟩
 have hb1:Below w.heap.size w w1:=by rw [hw1];exact bA
 obtain ⟨sb,hsb⟩:∃ sb,sb=w.heap.size:=⟨_,rfl⟩
 have D:=a_inv sb sb
 have h1:SesInv sb aDo ([],[]) sb (fun k=>k=sb) (fun _=>False) [] w1:=by
  rw [hw1,hsb]
  exact new_inv (B:=w.heap.size) ⟨Nat.le_refl _,fun w' hb=>he.2 w' (bl_low hb he.1)⟩ aDo
 have HR:=hide (sRun_any D aText (by decide) (fun l hl=>by
  rw [aText_lns] at hl
  simp only [List.mem_cons,List.not_mem_nil,or_false] at hl
  rcases hl with h | h | h | h
  · exact .inl h
  · exact .inr (.inl h)
  · exact .inr (.inr (.inl h))
  · exact .inr (.inr (.inr (.inl h)))) w1 _ _ [] h1 (by rw [aText_lns];decide))
 have HD:=hide D
 have HB1:Hid (Below sb w w1):=hide (by rw [hsb];exact hb1)
 have HSB:Hid (sb<w1.heap.size):=hide (by rw [hw1,hsb];simp)
 have HN:=hide (snew_any w)
 rw [← hw1,← hsb] at HN
 rw [← hsb]
 clear he D h1 hb1 hw1 hsb
 go_enter Tryz.func11,Tryz.ntmps11
 go_wp2_with fail
 refine HN.out.mono ?_
 rintro e w' ⟨rfl,hw'⟩
 subst hw'
 go_wp2_with fail
 refine HR.out.mono ?_
 rintro e w2 ⟨W,R,v,rfl,hi2,hvd,hW,-,hown,hk2⟩
 rw [a_lines,aText_lns] at hown
 have hown:w2.ownsRow w'.heap.size 9 1 v 4 (strCs aRes):=hown
 obtain ⟨VA,vc,rfl,-⟩:=own_slice hown
 obtain ⟨w3,hw3⟩:∃ w3,w3=w2.alloc (.cells #[.string { data:=#[49] },.string { data:=#[49] },.string { data:=#[50] },.string { data:=#[49,32,55] }] 9):=⟨_,rfl⟩
 obtain ⟨g3,hg3⟩:∃ g3,g3=w2.heap.size:=⟨_,rfl⟩
 have hb3:Below w2.heap.size w2 w3:=by rw [hw3];exact bA
 have N3:Blk w3 g3 9 (strCs aRes).toArray:=by rw [hw3,hg3];exact Blk.new _ _ _
 have hs3:Sl w3 w3.heap.size VA (strCs aRes):=((Sl.of_own hown).below hb3).more hb3.size
 have ht3:Sl w3 w3.heap.size (some ⟨g3,0,none⟩) (strCs aRes):=Sl.mk N3.lt fun j u hu=>by rw [Nat.zero_add];exact N3.cell (by simpa using hu)
 have HEQ:=hide (equalS_true aRes VA (some ⟨g3,0,none⟩) vc 4 w3 (by decide) hs3 ht3)
 have HI2:=hide hi2;have HW:=hide hW;have HK2:=hide hk2;have HB3:=hide hb3
 clear hi2 hvd hW hown hk2 hb3 N3 hs3 ht3 HR
 go_wp2_with fail
 rw [← hw3,← hg3]
 clear hw3 hg3
 refine HEQ.out.mono ?_
 rintro e w4 ⟨rfl,hb4⟩
 have hi4:=HD.out.keep HI2.out (KeepP.of_below (bl_step HB3.out hb4) fun k hk=>by
  have h2:=HK2.out.size
  have h3:=HSB.out
  rcases hk with hk | hk
  · omega
  · exact cellB_lt (HD.out.cell HI2.out k hk))
 have HDO:=hide (HD.out.step aL5 (.inr (.inr (.inr (.inr (.inl rfl))))) (by rw [aText_lns];decide) hi4)
 rw [List.nil_append,a_mem,err_11] at HDO
 have HB4:=hide (bl_step HB3.out hb4)
 clear hi4 hb4 HEQ
 go_wp2_with fail
 refine HDO.out.mono ?_
 rintro e w5 ⟨rfl,W5,R5,hi5,hW5,-,hk5⟩
 have HD6:=hide (HD.out.step aL6 (.inr (.inr (.inr (.inr (.inr rfl))))) (by rw [aText_lns];decide) hi5)
 rw [a_clr,ok_lit] at HD6
 have HW5:=hide hW5;have HK5:=hide hk5
 clear hi5 hW5 hk5 HDO
 go_wp2_with fail
 refine HD6.out.mono ?_
 rintro e w6 ⟨rfl,-,-,-,-,-,hk6⟩
 have HK6:=hide hk6
 clear hk6 HD6
 go_wp2
 go_ret
 refine ⟨rfl,?_⟩
 have h2:=HK2.out.size
 have h4:=HB4.out.size
 have h5:=HK5.out.size
 have h3:=HSB.out
 have hWs:∀ k,W k→sb≤k:=fun k hk=>by rcases HW.out k hk with h | h <;> omega
 refine bl_trans HB1.out (bl_trans (HK2.out.below fun k hk=>⟨by omega,by omega⟩) (bl_trans (bl_low HB4.out (by omega)) (bl_trans (HK5.out.below fun k hk=>⟨by omega,fun h=>by have:=hWs k h;omega⟩) (HK6.out.below fun k hk=>⟨by omega,fun h=>?_⟩))))
 rcases HW5.out k h with h | h
 · have:=hWs k h;omega
 · omega
end
end
section
open Go.RowKit Go.Shelf
theorem rnew_any (w:World):Calls Tryz.prog 13 #[] w fun e w'=>e=.returned (.pointer (some ⟨w.heap.size,0,none⟩))∧w'=w.alloc (.cells #[.slice none 0 0,.slice none 0 0] 72):=by
 go_enter Tryz.func13,Tryz.ntmps13
 go_wp2
 go_ret
 exact ⟨rfl,rfl⟩
theorem pinv (B sb:Nat):DoInv B 100 PLine (.pointer (some ⟨sb,0,none⟩)) (fun s l=>(doP (stL doP ([],[]) s) l).1) (SesInv B doP ([],[]) sb) :=
 ses_inv B 100 _ (fun _=>True) doP ([],[]) sb (fun _ _=>trivial) (fun line ht _ _ _ X _ hs he hWB=>ido line ht X hs he hWB)
structure Both (B sb gb lo:Nat) (s:List (List UInt8)) (w4 X:World):Prop where
 ex:∃ W R Rr:Nat→Prop,SesInv B doP ([],[]) sb W R s X∧RAt (stL doP ([],[]) s).1 gb Rr X∧(∀ j,W j→j=sb∨lo≤j)∧(∀ j,R j→lo≤j)∧(∀ j,Rr j→lo≤j)∧∀ j,W j→¬ Rr j
 keep:KeepP (fun j=>j<lo∧j≠sb∧j≠gb) w4 X
theorem both_step {B sb gb lo:Nat} {s:List (List UInt8)} {w4 X:World} (h:Both B sb gb lo s w4 X) (hlo:sb<lo∧gb<lo∧sb≠gb∧B≤gb∧B≤sb) (hX:lo≤X.heap.size) (L:List UInt8) (hp:PLine L) (hs:s.length<100) (an:ByteArray) (han:an=strOf (doP (stL doP ([],[]) s) L).1) :
 Calls Tryz.prog 21 #[.pointer (some ⟨sb,0,none⟩),.string (strOf L)] X fun e Y=>e=.returned (.string an)∧Calls Tryz.prog 15 #[.pointer (some ⟨gb,0,none⟩),.string (strOf L)] Y fun e Z=>e=.returned (.string an)∧Both B sb gb lo (s++[L]) w4 Z∧X.heap.size≤Z.heap.size:=by
 obtain ⟨⟨W,R,Rr,hi,⟨gs,vR,vQ,hr⟩,hW,hR,hRr,hd⟩,hk⟩:=h
 have D:=pinv B sb
 refine (D.step L hp hs hi).mono ?_
 rintro e Y ⟨rfl,W',R',hi',hW',hR',hk'⟩
 refine ⟨by rw [han],?_⟩
 have hz1:X.heap.size≤Y.heap.size:=hk'.size
 have hrY:RAt (stL doP ([],[]) s).1 gb Rr Y:=⟨gs,vR,vQ,hr.kept (hk'.mono fun j hj=>by
  rcases hj with rfl | hj
  · exact ⟨by omega,fun h=>by rcases hW _ h with h | h <;> omega⟩
  · exact ⟨hr.rlt j hj,fun h=>hd j h hj⟩)⟩
 refine (rdo L hp Y hrY).mono ?_
 rintro e Z ⟨rfl,Rr',hr',hRr',hk2⟩
 have hz2:Y.heap.size≤Z.heap.size:=hk2.size
 have hlt:∀ j,W' j∨R' j→j<Y.heap.size:=fun j hj=>cellB_lt (D.cell hi' j hj)
 have hW1:∀ j,W' j→j=sb∨lo≤j:=fun j h=>by
  rcases hW' j h with h | h
  · exact hW j h
  · omega
 have hR1:∀ j,R' j→lo≤j:=fun j h=>by
  rcases hR' j h with h | h
  · exact hR j h
  · omega
 refine ⟨by rw [han],⟨⟨W',R',Rr',D.keep hi' (hk2.mono fun j hj=>?_),?_,hW1,hR1,fun j h=>?_,fun j h1 h2=>?_⟩,?_⟩,by omega⟩
 · have hB:=(D.low hi').1
   rcases hj with hj | hj | hj
   · exact ⟨by omega,by omega⟩
   · exact ⟨hlt j (.inl hj),fun e=>by rcases hW1 j hj with h | h <;> omega⟩
   · exact ⟨hlt j (.inr hj),fun e=>by have:=hR1 j hj;omega⟩
 · unfold stL
   rw [List.foldl_append]
   exact hr'
 · rcases hRr' j h with h | h
   · exact hRr j h
   · omega
 · have h3:=hlt j (.inl h1)
   rcases hRr' j h2 with h | h
   · rcases hW' j h1 with h4 | h4
     · exact hd j h4 h
     · have:=hr.rlt j h;omega
   · omega
 · refine (hk.trans (hk'.mono fun j hj=>⟨by omega,fun h=>?_⟩)).trans (hk2.mono fun j hj=>⟨by omega,hj.2.2⟩)
   rcases hW j h with h | h
   · exact hj.2.1 h
   · omega
theorem both_start {B sb gb:Nat} {X:World} (h1:Blk X sb 70 #[.slice none 0 0,.slice none 0 0]) (h2:Blk X gb 72 #[.slice none 0 0,.slice none 0 0]) (he:Env B X) (hB:B≤sb):Both B sb gb X.heap.size [] X X :=
 ⟨⟨fun k=>k=sb,fun _=>False,fun _=>False,
   ⟨⟨[],_,_,rfl,h1,World.ownsRow_nil _ _ _ _,World.ownsRow_nil _ _ _ _,rfl,fun k e=>(by cases e),fun k e=>(by cases e),fun k e=>(by cases e),fun g hg=>(by cases hg),fun k h=>h.elim,fun k hk=>by rw [hk];exact h1.lt,fun k h=>h.elim,fun g hg=>(by cases hg),fun q hq=>(by cases hq),by decide,by decide⟩,he,fun k hk=>by rw [hk];exact hB,fun k hk=>by
     rcases hk with hk | hk
     · rw [hk];exact ⟨_,h1,rfl⟩
     · exact hk.elim⟩,
   ⟨[],_,_,rfl,h2,World.ownsRow_nil _ _ _ _,fun k e=>(by cases e),fun g hg=>(by cases hg),fun h=>h,fun k h=>h.elim⟩,fun j h=>.inl h,fun j h=>h.elim,fun j h=>h.elim,fun j _ h=>h⟩,KeepP.refl _ _⟩
section
variable (a1 a2 b1 b2 c1 c2 d1 d2:Int) (ha:PJ (a1,a2)) (hb:PJ (b1,b2)) (hc:PJ (c1,c2)) (hd:PJ (d1,d2)) (w:World) {B:Nat} (he:Env B w)
include ha hb hc hd he
theorem lawScrPred:Calls Tryz.prog 5 #[.agg #[.int .i64 a1,.int .i64 a2,.int .i64 b1,.int .i64 b2,.int .i64 c1,.int .i64 c2,.int .i64 d1,.int .i64 d2]] w fun e w'=>e=.returned (.bool true)∧Below w.heap.size w w':=by
 have HAL:=hide (fun (X:World) (hb:Below w.heap.size w X)=>alive23 X (he.new hb))
 have HEN:Hid (Env w.heap.size w):=hide ⟨Nat.le_refl _,fun w' hb=>he.2 w' (bl_low hb he.1)⟩
 have HA:I64w a1∧I64w a2:=by unfold PJ J64 at ha;unfold I64w;omega
 have HB:I64w b1∧I64w b2:=by unfold PJ J64 at hb;unfold I64w;omega
 have HC:I64w c1∧I64w c2:=by unfold PJ J64 at hc;unfold I64w;omega
 have HD:I64w d1∧I64w d2:=by unfold PJ J64 at hd;unfold I64w;omega
 obtain ⟨w0,hw0⟩:∃ w0,w0=w.alloc (.cells #[.int .i64 a1,.int .i64 a2,.int .i64 b1,.int .i64 b2,.int .i64 c1,.int .i64 c2,.int .i64 d1,.int .i64 d2] 60):=⟨_,rfl⟩
 have hb0:Below w.heap.size w w0:=by rw [hw0];exact bA
 have N0:Blk w0 w.heap.size 60 #[.int .i64 a1,.int .i64 a2,.int .i64 b1,.int .i64 b2,.int .i64 c1,.int .i64 c2,.int .i64 d1,.int .i64 d2]:=by rw [hw0];exact Blk.new _ _ _
 have hz0:w0.heap.size=w.heap.size+1:=by rw [hw0];simp
 obtain ⟨w1,hw1⟩:∃ w1,w1=w0.alloc (.cells #[.slice none 0 0,.slice none 0 0] 70):=⟨_,rfl⟩
 obtain ⟨sb,hsb⟩:∃ sb,sb=w0.heap.size:=⟨_,rfl⟩
 have hb1:Below w0.heap.size w0 w1:=by rw [hw1];exact bA
 have N1:Blk w1 sb 70 #[.slice none 0 0,.slice none 0 0]:=by rw [hw1,hsb];exact Blk.new _ _ _
 have hz1:w1.heap.size=sb+1:=by rw [hw1,hsb];simp
 obtain ⟨w2,hw2⟩:∃ w2,w2=w1.alloc (.cells #[.slice none 0 0,.slice none 0 0] 72):=⟨_,rfl⟩
 obtain ⟨gb,hgb⟩:∃ gb,gb=w1.heap.size:=⟨_,rfl⟩
 have hb2:Below w1.heap.size w1 w2:=by rw [hw2];exact bA
 have N2:Blk w2 gb 72 #[.slice none 0 0,.slice none 0 0]:=by rw [hw2,hgb];exact Blk.new _ _ _
 have hz2:w2.heap.size=gb+1:=by rw [hw2,hgb];simp
 have HS:=hide (snew_any w0)
 have HR:=hide (rnew_any w1)
 rw [← hw1,← hsb] at HS
 rw [← hw2,← hgb] at HR
 have hb12:=bl_step hb1 hb2
 have hb02:=bl_step hb0 hb12
 have HK:Hid (∀ X,Below w2.heap.size w2 X→Below w2.heap.size w2 X∧X.cell? ⟨w.heap.size,0,none⟩=some (.int .i64 a1)∧X.cell? ⟨w.heap.size,1,none⟩=some (.int .i64 a2)∧X.cell? ⟨w.heap.size,2,none⟩=some (.int .i64 b1)∧X.cell? ⟨w.heap.size,3,none⟩=some (.int .i64 b2)∧X.cell? ⟨w.heap.size,4,none⟩=some (.int .i64 c1)∧X.cell? ⟨w.heap.size,5,none⟩=some (.int .i64 c2)∧X.cell? ⟨w.heap.size,6,none⟩=some (.int .i64 d1)∧X.cell? ⟨w.heap.size,7,none⟩=some (.int .i64 d2)):=hide fun X hX=>by
  have hN:=(N0.step hb12).step hX
  exact ⟨hX,hN.cell (i:=0) rfl,hN.cell (i:=1) rfl,hN.cell (i:=2) rfl,hN.cell (i:=3) rfl,hN.cell (i:=4) rfl,hN.cell (i:=5) rfl,hN.cell (i:=6) rfl,hN.cell (i:=7) rfl⟩
 have HK2:Hid (∀ X Y,(Below w2.heap.size w2 X∧X.cell? ⟨w.heap.size,0,none⟩=some (.int .i64 a1)∧X.cell? ⟨w.heap.size,1,none⟩=some (.int .i64 a2)∧X.cell? ⟨w.heap.size,2,none⟩=some (.int .i64 b1)∧X.cell? ⟨w.heap.size,3,none⟩=some (.int .i64 b2)∧X.cell? ⟨w.heap.size,4,none⟩=some (.int .i64 c1)∧X.cell? ⟨w.heap.size,5,none⟩=some (.int .i64 c2)∧X.cell? ⟨w.heap.size,6,none⟩=some (.int .i64 d1)∧X.cell? ⟨w.heap.size,7,none⟩=some (.int .i64 d2))→Below X.heap.size X Y→(Below w2.heap.size w2 Y∧Y.cell? ⟨w.heap.size,0,none⟩=some (.int .i64 a1)∧Y.cell? ⟨w.heap.size,1,none⟩=some (.int .i64 a2)∧Y.cell? ⟨w.heap.size,2,none⟩=some (.int .i64 b1)∧Y.cell? ⟨w.heap.size,3,none⟩=some (.int .i64 b2)∧Y.cell? ⟨w.heap.size,4,none⟩=some (.int .i64 c1)∧Y.cell? ⟨w.heap.size,5,none⟩=some (.int .i64 c2)∧Y.cell? ⟨w.heap.size,6,none⟩=some (.int .i64 d1)∧Y.cell? ⟨w.heap.size,7,none⟩=some (.int .i64 d2))):=hide fun X Y hX hb=>HK.out Y (bl_step hX.1 hb)
 have hPT:∀ X,Below w2.heap.size w2 X→PT X:=fun X hX=>((HEN.out.new hb02).new hX).pt
 obtain ⟨W0,hW0⟩:∃ W,W=strOf (wordT (a1,a2)):=⟨_,rfl⟩
 have zW0:W0.size≤62:=by rw [hW0,strOf_size];exact word_len HA.1 HA.2
 have HW0:Hid (∀ X,Below w2.heap.size w2 X→Calls Tryz.prog 20 #[.agg #[.int .i64 a1,.int .i64 a2]] X fun e w'=>e=.returned (.string W0)∧Below X.heap.size X w'):=hide fun X hX=>by rw [hW0];exact pword_any a1 a2 HA.1 HA.2 X (hPT X hX)
 obtain ⟨W1,hW1⟩:∃ W,W=strOf (wordT (b1,b2)):=⟨_,rfl⟩
 have zW1:W1.size≤62:=by rw [hW1,strOf_size];exact word_len HB.1 HB.2
 have HW1:Hid (∀ X,Below w2.heap.size w2 X→Calls Tryz.prog 20 #[.agg #[.int .i64 b1,.int .i64 b2]] X fun e w'=>e=.returned (.string W1)∧Below X.heap.size X w'):=hide fun X hX=>by rw [hW1];exact pword_any b1 b2 HB.1 HB.2 X (hPT X hX)
 obtain ⟨W2,hW2⟩:∃ W,W=strOf (wordT (c1,c2)):=⟨_,rfl⟩
 have zW2:W2.size≤62:=by rw [hW2,strOf_size];exact word_len HC.1 HC.2
 have HW2:Hid (∀ X,Below w2.heap.size w2 X→Calls Tryz.prog 20 #[.agg #[.int .i64 c1,.int .i64 c2]] X fun e w'=>e=.returned (.string W2)∧Below X.heap.size X w'):=hide fun X hX=>by rw [hW2];exact pword_any c1 c2 HC.1 HC.2 X (hPT X hX)
 obtain ⟨W3,hW3⟩:∃ W,W=strOf (wordT (d1,d2)):=⟨_,rfl⟩
 have zW3:W3.size≤62:=by rw [hW3,strOf_size];exact word_len HD.1 HD.2
 have HW3:Hid (∀ X,Below w2.heap.size w2 X→Calls Tryz.prog 20 #[.agg #[.int .i64 d1,.int .i64 d2]] X fun e w'=>e=.returned (.string W3)∧Below X.heap.size X w'):=hide fun X hX=>by rw [hW3];exact pword_any d1 d2 HD.1 HD.2 X (hPT X hX)
 obtain ⟨T,hT⟩:∃ T,T=W0++W1++W2:=⟨_,rfl⟩
 have zT:T.size≤186:=by rw [hT];simp only [ByteArray.size_append];omega
 have hTl:T=strOf (triT (a1,a2) (b1,b2) (c1,c2)):=by rw [hT,hW0,hW1,hW2,strOf_app,strOf_app];rfl
 have hd0:=HK.out w2.drew (bl_drew (Below.refl _ _))
 obtain ⟨_,g0,g1,g2,g3,g4,g5,g6,g7⟩:=HK.out w2 (Below.refl _ _)
 have c1':¬ 9223372036854775807<W0.size+W1.size:=by omega
 have c2':¬ 9223372036854775807<W0.size+W1.size+W2.size:=by omega
 have HZ:Hid (w.heap.size<sb∧sb<gb∧gb+1=w2.heap.size):=hide ⟨by omega,by omega,by omega⟩
 have HB02:=hide hb02;have HN1:=hide (N1.step hb2);have HN2:=hide N2;have HT:=hide hTl;have HW3L:=hide hW3;have HZT:=hide (And.intro zT zW3)
 clear ha hb hc hd he HA HB HC HD hb0 hb1 hb2 hb12 hb02 N0 N1 N2 hz0 hz1 hz2 hPT hW0 hW1 hW2 hW3 zW0 zW1 zW2 zW3 zT hTl
 go_enter Tryz.func5,Tryz.ntmps5
 go_wp2_with fail
 rw [← hw0]
 clear hw0
 refine HS.out.mono ?_
 rintro e x1 ⟨rfl,hx1⟩
 rw [hx1]
 clear HS hw1 hsb hx1
 go_wp2_with fail
 refine HR.out.mono ?_
 rintro e x2 ⟨rfl,hx2⟩
 rw [hx2]
 clear HR hw2 hgb hx2
 go_wp2
 go_region_held3 (fun w'=>Below w2.heap.size w2 w'∧w'.cell? ⟨w.heap.size,0,none⟩=some (.int .i64 a1)∧w'.cell? ⟨w.heap.size,1,none⟩=some (.int .i64 a2)∧w'.cell? ⟨w.heap.size,2,none⟩=some (.int .i64 b1)∧w'.cell? ⟨w.heap.size,3,none⟩=some (.int .i64 b2)∧w'.cell? ⟨w.heap.size,4,none⟩=some (.int .i64 c1)∧w'.cell? ⟨w.heap.size,5,none⟩=some (.int .i64 c2)∧w'.cell? ⟨w.heap.size,6,none⟩=some (.int .i64 d1)∧w'.cell? ⟨w.heap.size,7,none⟩=some (.int .i64 d2))
  (first | with_reducible exact hd0 | with_reducible exact HK2.out _ _ (by assumption) (by assumption))
  (first
    | (go_at_call 20;((with_reducible refine (HW0.out _ (And.left (by assumption))).mono ?_);rintro e w4 ⟨rfl,hb4⟩))
    | (go_at_call 20;((with_reducible refine (HW1.out _ (And.left (by assumption))).mono ?_);rintro e w5 ⟨rfl,hb5⟩))
    | (go_at_call 20;((with_reducible refine (HW2.out _ (And.left (by assumption))).mono ?_);rintro e w6 ⟨rfl,hb6⟩)))
 have hb26:Below w2.heap.size w2 w6:=And.left (by assumption)
 have HK5:Hid (∀ X,Below w6.heap.size w6 X→Below w6.heap.size w6 X∧X.cell? ⟨w.heap.size,6,none⟩=some (.int .i64 d1)∧X.cell? ⟨w.heap.size,7,none⟩=some (.int .i64 d2)):=hide fun X hX=>⟨hX,(HK.out X (bl_step hb26 hX)).2.2.2.2.2.2.2.1,(HK.out X (bl_step hb26 hX)).2.2.2.2.2.2.2.2⟩
 have HK6:Hid (∀ X Y,(Below w6.heap.size w6 X∧X.cell? ⟨w.heap.size,6,none⟩=some (.int .i64 d1)∧X.cell? ⟨w.heap.size,7,none⟩=some (.int .i64 d2))→Below X.heap.size X Y→(Below w6.heap.size w6 Y∧Y.cell? ⟨w.heap.size,6,none⟩=some (.int .i64 d1)∧Y.cell? ⟨w.heap.size,7,none⟩=some (.int .i64 d2))):=hide fun X Y hX hb=>HK5.out Y (bl_step hX.1 hb)
 have HV:Hid (∀ X,Below w6.heap.size w6 X→Calls Tryz.prog 20 #[.agg #[.int .i64 d1,.int .i64 d2]] X fun e w'=>e=.returned (.string W3)∧Below X.heap.size X w'):=hide fun X hX=>HW3.out X (bl_step hb26 hX)
 have hd6:=HK5.out w6.drew (bl_drew (Below.refl _ _))
 obtain ⟨_,q0,q1⟩:=HK5.out w6 (Below.refl _ _)
 have HB26:=hide hb26
 have zT:=HZT.out.1
 have zW:=HZT.out.2
 have m1:¬ 9223372036854775807<6+T.size:=by omega
 have m2:¬ 9223372036854775807<6+T.size+W3.size:=by omega
 have m3:¬ 9223372036854775807<10+T.size:=by omega
 have m4:¬ 9223372036854775807<6+W3.size:=by omega
 have m5:¬ 9223372036854775807<12+T.size:=by omega
 rw [← hT]
 clear hb26 HK HK2 HW0 HW1 HW2 HW3 hd0 g0 g1 g2 g3 g4 g5 g6 g7 c1' c2' zT zW hT
 go_wp2
 go_region_held3 (fun w'=>Below w6.heap.size w6 w'∧w'.cell? ⟨w.heap.size,6,none⟩=some (.int .i64 d1)∧w'.cell? ⟨w.heap.size,7,none⟩=some (.int .i64 d2))
  (first | with_reducible exact hd6 | with_reducible exact HK6.out _ _ (by assumption) (by assumption) | with_reducible exact HK6.out _ _ (by assumption) (bA))
  (first
    | (go_at_call 20;((with_reducible refine (HV.out _ (And.left (by assumption))).mono ?_);rintro e w7 ⟨rfl,hb7⟩)))
 obtain ⟨w8,hw8⟩:∃ w8,w8=w7.alloc (.cells #[.string (({ data:=#[111,114,105,101,110,116] }:ByteArray)++T),.string (({ data:=#[99,105,114,99,108,101] }:ByteArray)++T++W3),.string (({ data:=#[99,111,110,118,101,120] }:ByteArray)++T++W3),.string (({ data:=#[97,108,108,111,119,32,100,105,115,99] }:ByteArray)++T),.string (({ data:=#[109,101,109,98,101,114] }:ByteArray)++W3),.string (({ data:=#[100,101,110,121,32,112,111,108,121,103,111,110] }:ByteArray)++T),.string (({ data:=#[109,101,109,98,101,114] }:ByteArray)++W3)] 9):=⟨_,rfl⟩
 have h68:Below w6.heap.size w6 w8:=by rw [hw8];exact And.left (by assumption)
 obtain ⟨bl,hbl⟩:∃ bl,bl=w7.heap.size:=⟨_,rfl⟩
 have hz8:w8.heap.size=bl+1:=by rw [hw8,hbl];simp
 have N8:Blk w8 bl 9 #[.string (({ data:=#[111,114,105,101,110,116] }:ByteArray)++T),.string (({ data:=#[99,105,114,99,108,101] }:ByteArray)++T++W3),.string (({ data:=#[99,111,110,118,101,120] }:ByteArray)++T++W3),.string (({ data:=#[97,108,108,111,119,32,100,105,115,99] }:ByteArray)++T),.string (({ data:=#[109,101,109,98,101,114] }:ByteArray)++W3),.string (({ data:=#[100,101,110,121,32,112,111,108,121,103,111,110] }:ByteArray)++T),.string (({ data:=#[109,101,109,98,101,114] }:ByteArray)++W3)]:=by rw [hw8,hbl];exact Blk.new _ _ _
 have hN8:=N8
 rw [HT.out,HW3L.out] at hN8
 have e8:(#[.string (({ data:=#[111,114,105,101,110,116] }:ByteArray)++strOf (triT (a1,a2) (b1,b2) (c1,c2))),.string (({ data:=#[99,105,114,99,108,101] }:ByteArray)++strOf (triT (a1,a2) (b1,b2) (c1,c2))++strOf (wordT (d1,d2))),.string (({ data:=#[99,111,110,118,101,120] }:ByteArray)++strOf (triT (a1,a2) (b1,b2) (c1,c2))++strOf (wordT (d1,d2))),.string (({ data:=#[97,108,108,111,119,32,100,105,115,99] }:ByteArray)++strOf (triT (a1,a2) (b1,b2) (c1,c2))),.string (({ data:=#[109,101,109,98,101,114] }:ByteArray)++strOf (wordT (d1,d2))),.string (({ data:=#[100,101,110,121,32,112,111,108,121,103,111,110] }:ByteArray)++strOf (triT (a1,a2) (b1,b2) (c1,c2))),.string (({ data:=#[109,101,109,98,101,114] }:ByteArray)++strOf (wordT (d1,d2)))]:Array Value)=(strCs (prLines (triT (a1,a2) (b1,b2) (c1,c2)) (wordT (d1,d2)))).toArray:=by
  simp only [strCs,prLines,List.map_cons,List.map_nil,← strOf_app]
  rfl
 rw [e8] at hN8
 obtain ⟨tt,htt⟩:∃ t,t=triT (a1,a2) (b1,b2) (c1,c2):=⟨_,rfl⟩
 obtain ⟨wt,hwt⟩:∃ t,t=wordT (d1,d2):=⟨_,rfl⟩
 have lt:tt.length≤186:=by rw [htt,← strOf_size,← HT.out];exact HZT.out.1
 have lw:wt.length≤62:=by rw [hwt,← strOf_size,← HW3L.out];exact HZT.out.2
 have HPL:=hide (pr_lines (t:=tt) (w3:=wt) (a:=_) (b:=_) (by rw [htt];rfl) (by rw [hwt];rfl) (by omega) (by omega))
 rw [← htt,← hwt] at hN8
 obtain ⟨L,hL⟩:∃ L,L=prLines tt wt:=⟨_,rfl⟩
 rw [← hL] at hN8 HPL
 have HL7:Hid (L.length=7):=hide (by rw [hL];rfl)
 have h28:=bl_step HB26.out h68
 have hBS:=both_start (HN1.out.step h28) (HN2.out.step h28) (HEN.out.new (bl_step HB02.out h28)) (Nat.le_of_lt HZ.out.1)
 have HBS:=hide hBS;have HN8:=hide hN8;have H68:=hide (bl_step HB02.out h28)
 have hne:gb≠bl:=fun e=>by
  have h9:Blk w8 gb _ _:=HN2.out.step h28
  rw [e] at h9
  exact absurd (Option.some.inj (Eq.trans (Eq.symm h9) N8)) (by simp)
 have HZ8:Hid (gb<bl∧w8.heap.size=bl+1):=hide ⟨by have:=HZ.out;have:=h28.size;omega,hz8⟩
 rw [← hw8,← hbl]
 clear hw8 hne h68 hz8 N8 hN8 e8 lt lw htt hwt hL h28 hBS hbl
 go_wp2
 go_loopw [51] (fun i wr=>∃ k:Nat,k≤7∧i=.int .i64 (k:Int)∧Both w.heap.size sb gb w8.heap.size (L.take k) w8 wr)
  (fun i _=>7 - (intOf i).toNat)
 case atStart=>exact ⟨0,Nat.zero_le _,rfl,HBS.out⟩
 case round =>
  obtain ⟨k,hk,rfl,hB⟩:=hrel
  by_cases hk7:k<7
  · have hki:(k:Int)<7:=by omega
    have hz:=HZ.out
    have hz8:=HZ8.out
    have hl7:=HL7.out
    have hsz:=hB.keep.size
    obtain ⟨x,hx⟩:∃ x,L[k]?=some x:=⟨_,List.getElem?_eq_getElem (by omega)⟩
    have c0:wr.cell? ⟨bl,k,none⟩=some (.string (strOf x)):=by
     refine (hB.keep.cell (b:=bl) (o:=k) ⟨by omega,by omega,by omega⟩).trans ?_
     exact HN8.out.cell (i:=k) (by have:=strCs_at hx;simpa using this)
    obtain ⟨an,han⟩:∃ an,an=strOf (doP (stL doP ([],[]) (L.take k)) x).1:=⟨_,rfl⟩
    have DD:=hide (both_step hB ⟨by omega,by omega,by omega,by omega,by omega⟩ hsz x (HPL.out x (List.mem_of_getElem? hx)) (by rw [List.length_take];omega) an han)
    rw [show L.take k++[x]=L.take (k+1) by rw [List.take_add_one,hx];rfl] at DD
    obtain ⟨sx,hsx⟩:∃ sx,sx=strOf x:=⟨_,rfl⟩
    rw [← hsx] at c0 DD
    have hk7i:¬ (7:Int)≤(k:Int):=by omega
    clear hB hz hz8 hl7 hsz hx han hsx
    go_wp2_with fail
    refine DD.out.mono ?_
    rintro e x3 ⟨rfl,h3⟩
    have D3:=hide h3
    clear h3 DD
    go_wp2_with fail
    refine D3.out.mono ?_
    rintro e x4 ⟨rfl,h4,h5⟩
    have D4:=hide h4
    clear h4 h5 D3
    go_wp2
    go_roundw
    case rel=>exact ⟨k+1,by omega,by go_num,D4.out⟩
    case measure=>simp [intOf];omega
  · obtain rfl:k=7:=by omega
    have hB2:Below w.heap.size w wr:=bl_trans H68.out (hB.keep.below fun j hj=>⟨by have:=HZ.out;have:=HZ8.out;omega,by have:=HZ.out;omega,by have:=HZ.out;omega⟩)
    have AL:=hide (HAL.out wr hB2)
    have HB2:=hide hB2
    clear hB hB2
    go_wp2_with fail
    refine AL.out.mono ?_
    rintro e x3 ⟨rfl,h3⟩
    go_wp2
    go_ret
    exact ⟨rfl,bl_step HB2.out h3⟩
end
end
end Go.Proofs.YthnenedoblncjaaGreatDoor
