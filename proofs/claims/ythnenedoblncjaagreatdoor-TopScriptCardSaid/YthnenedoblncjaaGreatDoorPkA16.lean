/- Txt Cmds -/
import Derived.Maps.OwnSet
import Derived.Test.YthnenedoblncjaaGreatDoorPkA00
import Derived.Test.YthnenedoblncjaaGreatDoorPkA15
set_option maxRecDepth 1000000
set_option maxHeartbeats 8000000
namespace Go.Proofs.YthnenedoblncjaaGreatDoor
open Go.Proofs.Tryz
section
open Go.RowKit
def strOf(l:List UInt8):ByteArray:=⟨l.toArray⟩
theorem VO(l:List UInt8):(strOf l).size=l.length:=by simp [strOf,ByteArray.size]
theorem zN(a b:List UInt8):strOf a++strOf b=strOf (a++b):=by
 apply ByteArray.ext;simp [strOf]
def pd(m u:Nat):List Nat:=(List.range m).map fun i=>u / 65536 ^ i % 65536
end
section
open Go.RowKit Go.Maps
def Rl(v:Value):Option (DataW Unit × List MemPlace) :=
 match v with
 | .func (.func n) f c=>if f.size=0/\c.size=0 then some (.lit (.int .i64 n),[]) else some (.lit (.int .i64 0),[])
 | _=>some (.lit (.int .i64 0),[])
theorem rO{v:Value}{n:Nat}{ps:List MemPlace}(hn:n≠0)(h:Rl v=some (.lit (.int .i64 n),ps)):v=.func (.func n) #[] #[]:=by
 unfold Rl at h;split at h
 · rename_i m f c
   split at h
   · rename_i hz
     simp at h;obtain ⟨h,_⟩:=h;obtain rfl:m=n:=by first|exact h|exact Int.ofNat.inj h
     rw [Array.eq_empty_of_size_eq_zero hz.1,Array.eq_empty_of_size_eq_zero hz.2]
   · simp at h;omega
 · simp at h;omega
def cmds:List (List UInt8 × Nat):=[([97,100,100],97),([97,108,108,111,119],94),([99,105,114,99,108,101],92),([99,108,101,97,114],102),([99,111,110,118,101,120],93),([100,101,110,121],95),([101,110,99,111,100,101],99),([101,118,101,110,116,115],100),([109,101,109,98,101,114],96),([111,114,105,101,110,116],91),([114,101,113,117,101,115,116],101),([114,117,110],98)]
def PN(x:List UInt8):Nat:=match cmds.find? (fun p=>p.1 == x) with|some p=>p.2|none=>0
def lQ:DataW Unit:=(((((((((((((DataW.map []).put (.string [111,114,105,101,110,116]) (.lit (.int .i64 91))).put (.string [99,105,114,99,108,101]) (.lit (.int .i64 92))).put (.string [99,111,110,118,101,120]) (.lit (.int .i64 93))).put (.string [97,108,108,111,119]) (.lit (.int .i64 94))).put (.string [100,101,110,121]) (.lit (.int .i64 95))).put (.string [109,101,109,98,101,114]) (.lit (.int .i64 96))).put (.string [97,100,100]) (.lit (.int .i64 97))).put (.string [114,117,110]) (.lit (.int .i64 98))).put (.string [101,110,99,111,100,101]) (.lit (.int .i64 99))).put (.string [101,118,101,110,116,115]) (.lit (.int .i64 100))).put (.string [114,101,113,117,101,115,116]) (.lit (.int .i64 101))).put (.string [99,108,101,97,114]) (.lit (.int .i64 102)))
theorem WT(s:ByteArray)(h:s.size<=1000000):keyOf prog 9 (.string s)=some (.string s.data.toList):=WideMaps.keyOf_string_mk underlying9 (by unfold maxLen;omega)
theorem Yr:Keyed prog 9:=string_keyed underlying9
def Cmd(w:World)(b:Nat):Prop:=w.ownsMap prog 9 Rl b 12 lQ
theorem Hq(w:World):Calls prog 51 #[] w fun e w'=>e=.returned (.map (some w.heap.size))/\Below w.heap.size w w'/\Cmd w' w.heap.size:=by
 have hmm:=@run_makeMap prog;have FH:=World.ownsMap_made w prog 9 Rl;obtain ⟨w1,ztx,YN,hg1⟩:=FH.update Yr underlying98 (by unfold maxLen;omega) (WT ⟨#[111,114,105,101,110,116]⟩ (by decide)) (show Rl (.func (.func 91) #[] #[])=some (.lit (.int .i64 91),[]) from rfl);obtain ⟨w2,zty,V6,hg2⟩:=YN.update Yr underlying98 (by unfold maxLen;omega) (WT ⟨#[99,105,114,99,108,101]⟩ (by decide)) (show Rl (.func (.func 92) #[] #[])=some (.lit (.int .i64 92),[]) from rfl);obtain ⟨w3,ztz,Zw,hg3⟩:=V6.update Yr underlying98 (by unfold maxLen;omega) (WT ⟨#[99,111,110,118,101,120]⟩ (by decide)) (show Rl (.func (.func 93) #[] #[])=some (.lit (.int .i64 93),[]) from rfl);obtain ⟨w4,zua,YO,hg4⟩:=Zw.update Yr underlying98 (by unfold maxLen;omega) (WT ⟨#[97,108,108,111,119]⟩ (by decide)) (show Rl (.func (.func 94) #[] #[])=some (.lit (.int .i64 94),[]) from rfl);obtain ⟨w5,zno,jX,hg5⟩:=YO.update Yr underlying98 (by unfold maxLen;omega) (WT ⟨#[100,101,110,121]⟩ (by decide)) (show Rl (.func (.func 95) #[] #[])=some (.lit (.int .i64 95),[]) from rfl);obtain ⟨w6,znp,jY,hg6⟩:=jX.update Yr underlying98 (by unfold maxLen;omega) (WT ⟨#[109,101,109,98,101,114]⟩ (by decide)) (show Rl (.func (.func 96) #[] #[])=some (.lit (.int .i64 96),[]) from rfl);obtain ⟨w7,znq,Yg,l8⟩:=jY.update Yr underlying98 (by unfold maxLen;omega) (WT ⟨#[97,100,100]⟩ (by decide)) (show Rl (.func (.func 97) #[] #[])=some (.lit (.int .i64 97),[]) from rfl);obtain ⟨w8,znr,XJ,hg8⟩:=Yg.update Yr underlying98 (by unfold maxLen;omega) (WT ⟨#[114,117,110]⟩ (by decide)) (show Rl (.func (.func 98) #[] #[])=some (.lit (.int .i64 98),[]) from rfl);obtain ⟨w9,zns,jZ,hg9⟩:=XJ.update Yr underlying98 (by unfold maxLen;omega) (WT ⟨#[101,110,99,111,100,101]⟩ (by decide)) (show Rl (.func (.func 99) #[] #[])=some (.lit (.int .i64 99),[]) from rfl);obtain ⟨GX,zpx,tJ,bS⟩:=jZ.update Yr underlying98 (by unfold maxLen;omega) (WT ⟨#[101,118,101,110,116,115]⟩ (by decide)) (show Rl (.func (.func 100) #[] #[])=some (.lit (.int .i64 100),[]) from rfl);obtain ⟨KY,zpy,tK,bT⟩:=tJ.update Yr underlying98 (by unfold maxLen;omega) (WT ⟨#[114,101,113,117,101,115,116]⟩ (by decide)) (show Rl (.func (.func 101) #[] #[])=some (.lit (.int .i64 101),[]) from rfl);obtain ⟨Kw,zpz,tL,bU⟩:=tK.update Yr underlying98 (by unfold maxLen;omega) (WT ⟨#[99,108,101,97,114]⟩ (by decide)) (show Rl (.func (.func 102) #[] #[])=some (.lit (.int .i64 102),[]) from rfl);have hs0:w.heap.size<=(w.alloc (.map #[] 0)).heap.size:=by simp
 have hs1:=Nat.le_trans hs0 hg1.size;have hs2:=Nat.le_trans hs1 hg2.size;have hs3:=Nat.le_trans hs2 hg3.size;have hs4:=Nat.le_trans hs3 hg4.size;have hs5:=Nat.le_trans hs4 hg5.size;have hs6:=Nat.le_trans hs5 hg6.size;have hs7:=Nat.le_trans hs6 l8.size;have yO:=Nat.le_trans hs7 hg8.size;have xu:=Nat.le_trans yO hg9.size;have Nv:=Nat.le_trans xu bS.size;have Nw:=Nat.le_trans Nv bT.size;have KJ:=Nat.le_trans Nw bU.size;have hb0:Below w.heap.size w (w.alloc (.map #[] 0)):=Z7 (Below.refl w.heap.size w) (.map #[] 0);have hb1:=hb0.grown hg1 hs0 (fun k e=>by cases e;exact Nat.le_refl _);have hb2:=hb1.grown hg2 hs1 (fun k e=>by cases e;exact Nat.le_refl _);have hb3:=hb2.grown hg3 hs2 (fun k e=>by cases e;exact Nat.le_refl _);have hb4:=hb3.grown hg4 hs3 (fun k e=>by cases e;exact Nat.le_refl _);have hb5:=hb4.grown hg5 hs4 (fun k e=>by cases e;exact Nat.le_refl _);have hb6:=hb5.grown hg6 hs5 (fun k e=>by cases e;exact Nat.le_refl _);have Nr:=hb6.grown l8 hs6 (fun k e=>by cases e;exact Nat.le_refl _);have Sm:=Nr.grown hg8 hs7 (fun k e=>by cases e;exact Nat.le_refl _);have jV:=Sm.grown hg9 yO (fun k e=>by cases e;exact Nat.le_refl _);have Vu:=jV.grown bS xu (fun k e=>by cases e;exact Nat.le_refl _);have Fx:=Vu.grown bT Nv (fun k e=>by cases e;exact Nat.le_refl _);have Nq:=Fx.grown bU Nw (fun k e=>by cases e;exact Nat.le_refl _);have HB:=hide Nq;have HO:=hide (show Cmd Kw w.heap.size from tL);clear FH hb0 hs0 YN hb1 hs1 V6 hb2 hs2 Zw hb3 hs3 YO hb4 hs4 jX hb5 hs5 jY hb6 hs6 Yg Nr hs7 XJ Sm yO jZ jV xu tJ Vu Nv tK Fx Nw tL Nq KJ hg1 hg2 hg3 hg4 hg5 hg6 l8 hg8 hg9 bS bT bU;go_enter func51,ntmps51;go_wp2;go_ret;exact ⟨rfl,HB.out,HO.out⟩
theorem lS:lQ=.map (cmds.map fun p=>(Lit.string p.1,.lit (.int .i64 (p.2:Int)))):=by kernel_rfl
theorem wo(a x:List UInt8):(Lit.string a).sameKey (.string x)=(a == x):=by
 unfold Lit.sameKey;rfl
theorem bK(x:List UInt8):lQ.atKey (.string x) (.lit (.int .i64 0))=.lit (.int .i64 ((PN x:Nat):Int))/\Maps.has lQ (.string x)=decide (PN x≠0):=by
 have hnz:∀ p∈cmds,p.2≠0:=by decide +kernel
 rw [lS];unfold DataW.atKey Maps.has PN;simp only [List.find?_map,List.any_map,Function.comp_def,wo];cases hf:cmds.find? (fun p=>p.1 == x) with
 | none =>
   refine ⟨rfl,?_⟩;rw [List.find?_eq_none] at hf;simp only [ne_eq,not_true_eq_false,decide_false];rw [List.any_eq_false];exact hf
 | some p =>
   have hm:=List.mem_of_find?_eq_some hf;have hp:=List.find?_some hf;refine ⟨rfl,?_⟩;rw [decide_eq_true (hnz p hm),List.any_eq_true];exact ⟨p,hm,hp⟩
theorem rP{w:World}{b:Nat}(h:Cmd w b)(s:ByteArray)(hs:s.size<=1000000):
 (Instr.lookup 98 (.map (some b)) (.string s) true).run prog w =
   if PN s.data.toList=0 then .ok (.tuple #[.nilFunc,.bool false]) w else .ok (.tuple #[.func (.func (PN s.data.toList)) #[] #[],.bool true]) w:=by
 have hz:(zeroValue 96).run prog w=.ok .nilFunc w:=by kernel_rfl
 obtain ⟨es,clock,hb,F,_,hD⟩:=h;obtain ⟨h1,h2⟩:=bK s.data.toList;rcases Maps.fit_look true Yr underlying98 hz hb F (WT s hs) with ⟨hrun,_,hat⟩|⟨e0,y,_,_,hrun,hRv,hat,_⟩
 · have h3:=Maps.has_false_of_atKey hat;rw [<- hD,h2] at h3;have h4:PN s.data.toList=0:=by
    have:=of_decide_eq_false h3;omega
   rw [if_pos h4,hrun];rfl
 · have h3:=Maps.has_true_of_atKey hat;rw [<- hD,h2] at h3;have h4:=of_decide_eq_true h3;have h5:=hat (.lit (.int .i64 0));rw [<- hD,h1] at h5;rw [if_neg h4,hrun];obtain ⟨y1,y2⟩:=y;dsimp only at h5;subst h5;rw [rO h4 hRv];rfl
end
end Go.Proofs.YthnenedoblncjaaGreatDoor