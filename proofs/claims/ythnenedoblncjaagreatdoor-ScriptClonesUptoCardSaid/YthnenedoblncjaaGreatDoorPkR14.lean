/- Txt Cmds -/
import Derived.Maps.OwnSet
import Derived.Test.YthnenedoblncjaaGreatDoorPkR00
import Derived.Test.YthnenedoblncjaaGreatDoorPkR12
set_option maxRecDepth 1000000
set_option maxHeartbeats 8000000
namespace Go.Proofs.YthnenedoblncjaaGreatDoor
open Go.Proofs.Tryz
section
open Go.RowKit
def strOf(l:List UInt8):ByteArray:=⟨l.toArray⟩
theorem ZK(l:List UInt8):(strOf l).size=l.length:=by simp [strOf,ByteArray.size]
theorem NM(a b:List UInt8):strOf a++strOf b=strOf (a++b):=by
 apply ByteArray.ext;simp [strOf]
def NY(m:Nat):List UInt8:=(dr m).reverse.map fun d=>UInt8.ofNat (48+d)
def txt(v:Int):List UInt8:=(if v<0 then [45] else [])++NY v.natAbs
end
section
open Go.RowKit Go.Maps
def Qu(v:Value):Option (DataW Unit × List MemPlace) :=
 match v with
 | .func (.func n) f c=>if f.size=0/\c.size=0 then some (.lit (.int .i64 n),[]) else some (.lit (.int .i64 0),[])
 | _=>some (.lit (.int .i64 0),[])
theorem fZ{v:Value}{n:Nat}{ps:List MemPlace}(hn:n≠0)(h:Qu v=some (.lit (.int .i64 n),ps)):v=.func (.func n) #[] #[]:=by
 unfold Qu at h;split at h
 · rename_i m f c
   split at h
   · rename_i hz
     simp at h;obtain ⟨h,_⟩:=h;obtain rfl:m=n:=by first|exact h|exact Int.ofNat.inj h
     rw [Array.eq_empty_of_size_eq_zero hz.1,Array.eq_empty_of_size_eq_zero hz.2]
   · simp at h;omega
 · simp at h;omega
def cmds:List (List UInt8 × Nat):=[([97,100,100],97),([97,108,108,111,119],94),([99,105,114,99,108,101],92),([99,108,101,97,114],102),([99,111,110,118,101,120],93),([100,101,110,121],95),([101,110,99,111,100,101],99),([101,118,101,110,116,115],100),([109,101,109,98,101,114],96),([111,114,105,101,110,116],91),([114,101,113,117,101,115,116],101),([114,117,110],98)]
def Xa(x:List UInt8):Nat:=match cmds.find? (fun p=>p.1 == x) with|some p=>p.2|none=>0
def zxc:DataW Unit:=(((((((((((((DataW.map []).put (.string [111,114,105,101,110,116]) (.lit (.int .i64 91))).put (.string [99,105,114,99,108,101]) (.lit (.int .i64 92))).put (.string [99,111,110,118,101,120]) (.lit (.int .i64 93))).put (.string [97,108,108,111,119]) (.lit (.int .i64 94))).put (.string [100,101,110,121]) (.lit (.int .i64 95))).put (.string [109,101,109,98,101,114]) (.lit (.int .i64 96))).put (.string [97,100,100]) (.lit (.int .i64 97))).put (.string [114,117,110]) (.lit (.int .i64 98))).put (.string [101,110,99,111,100,101]) (.lit (.int .i64 99))).put (.string [101,118,101,110,116,115]) (.lit (.int .i64 100))).put (.string [114,101,113,117,101,115,116]) (.lit (.int .i64 101))).put (.string [99,108,101,97,114]) (.lit (.int .i64 102)))
theorem Xl(s:ByteArray)(h:s.size<=1000000):keyOf prog 9 (.string s)=some (.string s.data.toList):=WideMaps.keyOf_string_mk underlying9 (by unfold maxLen;omega)
theorem Yx:Keyed prog 9:=string_keyed underlying9
def Cmd(w:World)(b:Nat):Prop:=w.ownsMap prog 9 Qu b 12 zxc
theorem Es(w:World):Calls prog 51 #[] w fun e w'=>e=.returned (.map (some w.heap.size))/\Below w.heap.size w w'/\Cmd w' w.heap.size:=by
 have hmm:=@run_makeMap prog;have BK:=World.ownsMap_made w prog 9 Qu;obtain ⟨w1,zhx,YZ,hg1⟩:=BK.update Yx underlying98 (by unfold maxLen;omega) (Xl ⟨#[111,114,105,101,110,116]⟩ (by decide)) (show Qu (.func (.func 91) #[] #[])=some (.lit (.int .i64 91),[]) from rfl);obtain ⟨w2,zhy,Yd,hg2⟩:=YZ.update Yx underlying98 (by unfold maxLen;omega) (Xl ⟨#[99,105,114,99,108,101]⟩ (by decide)) (show Qu (.func (.func 92) #[] #[])=some (.lit (.int .i64 92),[]) from rfl);obtain ⟨w3,zhz,Zt,hg3⟩:=Yd.update Yx underlying98 (by unfold maxLen;omega) (Xl ⟨#[99,111,110,118,101,120]⟩ (by decide)) (show Qu (.func (.func 93) #[] #[])=some (.lit (.int .i64 93),[]) from rfl);obtain ⟨w4,zia,Y1,hg4⟩:=Zt.update Yx underlying98 (by unfold maxLen;omega) (Xl ⟨#[97,108,108,111,119]⟩ (by decide)) (show Qu (.func (.func 94) #[] #[])=some (.lit (.int .i64 94),[]) from rfl);obtain ⟨w5,zaf,WQ,hg5⟩:=Y1.update Yx underlying98 (by unfold maxLen;omega) (Xl ⟨#[100,101,110,121]⟩ (by decide)) (show Qu (.func (.func 95) #[] #[])=some (.lit (.int .i64 95),[]) from rfl);obtain ⟨w6,zah,VJ,N8⟩:=WQ.update Yx underlying98 (by unfold maxLen;omega) (Xl ⟨#[109,101,109,98,101,114]⟩ (by decide)) (show Qu (.func (.func 96) #[] #[])=some (.lit (.int .i64 96),[]) from rfl);obtain ⟨w7,zai,XU,hg7⟩:=VJ.update Yx underlying98 (by unfold maxLen;omega) (Xl ⟨#[97,100,100]⟩ (by decide)) (show Qu (.func (.func 97) #[] #[])=some (.lit (.int .i64 97),[]) from rfl);obtain ⟨w8,zaj,ME,hg8⟩:=XU.update Yx underlying98 (by unfold maxLen;omega) (Xl ⟨#[114,117,110]⟩ (by decide)) (show Qu (.func (.func 98) #[] #[])=some (.lit (.int .i64 98),[]) from rfl);obtain ⟨w9,zak,zwf,hg9⟩:=ME.update Yx underlying98 (by unfold maxLen;omega) (Xl ⟨#[101,110,99,111,100,101]⟩ (by decide)) (show Qu (.func (.func 99) #[] #[])=some (.lit (.int .i64 99),[]) from rfl);obtain ⟨RL,zde,iV,zqf⟩:=zwf.update Yx underlying98 (by unfold maxLen;omega) (Xl ⟨#[101,118,101,110,116,115]⟩ (by decide)) (show Qu (.func (.func 100) #[] #[])=some (.lit (.int .i64 100),[]) from rfl);obtain ⟨Qp,zdf,Kj,zqg⟩:=iV.update Yx underlying98 (by unfold maxLen;omega) (Xl ⟨#[114,101,113,117,101,115,116]⟩ (by decide)) (show Qu (.func (.func 101) #[] #[])=some (.lit (.int .i64 101),[]) from rfl);obtain ⟨M9,zdg,Kk,xK⟩:=Kj.update Yx underlying98 (by unfold maxLen;omega) (Xl ⟨#[99,108,101,97,114]⟩ (by decide)) (show Qu (.func (.func 102) #[] #[])=some (.lit (.int .i64 102),[]) from rfl);have hs0:w.heap.size<=(w.alloc (.map #[] 0)).heap.size:=by simp
 have hs1:=Nat.le_trans hs0 hg1.size;have hs2:=Nat.le_trans hs1 hg2.size;have hs3:=Nat.le_trans hs2 hg3.size;have hs4:=Nat.le_trans hs3 hg4.size;have hs5:=Nat.le_trans hs4 hg5.size;have hs6:=Nat.le_trans hs5 N8.size;have hs7:=Nat.le_trans hs6 hg7.size;have uD:=Nat.le_trans hs7 hg8.size;have uE:=Nat.le_trans uD hg9.size;have Sc:=Nat.le_trans uE zqf.size;have Ox:=Nat.le_trans Sc zqg.size;have Nz:=Nat.le_trans Ox xK.size;have hb0:Below w.heap.size w (w.alloc (.map #[] 0)):=Z5 (Below.refl w.heap.size w) (.map #[] 0);have hb1:=hb0.grown hg1 hs0 (fun k e=>by cases e;exact Nat.le_refl _);have hb2:=hb1.grown hg2 hs1 (fun k e=>by cases e;exact Nat.le_refl _);have hb3:=hb2.grown hg3 hs2 (fun k e=>by cases e;exact Nat.le_refl _);have hb4:=hb3.grown hg4 hs3 (fun k e=>by cases e;exact Nat.le_refl _);have hb5:=hb4.grown hg5 hs4 (fun k e=>by cases e;exact Nat.le_refl _);have hb6:=hb5.grown N8 hs5 (fun k e=>by cases e;exact Nat.le_refl _);have Qh:=hb6.grown hg7 hs6 (fun k e=>by cases e;exact Nat.le_refl _);have Ou:=Qh.grown hg8 hs7 (fun k e=>by cases e;exact Nat.le_refl _);have mZ:=Ou.grown hg9 uD (fun k e=>by cases e;exact Nat.le_refl _);have VI:=mZ.grown zqf uE (fun k e=>by cases e;exact Nat.le_refl _);have BF:=VI.grown zqg Sc (fun k e=>by cases e;exact Nat.le_refl _);have Vx:=BF.grown xK Ox (fun k e=>by cases e;exact Nat.le_refl _);have HB:=hide Vx;have HO:=hide (show Cmd M9 w.heap.size from Kk);clear BK hb0 hs0 YZ hb1 hs1 Yd hb2 hs2 Zt hb3 hs3 Y1 hb4 hs4 WQ hb5 hs5 VJ hb6 hs6 XU Qh hs7 ME Ou uD zwf mZ uE iV VI Sc Kj BF Ox Kk Vx Nz hg1 hg2 hg3 hg4 hg5 N8 hg7 hg8 hg9 zqf zqg xK;go_enter func51,ntmps51;go_wp2;go_ret;exact ⟨rfl,HB.out,HO.out⟩
theorem zxd:zxc=.map (cmds.map fun p=>(Lit.string p.1,.lit (.int .i64 (p.2:Int)))):=by kernel_rfl
theorem lK(a x:List UInt8):(Lit.string a).sameKey (.string x)=(a == x):=by
 unfold Lit.sameKey;rfl
theorem zpo(x:List UInt8):zxc.atKey (.string x) (.lit (.int .i64 0))=.lit (.int .i64 ((Xa x:Nat):Int))/\Maps.has zxc (.string x)=decide (Xa x≠0):=by
 have hnz:∀ p∈cmds,p.2≠0:=by decide +kernel
 rw [zxd];unfold DataW.atKey Maps.has Xa;simp only [List.find?_map,List.any_map,Function.comp_def,lK];cases hf:cmds.find? (fun p=>p.1 == x) with
 | none =>
   refine ⟨rfl,?_⟩;rw [List.find?_eq_none] at hf;simp only [ne_eq,not_true_eq_false,decide_false];rw [List.any_eq_false];exact hf
 | some p =>
   have hm:=List.mem_of_find?_eq_some hf;have hp:=List.find?_some hf;refine ⟨rfl,?_⟩;rw [decide_eq_true (hnz p hm),List.any_eq_true];exact ⟨p,hm,hp⟩
theorem gu{w:World}{b:Nat}(h:Cmd w b)(s:ByteArray)(hs:s.size<=1000000):
 (Instr.lookup 98 (.map (some b)) (.string s) true).run prog w =
   if Xa s.data.toList=0 then .ok (.tuple #[.nilFunc,.bool false]) w else .ok (.tuple #[.func (.func (Xa s.data.toList)) #[] #[],.bool true]) w:=by
 have hz:(zeroValue 96).run prog w=.ok .nilFunc w:=by kernel_rfl
 obtain ⟨es,clock,hb,F,_,hD⟩:=h;obtain ⟨h1,h2⟩:=zpo s.data.toList;rcases Maps.fit_look true Yx underlying98 hz hb F (Xl s hs) with ⟨hrun,_,hat⟩|⟨e0,y,_,_,hrun,hRv,hat,_⟩
 · have h3:=Maps.has_false_of_atKey hat;rw [<- hD,h2] at h3;have h4:Xa s.data.toList=0:=by
    have:=of_decide_eq_false h3;omega
   rw [if_pos h4,hrun];rfl
 · have h3:=Maps.has_true_of_atKey hat;rw [<- hD,h2] at h3;have h4:=of_decide_eq_true h3;have h5:=hat (.lit (.int .i64 0));rw [<- hD,h1] at h5;rw [if_neg h4,hrun];obtain ⟨y1,y2⟩:=y;dsimp only at h5;subst h5;rw [fZ h4 hRv];rfl
end
end Go.Proofs.YthnenedoblncjaaGreatDoor