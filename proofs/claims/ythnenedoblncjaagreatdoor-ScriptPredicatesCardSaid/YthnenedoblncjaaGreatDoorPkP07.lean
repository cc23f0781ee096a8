/- Txt Cmds -/
import Derived.Maps.OwnSet
import Derived.Test.YthnenedoblncjaaGreatDoorPkP01
import Derived.Test.YthnenedoblncjaaGreatDoorPkP04
set_option maxRecDepth 1000000
set_option maxHeartbeats 8000000
namespace Go.Proofs.YthnenedoblncjaaGreatDoor
section
open Go.RowKit
def strOf (l:List UInt8):ByteArray:=⟨l.toArray⟩
theorem strOf_size (l:List UInt8):(strOf l).size=l.length:=by simp [strOf,ByteArray.size]
theorem strOf_app (a b:List UInt8):strOf a++strOf b=strOf (a++b):=by
 apply ByteArray.ext
 simp [strOf]
def dgB (m:Nat):List UInt8:=(dr m).reverse.map fun d=>UInt8.ofNat (48+d)
def txt (v:Int):List UInt8:=(if v<0 then [45] else [])++dgB v.natAbs
theorem dgB_ne (m:Nat):dgB m≠[]:=by
 unfold dgB
 simp [dr_ne]
def pd (m u:Nat):List Nat:=(List.range m).map fun i=>u / 65536 ^ i % 65536
theorem pd_len (m u:Nat):(pd m u).length=m:=by simp [pd]
theorem pd_succ (m u:Nat):pd (m+1) u=pd m u++[u / 65536 ^ m % 65536]:=by simp [pd,List.range_succ]
theorem pd_ok (m u:Nat):dOk (pd m u):=fun d hd=>by
 obtain ⟨i,_,rfl⟩:=List.mem_map.1 hd
 exact Nat.mod_lt _ (by decide)
theorem dval_pd (m u:Nat):dval (pd m u)=u % 65536 ^ m:=by
 induction m with
 | zero=>simp [pd,dval,Nat.mod_one]
 | succ m ih=>rw [pd_succ,dval_snoc,pd_len,ih,Nat.pow_succ,Nat.mod_mul]
end
section
open Go.RowKit Go.Maps
def cmdR (v:Value):Option (DataW Unit × List MemPlace) :=
 match v with
 | .func (.func n) f c=>if f.size=0∧c.size=0 then some (.lit (.int .i64 n),[]) else some (.lit (.int .i64 0),[])
 | _=>some (.lit (.int .i64 0),[])
theorem cmdR_inv {v:Value} {n:Nat} {ps:List MemPlace} (hn:n≠0) (h:cmdR v=some (.lit (.int .i64 n),ps)):v=.func (.func n) #[] #[]:=by
 unfold cmdR at h
 split at h
 · rename_i m f c
   split at h
   · rename_i hz
     simp at h
     obtain ⟨h,_⟩:=h
     obtain rfl:m=n:=by first | exact h | exact Int.ofNat.inj h
     rw [Array.eq_empty_of_size_eq_zero hz.1,Array.eq_empty_of_size_eq_zero hz.2]
   · simp at h;omega
 · simp at h;omega
def cmds:List (List UInt8 × Nat):=[([97,100,100],97),([97,108,108,111,119],94),([99,105,114,99,108,101],92),([99,108,101,97,114],102),([99,111,110,118,101,120],93),([100,101,110,121],95),([101,110,99,111,100,101],99),([101,118,101,110,116,115],100),([109,101,109,98,101,114],96),([111,114,105,101,110,116],91),([114,101,113,117,101,115,116],101),([114,117,110],98)]
def cmdOf (x:List UInt8):Nat:=match cmds.find? (fun p=>p.1 == x) with | some p=>p.2 | none=>0
def cmdD:DataW Unit:=(((((((((((((DataW.map []).put (.string [111,114,105,101,110,116]) (.lit (.int .i64 91))).put (.string [99,105,114,99,108,101]) (.lit (.int .i64 92))).put (.string [99,111,110,118,101,120]) (.lit (.int .i64 93))).put (.string [97,108,108,111,119]) (.lit (.int .i64 94))).put (.string [100,101,110,121]) (.lit (.int .i64 95))).put (.string [109,101,109,98,101,114]) (.lit (.int .i64 96))).put (.string [97,100,100]) (.lit (.int .i64 97))).put (.string [114,117,110]) (.lit (.int .i64 98))).put (.string [101,110,99,111,100,101]) (.lit (.int .i64 99))).put (.string [101,118,101,110,116,115]) (.lit (.int .i64 100))).put (.string [114,101,113,117,101,115,116]) (.lit (.int .i64 101))).put (.string [99,108,101,97,114]) (.lit (.int .i64 102)))
theorem cmd_key (s:ByteArray) (h:s.size≤1000000):keyOf Tryz.prog 9 (.string s)=some (.string s.data.toList):=WideMaps.keyOf_string_mk Tryz.underlying9 (by unfold maxLen;omega)
theorem cmd_keyed:Keyed Tryz.prog 9:=string_keyed Tryz.underlying9
def Cmd (w:World) (b:Nat):Prop:=w.ownsMap Tryz.prog 9 cmdR b 12 cmdD
theorem commands_any (w:World):Calls Tryz.prog 51 #[] w fun e w'=>e=.returned (.map (some w.heap.size))∧Below w.heap.size w w'∧Cmd w' w.heap.size:=by
 have hmm:=@run_makeMap Tryz.prog
 have hown0:=World.ownsMap_made w Tryz.prog 9 cmdR
 obtain ⟨w1,hrun1,hown1,hg1⟩:=hown0.update cmd_keyed Tryz.underlying98 (by unfold maxLen;omega) (cmd_key ⟨#[111,114,105,101,110,116]⟩ (by decide)) (show cmdR (.func (.func 91) #[] #[])=some (.lit (.int .i64 91),[]) from rfl)
 obtain ⟨w2,hrun2,hown2,hg2⟩:=hown1.update cmd_keyed Tryz.underlying98 (by unfold maxLen;omega) (cmd_key ⟨#[99,105,114,99,108,101]⟩ (by decide)) (show cmdR (.func (.func 92) #[] #[])=some (.lit (.int .i64 92),[]) from rfl)
 obtain ⟨w3,hrun3,hown3,hg3⟩:=hown2.update cmd_keyed Tryz.underlying98 (by unfold maxLen;omega) (cmd_key ⟨#[99,111,110,118,101,120]⟩ (by decide)) (show cmdR (.func (.func 93) #[] #[])=some (.lit (.int .i64 93),[]) from rfl)
 obtain ⟨w4,hrun4,hown4,hg4⟩:=hown3.update cmd_keyed Tryz.underlying98 (by unfold maxLen;omega) (cmd_key ⟨#[97,108,108,111,119]⟩ (by decide)) (show cmdR (.func (.func 94) #[] #[])=some (.lit (.int .i64 94),[]) from rfl)
 obtain ⟨w5,hrun5,hown5,hg5⟩:=hown4.update cmd_keyed Tryz.underlying98 (by unfold maxLen;omega) (cmd_key ⟨#[100,101,110,121]⟩ (by decide)) (show cmdR (.func (.func 95) #[] #[])=some (.lit (.int .i64 95),[]) from rfl)
 obtain ⟨w6,hrun6,hown6,hg6⟩:=hown5.update cmd_keyed Tryz.underlying98 (by unfold maxLen;omega) (cmd_key ⟨#[109,101,109,98,101,114]⟩ (by decide)) (show cmdR (.func (.func 96) #[] #[])=some (.lit (.int .i64 96),[]) from rfl)
 obtain ⟨w7,hrun7,hown7,hg7⟩:=hown6.update cmd_keyed Tryz.underlying98 (by unfold maxLen;omega) (cmd_key ⟨#[97,100,100]⟩ (by decide)) (show cmdR (.func (.func 97) #[] #[])=some (.lit (.int .i64 97),[]) from rfl)
 obtain ⟨w8,hrun8,hown8,hg8⟩:=hown7.update cmd_keyed Tryz.underlying98 (by unfold maxLen;omega) (cmd_key ⟨#[114,117,110]⟩ (by decide)) (show cmdR (.func (.func 98) #[] #[])=some (.lit (.int .i64 98),[]) from rfl)
 obtain ⟨w9,hrun9,hown9,hg9⟩:=hown8.update cmd_keyed Tryz.underlying98 (by unfold maxLen;omega) (cmd_key ⟨#[101,110,99,111,100,101]⟩ (by decide)) (show cmdR (.func (.func 99) #[] #[])=some (.lit (.int .i64 99),[]) from rfl)
 obtain ⟨w10,hrun10,hown10,hg10⟩:=hown9.update cmd_keyed Tryz.underlying98 (by unfold maxLen;omega) (cmd_key ⟨#[101,118,101,110,116,115]⟩ (by decide)) (show cmdR (.func (.func 100) #[] #[])=some (.lit (.int .i64 100),[]) from rfl)
 obtain ⟨w11,hrun11,hown11,hg11⟩:=hown10.update cmd_keyed Tryz.underlying98 (by unfold maxLen;omega) (cmd_key ⟨#[114,101,113,117,101,115,116]⟩ (by decide)) (show cmdR (.func (.func 101) #[] #[])=some (.lit (.int .i64 101),[]) from rfl)
 obtain ⟨w12,hrun12,hown12,hg12⟩:=hown11.update cmd_keyed Tryz.underlying98 (by unfold maxLen;omega) (cmd_key ⟨#[99,108,101,97,114]⟩ (by decide)) (show cmdR (.func (.func 102) #[] #[])=some (.lit (.int .i64 102),[]) from rfl)
 have hs0:w.heap.size≤(w.alloc (.map #[] 0)).heap.size:=by simp
 have hs1:=Nat.le_trans hs0 hg1.size
 have hs2:=Nat.le_trans hs1 hg2.size
 have hs3:=Nat.le_trans hs2 hg3.size
 have hs4:=Nat.le_trans hs3 hg4.size
 have hs5:=Nat.le_trans hs4 hg5.size
 have hs6:=Nat.le_trans hs5 hg6.size
 have hs7:=Nat.le_trans hs6 hg7.size
 have hs8:=Nat.le_trans hs7 hg8.size
 have hs9:=Nat.le_trans hs8 hg9.size
 have hs10:=Nat.le_trans hs9 hg10.size
 have hs11:=Nat.le_trans hs10 hg11.size
 have hs12:=Nat.le_trans hs11 hg12.size
 have hb0:Below w.heap.size w (w.alloc (.map #[] 0)):=bl_alloc (Below.refl w.heap.size w) (.map #[] 0)
 have hb1:=hb0.grown hg1 hs0 (fun k e=>by cases e;exact Nat.le_refl _)
 have hb2:=hb1.grown hg2 hs1 (fun k e=>by cases e;exact Nat.le_refl _)
 have hb3:=hb2.grown hg3 hs2 (fun k e=>by cases e;exact Nat.le_refl _)
 have hb4:=hb3.grown hg4 hs3 (fun k e=>by cases e;exact Nat.le_refl _)
 have hb5:=hb4.grown hg5 hs4 (fun k e=>by cases e;exact Nat.le_refl _)
 have hb6:=hb5.grown hg6 hs5 (fun k e=>by cases e;exact Nat.le_refl _)
 have hb7:=hb6.grown hg7 hs6 (fun k e=>by cases e;exact Nat.le_refl _)
 have hb8:=hb7.grown hg8 hs7 (fun k e=>by cases e;exact Nat.le_refl _)
 have hb9:=hb8.grown hg9 hs8 (fun k e=>by cases e;exact Nat.le_refl _)
 have hb10:=hb9.grown hg10 hs9 (fun k e=>by cases e;exact Nat.le_refl _)
 have hb11:=hb10.grown hg11 hs10 (fun k e=>by cases e;exact Nat.le_refl _)
 have hb12:=hb11.grown hg12 hs11 (fun k e=>by cases e;exact Nat.le_refl _)
 have HB:=hide hb12;have HO:=hide (show Cmd w12 w.heap.size from hown12)
 clear hown0 hb0 hs0 hown1 hb1 hs1 hown2 hb2 hs2 hown3 hb3 hs3 hown4 hb4 hs4 hown5 hb5 hs5 hown6 hb6 hs6 hown7 hb7 hs7 hown8 hb8 hs8 hown9 hb9 hs9 hown10 hb10 hs10 hown11 hb11 hs11 hown12 hb12 hs12 hg1 hg2 hg3 hg4 hg5 hg6 hg7 hg8 hg9 hg10 hg11 hg12
 go_enter Tryz.func51,Tryz.ntmps51
 go_wp2
 go_ret
 exact ⟨rfl,HB.out,HO.out⟩
theorem cmdD_eq:cmdD=.map (cmds.map fun p=>(Lit.string p.1,.lit (.int .i64 (p.2:Int)))):=by kernel_rfl
theorem same_str (a x:List UInt8):(Lit.string a).sameKey (.string x)=(a == x):=by
 unfold Lit.sameKey
 rfl
theorem cmd_at (x:List UInt8):cmdD.atKey (.string x) (.lit (.int .i64 0))=.lit (.int .i64 ((cmdOf x:Nat):Int))∧Maps.has cmdD (.string x)=decide (cmdOf x≠0):=by
 have hnz:∀ p∈cmds,p.2≠0:=by decide +kernel
 rw [cmdD_eq]
 unfold DataW.atKey Maps.has cmdOf
 simp only [List.find?_map,List.any_map,Function.comp_def,same_str]
 cases hf:cmds.find? (fun p=>p.1 == x) with
 | none =>
   refine ⟨rfl,?_⟩
   rw [List.find?_eq_none] at hf
   simp only [ne_eq,not_true_eq_false,decide_false]
   rw [List.any_eq_false]
   exact hf
 | some p =>
   have hm:=List.mem_of_find?_eq_some hf
   have hp:=List.find?_some hf
   refine ⟨rfl,?_⟩
   rw [decide_eq_true (hnz p hm),List.any_eq_true]
   exact ⟨p,hm,hp⟩
theorem cmd_look {w:World} {b:Nat} (h:Cmd w b) (s:ByteArray) (hs:s.size≤1000000) :
 (Instr.lookup 98 (.map (some b)) (.string s) true).run Tryz.prog w =
   if cmdOf s.data.toList=0 then .ok (.tuple #[.nilFunc,.bool false]) w else .ok (.tuple #[.func (.func (cmdOf s.data.toList)) #[] #[],.bool true]) w:=by
 have hz:(zeroValue 96).run Tryz.prog w=.ok .nilFunc w:=by kernel_rfl
 obtain ⟨es,clock,hb,F,_,hD⟩:=h
 obtain ⟨h1,h2⟩:=cmd_at s.data.toList
 rcases Maps.fit_look true cmd_keyed Tryz.underlying98 hz hb F (cmd_key s hs) with ⟨hrun,_,hat⟩ | ⟨e0,y,_,_,hrun,hRv,hat,_⟩
 · have h3:=Maps.has_false_of_atKey hat
   rw [← hD,h2] at h3
   have h4:cmdOf s.data.toList=0:=by
    have:=of_decide_eq_false h3
    omega
   rw [if_pos h4,hrun]
   rfl
 · have h3:=Maps.has_true_of_atKey hat
   rw [← hD,h2] at h3
   have h4:=of_decide_eq_true h3
   have h5:=hat (.lit (.int .i64 0))
   rw [← hD,h1] at h5
   rw [if_neg h4,hrun]
   obtain ⟨y1,y2⟩:=y
   dsimp only at h5
   subst h5
   rw [cmdR_inv h4 hRv]
   rfl
end
end Go.Proofs.YthnenedoblncjaaGreatDoor
