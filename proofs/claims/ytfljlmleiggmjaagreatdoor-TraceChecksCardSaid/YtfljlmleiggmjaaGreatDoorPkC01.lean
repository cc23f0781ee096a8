/- FenceSize IndexFunc Check Same FenceCheck -/
import Derived.Test.YtfljlmleiggmjaaGreatDoorPkC00
set_option maxRecDepth 1000000
set_option maxHeartbeats 8000000
namespace Go.Proofs.YtfljlmleiggmjaaGreatDoor
section
open Go.RowKit
def sizeOfReg (v:Int):Int:=if v=0 then 3 else if 3≤v∧v≤64 then v else 0
theorem shapeOf_zero (d:Bool) (A:Option Addr) (n c:Nat) (w:World) :
 Calls Tryz.prog 129 #[.agg #[.bool d,.int .i64 0,.slice A n c]] w fun e w'=>e=.returned (.iface 218 (.agg #[.bool d,.int .i64 0,.slice A n c]))∧Below w.heap.size w w':=by
 go_enter Tryz.func129,Tryz.ntmps129
 go_wp2
 go_ret
 exact ⟨rfl,(Below.refl _ _).alloc (Nat.le_refl _) _⟩
theorem shapeOf_other (d:Bool) (v:Int) (hv:(v == 0)=false) (A:Option Addr) (n c:Nat) (w:World) :
 Calls Tryz.prog 129 #[.agg #[.bool d,.int .i64 v,.slice A n c]] w fun e w'=>e=.returned (.iface 219 (.agg #[.bool d,.int .i64 v,.slice A n c]))∧Below w.heap.size w w':=by
 go_enter Tryz.func129,Tryz.ntmps129
 go_wp2
 go_ret
 exact ⟨rfl,(Below.refl _ _).alloc (Nat.le_refl _) _⟩
theorem refSize_any (v:Int) (w:World) :
 Calls Tryz.prog 49 #[.int .i64 v] w fun e w'=>e=.returned (.int .i64 (sizeOfReg v))∧w=w':=by
 go_enter Tryz.func49,Tryz.ntmps49
 go_wp2
 all_goals go_ret
 · have h:(v == 0)=true:=by assumption
   have h0:v=0:=by simpa using h
   exact ⟨ret_int (by simp [sizeOfReg,h0]),rfl⟩
 all_goals
  have h:(v == 0)=false:=by assumption
  have h0:v≠0:=by simpa using h
  exact ⟨ret_int (by unfold sizeOfReg;rw [if_neg h0];first | rw [if_pos ⟨by assumption,by assumption⟩] | rw [if_neg (by omega)]),rfl⟩
theorem roundSize (d:Bool) (v:Int) (A:Option Addr) (n c:Nat) (w:World) :
 Calls Tryz.prog 291 #[.agg #[.bool d,.int .i64 v,.slice A n c]] w fun e w'=>e=.returned (.int .i64 3)∧Below w.heap.size w w':=by
 go_enter Tryz.func291,Tryz.ntmps291
 go_wp2
 go_ret
 exact ⟨rfl,(Below.refl _ _).alloc (Nat.le_refl _) _⟩
theorem convexSize (d:Bool) (v:Int) (A:Option Addr) (n c:Nat) (w:World) (hv:v≠0) :
 Calls Tryz.prog 298 #[.agg #[.bool d,.int .i64 v,.slice A n c]] w fun e w'=>e=.returned (.int .i64 (sizeOfReg v))∧Below w.heap.size w w':=by
 go_enter Tryz.func298,Tryz.ntmps298
 go_wp2
 all_goals go_ret
 all_goals exact ⟨ret_int (by unfold sizeOfReg;rw [if_neg hv];first | rw [if_pos ⟨by omega,by omega⟩] | rw [if_neg (by omega)]),(Below.refl _ _).alloc (Nat.le_refl _) _⟩
theorem meth_round (d : Bool) (v : Int) (A : Option Addr) (n c : Nat) (w : World) : (method 437 218 (.agg #[.bool d, .int .i64 v, .slice A n c]) "geofence/fence.size").run Tryz.prog w = .ok (291, .agg #[.bool d, .int .i64 v, .slice A n c]) w := by kernel_rfl
theorem meth_convex (d : Bool) (v : Int) (A : Option Addr) (n c : Nat) (w : World) : (method 437 219 (.agg #[.bool d, .int .i64 v, .slice A n c]) "geofence/fence.size").run Tryz.prog w = .ok (298, .agg #[.bool d, .int .i64 v, .slice A n c]) w := by kernel_rfl
theorem size_any (d:Bool) (v:Int) (A:Option Addr) (n c:Nat) (w:World) :
 Calls Tryz.prog 86 #[.agg #[.bool d,.int .i64 v,.slice A n c]] w fun e w'=>e=.returned (.int .i64 (sizeOfReg v))∧Below w.heap.size w w':=by
 have hmr:=meth_round
 have hmc:=meth_convex
 go_enter Tryz.func86,Tryz.ntmps86
 by_cases h0:v=0
 · subst h0
   go_wp2_with fail
   refine (shapeOf_zero _ _ _ _ _).mono ?_
   rintro e w1 ⟨rfl,hb⟩
   go_wp2_with fail
   refine (roundSize _ _ _ _ _ _).mono ?_
   rintro e w2 ⟨rfl,hb2⟩
   go_wp2
   go_ret
   exact ⟨rfl,((Below.refl _ _).alloc (Nat.le_refl _) _).trans ((hb.mono (by simp)).trans (hb2.mono (by have:=hb.size;simp at this;omega)))⟩
 · have hv:(v == 0)=false:=by simpa using h0
   go_wp2_with fail
   refine (shapeOf_other _ _ hv _ _ _ _).mono ?_
   rintro e w1 ⟨rfl,hb⟩
   go_wp2_with fail
   refine (convexSize _ _ _ _ _ _ h0).mono ?_
   rintro e w2 ⟨rfl,hb2⟩
   go_wp2
   go_ret
   exact ⟨rfl,((Below.refl _ _).alloc (Nat.le_refl _) _).trans ((hb.mono (by simp)).trans (hb2.mono (by have:=hb.size;simp at this;omega)))⟩
end
section
open Go.RowKit
def RgPred (K:FuncId) (p:Rg→Bool):Prop:=∀ (r:Rg) (w:World),Calls Tryz.prog K #[.agg #[.bool r.d,.int .i64 r.v,.slice r.A r.n r.c]] w fun e w'=>e=.returned (.bool (p r))∧Below w.heap.size w w'
def Enters (K:FuncId):Prop:=∀ (a:Array Value) (w:World),(callFunc K a).run Tryz.prog w=.ok (.enter K a) w
def FoundAt (rs:List Rg) (p:Rg→Bool) (w:World) (e:Ending) (w':World):Prop:=∃ k:Int,e=.returned (.int .i64 k)∧decide (0≤k)=rs.any p∧Below w.heap.size w w'
theorem indexFunc_any (K:FuncId) (hK:Enters K) (p:Rg→Bool) (hp:RgPred K p) (A:Option Addr) (c:Nat) (rs:List Rg) (w:World) (hs:Sl w w.heap.size A (rgCells rs)) (hn:rs.length≤maxLen) :
 Calls Tryz.prog 128 #[.slice A rs.length c,.func (.func K) #[] #[]] w (FoundAt rs p w):=by
 unfold maxLen at hn
 unfold Enters at hK
 go_enter Tryz.func128,Tryz.ntmps128
 go_wp2
 go_loopw [5,8] (fun _ i wr=>∃ k:Nat,k≤rs.length∧i=.int .i64 k∧Below w.heap.size w wr∧(rs.take k).any p=false)
  (fun _ i _=>rs.length - (intOf i).toNat)
 case atStart=>exact ⟨0,by omega,rfl,Below.refl _ _,by simp⟩
 case round =>
  obtain ⟨k,hk,rfl,hb,hany⟩:=hrel
  by_cases hlt:k<rs.length
  · obtain ⟨r,hr⟩:∃ r,rs[k]?=some r:=⟨_,List.getElem?_eq_getElem hlt⟩
    obtain ⟨b,off,rfl,hB,c0,c1,c2⟩:=(hs.below hb).rg hr
    have HR:=hide hr;clear hr
    have HA:=hide hany;clear hany
    go_wp2_with fail
    refine (hp r _).mono ?_
    rintro e w1 ⟨rfl,hb1⟩
    obtain ⟨q,hq⟩:∃ q,q=p r:=⟨_,rfl⟩
    rw [← hq]
    have HQ:=hide hq;clear hq
    cases q
    · go_wp2
      go_roundw
      case rel=>exact ⟨k+1,by omega,by go_num,hb.trans (hb1.mono hb.size),by rw [any_take_succ _ _ _ _ HR.out,HA.out,← HQ.out];rfl⟩
      case measure=>simp [intOf];omega
    · go_wp2
      go_ret
      exact ⟨k,rfl,by rw [any_of_get _ _ _ _ HR.out HQ.out.symm];simp,hb.trans (hb1.mono hb.size)⟩
  · have hk':k=rs.length:=by omega
    go_wp2
    go_ret
    exact ⟨-1,rfl,by rw [hk',List.take_length] at hany;rw [hany];rfl,hb⟩
theorem containsFunc_any (K:FuncId) (hK:Enters K) (p:Rg→Bool) (hp:RgPred K p) (A:Option Addr) (c:Nat) (rs:List Rg) (w:World) (hs:Sl w w.heap.size A (rgCells rs)) (hn:rs.length≤maxLen) :
 Calls Tryz.prog 84 #[.slice A rs.length c,.func (.func K) #[] #[]] w fun e w'=>e=.returned (.bool (rs.any p))∧Below w.heap.size w w':=by
 have HP:=hide hp;clear hp
 go_enter Tryz.func84,Tryz.ntmps84
 go_wp2_with fail
 refine (indexFunc_any K hK p HP.out A c rs w hs hn).mono ?_
 rintro e w1 ⟨k,rfl,hk,hb⟩
 have HK:=hide hk;clear hk
 go_wp2
 go_ret
 exact ⟨ret_bool HK.out,hb⟩
theorem containsFunc_n (K:FuncId) (hK:Enters K) (p:Rg→Bool) (hp:RgPred K p) (A:Option Addr) (c n:Nat) (rs:List Rg) (hnl:n=rs.length) (w:World) (hs:Sl w w.heap.size A (rgCells rs)) (hn:rs.length≤maxLen) :
 Calls Tryz.prog 84 #[.slice A n c,.func (.func K) #[] #[]] w fun e w'=>e=.returned (.bool (rs.any p))∧Below w.heap.size w w':=by
 subst hnl;exact containsFunc_any K hK p hp A c rs w hs hn
end
section
open Go.RowKit
def wrongRg (r:Rg):Bool:=sizeOfReg r.v == 0
def fullRg (r:Rg):Bool:=decide (0<r.n)
theorem check1_pred:RgPred 116 wrongRg:=by
 intro r w
 go_enter Tryz.func116,Tryz.ntmps116
 go_wp2_with fail
 refine (size_any _ _ _ _ _ _).mono ?_
 rintro e w1 ⟨rfl,hb⟩
 go_wp2
 go_ret
 exact ⟨rfl,((Below.refl _ _).alloc (Nat.le_refl _) _).trans (hb.mono (by simp))⟩
theorem check2_pred:RgPred 117 fullRg:=by
 intro r w
 go_enter Tryz.func117,Tryz.ntmps117
 go_wp2
 go_ret
 exact ⟨rfl,((Below.refl _ _).alloc (Nat.le_refl _) _)⟩
theorem check1_enters:Enters 116:=fun _ _=>by kernel_rfl
theorem check2_enters:Enters 117:=fun _ _=>by kernel_rfl
def hcheckB (op vs n pts:Int) (q1 q2:Bool):Int :=
 if op<1∨5<op then 5
 else if op=3∧(vs<3∨64<vs) then 6
 else if (op=4∨op=5)∧(n<1∨64<n) then 6
 else bif decide (op=4∨op=5) && q1 then 7
 else if op=5∧(pts<1∨4096<pts) then 6
 else if (op≠3∧vs≠0)∨(op<4∧0<n)∨(op≠5∧pts≠0) then 2
 else bif q2 then 2 else 0
def hcheck (op vs:Int) (rs:List Rg) (pts:Int):Int:=hcheckB op vs rs.length pts (rs.any wrongRg) (rs.any fullRg)
theorem hcheckB_zero {op vs n pts:Int} {q1 q2:Bool} (h:hcheckB op vs n pts q1 q2=0) (h0:0≤n) :
 1≤op∧op≤5∧(op=3→3≤vs∧vs≤64)∧(op≠3→vs=0)∧(4≤op→1≤n∧n≤64∧q1=false)∧(op<4→n=0)∧(op=5→1≤pts∧pts≤4096)∧(op≠5→pts=0)∧q2=false:=by
 unfold hcheckB at h
 by_cases h1:op<1∨5<op
 · rw [if_pos h1] at h;omega
 rw [if_neg h1] at h
 by_cases h2:op=3∧(vs<3∨64<vs)
 · rw [if_pos h2] at h;omega
 rw [if_neg h2] at h
 by_cases h3:(op=4∨op=5)∧(n<1∨64<n)
 · rw [if_pos h3] at h;omega
 rw [if_neg h3] at h
 by_cases h4:(decide (op=4∨op=5) && q1)=true
 · rw [h4,cond_true] at h;omega
 rw [Bool.not_eq_true] at h4
 rw [h4,cond_false] at h
 by_cases h5:op=5∧(pts<1∨4096<pts)
 · rw [if_pos h5] at h;omega
 rw [if_neg h5] at h
 by_cases h6:(op≠3∧vs≠0)∨(op<4∧0<n)∨(op≠5∧pts≠0)
 · rw [if_pos h6] at h;omega
 rw [if_neg h6] at h
 cases q2
 · refine ⟨by omega,by omega,by omega,by omega,fun h7=>⟨by omega,by omega,?_⟩,by omega,by omega,by omega,rfl⟩
   have:decide (op=4∨op=5)=true:=by rw [decide_eq_true_eq];omega
   rw [this] at h4;simpa using h4
 · rw [cond_true] at h;omega
section
variable (vs:Int) (rs:List Rg) (A:Option Addr) (c:Nat) (pts:Int) (w:World)
theorem check_bad (op:Int) (hop:op<1∨5<op) :
 Calls Tryz.prog 67 #[.agg #[.int .i64 op,.int .i64 vs,.slice A rs.length c,.int .i64 pts]] w fun e w'=>e=.returned (.int .i64 (hcheck op vs rs pts))∧Below w.heap.size w w':=by
 have h3:(op == 3)=false:=by simp;omega
 have h4:(op == 4)=false:=by simp;omega
 have h5:(op == 5)=false:=by simp;omega
 have hsp:hcheck op vs rs pts=5:=by unfold hcheck hcheckB;rw [if_pos hop]
 rw [hsp]
 rcases hop with hop | hop
 all_goals
  go_enter Tryz.func67,Tryz.ntmps67
  go_wp2
  go_quiet (fail)
  go_wp2
  go_ret
  exact ⟨rfl,bl_drewN (bA) _⟩
variable (hs:Sl w w.heap.size A (rgCells rs)) (hn:rs.length≤maxLen)
include hs hn
theorem contains1 (w1:World) (hb:Below w.heap.size w w1):Calls Tryz.prog 84 #[.slice A rs.length c,.func (.func 116) #[] #[]] w1 fun e w'=>e=.returned (.bool (rs.any wrongRg))∧Below w1.heap.size w1 w' :=
 containsFunc_any _ check1_enters _ check1_pred A c rs w1 ((hs.below hb).more hb.size) hn
theorem contains2 (w1:World) (hb:Below w.heap.size w w1):Calls Tryz.prog 84 #[.slice A rs.length c,.func (.func 117) #[] #[]] w1 fun e w'=>e=.returned (.bool (rs.any fullRg))∧Below w1.heap.size w1 w' :=
 containsFunc_any _ check2_enters _ check2_pred A c rs w1 ((hs.below hb).more hb.size) hn
theorem check_12 (op:Int) (hop:op=1∨op=2) :
 Calls Tryz.prog 67 #[.agg #[.int .i64 op,.int .i64 vs,.slice A rs.length c,.int .i64 pts]] w fun e w'=>e=.returned (.int .i64 (hcheck op vs rs pts))∧Below w.heap.size w w':=by
 rcases hop with rfl | rfl
 all_goals
  go_enter Tryz.func67,Tryz.ntmps67
  go_wp2
  go_quiet (fail)
  go_wp2_with fail
  all_goals first
   | done
   | (refine (contains2 rs A c w hs hn _ (bl_drewN (bA) _)).mono ?_
      rintro e w1 ⟨rfl,hb1⟩
      generalize hq:rs.any fullRg=q
      have HQ:=hide hq;clear hq
      cases q <;> go_wp2)
   | skip
  all_goals
   go_ret
   first | (have h:(vs != 0)=true:=by assumption
            have hv:vs≠0:=by simpa using h) | (have h:(vs != 0)=false:=by assumption
                                               have hv:vs=0:=by simpa using h) | skip
   first | (have h:(pts != 0)=true:=by assumption
            have hpt:pts≠0:=by simpa using h) | (have h:(pts != 0)=false:=by assumption
                                                 have hpt:pts=0:=by simpa using h) | skip
   refine ⟨ret_int ?_,?_⟩
   · unfold hcheck hcheckB
     try rw [HQ1.out]
     try rw [HQ.out]
     repeat first | rw [if_neg (by omega)] | rw [if_pos (by omega)] | rw [cond_true] | rw [cond_false] | rw [decide_eq_true (by omega),Bool.true_and] | rw [decide_eq_false (by omega),Bool.false_and]
   · repeat first | exact Below.refl _ _ | exact bl_step (bl_drewN (bA) _) hb1 | refine bl_drewN ?_ _ | refine bl_alloc ?_ _
theorem check_3 :
 Calls Tryz.prog 67 #[.agg #[.int .i64 3,.int .i64 vs,.slice A rs.length c,.int .i64 pts]] w fun e w'=>e=.returned (.int .i64 (hcheck 3 vs rs pts))∧Below w.heap.size w w':=by
 go_enter Tryz.func67,Tryz.ntmps67
 go_wp2
 go_quiet (fail)
 all_goals
  go_wp2_with fail
  all_goals first
   | done
   | (refine (contains2 rs A c w hs hn _ (bl_drewN (bA) _)).mono ?_
      rintro e w1 ⟨rfl,hb1⟩
      generalize hq:rs.any fullRg=q
      have HQ:=hide hq;clear hq
      cases q <;> go_wp2)
   | skip
  all_goals
   go_ret
   first | (have h:(vs != 0)=true:=by assumption
            have hv:vs≠0:=by simpa using h) | (have h:(vs != 0)=false:=by assumption
                                               have hv:vs=0:=by simpa using h) | skip
   first | (have h:(pts != 0)=true:=by assumption
            have hpt:pts≠0:=by simpa using h) | (have h:(pts != 0)=false:=by assumption
                                                 have hpt:pts=0:=by simpa using h) | skip
   refine ⟨ret_int ?_,?_⟩
   · unfold hcheck hcheckB
     try rw [HQ1.out]
     try rw [HQ.out]
     repeat first | rw [if_neg (by omega)] | rw [if_pos (by omega)] | rw [cond_true] | rw [cond_false] | rw [decide_eq_true (by omega),Bool.true_and] | rw [decide_eq_false (by omega),Bool.false_and]
   · repeat first | exact Below.refl _ _ | exact bl_step (bl_drewN (bA) _) hb1 | refine bl_drewN ?_ _ | refine bl_alloc ?_ _
theorem check_45 (op:Int) (hop:op=4∨op=5) :
 Calls Tryz.prog 67 #[.agg #[.int .i64 op,.int .i64 vs,.slice A rs.length c,.int .i64 pts]] w fun e w'=>e=.returned (.int .i64 (hcheck op vs rs pts))∧Below w.heap.size w w':=by
 rcases hop with rfl | rfl
 all_goals
  go_enter Tryz.func67,Tryz.ntmps67
  go_wp2
  go_quiet (fail)
 all_goals
  go_wp2_with fail
  all_goals first
   | done
   | (refine (contains1 rs A c w hs hn _ (bl_drewN (bA) _)).mono ?_
      rintro e w1 ⟨rfl,hb1⟩
      obtain ⟨hcl,hfr⟩:=bcell hb1
      generalize hq1:rs.any wrongRg=q1
      have HQ1:=hide hq1;clear hq1
      cases q1 <;> go_wp2_with fail)
   | skip
  all_goals first
   | done
   | (refine (contains2 rs A c w hs hn _ (bl_step (bl_drewN (bA) _) hb1)).mono ?_
      rintro e w2 ⟨rfl,hb2⟩
      generalize hq:rs.any fullRg=q
      have HQ:=hide hq;clear hq
      cases q <;> go_wp2)
   | skip
  all_goals
   go_ret
   first | (have h:(vs != 0)=true:=by assumption
            have hv:vs≠0:=by simpa using h) | (have h:(vs != 0)=false:=by assumption
                                               have hv:vs=0:=by simpa using h) | skip
   first | (have h:(pts != 0)=true:=by assumption
            have hpt:pts≠0:=by simpa using h) | (have h:(pts != 0)=false:=by assumption
                                                 have hpt:pts=0:=by simpa using h) | skip
   refine ⟨ret_int ?_,?_⟩
   · unfold hcheck hcheckB
     try rw [HQ1.out]
     try rw [HQ.out]
     repeat first | rw [if_neg (by omega)] | rw [if_pos (by omega)] | rw [cond_true] | rw [cond_false] | rw [decide_eq_true (by omega),Bool.true_and] | rw [decide_eq_false (by omega),Bool.false_and]
   · repeat first | exact Below.refl _ _ | exact bl_step (bl_step (bl_drewN (bA) _) hb1) hb2 | exact bl_step (bl_drewN (bA) _) hb1 | refine bl_drewN ?_ _ | refine bl_alloc ?_ _
theorem check_any (op:Int) :
 Calls Tryz.prog 67 #[.agg #[.int .i64 op,.int .i64 vs,.slice A rs.length c,.int .i64 pts]] w fun e w'=>e=.returned (.int .i64 (hcheck op vs rs pts))∧Below w.heap.size w w':=by
 by_cases h0:op<1∨5<op
 · exact check_bad vs rs A c pts w op h0
 by_cases h1:op=1∨op=2
 · exact check_12 vs rs A c pts w hs hn op h1
 by_cases h3:op=3
 · subst h3;exact check_3 vs rs A c pts w hs hn
 · exact check_45 vs rs A c pts w hs hn op (by omega)
end
theorem hcheck_zero {op vs:Int} {rs:List Rg} {pts:Int} (h:hcheck op vs rs pts=0) :
 1≤op∧op≤5∧(op=3→3≤vs∧vs≤64)∧(op≠3→vs=0)∧(4≤op→1≤rs.length∧rs.length≤64∧rs.any wrongRg=false)∧(op<4→rs=[])∧(op=5→1≤pts∧pts≤4096)∧(op≠5→pts=0)∧rs.any fullRg=false:=by
 obtain ⟨a,b,c,d,e,f,g,i,j⟩:=hcheckB_zero h (by omega)
 exact ⟨a,b,c,d,fun h=>⟨by have:=e h;omega,by have:=e h;omega,(e h).2.2⟩,fun h=>List.eq_nil_of_length_eq_zero (by have:=f h;omega),g,i,j⟩
end
section
open Go.RowKit
def Rg.key (r:Rg):Bool × Int × Nat:=(r.d,r.v,r.n)
end
section
open Go.RowKit
def fcheckL:List Rg→Int
 | []=>0
 | r::rs=>if sizeOfReg r.v=0 then 7 else if sizeOfReg r.v=(r.n:Int) then fcheckL rs else 8
def fcheck (rs:List Rg):Int:=if rs.length<1∨64<rs.length then 6 else fcheckL rs
theorem fcheckL_drop (rs:List Rg) (k:Nat) (r:Rg) (h:rs[k]?=some r):fcheckL (rs.drop k)=if sizeOfReg r.v=0 then 7 else if sizeOfReg r.v=(r.n:Int) then fcheckL (rs.drop (k+1)) else 8:=by
 obtain ⟨hlt,he⟩:=List.getElem?_eq_some_iff.1 h
 rw [List.drop_eq_getElem_cons hlt,he]
 rfl
theorem fcheck_any (rs:List Rg) (A:Option Addr) (c:Nat) (w:World) (hs:Sl w w.heap.size A (rgCells rs)) :
 Calls Tryz.prog 180 #[.slice A rs.length c] w fun e w'=>e=.returned (.int .i64 (fcheck rs))∧Below w.heap.size w w':=by
 have HS:=hide hs;clear hs
 by_cases hc:rs.length<1∨64<rs.length
 · have hf:fcheck rs=6:=by unfold fcheck;rw [if_pos hc]
   rw [hf]
   have hci:((rs.length:Nat):Int)<1∨(¬ ((rs.length:Nat):Int)<1∧(64:Int)<((rs.length:Nat):Int)):=by omega
   clear hf hc
   rcases hci with h | ⟨h,h2⟩
   · go_enter Tryz.func180,Tryz.ntmps180
     go_wp2
     go_ret
     exact ⟨rfl,Below.refl _ _⟩
   · go_enter Tryz.func180,Tryz.ntmps180
     go_wp2
     go_ret
     exact ⟨rfl,Below.refl _ _⟩
 · have hf:fcheck rs=fcheckL rs:=by unfold fcheck;rw [if_neg hc]
   rw [hf]
   have h1:¬ ((rs.length:Nat):Int)<1:=by omega
   have h2:¬ (64:Int)<((rs.length:Nat):Int):=by omega
   clear hf hc
   go_enter Tryz.func180,Tryz.ntmps180
   go_wp2
   go_loopw [15] (fun i wr=>∃ k:Nat,k≤rs.length∧i=.int .i64 k∧Hid (fcheckL rs=fcheckL (rs.drop k))∧Below w.heap.size w wr)
    (fun i _=>rs.length - (intOf i).toNat)
   case atStart=>exact ⟨0,Nat.zero_le _,rfl,hide (by simp),Below.refl _ _⟩
   case round =>
    obtain ⟨k,hk,rfl,hF,hb⟩:=hrel
    by_cases hlt:k<rs.length
    · obtain ⟨r,hr⟩:∃ r,rs[k]?=some r:=⟨_,List.getElem?_eq_getElem hlt⟩
      obtain ⟨b,off,rfl,hB,c0,c1,c2⟩:=(HS.out.below hb).rg hr
      have hD:=hide (hF.out.trans (fcheckL_drop rs k r hr))
      have hlti:((k:Nat):Int)<((rs.length:Nat):Int):=by omega
      obtain ⟨d,v,A,n,c⟩:=r
      dsimp only at *
      clear hr hF
      obtain ⟨w1,hw1⟩:∃ w1,w1=wr.alloc (.cells #[.bool d,.int .i64 v,.slice A n c] 61):=⟨_,rfl⟩
      have hb1:Below wr.heap.size wr w1:=by rw [hw1];exact bA
      have B1:Blk w1 wr.heap.size 61 #[.bool d,.int .i64 v,.slice A n c]:=by rw [hw1];exact Blk.new _ _ _
      go_wp2_with fail
      rw [← hw1]
      clear hw1
      refine (size_any d v A n c w1).mono ?_
      rintro e w2 ⟨rfl,hb2⟩
      have B2:=B1.step hb2
      have z2:w2.cell? ⟨wr.heap.size,2,none⟩=some (.slice A n c):=B2.cell (i:=2) rfl
      have hbb:Below w.heap.size w w2:=bl_step (bl_step hb hb1) hb2
      clear B1 B2 hb1 hb2 c0 c1 c2
      obtain ⟨z,hz⟩:∃ z,z=sizeOfReg v:=⟨_,rfl⟩
      rw [← hz] at hD
      rw [← hz]
      clear hz
      by_cases h0:z=0
      · have hD':Hid (fcheckL rs=7):=hide (hD.out.trans (if_pos h0))
        clear hD
        subst h0
        go_wp2
        go_ret
        exact ⟨ret_int hD'.out.symm,hbb⟩
      · by_cases h3:z=(n:Int)
        · have hD':Hid (fcheckL rs=fcheckL (rs.drop (k+1))):=hide (hD.out.trans ((if_neg h0).trans (if_pos h3)))
          clear hD
          go_wp2
          go_roundw
          case rel=>exact ⟨k+1,by omega,by go_num,hD',hbb⟩
          case measure=>simp [intOf];omega
        · have hD':Hid (fcheckL rs=8):=hide (hD.out.trans ((if_neg h0).trans (if_neg h3)))
          clear hD
          go_wp2
          go_ret
          exact ⟨ret_int hD'.out.symm,hbb⟩
    · obtain rfl:k=rs.length:=by omega
      have hD':Hid (fcheckL rs=0):=hide (hF.out.trans (by rw [List.drop_length];rfl))
      go_wp2
      go_ret
      exact ⟨ret_int hD'.out.symm,hb⟩
end
end Go.Proofs.YtfljlmleiggmjaaGreatDoor
