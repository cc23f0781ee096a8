/- FenceSize IndexFunc Check HdBase Payload Counts Same RefCounts FenceCheck -/
import Derived.BigQuiet
import Derived.Deep.QuietTactic
import Derived.RegionTactic
import Derived.ScopeJumps
import Derived.WalkMore
import Derived.Test.YthnenedoblncjaaGreatDoorPkR00
set_option maxRecDepth 1000000
set_option maxHeartbeats 8000000
namespace Go.Proofs.YthnenedoblncjaaGreatDoor
open Go.Proofs.Tryz
section
open Go.RowKit
def ZJ(v:Int):Int:=if v=0 then 3 else if 3<=v/\v<=64 then v else 0
theorem Vq(d:Bool)(A:Option Addr)(n c:Nat)(w:World):
 Calls prog 265 #[.agg #[.bool d,.int .i64 0,.slice A n c]] w fun e w'=>e=.returned (.iface 379 (.agg #[.bool d,.int .i64 0,.slice A n c]))/\Below w.heap.size w w':=by
 go_enter func265,ntmps265;go_wp2;go_ret;exact ⟨rfl,(Below.refl _ _).alloc (Nat.le_refl _) _⟩
theorem VZ(d:Bool)(v:Int)(hv:(v == 0)=false)(A:Option Addr)(n c:Nat)(w:World):
 Calls prog 265 #[.agg #[.bool d,.int .i64 v,.slice A n c]] w fun e w'=>e=.returned (.iface 380 (.agg #[.bool d,.int .i64 v,.slice A n c]))/\Below w.heap.size w w':=by
 go_enter func265,ntmps265;go_wp2;go_ret;exact ⟨rfl,(Below.refl _ _).alloc (Nat.le_refl _) _⟩
theorem Uy(v:Int)(w:World):
 Calls prog 47 #[.int .i64 v] w fun e w'=>e=.returned (.int .i64 (ZJ v))/\w=w':=by
 go_enter func47,ntmps47;go_wp2
 all_goals go_ret
 · have h:(v == 0)=true:=(by assumption);have h0:v=0:=(by simpa using h);exact ⟨Zf (by simp [ZJ,h0]),rfl⟩
 all_goals
  have h:(v == 0)=false:=by assumption
  have h0:v≠0:=by simpa using h
  exact ⟨Zf (by unfold ZJ;rw [if_neg h0];first|rw [if_pos ⟨by assumption,by assumption⟩]|rw [if_neg (by omega)]),rfl⟩
theorem rC(d:Bool)(v:Int)(A:Option Addr)(n c:Nat)(w:World):
 Calls prog 371 #[.agg #[.bool d,.int .i64 v,.slice A n c]] w fun e w'=>e=.returned (.int .i64 3)/\Below w.heap.size w w':=by
 go_enter func371,ntmps371;go_wp2;go_ret;exact ⟨rfl,(Below.refl _ _).alloc (Nat.le_refl _) _⟩
theorem wG(d:Bool)(v:Int)(A:Option Addr)(n c:Nat)(w:World)(hv:v≠0):
 Calls prog 378 #[.agg #[.bool d,.int .i64 v,.slice A n c]] w fun e w'=>e=.returned (.int .i64 (ZJ v))/\Below w.heap.size w w':=by
 go_enter func378,ntmps378;go_wp2
 all_goals go_ret
 all_goals exact ⟨Zf (by unfold ZJ;rw [if_neg hv];first|rw [if_pos ⟨by omega,by omega⟩]|rw [if_neg (by omega)]),(Below.refl _ _).alloc (Nat.le_refl _) _⟩
theorem yC(d : Bool)(v : Int)(A : Option Addr)(n c : Nat)(w : World): (method 519 379 (.agg #[.bool d, .int .i64 v, .slice A n c]) "geofence/fence.size").run prog w = .ok (371, .agg #[.bool d, .int .i64 v, .slice A n c]) w := by kernel_rfl
theorem Cv(d : Bool)(v : Int)(A : Option Addr)(n c : Nat)(w : World): (method 519 380 (.agg #[.bool d, .int .i64 v, .slice A n c]) "geofence/fence.size").run prog w = .ok (378, .agg #[.bool d, .int .i64 v, .slice A n c]) w := by kernel_rfl
theorem TT(d:Bool)(v:Int)(A:Option Addr)(n c:Nat)(w:World):
 Calls prog 215 #[.agg #[.bool d,.int .i64 v,.slice A n c]] w fun e w'=>e=.returned (.int .i64 (ZJ v))/\Below w.heap.size w w':=by
 have hmr:=yC;have hmc:=Cv;go_enter func215,ntmps215
 by_cases h0:v=0
 · subst h0;go_wp2_with fail;refine (Vq _ _ _ _ _).mono ?_;rintro e w1 ⟨rfl,hb⟩;go_wp2_with fail;refine (rC _ _ _ _ _ _).mono ?_;rintro e w2 ⟨rfl,hb2⟩;go_wp2;go_ret;exact ⟨rfl,((Below.refl _ _).alloc (Nat.le_refl _) _).trans ((hb.mono (by simp)).trans (hb2.mono (by have:=hb.size;simp at this;omega)))⟩
 · have hv:(v == 0)=false:=(by simpa using h0);go_wp2_with fail;refine (VZ _ _ hv _ _ _ _).mono ?_;rintro e w1 ⟨rfl,hb⟩;go_wp2_with fail;refine (wG _ _ _ _ _ _ h0).mono ?_;rintro e w2 ⟨rfl,hb2⟩;go_wp2;go_ret;exact ⟨rfl,((Below.refl _ _).alloc (Nat.le_refl _) _).trans ((hb.mono (by simp)).trans (hb2.mono (by have:=hb.size;simp at this;omega)))⟩
def Nh(K:FuncId)(p:Rg->Bool):Prop:=∀ (r:Rg) (w:World),Calls prog K #[.agg #[.bool r.d,.int .i64 r.v,.slice r.A r.n r.c]] w fun e w'=>e=.returned (.bool (p r))/\Below w.heap.size w w'
def Enters(K:FuncId):Prop:=∀ (a:Array Value) (w:World),(callFunc K a).run prog w=.ok (.enter K a) w
def zwq(rs:List Rg)(p:Rg->Bool)(w:World)(e:Ending)(w':World):Prop:=∃ k:Int,e=.returned (.int .i64 k)/\decide (0<=k)=rs.any p/\Below w.heap.size w w'
theorem I9(K:FuncId)(hK:Enters K)(p:Rg->Bool)(hp:Nh K p)(A:Option Addr)(c:Nat)(rs:List Rg)(w:World)(hs:Sl w w.heap.size A (rgCells rs))(hn:rs.length<=maxLen):
 Calls prog 328 #[.slice A rs.length c,.func (.func K) #[] #[]] w (zwq rs p w):=by
 unfold maxLen at hn;unfold Enters at hK;go_enter func328,ntmps328;go_wp2
 go_loopw [5,8] (fun _ i wr=>∃ k:Nat,k<=rs.length/\i=.int .i64 k/\Below w.heap.size w wr/\(rs.take k).any p=false)
  (fun _ i _=>rs.length - (intOf i).toNat)
 case atStart=>exact ⟨0,by omega,rfl,Below.refl _ _,by simp⟩
 case round =>
  obtain ⟨k,hk,rfl,hb,hany⟩:=hrel
  by_cases hlt:k<rs.length
  · obtain ⟨r,hr⟩:∃ r,rs[k]?=some r:=⟨_,List.getElem?_eq_getElem hlt⟩;obtain ⟨b,off,rfl,hB,c0,c1,c2⟩:=(hs.below hb).rg hr;have HR:=hide hr;clear hr;have HA:=hide hany;clear hany;go_wp2_with fail;refine (hp r _).mono ?_;rintro e w1 ⟨rfl,hb1⟩;obtain ⟨q,hq⟩:=eE (p r);rw [<- hq];have HQ:=hide hq;clear hq;cases q
    · go_wp2;go_roundw
      case rel=>exact ⟨k+1,by omega,by go_num,hb.trans (hb1.mono hb.size),by rw [any_take_succ _ _ _ _ HR.out,HA.out,<- HQ.out];rfl⟩
      case measure=>simp [intOf];omega
    · go_wp2;go_ret;exact ⟨k,rfl,by rw [UK _ _ _ _ HR.out HQ.out.symm];simp,hb.trans (hb1.mono hb.size)⟩
  · have hk':k=rs.length:=(by omega);go_wp2;go_ret;exact ⟨-1,rfl,by rw [hk',List.take_length] at hany;rw [hany];rfl,hb⟩
theorem V5(K:FuncId)(hK:Enters K)(p:Rg->Bool)(hp:Nh K p)(A:Option Addr)(c:Nat)(rs:List Rg)(w:World)(hs:Sl w w.heap.size A (rgCells rs))(hn:rs.length<=maxLen):
 Calls prog 287 #[.slice A rs.length c,.func (.func K) #[] #[]] w fun e w'=>e=.returned (.bool (rs.any p))/\Below w.heap.size w w':=by
 have HP:=hide hp;clear hp;go_enter func287,ntmps287;go_wp2_with fail;refine (I9 K hK p HP.out A c rs w hs hn).mono ?_;rintro e w1 ⟨k,rfl,hk,hb⟩;have HK:=hide hk;clear hk;go_wp2;go_ret;exact ⟨XA HK.out,hb⟩
theorem QX(K:FuncId)(hK:Enters K)(p:Rg->Bool)(hp:Nh K p)(A:Option Addr)(c n:Nat)(rs:List Rg)(hnl:n=rs.length)(w:World)(hs:Sl w w.heap.size A (rgCells rs))(hn:rs.length<=maxLen):
 Calls prog 287 #[.slice A n c,.func (.func K) #[] #[]] w fun e w'=>e=.returned (.bool (rs.any p))/\Below w.heap.size w w':=by
 subst hnl;exact V5 K hK p hp A c rs w hs hn
end
section
open Go.RowKit
def Zq(r:Rg):Bool:=ZJ r.v == 0
def V7(r:Rg):Bool:=decide (0<r.n)
theorem Aw:Nh 316 Zq:=by
 intro r w;go_enter func316,ntmps316;go_wp2_with fail;refine (TT _ _ _ _ _ _).mono ?_;rintro e w1 ⟨rfl,hb⟩;go_wp2;go_ret;exact ⟨rfl,((Below.refl _ _).alloc (Nat.le_refl _) _).trans (hb.mono (by simp))⟩
theorem Ay:Nh 317 V7:=by
 intro r w;go_enter func317,ntmps317;go_wp2;go_ret;exact ⟨rfl,((Below.refl _ _).alloc (Nat.le_refl _) _)⟩
theorem IQ:Enters 316:=fun _ _=>by kernel_rfl
theorem IU:Enters 317:=fun _ _=>by kernel_rfl
def Uv(op vs n ZY:Int)(q1 q2:Bool):Int :=
 if op<1\/5<op then 5
 else if op=3/\(vs<3\/64<vs) then 6
 else if (op=4\/op=5)/\(n<1\/64<n) then 6
 else bif decide (op=4\/op=5) && q1 then 7
 else if op=5/\(ZY<1\/4096<ZY) then 6
 else if (op≠3/\vs≠0)\/(op<4/\0<n)\/(op≠5/\ZY≠0) then 2
 else bif q2 then 2 else 0
def ZM(op vs:Int)(rs:List Rg)(ZY:Int):Int:=Uv op vs rs.length ZY (rs.any Zq) (rs.any V7)
theorem EI{op vs n ZY:Int}{q1 q2:Bool}(h:Uv op vs n ZY q1 q2=0)(h0:0<=n):
 1<=op/\op<=5/\(op=3->3<=vs/\vs<=64)/\(op≠3->vs=0)/\(4<=op->1<=n/\n<=64/\q1=false)/\(op<4->n=0)/\(op=5->1<=ZY/\ZY<=4096)/\(op≠5->ZY=0)/\q2=false:=by
 unfold Uv at h
 by_cases h1:op<1\/5<op
 · rw [if_pos h1] at h;omega
 rw [if_neg h1] at h
 by_cases h2:op=3/\(vs<3\/64<vs)
 · rw [if_pos h2] at h;omega
 rw [if_neg h2] at h
 by_cases h3:(op=4\/op=5)/\(n<1\/64<n)
 · rw [if_pos h3] at h;omega
 rw [if_neg h3] at h
 by_cases h4:(decide (op=4\/op=5) && q1)=true
 · rw [h4,cond_true] at h;omega
 rw [Bool.not_eq_true] at h4;rw [h4,cond_false] at h
 by_cases h5:op=5/\(ZY<1\/4096<ZY)
 · rw [if_pos h5] at h;omega
 rw [if_neg h5] at h
 by_cases h6:(op≠3/\vs≠0)\/(op<4/\0<n)\/(op≠5/\ZY≠0)
 · rw [if_pos h6] at h;omega
 rw [if_neg h6] at h;cases q2
 · refine ⟨by omega,by omega,by omega,by omega,fun h7=>⟨by omega,by omega,?_⟩,by omega,by omega,by omega,rfl⟩;have:decide (op=4\/op=5)=true:=(by rw [decide_eq_true_eq];omega);rw [this] at h4;simpa using h4
 · rw [cond_true] at h;omega
section
variable (vs:Int)(rs:List Rg)(A:Option Addr)(c:Nat)(ZY:Int)(w:World)
theorem nZ(op:Int)(hop:op<1\/5<op):
 Calls prog 282 #[.agg #[.int .i64 op,.int .i64 vs,.slice A rs.length c,.int .i64 ZY]] w fun e w'=>e=.returned (.int .i64 (ZM op vs rs ZY))/\Below w.heap.size w w':=by
 have h3:(op == 3)=false:=by simp;omega
 have h4:(op == 4)=false:=by simp;omega
 have h5:(op == 5)=false:=by simp;omega
 have hsp:ZM op vs rs ZY=5:=by unfold ZM Uv;rw [if_pos hop]
 rw [hsp];rcases hop with hop|hop
 all_goals
  go_enter func282,ntmps282;go_wp2
  go_quiet (fail)
  go_wp2;go_ret;exact ⟨rfl,YB (bA) _⟩
variable (hs:Sl w w.heap.size A (rgCells rs))(hn:rs.length<=maxLen)
include hs hn
theorem oC(w1:World)(hb:Below w.heap.size w w1):Calls prog 287 #[.slice A rs.length c,.func (.func 316) #[] #[]] w1 fun e w'=>e=.returned (.bool (rs.any Zq))/\Below w1.heap.size w1 w' :=
 V5 _ IQ _ Aw A c rs w1 ((hs.below hb).more hb.size) hn
theorem Np(w1:World)(hb:Below w.heap.size w w1):Calls prog 287 #[.slice A rs.length c,.func (.func 317) #[] #[]] w1 fun e w'=>e=.returned (.bool (rs.any V7))/\Below w1.heap.size w1 w' :=
 V5 _ IU _ Ay A c rs w1 ((hs.below hb).more hb.size) hn
theorem fT(op:Int)(hop:op=1\/op=2):
 Calls prog 282 #[.agg #[.int .i64 op,.int .i64 vs,.slice A rs.length c,.int .i64 ZY]] w fun e w'=>e=.returned (.int .i64 (ZM op vs rs ZY))/\Below w.heap.size w w':=by
 rcases hop with rfl|rfl
 all_goals
  go_enter func282,ntmps282;go_wp2
  go_quiet (fail)
  go_wp2_with fail
  all_goals first
   | done
   | (refine (Np rs A c w hs hn _ (YB (bA) _)).mono ?_
      rintro e w1 ⟨rfl,hb1⟩;generalize hq:rs.any V7=q;have HQ:=hide hq;clear hq
      cases q <;> go_wp2)
   | skip
  all_goals
   go_ret
   first|(have h:(vs != 0)=true:=by assumption
          have hv:vs≠0:=by simpa using h)|(have h:(vs != 0)=false:=by assumption
                                           have hv:vs=0:=by simpa using h)|skip
   first|(have h:(ZY != 0)=true:=by assumption
          have hpt:ZY≠0:=by simpa using h)|(have h:(ZY != 0)=false:=by assumption
                                            have hpt:ZY=0:=by simpa using h)|skip
   refine ⟨Zf ?_,?_⟩
   · unfold ZM Uv
     try rw [HQ1.out]
     try rw [HQ.out]
     repeat first|rw [if_neg (by omega)]|rw [if_pos (by omega)]|rw [cond_true]|rw [cond_false]|rw [decide_eq_true (by omega),Bool.true_and]|rw [decide_eq_false (by omega),Bool.false_and]
   · repeat first|exact Below.refl _ _|exact Z8 (YB (bA) _) hb1|refine YB ?_ _|refine Z5 ?_ _
theorem zxa :
 Calls prog 282 #[.agg #[.int .i64 3,.int .i64 vs,.slice A rs.length c,.int .i64 ZY]] w fun e w'=>e=.returned (.int .i64 (ZM 3 vs rs ZY))/\Below w.heap.size w w':=by
 go_enter func282,ntmps282;go_wp2
 go_quiet (fail)
 all_goals
  go_wp2_with fail
  all_goals first
   | done
   | (refine (Np rs A c w hs hn _ (YB (bA) _)).mono ?_
      rintro e w1 ⟨rfl,hb1⟩;generalize hq:rs.any V7=q;have HQ:=hide hq;clear hq
      cases q <;> go_wp2)
   | skip
  all_goals
   go_ret
   first|(have h:(vs != 0)=true:=by assumption
          have hv:vs≠0:=by simpa using h)|(have h:(vs != 0)=false:=by assumption
                                           have hv:vs=0:=by simpa using h)|skip
   first|(have h:(ZY != 0)=true:=by assumption
          have hpt:ZY≠0:=by simpa using h)|(have h:(ZY != 0)=false:=by assumption
                                            have hpt:ZY=0:=by simpa using h)|skip
   refine ⟨Zf ?_,?_⟩
   · unfold ZM Uv
     try rw [HQ1.out]
     try rw [HQ.out]
     repeat first|rw [if_neg (by omega)]|rw [if_pos (by omega)]|rw [cond_true]|rw [cond_false]|rw [decide_eq_true (by omega),Bool.true_and]|rw [decide_eq_false (by omega),Bool.false_and]
   · repeat first|exact Below.refl _ _|exact Z8 (YB (bA) _) hb1|refine YB ?_ _|refine Z5 ?_ _
theorem fU(op:Int)(hop:op=4\/op=5):
 Calls prog 282 #[.agg #[.int .i64 op,.int .i64 vs,.slice A rs.length c,.int .i64 ZY]] w fun e w'=>e=.returned (.int .i64 (ZM op vs rs ZY))/\Below w.heap.size w w':=by
 rcases hop with rfl|rfl
 all_goals
  go_enter func282,ntmps282;go_wp2
  go_quiet (fail)
 all_goals
  go_wp2_with fail
  all_goals first
   | done
   | (refine (oC rs A c w hs hn _ (YB (bA) _)).mono ?_
      rintro e w1 ⟨rfl,hb1⟩;obtain ⟨hcl,hfr⟩:=Mq hb1;generalize hq1:rs.any Zq=q1;have HQ1:=hide hq1;clear hq1
      cases q1 <;> go_wp2_with fail)
   | skip
  all_goals first
   | done
   | (refine (Np rs A c w hs hn _ (Z8 (YB (bA) _) hb1)).mono ?_
      rintro e w2 ⟨rfl,hb2⟩;generalize hq:rs.any V7=q;have HQ:=hide hq;clear hq
      cases q <;> go_wp2)
   | skip
  all_goals
   go_ret
   first|(have h:(vs != 0)=true:=by assumption
          have hv:vs≠0:=by simpa using h)|(have h:(vs != 0)=false:=by assumption
                                           have hv:vs=0:=by simpa using h)|skip
   first|(have h:(ZY != 0)=true:=by assumption
          have hpt:ZY≠0:=by simpa using h)|(have h:(ZY != 0)=false:=by assumption
                                            have hpt:ZY=0:=by simpa using h)|skip
   refine ⟨Zf ?_,?_⟩
   · unfold ZM Uv
     try rw [HQ1.out]
     try rw [HQ.out]
     repeat first|rw [if_neg (by omega)]|rw [if_pos (by omega)]|rw [cond_true]|rw [cond_false]|rw [decide_eq_true (by omega),Bool.true_and]|rw [decide_eq_false (by omega),Bool.false_and]
   · repeat first|exact Below.refl _ _|exact Z8 (Z8 (YB (bA) _) hb1) hb2|exact Z8 (YB (bA) _) hb1|refine YB ?_ _|refine Z5 ?_ _
theorem Ve(op:Int):
 Calls prog 282 #[.agg #[.int .i64 op,.int .i64 vs,.slice A rs.length c,.int .i64 ZY]] w fun e w'=>e=.returned (.int .i64 (ZM op vs rs ZY))/\Below w.heap.size w w':=by
 by_cases h0:op<1\/5<op
 · exact nZ vs rs A c ZY w op h0
 by_cases h1:op=1\/op=2
 · exact fT vs rs A c ZY w hs hn op h1
 by_cases h3:op=3
 · subst h3;exact zxa vs rs A c ZY w hs hn
 · exact fU vs rs A c ZY w hs hn op (by omega)
end
theorem ZA{op vs:Int}{rs:List Rg}{ZY:Int}(h:ZM op vs rs ZY=0):
 1<=op/\op<=5/\(op=3->3<=vs/\vs<=64)/\(op≠3->vs=0)/\(4<=op->1<=rs.length/\rs.length<=64/\rs.any Zq=false)/\(op<4->rs=[])/\(op=5->1<=ZY/\ZY<=4096)/\(op≠5->ZY=0)/\rs.any V7=false:=by
 obtain ⟨a,b,c,d,e,f,g,i,j⟩:=EI h (by omega);exact ⟨a,b,c,d,fun h=>⟨by have:=e h;omega,by have:=e h;omega,(e h).2.2⟩,fun h=>List.eq_nil_of_length_eq_zero (by have:=f h;omega),g,i,j⟩
end
section
open Go.RowKit
def Qi(op vs:Int)(rs:List Rg)(ZY:Int):Int:=if ZM op vs rs ZY=0 then (if op=5 then 4+ZY*9 else 2) else 0
def YA(rs:List Rg):Int:=(rs.map fun r=>ZJ r.v).sum
theorem Xv(v:Int):0<=ZJ v/\ZJ v<=64:=by
 unfold ZJ;split
 · omega
 · split <;> omega
theorem TA(rs:List Rg):0<=YA rs/\YA rs<=64*rs.length:=by
 induction rs with
 | nil=>simp [YA]
 | cons r rs ih =>
   have:=Xv r.v;simp only [YA,List.map_cons,List.sum_cons,List.length_cons] at *;omega
theorem OZ(rs:List Rg)(k:Nat)(r:Rg)(h:rs[k]?=some r):YA (rs.take (k+1))=YA (rs.take k)+ZJ r.v:=by
 rw [List.take_add_one,h];simp [YA]
def XF(op:Int):Int:=if op=1 then 3 else if op=2 then 4 else if op=5 then 0 else 1
def hpay(op vs:Int)(rs:List Rg)(ZY:Int):Int:=if ZM op vs rs ZY=0 then (XF op+vs+YA rs)*16+ZY*24 else 0
structure PH where
 op:Int
 vs:Int
 rs:List Rg
 ZY:Int
def Zh:PH:=⟨0,0,[],0⟩
def YX(x:Int):Rg:=⟨decide (128<=x),x % 128,none,0,0⟩
def ZW(bs:List Int):PH × Int × Int :=
 if bs.length<1 then (Zh,0,4)
 else if bs.getD 0 0=1\/bs.getD 0 0=2 then (⟨bs.getD 0 0,0,[],0⟩,1,0)
 else if bs.getD 0 0<3\/5<bs.getD 0 0 then (Zh,0,5)
 else if bs.length<2 then (Zh,0,4)
 else if bs.getD 0 0=3 then (if bs.getD 1 0<3\/64<bs.getD 1 0 then (Zh,0,6) else (⟨3,bs.getD 1 0,[],0⟩,2,0))
 else if bs.getD 1 0<1\/64<bs.getD 1 0 then (Zh,0,6)
 else if (bs.length:Int)<2+bs.getD 1 0 then (Zh,0,4)
 else if (((bs.drop 2).take (bs.getD 1 0).toNat).map YX).any Zq=true then (Zh,0,7)
 else if bs.getD 0 0=4 then (⟨4,0,((bs.drop 2).take (bs.getD 1 0).toNat).map YX,0⟩,2+bs.getD 1 0,0)
 else if (bs.length:Int)<4+bs.getD 1 0 then (Zh,0,4)
 else if bs.getD (2+(bs.getD 1 0).toNat) 0+256*bs.getD (3+(bs.getD 1 0).toNat) 0<1\/4096<bs.getD (2+(bs.getD 1 0).toNat) 0+256*bs.getD (3+(bs.getD 1 0).toNat) 0 then (Zh,0,6)
 else (⟨5,0,((bs.drop 2).take (bs.getD 1 0).toNat).map YX,bs.getD (2+(bs.getD 1 0).toNat) 0+256*bs.getD (3+(bs.getD 1 0).toNat) 0⟩,4+bs.getD 1 0,0)
def Y7(bs:List Int):Int :=
 if (ZW bs).2.2=0 then (if (bs.length:Int)=(ZW bs).2.1+hpay (ZW bs).1.op (ZW bs).1.vs (ZW bs).1.rs (ZW bs).1.ZY then 0 else 8) else (ZW bs).2.2
theorem YJ{α:Type}{P:α->Prop}{c:Prop}[Decidable c]{a b:α}(ha:c->P a)(hb:¬ c->P b):P (if c then a else b):=by
 by_cases h:c
 · rw [if_pos h];exact ha h
 · rw [if_neg h];exact hb h
def zfo(bs:List Int)(r:PH × Int × Int):Prop:=r.1.rs.length<=bs.length/\0<=r.2.1/\r.2.1<=68
theorem Ow(bs:List Int):zfo bs (ZW bs):=by
 unfold ZW
 repeat' (refine YJ (fun _=>?_) (fun _=>?_))
 all_goals refine ⟨?_,?_,?_⟩
 all_goals simp only [Zh,List.length_map,List.length_take,List.length_drop,List.length_nil]
 all_goals omega
theorem xQ(bs:List Int):(ZW bs).1.rs.length<=bs.length:=(Ow bs).1
theorem Kl(bs:List Int):0<=(ZW bs).2.1/\(ZW bs).2.1<=68:=(Ow bs).2
theorem uq(op vs:Int)(rs:List Rg)(ZY:Int):0<=hpay op vs rs ZY/\hpay op vs rs ZY<=200000:=by
 unfold hpay;split
 · rename_i h
   obtain ⟨a,b,c,d,e,f,g,i,_⟩:=ZA h;have hs:=TA rs;have hf:0<=XF op/\XF op<=4:=(by unfold XF;split <;> (try split) <;> (try split) <;> omega);have hl:rs.length<=64:=by
    by_cases h4:4<=op
    · exact (e h4).2.1
    · rw [f (by omega)];simp
   have hv:0<=vs/\vs<=64:=(by omega);have hp:0<=ZY/\ZY<=4096:=(by omega);omega
 · omega
end
section
open Go.RowKit
def Fixed(w:World):Prop:=∀ j:Nat,j<6->w.cell? ⟨9,j,none⟩=some (.int .i64 ([0,3,4,1,1,0].getD j 0))
theorem Fixed.below{w w':World}(h:Fixed w)(hb:Below w.heap.size w w')(hg:9<w.heap.size):Fixed w':=fun j hj=>(hb.cell (p:=⟨9,j,none⟩) hg).trans (h j hj)
section
variable (vs:Int)(rs:List Rg)(A:Option Addr)(c:Nat)(ZY:Int)(w:World)
variable (hs:Sl w w.heap.size A (rgCells rs))(hn:rs.length<=maxLen)
include hs hn
variable (hfix:Fixed w)(hg:9<w.heap.size)
include hfix hg
theorem CX(op:Int):
 Calls prog 286 #[.agg #[.int .i64 op,.int .i64 vs,.slice A rs.length c,.int .i64 ZY]] w fun e w'=>e=.returned (.int .i64 (hpay op vs rs ZY))/\Below w.heap.size w w':=by
 have hs':=hide hs;clear hs;have HF:=hide hfix;clear hfix;go_enter func286,ntmps286;go_wp2_with fail;refine (Ve vs rs A c ZY _ ((hs'.out.below (bA)).more (by simp)) hn op).mono ?_;rintro e w1 ⟨rfl,hb⟩;obtain ⟨hcl,hfr⟩:=Mq hb
 by_cases h0:ZM op vs rs ZY=0
 · have hz:=ZA h0;rw [h0];have hsl:=(hs'.out.below (Z8 (bA) hb));have hcells:∀ j:Nat,j<6->w1.cell? ⟨9,j,none⟩=some (.int .i64 ([0,3,4,1,1,0].getD j 0)):=fun j hj=>((Z8 (bA) hb).cell (p:=⟨9,j,none⟩) hg).trans (HF.out j hj);have g1:=hcells 1 (by omega);have g2:=hcells 2 (by omega);have g3:=hcells 3 (by omega);have g4:=hcells 4 (by omega);have g5:=hcells 5 (by omega);clear hcells;simp only [List.getD_cons_succ,List.getD_cons_zero] at g1 g2 g3 g4 g5;obtain ⟨ha,hb',hc,hd,he,hf,hgg,hi,hj⟩:=hz;have hspec:hpay op vs rs ZY=(XF op+vs+YA rs)*16+ZY*24:=(by unfold hpay;rw [if_pos h0]);have H0:=hide h0;clear h0;have hop:op=1\/op=2\/op=3\/op=4\/op=5:=(by omega);have HSP:=hide hspec;clear hspec;have yzc:rs.length<=64:=by
    by_cases h4:4<=op
    · exact (he h4).2.1
    · rw [hf (by omega)];simp
   have HE:=hide he;clear he;have HFn:=hide hf;clear hf;have hvb:0<=vs/\vs<=64:=(by omega);have hpb:0<=ZY/\ZY<=4096:=(by omega);clear hc hd hgg hi;obtain ⟨hv1,hv2⟩:=hvb;obtain ⟨hp1,hp2⟩:=hpb;obtain ⟨X,hX⟩:=eE (XF op);have hXb:0<=X/\X<=4:=(by rw [hX];unfold XF;split <;> (try split) <;> (try split) <;> omega);obtain ⟨hX1,hX2⟩:=hXb;have HX:=hide hX;clear hX;rcases hop with rfl|rfl|rfl|rfl|rfl
   all_goals
    go_wp2
    go_quiet (fail)
    go_wp2
    go_loopw [3,5,19] (fun t _ i wr=>∃ k:Nat,k<=rs.length/\i=.int .i64 k/\t=.int .i64 (X+vs+YA (rs.take k))/\Below w1.heap.size w1 wr)
     (fun _ _ i _=>rs.length - (intOf i).toNat)
    case atStart=>exact ⟨0,by omega,rfl,by rw [HX.out];simp [YA,XF],below_drewN (Below.refl _ _) _⟩
    case round =>
     obtain ⟨k,hk,rfl,rfl,hbr⟩:=hrel;have hsb:=TA (rs.take k);rw [List.length_take,Nat.min_eq_left hk] at hsb;obtain ⟨zxy,zxz⟩:=hsb
     by_cases hlt:k<rs.length
     · obtain ⟨r,hr⟩:∃ r,rs[k]?=some r:=⟨_,List.getElem?_eq_getElem hlt⟩;obtain ⟨b,off,rfl,hB,c0,c1,c2⟩:=(hsl.below (hbr.mono (by have:=hb.size;simp at this;omega))).rg hr;have hsn:=OZ rs k r hr;have hzb:=Xv r.v;obtain ⟨zdo,zdp⟩:=hzb;have HR:=hide hr;clear hr;have HN:=hide hsn;clear hsn;go_wp2_with fail;refine (TT r.d r.v r.A r.n r.c _).mono ?_;rintro e w2 ⟨rfl,hb2⟩;go_wp2;go_roundw
       case rel=>exact ⟨k+1,by omega,by go_num,by rw [HN.out];go_num,Z8 (Z5 hbr _) hb2⟩
       case measure=>simp [intOf];omega
     · have hk':k=rs.length:=(by omega);rw [hk',List.take_length] at zxy zxz ⊢;clear hk' hlt hk;obtain ⟨yzf,hfr2⟩:=Mq hbr;have hz1:=hb.size;simp at hz1;have hz2:w.heap.size<w1.heap.size:=(by omega);go_wp2;go_ret;exact ⟨Zf (by rw [HSP.out,<- HX.out]),Z8 (Z8 (bA) hb) hbr⟩
 · have hr:hpay op vs rs ZY=0:=(by unfold hpay;rw [if_neg h0]);have h0':(ZM op vs rs ZY != 0)=true:=(by simpa using h0);generalize ZM op vs rs ZY=x at *;have H0:=hide h0;clear h0;have HR:=hide hr;clear hr;go_wp2;go_ret;exact ⟨Zf HR.out.symm,Z8 (bA) hb⟩
end
end
section
open Go.RowKit
def XI(op vs:Int):Int:=if op=1 then 3 else if op=2 then 4 else if op=3 then vs+1 else if op=4 then 1 else 0
def Xm(op ZY:Int):Int:=if op=1\/op=2\/op=3\/op=4 then 0 else ZY
section
variable (op vs ZY:Int)(hA:Value)(w:World)(h0:-1000<=vs)(h1:vs<=1000)
include h0 h1
def dJ(n m:Int)(w:World)(e:Ending)(w':World):Prop:=e=.returned (.tuple #[.int .i64 n,.int .i64 m])/\Below w.heap.size w w'
theorem JQ(A:Option Addr)(n c:Nat):Calls prog 214 #[.agg #[.int .i64 op,.int .i64 vs,.slice A n c,.int .i64 ZY]] w (dJ (XI op vs) (Xm op ZY) w):=by
 by_cases e1:op=1
 · subst e1;go_enter func214,ntmps214;go_wp2;go_ret2;exact ⟨rfl,bA⟩
 by_cases e2:op=2
 · subst e2;go_enter func214,ntmps214;go_wp2;go_ret2;exact ⟨rfl,bA⟩
 by_cases e3:op=3
 · subst e3;go_enter func214,ntmps214;go_wp2;go_ret2;exact ⟨rfl,bA⟩
 by_cases e4:op=4
 · subst e4;go_enter func214,ntmps214;go_wp2;go_ret2;exact ⟨rfl,bA⟩
 · have hp:XI op vs=0:=(by unfold XI;rw [if_neg e1,if_neg e2,if_neg e3,if_neg e4]);have hq:Xm op ZY=ZY:=(by unfold Xm;rw [if_neg (by omega)]);rw [hp,hq];clear hp hq;go_enter func214,ntmps214;go_wp2
   go_quiet (fail)
   go_wp2;go_ret2;exact ⟨rfl,below_drewN (bA) _⟩
end
end
section
open Go.RowKit
def Rg.key(r:Rg):Bool × Int × Nat:=(r.d,r.v,r.n)
end
section
open Go.RowKit
section
variable (op vs ZY:Int)(hA:Value)(w:World)(h0:-1000<=vs)(h1:vs<=1000)
include h0 h1
theorem Dc(A:Option Addr)(n c:Nat):Calls prog 57 #[.agg #[.int .i64 op,.int .i64 vs,.slice A n c,.int .i64 ZY]] w (dJ (XI op vs) (Xm op ZY) w):=by
 by_cases e1:op=1
 · subst e1;go_enter func57,ntmps57;go_wp2;go_ret2;exact ⟨rfl,bA⟩
 by_cases e2:op=2
 · subst e2;go_enter func57,ntmps57;go_wp2;go_ret2;exact ⟨rfl,bA⟩
 by_cases e3:op=3
 · subst e3;go_enter func57,ntmps57;go_wp2;go_ret2;exact ⟨rfl,bA⟩
 by_cases e4:op=4
 · subst e4;go_enter func57,ntmps57;go_wp2;go_ret2;exact ⟨rfl,bA⟩
 · have hp:XI op vs=0:=(by unfold XI;rw [if_neg e1,if_neg e2,if_neg e3,if_neg e4]);have hq:Xm op ZY=ZY:=(by unfold Xm;rw [if_neg (by omega)]);rw [hp,hq];clear hp hq;go_enter func57,ntmps57;go_wp2
   go_quiet (fail)
   go_wp2;go_ret2;exact ⟨rfl,below_drewN (bA) _⟩
end
end
section
open Go.RowKit
def Yy:List Rg->Int
 | []=>0
 | r::rs=>if ZJ r.v=0 then 7 else if ZJ r.v=(r.n:Int) then Yy rs else 8
def YD(rs:List Rg):Int:=if rs.length<1\/64<rs.length then 6 else Yy rs
theorem EA(rs:List Rg)(k:Nat)(r:Rg)(h:rs[k]?=some r):Yy (rs.drop k)=if ZJ r.v=0 then 7 else if ZJ r.v=(r.n:Int) then Yy (rs.drop (k+1)) else 8:=by
 obtain ⟨hlt,he⟩:=List.getElem?_eq_some_iff.1 h;rw [List.drop_eq_getElem_cons hlt,he];rfl
theorem PG(rs:List Rg)(A:Option Addr)(c:Nat)(w:World)(hs:Sl w w.heap.size A (rgCells rs)):
 Calls prog 264 #[.slice A rs.length c] w fun e w'=>e=.returned (.int .i64 (YD rs))/\Below w.heap.size w w':=by
 have HS:=hide hs;clear hs
 by_cases hc:rs.length<1\/64<rs.length
 · have hf:YD rs=6:=(by unfold YD;rw [if_pos hc]);rw [hf];have hci:((rs.length:Nat):Int)<1\/(¬ ((rs.length:Nat):Int)<1/\(64:Int)<((rs.length:Nat):Int)):=(by omega);clear hf hc;rcases hci with h|⟨h,h2⟩
   · go_enter func264,ntmps264;go_wp2;go_ret;exact ⟨rfl,Below.refl _ _⟩
   · go_enter func264,ntmps264;go_wp2;go_ret;exact ⟨rfl,Below.refl _ _⟩
 · have hf:YD rs=Yy rs:=(by unfold YD;rw [if_neg hc]);rw [hf];have h1:¬ ((rs.length:Nat):Int)<1:=(by omega);have h2:¬ (64:Int)<((rs.length:Nat):Int):=(by omega);clear hf hc;go_enter func264,ntmps264;go_wp2
   go_loopw [15] (fun i wr=>∃ k:Nat,k<=rs.length/\i=.int .i64 k/\Hid (Yy rs=Yy (rs.drop k))/\Below w.heap.size w wr)
    (fun i _=>rs.length - (intOf i).toNat)
   case atStart=>exact ⟨0,Nat.zero_le _,rfl,hide (by simp),Below.refl _ _⟩
   case round =>
    obtain ⟨k,hk,rfl,hF,hb⟩:=hrel
    by_cases hlt:k<rs.length
    · obtain ⟨r,hr⟩:∃ r,rs[k]?=some r:=⟨_,List.getElem?_eq_getElem hlt⟩;obtain ⟨b,off,rfl,hB,c0,c1,c2⟩:=(HS.out.below hb).rg hr;have hD:=hide (hF.out.trans (EA rs k r hr));have Nv:((k:Nat):Int)<((rs.length:Nat):Int):=(by omega);obtain ⟨d,v,A,n,c⟩:=r;dsimp only at *;clear hr hF;obtain ⟨w1,hw1⟩:=eE (wr.alloc (.cells #[.bool d,.int .i64 v,.slice A n c] 38));have hb1:=bE hw1;have B1:Z7 w1 wr.heap.size 38 #[.bool d,.int .i64 v,.slice A n c]:=(by rw [hw1];exact Z7.new _ _ _);go_wp2_with fail;rw [<- hw1];clear hw1;refine (TT d v A n c w1).mono ?_;rintro e w2 ⟨rfl,hb2⟩;have B2:=B1.step hb2;have z2:w2.cell? ⟨wr.heap.size,2,none⟩=some (.slice A n c):=B2.q2 rfl;have hbb:Below w.heap.size w w2:=Z8 (Z8 hb hb1) hb2;clear B1 B2 hb1 hb2 c0 c1 c2;obtain ⟨z,hz⟩:=eE (ZJ v);rw [<- hz] at hD;rw [<- hz];clear hz
      by_cases h0:z=0
      · have hD':Hid (Yy rs=7):=hide (hD.out.trans (if_pos h0));clear hD;subst h0;go_wp2;go_ret;exact ⟨Zf hD'.out.symm,hbb⟩
      · by_cases h3:z=(n:Int)
        · have hD':Hid (Yy rs=Yy (rs.drop (k+1))):=hide (hD.out.trans ((if_neg h0).trans (if_pos h3)));clear hD;go_wp2;go_roundw
          case rel=>exact ⟨k+1,by omega,by go_num,hD',hbb⟩
          case measure=>simp [intOf];omega
        · have hD':Hid (Yy rs=8):=hide (hD.out.trans ((if_neg h0).trans (if_neg h3)));clear hD;go_wp2;go_ret;exact ⟨Zf hD'.out.symm,hbb⟩
    · obtain rfl:k=rs.length:=(by omega);have hD':Hid (Yy rs=0):=hide (hF.out.trans (by rw [List.drop_length];rfl));go_wp2;go_ret;exact ⟨Zf hD'.out.symm,hb⟩
end
end Go.Proofs.YthnenedoblncjaaGreatDoor