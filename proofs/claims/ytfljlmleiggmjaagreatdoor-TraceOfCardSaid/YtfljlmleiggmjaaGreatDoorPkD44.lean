/- RefSortP RefSortW RefRec20 RefRun20 -/
import Derived.Deep.RegionHeld3
import Derived.Laws.OwnMore
import Derived.OneCell
import Derived.Test.YtfljlmleiggmjaaGreatDoorPkD32
import Derived.Test.YtfljlmleiggmjaaGreatDoorPkD37
import Derived.Test.YtfljlmleiggmjaaGreatDoorPkD43
set_option maxRecDepth 1000000
set_option maxHeartbeats 8000000
namespace Go.Proofs.YtfljlmleiggmjaaGreatDoor
open Go.Proofs.Tryz
section
open Go.RowKit Go.Shelf
section
variable {α:Type}{key:α->Nat}
theorem AA:∀ (O:List α) (m:Nat) (x:α),m<=O.length->(∀ i y,i<m->O[i]?=some y->key y<=key x)->(∀ y,O[m]?=some y->key x<key y)->ins key x O=O.take m++x::O.drop m
 | [],m,x,hm,_,_=>by simp [ins]
 | y::O,0,x,_,_,h=>by
   have:=h y rfl;unfold ins;rw [if_pos this];rfl
 | y::O,m+1,x,hm,hl,h=>by
   have h0:=hl 0 y (by omega) rfl;unfold ins;rw [if_neg (by omega),AA O m x (by simpa using hm) (fun i z hi hz=>hl (i+1) z (by omega) hz) (fun z hz=>h z hz)];rfl
theorem NW{O:List α}{s:Nat}{X y:α}(h:s<=O.length):(O.take s++X::O.drop s).set s y=O.take s++y::O.drop s:=by
 have hl:(O.take s).length=s:=by rw [List.length_take];omega
 rw [List.set_append_right _ _ (by omega),hl,Nat.sub_self];rfl
theorem BZ{O:List α}{s:Nat}{y:α}(h0:0<s)(hy:O[s - 1]?=some y):O.take s++y::O.drop s=O.take (s - 1)++y::O.drop (s - 1):=by
 obtain ⟨t,rfl⟩:∃ t,s=t+1:=⟨s - 1,by omega⟩;rw [Nat.add_sub_cancel] at hy ⊢;obtain ⟨hl,he⟩:=List.getElem?_eq_some_iff.1 hy;rw [List.take_add_one,hy,List.drop_eq_getElem_cons (i:=t) hl,he];simp
end
theorem VJ(rs:List (Int × Int))(r:Int × Int):Zt (rs++[r])=Zt rs++[.int .u64 r.1,.int .u64 r.2]:=by simp [Zt]
theorem I4:∀ (l:List (Int × Int)) (t:Nat) (r:Int × Int),((Zt l).set (t*2) (.int .u64 r.1)).set (t*2+1) (.int .u64 r.2)=Zt (l.set t r)
 | [],t,r=>by simp [Zt]
 | x::l,0,r=>by simp [Zt]
 | x::l,t+1,r=>by
   have h:=I4 l t r;show ((Value.int .u64 x.1::Value.int .u64 x.2::Zt l).set ((t+1)*2) _).set ((t+1)*2+1) _=Value.int .u64 x.1::Value.int .u64 x.2::Zt (l.set t r);rw [show (t+1)*2=t*2+1+1 by omega];simp only [List.set_cons_succ];rw [h]
theorem IZ:∀ (l:List (Int × Int)) (t:Nat) (r:Int × Int),l[t]?=some r->(Zt l)[t*2]?=some (.int .u64 r.1)/\(Zt l)[t*2+1]?=some (.int .u64 r.2)
 | [],t,r,h=>by simp at h
 | x::l,0,r,h=>by
   cases h;exact ⟨rfl,rfl⟩
 | x::l,t+1,r,h=>by
   have h2:=IZ l t r (by simpa using h);have e:Zt (x::l)=Value.int .u64 x.1::Value.int .u64 x.2::Zt l:=rfl;rw [e,show (t+1)*2=t*2+1+1 by omega];exact h2
section
variable {w w':World}{B g n cap:Nat}{l:List (Int × Int)}
theorem LX(h:w.ownsRow B 150 2 (.slice (some ⟨g,0,none⟩) n cap) n (Zt l))(hl:l.length=n){t:Nat}{r:Int × Int}(ht:l[t]?=some r):w.cell? ⟨g,t*2,none⟩=some (.int .u64 r.1)/\w.cell? ⟨g,t*2+1,none⟩=some (.int .u64 r.2):=by
 have hlt:=(List.getElem?_eq_some_iff.1 ht).1;obtain ⟨h0,h1⟩:=IZ l t r ht;exact ⟨(h.cellAt _ (by omega)).trans h0,(h.cellAt _ (by omega)).trans h1⟩
theorem GH(h:w.ownsRow B 150 2 (.slice (some ⟨g,0,none⟩) n cap) n (Zt l)){j:Nat}(r:Int × Int):
 ((w.setCell ⟨g,j*2,none⟩ (.int .u64 r.1)).setCell ⟨g,j*2+1,none⟩ (.int .u64 r.2)).ownsRow B 150 2 (.slice (some ⟨g,0,none⟩) n cap) n (Zt (l.set j r))/\w.grownBy ((w.setCell ⟨g,j*2,none⟩ (.int .u64 r.1)).setCell ⟨g,j*2+1,none⟩ (.int .u64 r.2)) (some g):=by
 obtain ⟨a1,a2⟩:=h.stored (j*2) (.int .u64 r.1);obtain ⟨b1,b2⟩:=a1.stored (j*2+1) (.int .u64 r.2);rw [I4] at b1;exact ⟨b1,⟨b2.os.trans a2.os,b2.tape.trans a2.tape,b2.output.trans a2.output,Nat.le_trans a2.size b2.size,fun k hk hne=>(b2.block k (Nat.lt_of_lt_of_le hk a2.size) hne).trans (a2.block k hk hne)⟩⟩
theorem Ra{w w' w2:World}{r:Option Nat}(a2:w.grownBy w' r)(b2:w'.grownBy w2 r):w.grownBy w2 r :=
 ⟨b2.os.trans a2.os,b2.tape.trans a2.tape,b2.output.trans a2.output,Nat.le_trans a2.size b2.size,fun k hk hne=>(b2.block k (Nat.lt_of_lt_of_le hk a2.size) hne).trans (a2.block k hk hne)⟩
end
end
section
open Go.RowKit Go.Shelf
abbrev G9(wk:World)(xb gO m:Nat)(r1 r2 y1 y2:Int)(w:World):Prop :=
 Below wk.heap.size wk w/\w.cell? ⟨xb,0,none⟩=some (.int .u64 r1)/\w.cell? ⟨xb,1,none⟩=some (.int .u64 r2)/\w.cell? ⟨gO,m*2,none⟩=some (.int .u64 y1)/\w.cell? ⟨gO,m*2+1,none⟩=some (.int .u64 y2)
theorem QV{w w':World}{g i:Nat}{v:Value}(hb:Below w.heap.size w w')(h:w.cell? ⟨g,i,none⟩=some v):w'.cell? ⟨g,i,none⟩=some v:=by
 exact (hb.cell (p:=⟨g,i,none⟩) (Zv h)).trans h
theorem fB{wk w0 w':World}{xb gO m:Nat}{r1 r2 y1 y2:Int}(hb:Below w0.heap.size w0 w')(h:G9 wk xb gO m r1 r2 y1 y2 w0):G9 wk xb gO m r1 r2 y1 y2 w' :=
 ⟨Z9 h.1 hb,QV hb h.2.1,QV hb h.2.2.1,QV hb h.2.2.2.1,QV hb h.2.2.2.2⟩
theorem aN{wk w0:World}{xb gO m:Nat}{r1 r2 y1 y2:Int}(h:G9 wk xb gO m r1 r2 y1 y2 w0):G9 wk xb gO m r1 r2 y1 y2 w0.drew :=
 fB (ZV (Below.refl _ _)) h
theorem bR(l:List (Int × Int))(hcl:∀ r∈l,Pp r)(hn:l.length<=4096)(A:Option Addr)(c:Nat)(w:World)(hs:Sl w w.heap.size A (Zt l)):
 Calls prog 138 #[.slice A l.length c] w fun e w'=>∃ v,e=.returned v/\w'.ownsRow w.heap.size 150 2 v l.length (Zt (XO Zh l))/\Below w.heap.size w w':=by
 have HS:=hide hs;have RN:=hide hcl;clear hs hcl;go_enter func138,ntmps138;go_wp2
 go_loopw [3,4] (fun o i wr=>∃ k:Nat,k<=l.length/\i=.int .i64 k/\wr.ownsRow w.heap.size 150 2 o k (Zt (XO Zh (l.take k)))/\Below w.heap.size w wr)
  (fun _ i _=>l.length - (intOf i).toNat)
 case atStart=>exact ⟨0,Nat.zero_le _,rfl,World.ownsRow_nil _ _ _ _,Below.refl _ _⟩
 case round =>
  obtain ⟨k,hk,rfl,ZQ,hbr⟩:=hrel;obtain ⟨OA,oc,rfl,hoc⟩:=ZJ ZQ
  by_cases hlt:k<l.length
  · have Uj:(k:Int)<(l.length:Int):=(by omega);obtain ⟨r,hr⟩:∃ r,l[k]?=some r:=⟨_,List.getElem?_eq_getElem hlt⟩;have hrc:=RN.out r (List.mem_of_getElem? hr);obtain ⟨b,off,rfl,hb,c0,c1⟩:=(HS.out.below hbr).Es hr;have zh:Hid (XO Zh (l.take (k+1))=ins Zh r (XO Zh (l.take k))):=hide (by rw [List.take_add_one,hr];exact AB Zh _ _);have HOL:Hid ((XO Zh (l.take k)).length=k):=hide (by rw [UK,List.length_take];omega);have HOC:Hid (∀ y∈XO Zh (l.take k),Pp y):=hide fun y hy=>RN.out y (List.mem_of_mem_take ((V3 Zh _).mem_iff.1 hy));obtain ⟨O,hO⟩:=eE (XO Zh (l.take k));rw [<- hO] at ZQ zh HOL HOC;have HRC:=hide hrc;have lZ:=hide (F8 r hrc wr);obtain ⟨r1,r2⟩:=r;dsimp only at lZ c0 c1;clear hr hrc hO;have hk4:k<=4096:=(by omega);go_wp2_with fail;refine lZ.out.mono ?_;rintro e w1 ⟨rfl,hb1⟩;obtain ⟨xb,hxb⟩:=eE w1.heap.size;obtain ⟨w2,hw2⟩:=eE (w1.alloc (.cells #[.int .u64 r1,.int .u64 r2] 150));have hb2:=bE hw2;have HXB:Hid (Z6 w2 xb 150 #[.int .u64 r1,.int .u64 r2]):=hide (by rw [hw2,hxb];exact Z6.new _ _ _);have Zn:=ZO ZQ hb1;have mF:Hid ((Value.slice OA k oc).ownBlock≠some xb):=hide fun e=>by have:=SX Zn e;omega
    have HOWN:=hide (ZO Zn hb2);have y9:=hide (Z9 (Z9 hbr hb1) hb2);have HXE:=hide hxb;clear ZQ Zn hb1 hb2 hbr hxb c0 c1 lZ;go_wp2;rw [<- hw2,<- HXE.out];clear hw2
    go_loopw [6] (fun t wr2=>∃ m:Nat,m<=k/\t=.int .i64 m/\(∀ i y,i<m->O[i]?=some y->Zh y<=Zh (r1,r2))/\Below w2.heap.size w2 wr2)
     (fun t _=>k - (intOf t).toNat)
    case atStart=>exact ⟨0,Nat.zero_le _,rfl,fun i y h=>by omega,Below.refl _ _⟩
    case round =>
     obtain ⟨m,hm,rfl,hlo,hbx⟩:=hrel
     by_cases hmk:m<k
     · have zke:(m:Int)<(k:Int):=(by omega);have hd:decide ((m:Int)<(k:Int))=true:=decide_eq_true zke;obtain ⟨y,hy⟩:∃ y,O[m]?=some y:=⟨_,List.getElem?_eq_getElem (by rw [HOL.out];exact hmk)⟩;have fq:=HOC.out y (List.mem_of_getElem? hy);have hX:=HXB.out.step hbx;have x0:wr.cell? ⟨xb,0,none⟩=some (.int .u64 r1):=hX.q0 rfl;have x1:wr.cell? ⟨xb,1,none⟩=some (.int .u64 r2):=hX.q1 rfl;have pE:=ZO HOWN.out hbx;obtain ⟨gO,zga,hv,hgO,hgl⟩:=pE.form (by omega);cases hv;obtain ⟨y0,y1⟩:=LX pE HOL.out hy;have mU:=hide (fun wk=>bN (r1,r2) y HRC.out fq wk);have hH:G9 wr xb gO m r1 r2 y.1 y.2 wr:=⟨Below.refl _ _,x0,x1,y0,y1⟩;obtain ⟨B,hB⟩:=eE (decide (Zh (r1,r2)<Zh y));rw [<- hB] at mU;have Mt:=hide hB;have HY:=hide hy;have zvy:=hide hlo;have Cu:=hide hbx;obtain ⟨ya,yb⟩:=y;dsimp only at mU hH;have zhf:(0:Int)<=(m:Int):=(by omega);clear hX x0 x1 y0 y1 pE hgO hgl hB hy hlo hbx fq;go_wp2
       go_region_held3 (fun w'=>Below wr.heap.size wr w'/\w'.cell? ⟨xb,0,none⟩=some (.int .u64 r1)/\w'.cell? ⟨xb,1,none⟩=some (.int .u64 r2)/\w'.cell? ⟨gO,m*2,none⟩=some (.int .u64 ya)/\w'.cell? ⟨gO,m*2+1,none⟩=some (.int .u64 yb))
        (first|exact fB (by assumption) (by assumption)|exact aN (by assumption))
        (first|(go_at_call 170;refine (mU.out _).mono ?_;rintro e w' ⟨rfl,hb'⟩))
       have hbx:Below w2.heap.size w2 w':=Z9 Cu.out (And.left (by assumption:G9 wr xb gO m r1 r2 ya yb w'));cases B with
       | false =>
         have hle:Zh (ya,yb)<=Zh (r1,r2):=(by have:=Mt.out;simp at this;exact this);clear mU hH;go_wp2;go_roundw
         case rel =>
          refine ⟨m+1,by omega,by go_num,fun i z hi hz=>?_,hbx⟩
          by_cases him:i<m
          · exact zvy.out i z him hz
          · obtain rfl:i=m:=(by omega);rw [HY.out] at hz;cases hz;exact hle
         case measure=>simp [intOf];omega
       | true =>
         have hHI:∀ z,O[m]?=some z->Zh (r1,r2)<Zh z:=fun z hz=>by
          rw [HY.out] at hz;cases hz;have:=Mt.out;simp at this;exact this
         have HLO:=zvy;clear mU hH zvy Mt HY Cu hb';obtain ⟨i0,hi,hi0,hi1,hi2⟩:=info_parts TH;have hbz:=Z7 (Below.refl w'.heap.size w') (.cells #[.int .u64 r1,.int .u64 r2] 150);have N6:=Z6.new w' 150 #[.int .u64 r1,.int .u64 r2];have iL:=HXB.out.step hbx;have XA:=iL.alloc (.cells #[.int .u64 r1,.int .u64 r2] 150);have tC:w'.cell? ⟨xb,0,none⟩=some (.int .u64 r1):=iL.q0 rfl;have tF:w'.cell? ⟨xb,1,none⟩=some (.int .u64 r2):=iL.q1 rfl;have Yo:=ZO (ZO HOWN.out hbx) hbz;have hw':=Z9 (Z9 y9.out hbx) hbz;obtain ⟨g7,SC,w7,hrun,Yy,Yx,oO,zxc⟩:=run_append_lies (P:=prog) (w'.alloc (.cells #[.int .u64 r1,.int .u64 r2] 150)) 89 89 w.heap.size 150 i0 (.agg #[.int .u64 0,.int .u64 0]) 2 16 underlying89 hi hi0 hi1 hi2 rfl (by decide) _ k (Zt O) Yo ⟨w'.heap.size,0,none⟩ 1 1 [.int .u64 r1,.int .u64 r2] rfl (fun j u hu=>by rw [YS];exact N6.cell (by simpa using hu)) (by simp [Value.oneCell']) (by omega) (by unfold maxLen;omega) (by omega) hw'.size _ rfl;have hw7:Below w.heap.size w w7:=hw'.grown Yx hw'.size (fun j hj=>ZP Yo hj);have X7:=XA.grown Yx (fun e=>mF.out e.symm);have hg7:w.heap.size<=g7/\g7≠xb:=by
          refine ⟨ZP Yy rfl,?_⟩;rcases oO with h|h
          · intro e;rw [e] at h;exact mF.out h
          · have:=XA.lt;omega
         have tN:Hid (w7.ownsRow w.heap.size 150 2 (.slice (some ⟨g7,0,none⟩) (k+1) SC) (k+1) (Zt (O.take k++(r1,r2)::O.drop k))):=hide (by
          rw [List.take_of_length_le (by rw [HOL.out];exact Nat.le_refl _),List.drop_of_length_le (by rw [HOL.out];exact Nat.le_refl _),VJ]
          exact Yy)
         have HX7:=hide X7;have HW7:=hide hw7;have HG7:=hide hg7;have hwk:IntKind.i64.wrap ((k:Int)+1 - 1)=(k:Int):=(by rw [IntKind.wrap_i64];omega);clear Yy Yx N6 XA Yo hw' X7 hw7 hg7 hbz iL oO zxc hi hi0 hi1 hi2;go_wp2_with (at_builtin;refine wpList_append_run (.tmp 34) (.tmp 36) 89 rfl rfl _ _ rfl rfl hrun ?_);clear hrun tC tF;go_wp2
         go_loopw [7] (fun t wr=>∃ (s:Nat) (X:Int × Int),m<=s/\s<=k/\t=.int .i64 s/\wr.ownsRow w.heap.size 150 2 (.slice (some ⟨g7,0,none⟩) (k+1) SC) (k+1) (Zt (O.take s++X::O.drop s))/\w7.grownBy wr (some g7))
          (fun t _=>(intOf t).toNat)
         case atStart=>exact ⟨k,(r1,r2),by omega,Nat.le_refl _,rfl,tN.out,World.grownBy.refl _ _⟩
         case round =>
          obtain ⟨s,⟨Xa,Xb⟩,hms,hsk,rfl,ZM,vM⟩:=hrel;have hll:(O.take s++(Xa,Xb)::O.drop s).length=k+1:=(by rw [List.length_append,List.length_cons,List.length_take,List.length_drop,HOL.out];omega);have hxs:(O.take s++(Xa,Xb)::O.drop s)[s]?=some (Xa,Xb):=by
           rw [List.getElem?_append_right (by rw [List.length_take,HOL.out];omega),List.length_take,HOL.out,Nat.min_eq_left hsk,Nat.sub_self];rfl
          obtain ⟨d0,d1⟩:=LX ZM hll hxs;dsimp only at d0 d1;clear hxs
          by_cases hgt:m<s
          · have zom:(m:Int)<(s:Int):=(by omega);obtain ⟨y,hy⟩:∃ y,O[s - 1]?=some y:=⟨_,List.getElem?_eq_getElem (by rw [HOL.out];omega)⟩;have hy2:(O.take s++(Xa,Xb)::O.drop s)[s - 1]?=some y:=by
             rw [List.getElem?_append_left (by rw [List.length_take,HOL.out];omega),List.getElem?_take,if_pos (by omega)];exact hy
            obtain ⟨c0,c1⟩:=LX ZM hll hy2;have f0:=ZM.frozenAt (s*2);have f1:=ZM.frozenAt (s*2+1);obtain ⟨q1,q2⟩:=GH ZM (j:=s) y;rw [NW (by rw [HOL.out];omega),BZ (by omega) hy] at q1;have hg3:=Ra vM q2;obtain ⟨y1,y2⟩:=y;dsimp only at *;obtain ⟨u,hu⟩:∃ u,s=u+1:=⟨s - 1,by omega⟩;subst hu;rw [Nat.add_sub_cancel] at *;have hs1:IntKind.i64.wrap (((u+1:Nat):Int) - 1)=(u:Int):=(by rw [IntKind.wrap_i64];omega);have iY:IntKind.i64.wrap ((u:Int)+1 - 1)=(u:Int):=(by rw [IntKind.wrap_i64];omega);have hs2:u<k+1:=(by omega);have hs3:u+1<k+1:=(by omega);have zhn:u<k:=(by omega);have hs4:(u:Int)<(k:Int)+1:=(by omega);have hs5:(u:Int)+1<(k:Int)+1:=(by omega);have zho:(u:Int)<(k:Int):=(by omega);have hs6:(0:Int)<=(u:Int):=(by omega);have hs7:(0:Int)<=(u:Int)+1:=(by omega);have iZ:((u:Int)+1).toNat=u+1:=(by omega);clear hy hy2 hll;go_wp2;go_roundw
            case rel=>exact ⟨u,(y1,y2),by omega,by omega,by go_num,q1,hg3⟩
            case measure=>first|(simp [intOf];done)|(simp [intOf];omega)
          · obtain rfl:m=s:=(by omega);have zom:¬ (m:Int)<(m:Int):=(by omega);have f0:=ZM.frozenAt (m*2);have f1:=ZM.frozenAt (m*2+1);obtain ⟨q1,q2⟩:=GH ZM (j:=m) (r1,r2);rw [NW (by rw [HOL.out];omega),<- AA (key:=Zh) O m (r1,r2) (by rw [HOL.out];omega) HLO.out hHI,<- zh.out] at q1;have X3:=HX7.out.grown vM (fun e=>HG7.out.2 (by injection e with e;exact e.symm));have x0:wr.cell? ⟨xb,0,none⟩=some (.int .u64 r1):=X3.q0 rfl;have x1:wr.cell? ⟨xb,1,none⟩=some (.int .u64 r2):=X3.q1 rfl;have hfin:=HW7.out.grown (Ra vM q2) HW7.out.size (fun j hj=>by cases hj;exact HG7.out.1);have hs3:m<k+1:=(by omega);have hs5:(m:Int)<(k:Int)+1:=(by omega);clear X3;go_wp2;go_roundw
            case rel=>exact ⟨k+1,by omega,by go_num,q1,hfin⟩
            case measure=>simp [intOf];omega
     · obtain rfl:k=m:=(by omega);have hgi:¬ (k:Int)<(k:Int):=by omega
       have hHI:∀ z,O[k]?=some z->Zh (r1,r2)<Zh z:=fun z hz=>by
        have:=(List.getElem?_eq_some_iff.1 hz).1;have:=HOL.out;omega
       have HLO:=hide hlo;clear hlo;go_wp2
       go_quiet (fail)
       replace hbx:=Zd hbx nq;generalize wr.drewN nq=wq at *;obtain ⟨i0,hi,hi0,hi1,hi2⟩:=info_parts TH;have hbz:=Z7 (Below.refl wq.heap.size wq) (.cells #[.int .u64 r1,.int .u64 r2] 150);have N6:=Z6.new wq 150 #[.int .u64 r1,.int .u64 r2];have iL:=HXB.out.step hbx;have XA:=iL.alloc (.cells #[.int .u64 r1,.int .u64 r2] 150);have tC:wq.cell? ⟨xb,0,none⟩=some (.int .u64 r1):=iL.q0 rfl;have tF:wq.cell? ⟨xb,1,none⟩=some (.int .u64 r2):=iL.q1 rfl;have Yo:=ZO (ZO HOWN.out hbx) hbz;have hwq:=Z9 (Z9 y9.out hbx) hbz;obtain ⟨g7,SC,w7,hrun,Yy,Yx,oO,zxc⟩:=run_append_lies (P:=prog) (wq.alloc (.cells #[.int .u64 r1,.int .u64 r2] 150)) 89 89 w.heap.size 150 i0 (.agg #[.int .u64 0,.int .u64 0]) 2 16 underlying89 hi hi0 hi1 hi2 rfl (by decide) _ k (Zt O) Yo ⟨wq.heap.size,0,none⟩ 1 1 [.int .u64 r1,.int .u64 r2] rfl (fun j u hu=>by rw [YS];exact N6.cell (by simpa using hu)) (by simp [Value.oneCell']) (by omega) (by unfold maxLen;omega) (by omega) hwq.size _ rfl;have hw7:Below w.heap.size w w7:=hwq.grown Yx hwq.size (fun j hj=>ZP Yo hj);have X7:=XA.grown Yx (fun e=>mF.out e.symm);have hg7:w.heap.size<=g7/\g7≠xb:=by
        refine ⟨ZP Yy rfl,?_⟩;rcases oO with h|h
        · intro e;rw [e] at h;exact mF.out h
        · have:=XA.lt;omega
       have tN:Hid (w7.ownsRow w.heap.size 150 2 (.slice (some ⟨g7,0,none⟩) (k+1) SC) (k+1) (Zt (O.take k++(r1,r2)::O.drop k))):=hide (by
        rw [List.take_of_length_le (by rw [HOL.out];exact Nat.le_refl _),List.drop_of_length_le (by rw [HOL.out];exact Nat.le_refl _),VJ]
        exact Yy)
       have HX7:=hide X7;have HW7:=hide hw7;have HG7:=hide hg7;have hwk:IntKind.i64.wrap ((k:Int)+1 - 1)=(k:Int):=(by rw [IntKind.wrap_i64];omega);clear Yy Yx N6 XA Yo hwq X7 hw7 hg7 hbz iL oO zxc hi hi0 hi1 hi2;go_wp2_with (at_builtin;refine wpList_append_run (.tmp 34) (.tmp 36) 89 rfl rfl _ _ rfl rfl hrun ?_);clear hrun tC tF;go_wp2
       go_loopw [7] (fun t wr=>∃ (s:Nat) (X:Int × Int),k<=s/\s<=k/\t=.int .i64 s/\wr.ownsRow w.heap.size 150 2 (.slice (some ⟨g7,0,none⟩) (k+1) SC) (k+1) (Zt (O.take s++X::O.drop s))/\w7.grownBy wr (some g7))
        (fun t _=>(intOf t).toNat)
       case atStart=>exact ⟨k,(r1,r2),by omega,Nat.le_refl _,rfl,tN.out,World.grownBy.refl _ _⟩
       case round =>
        obtain ⟨s,⟨Xa,Xb⟩,hms,hsk,rfl,ZM,vM⟩:=hrel;have hll:(O.take s++(Xa,Xb)::O.drop s).length=k+1:=(by rw [List.length_append,List.length_cons,List.length_take,List.length_drop,HOL.out];omega);have hxs:(O.take s++(Xa,Xb)::O.drop s)[s]?=some (Xa,Xb):=by
         rw [List.getElem?_append_right (by rw [List.length_take,HOL.out];omega),List.length_take,HOL.out,Nat.min_eq_left hsk,Nat.sub_self];rfl
        obtain ⟨d0,d1⟩:=LX ZM hll hxs;dsimp only at d0 d1;clear hxs
        by_cases hgt:k<s
        · exfalso;omega
        · obtain rfl:k=s:=(by omega);have zom:¬ (k:Int)<(k:Int):=(by omega);have f0:=ZM.frozenAt (k*2);have f1:=ZM.frozenAt (k*2+1);obtain ⟨q1,q2⟩:=GH ZM (j:=k) (r1,r2);rw [NW (by rw [HOL.out];omega),<- AA (key:=Zh) O k (r1,r2) (by rw [HOL.out];omega) HLO.out hHI,<- zh.out] at q1;have X3:=HX7.out.grown vM (fun e=>HG7.out.2 (by injection e with e;exact e.symm));have x0:wr.cell? ⟨xb,0,none⟩=some (.int .u64 r1):=X3.q0 rfl;have x1:wr.cell? ⟨xb,1,none⟩=some (.int .u64 r2):=X3.q1 rfl;have hfin:=HW7.out.grown (Ra vM q2) HW7.out.size (fun j hj=>by cases hj;exact HG7.out.1);have hs3:k<k+1:=(by omega);have hs5:(k:Int)<(k:Int)+1:=(by omega);clear X3;go_wp2;go_roundw
          case rel=>exact ⟨k+1,by omega,by go_num,q1,hfin⟩
          case measure=>simp [intOf];omega
  · obtain rfl:k=l.length:=(by omega);rw [List.take_length] at ZQ;have Uj:¬ (l.length:Int)<(l.length:Int):=(by omega);go_wp2;go_ret;exact ⟨_,rfl,ZQ,hbr⟩
end
section
open Go.RowKit Go.Shelf
section
variable (gs:List Gr)(GA:Option Addr)(gc:Nat)(qs:List ((Int × Int) × Int))(QA:Option Addr)(qc:Nat)(w:World)
variable (hg:Sl w w.heap.size GA (rgCells (gs.map (·.1))))(hgs:uj w gs)(hq:Sl w w.heap.size QA (Vs qs))(hqj:∀ q∈qs,PJ q.1)(PW:∀ q∈qs,Uf q.2)
include hg hgs hq hqj PW
theorem rZ(hf:Zk (gs.map (·.1))=0)(hn1:1<=qs.length)(hn2:qs.length<=4096):
 Calls prog 137 #[.slice GA gs.length gc,.slice QA qs.length qc] w fun e w'=>∃ v,e=.returned v/\w'.ownsRow w.heap.size 150 2 v qs.length (Zt (Y6 gs qs))/\Below w.heap.size w w':=by
 have tK:=hide (Nc (gs.map (·.1)) GA gc w hg);rw [List.length_map,hf] at tK;have mE:=hide (Rx gs GA gc w hg hgs);have HME:=hide (fun (w':World) (hb:Below w.heap.size w w') (p:Pt) (hp:PJ p)=>Ng gs p hp GA gc w' ((hg.below hb).more hb.size) (hgs.step hb));have HQ:=hide hq;have HQJ:=hide hqj;have HQU:=hide PW;obtain ⟨V,hV⟩:=eE (Y7 gs);rw [<- hV] at mE;have HV:=hide hV;clear hg hgs hq hqj PW hf hV;have h1:¬ (qs.length:Int)<1:=by omega
 have h2:¬ (4096:Int)<(qs.length:Int):=by omega
 go_enter func137,ntmps137;go_wp2_with fail;refine tK.out.mono ?_;rintro e w1 ⟨rfl,rfl⟩;clear tK;go_wp2_with fail;refine mE.out.mono ?_;rintro e w1' ⟨rfl,hb1⟩;clear mE h1 h2;go_wp2
 go_loopw [6,7] (fun o i wr=>∃ k:Nat,k<=qs.length/\i=.int .i64 k/\wr.ownsRow w1.heap.size 150 2 o k (Zt (Y6 gs (qs.take k)))/\Below w1.heap.size w1 wr)
  (fun _ i _=>qs.length - (intOf i).toNat)
 case atStart=>exact ⟨0,Nat.zero_le _,rfl,World.ownsRow_nil _ _ _ _,hb1⟩
 case round =>
  obtain ⟨k,hk,rfl,ZQ,hbr⟩:=hrel;obtain ⟨OA,oc,rfl,hoc⟩:=ZJ ZQ
  by_cases hlt:k<qs.length
  · have Uj:(k:Int)<(qs.length:Int):=(by omega);obtain ⟨q,hr⟩:∃ q,qs[k]?=some q:=⟨_,List.getElem?_eq_getElem hlt⟩;have hqj:=HQJ.out q (List.mem_of_getElem? hr);obtain ⟨b,off,rfl,hb,c0,c1,c2⟩:=(HQ.out.below hbr).qu hr;have zh:Hid (Y6 gs (qs.take (k+1))=Y6 gs (qs.take k)++[hrec gs q]):=hide (by rw [List.take_add_one,hr];unfold Y6;rw [List.map_append];rfl);obtain ⟨⟨p1,p2⟩,id⟩:=q;dsimp only at c0 c1 c2 hqj;obtain ⟨xb,hxb⟩:=eE wr.heap.size;obtain ⟨w2,hw2⟩:=eE (wr.alloc (.cells #[.int .u64 0,.int .u64 0] 150));have hb2:=bE hw2;have Cu:=Z9 hbr hb2;have XB:Z6 w2 xb 150 #[.int .u64 0,.int .u64 0]:=(by rw [hw2,hxb];exact Z6.new _ _ _);have mF:(Value.slice OA k oc).ownBlock≠some xb:=fun e=>by have:=SX ZQ e;omega
    have HOWN:=ZO ZQ hb2;have hkk:k<=4096:=(by omega);have hk0:(0:Int)<=(k:Int):=(by omega);have hxw:w1.heap.size<=xb:=(by rw [hxb];exact hbr.size);have d0:w2.cell? ⟨b,off+k*3,none⟩=some (.int .i64 p1):=(by rw [hw2];exact (World.cell?_alloc_lt _ _ _ (Zv c0)).trans c0);have d1:w2.cell? ⟨b,off+k*3+1,none⟩=some (.int .i64 p2):=(by rw [hw2];exact (World.cell?_alloc_lt _ _ _ (Zv c1)).trans c1);have d2:w2.cell? ⟨b,off+k*3+2,none⟩=some (.int .u64 id):=(by rw [hw2];exact (World.cell?_alloc_lt _ _ _ (Zv c2)).trans c2);rw [hw2] at d0 d1 d2;have ze:=hide (HME.out w2 Cu (p1,p2) hqj);clear hr hqj ZQ hbr;cases V with
    | false =>
      have xP:hrec gs ((p1,p2),id)=(0,0):=(by unfold hrec;rw [<- HV.out];simp);clear ze hb2 mF d0 d1 d2 c0 c1 c2;have hsz:w2.heap.size=wr.heap.size+1:=(by rw [hw2];simp);obtain ⟨wx,hwx⟩:=eE w2;rw [<- hwx] at XB HOWN Cu;have tC:wx.cell? ⟨xb,0,none⟩=some (.int .u64 0):=XB.q0 rfl;have tF:wx.cell? ⟨xb,1,none⟩=some (.int .u64 0):=XB.q1 rfl;obtain ⟨i0,hi,hi0,hi1,hi2⟩:=info_parts TH;have hbz:=Z7 (Below.refl wx.heap.size wx) (.cells #[.int .u64 0,.int .u64 0] 150);have N6:=Z6.new wx 150 #[.int .u64 0,.int .u64 0];have Yo:=ZO HOWN hbz;have OD:=Z9 Cu hbz;obtain ⟨g7,SC,w7,hrun,Yy,Yx,_,_⟩:=run_append_lies (P:=prog) (wx.alloc (.cells #[.int .u64 0,.int .u64 0] 150)) 89 89 w1.heap.size 150 i0 (.agg #[.int .u64 0,.int .u64 0]) 2 16 underlying89 hi hi0 hi1 hi2 rfl (by decide) _ k _ Yo ⟨wx.heap.size,0,none⟩ 1 1 [.int .u64 0,.int .u64 0] rfl (fun j u hu=>by rw [YS];exact N6.cell (by simpa using hu)) (by simp [Value.oneCell']) (by omega) (by unfold maxLen;omega) (by omega) OD.size _ rfl;have hw7:Below w1.heap.size w1 w7:=OD.grown Yx OD.size (fun j hj=>ZP Yo hj);have q1:w7.ownsRow w1.heap.size 150 2 (.slice (some ⟨g7,0,none⟩) (k+1) SC) (k+1) (Zt (Y6 gs (qs.take (k+1)))):=by
       rw [zh.out,xP,VJ];exact Yy
      clear Yy Yx N6 Yo OD hi hi0 hi1 hi2;rw [hwx,hsz,hw2] at hrun;rw [hwx,hw2,hxb] at tC tF;go_wp2_with (at_builtin;refine wpList_append_run (.tmp 47) (.tmp 49) 89 rfl rfl _ _ rfl rfl hrun ?_);clear hrun tC tF;go_wp2;go_roundw
      case rel=>exact ⟨k+1,by omega,by go_num,q1,hw7⟩
      case measure=>simp [intOf];omega
    | true =>
      go_wp2_with fail;rw [<- hw2,<- hxb];have D2:Hid (w2.cell? ⟨b,off+k*3+2,none⟩=some (.int .u64 id)):=hide (by rw [<- hw2] at d2;exact d2);clear d0 d1 d2 c0 c1 c2 hw2 hxb hb2;unfold KQ at ze;refine ze.out.mono ?_;rintro e wm ⟨rfl,hbm⟩;have HOWN:=ZO HOWN hbm;have XB:=XB.step hbm;have Cu:=Z9 Cu hbm;have d2:wm.cell? ⟨b,off+k*3+2,none⟩=some (.int .u64 id):=QV hbm D2.out;obtain ⟨M,hM⟩:=eE (XD gs (p1,p2));rw [<- hM];clear ze D2 hbm;cases M with
      | false =>
        have xP:hrec gs ((p1,p2),id)=(0,0):=(by unfold hrec;rw [<- hM];simp);clear d2 hM mF;obtain ⟨wx,hwx⟩:=eE wm;subst hwx;have tC:wx.cell? ⟨xb,0,none⟩=some (.int .u64 0):=XB.q0 rfl;have tF:wx.cell? ⟨xb,1,none⟩=some (.int .u64 0):=XB.q1 rfl;obtain ⟨i0,hi,hi0,hi1,hi2⟩:=info_parts TH;have hbz:=Z7 (Below.refl wx.heap.size wx) (.cells #[.int .u64 0,.int .u64 0] 150);have N6:=Z6.new wx 150 #[.int .u64 0,.int .u64 0];have Yo:=ZO HOWN hbz;have OD:=Z9 Cu hbz;obtain ⟨g7,SC,w7,hrun,Yy,Yx,_,_⟩:=run_append_lies (P:=prog) (wx.alloc (.cells #[.int .u64 0,.int .u64 0] 150)) 89 89 w1.heap.size 150 i0 (.agg #[.int .u64 0,.int .u64 0]) 2 16 underlying89 hi hi0 hi1 hi2 rfl (by decide) _ k _ Yo ⟨wx.heap.size,0,none⟩ 1 1 [.int .u64 0,.int .u64 0] rfl (fun j u hu=>by rw [YS];exact N6.cell (by simpa using hu)) (by simp [Value.oneCell']) (by omega) (by unfold maxLen;omega) (by omega) OD.size _ rfl;have hw7:Below w1.heap.size w1 w7:=OD.grown Yx OD.size (fun j hj=>ZP Yo hj);have q1:w7.ownsRow w1.heap.size 150 2 (.slice (some ⟨g7,0,none⟩) (k+1) SC) (k+1) (Zt (Y6 gs (qs.take (k+1)))):=by
         rw [zh.out,xP,VJ];exact Yy
        clear Yy Yx N6 Yo OD hi hi0 hi1 hi2;go_wp2_with (at_builtin;refine wpList_append_run (.tmp 47) (.tmp 49) 89 rfl rfl _ _ rfl rfl hrun ?_);clear hrun tC tF;go_wp2;go_roundw
        case rel=>exact ⟨k+1,by omega,by go_num,q1,hw7⟩
        case measure=>simp [intOf];omega
      | true =>
        have xP:hrec gs ((p1,p2),id)=(1,id):=(by unfold hrec;rw [<- hM,<- HV.out];simp);have CF:b≠xb\/True:=.inr trivial;have x0:=XB.q0 rfl;have x1:=XB.q1 rfl;have f0:=XB.frozen 0;have f1:=XB.frozen 1;obtain ⟨wx,hwx⟩:=eE ((wm.setCell ⟨xb,0,none⟩ (.int .u64 1)).setCell ⟨xb,1,none⟩ (.int .u64 id));have XB:Z6 wx xb 150 #[.int .u64 1,.int .u64 id]:=(by rw [hwx];exact (XB.set 0 (.int .u64 1)).set 1 (.int .u64 id));have HOWN:wx.ownsRow w1.heap.size 150 2 (.slice OA k oc) k (Zt (Y6 gs (qs.take k))):=(by rw [hwx];exact ownsRow_setCell_other (ownsRow_setCell_other HOWN (a:=⟨xb,0,none⟩) mF _) (a:=⟨xb,1,none⟩) mF _);have Cu:Below w1.heap.size w1 wx:=(by rw [hwx];exact (Cu.setCell (p:=⟨xb,0,none⟩) hxw _).setCell (p:=⟨xb,1,none⟩) hxw _);have hsz:wx.heap.size=wm.heap.size:=(by rw [hwx];simp);clear hM mF CF;have tC:wx.cell? ⟨xb,0,none⟩=some (.int .u64 1):=XB.q0 rfl;have tF:wx.cell? ⟨xb,1,none⟩=some (.int .u64 id):=XB.q1 rfl;obtain ⟨i0,hi,hi0,hi1,hi2⟩:=info_parts TH;have hbz:=Z7 (Below.refl wx.heap.size wx) (.cells #[.int .u64 1,.int .u64 id] 150);have N6:=Z6.new wx 150 #[.int .u64 1,.int .u64 id];have Yo:=ZO HOWN hbz;have OD:=Z9 Cu hbz;obtain ⟨g7,SC,w7,hrun,Yy,Yx,_,_⟩:=run_append_lies (P:=prog) (wx.alloc (.cells #[.int .u64 1,.int .u64 id] 150)) 89 89 w1.heap.size 150 i0 (.agg #[.int .u64 0,.int .u64 0]) 2 16 underlying89 hi hi0 hi1 hi2 rfl (by decide) _ k _ Yo ⟨wx.heap.size,0,none⟩ 1 1 [.int .u64 1,.int .u64 id] rfl (fun j u hu=>by rw [YS];exact N6.cell (by simpa using hu)) (by simp [Value.oneCell']) (by omega) (by unfold maxLen;omega) (by omega) OD.size _ rfl;have hw7:Below w1.heap.size w1 w7:=OD.grown Yx OD.size (fun j hj=>ZP Yo hj);have q1:w7.ownsRow w1.heap.size 150 2 (.slice (some ⟨g7,0,none⟩) (k+1) SC) (k+1) (Zt (Y6 gs (qs.take (k+1)))):=by
         rw [zh.out,xP,VJ];exact Yy
        clear Yy Yx N6 Yo OD hi hi0 hi1 hi2;rw [hsz,hwx] at hrun;rw [hwx] at tC tF;go_wp2_with (at_builtin;refine wpList_append_run (.tmp 47) (.tmp 49) 89 rfl rfl _ _ rfl rfl hrun ?_);clear hrun tC tF x0 x1 f0 f1 d2;go_wp2;go_roundw
        case rel=>exact ⟨k+1,by omega,by go_num,q1,hw7⟩
        case measure=>simp [intOf];omega
  · obtain rfl:k=qs.length:=(by omega);rw [List.take_length] at ZQ;have Uj:¬ (qs.length:Int)<(qs.length:Int):=(by omega);go_wp2;go_ret;exact ⟨_,rfl,ZQ,hbr⟩
end
end
section
open Go.RowKit Go.Shelf
theorem Xq {fn:Func} {p u:Tmp} {tmps:Array Value} {w:World} {g:Nat} {v0 v1 v2:Value} (h:fn.results=#[.cell p 91,.tmp u])
 (hp:tmps.getD p undef=.pointer (some ⟨g,0,none⟩)) (hb:Z6 w g 91 #[v0,v1,v2]) :
 (results fn tmps).run prog w=.ok (.tuple #[.agg #[v0,v1,v2],tmps.getD u undef]) w:=by
 have c0:=hb.q0 rfl;have c1:=hb.q1 rfl;have c2:=hb.q2 rfl;have hp':tmps[p]?.getD undef=.pointer (some ⟨g,0,none⟩):=by rw [<- hp];simp
 simp [results,h,hp',go_sem,c0,c1,c2]
theorem Xo {r:lY × Int} {w w2:World} {g c:Nat} {A:Option Addr} {val cnt er:Int} {recs:List (Int × Int)} {u0 u1 u2:Value} (hr:r=(⟨val,cnt,recs⟩,er)) (hk:Below w.heap.size w w2) (hg:w.heap.size<=g)
 (hs:Sl w2 w2.heap.size A (Zt recs)) (hne:recs≠[]->∀ x,A=some x->x.block≠g) :
 Fq r w (.returned (.tuple #[.agg #[.int .i64 val,.int .i64 cnt,.slice A recs.length c],.int .i64 er])) (((w2.setCell ⟨g,0,none⟩ u0).setCell ⟨g,1,none⟩ u1).setCell ⟨g,2,none⟩ u2):=by
 subst hr;have hne':Zt recs≠[]->∀ x,A=some x->x.block≠g:=fun h=>hne fun e=>h (by rw [e];rfl);have far:∀ {wx:World} (o:Nat) (u:Value),Sl wx wx.heap.size A (Zt recs)->Sl (wx.setCell ⟨g,o,none⟩ u) (wx.setCell ⟨g,o,none⟩ u).heap.size A (Zt recs):=fun o u h=>(h.far (p:=⟨g,o,none⟩) hne' u).more (by simp);exact ⟨A,c,rfl,((hk.setCell (p:=⟨g,0,none⟩) hg _).setCell (p:=⟨g,1,none⟩) hg _).setCell (p:=⟨g,2,none⟩) hg _,far 2 _ (far 1 _ (far 0 _ hs))⟩
section
variable (gs:List Gr)(GA:Option Addr)(gc:Nat)(qs:List ((Int × Int) × Int))(QA:Option Addr)(qc:Nat)(w:World)
variable (hg:Sl w w.heap.size GA (rgCells (gs.map (·.1))))(hgs:uj w gs)(hq:Sl w w.heap.size QA (Vs qs))(hqj:∀ q∈qs,PJ q.1)(PW:∀ q∈qs,Uf q.2)
include hg hgs hq hqj PW
theorem zlg:Calls prog 93 #[.slice GA gs.length gc,.slice QA qs.length qc] w (Fq (YL gs qs) w):=by
 obtain ⟨rb,hrb⟩:=eE w.heap.size;obtain ⟨w0,hw0⟩:=eE (w.alloc (.cells #[.int .i64 0,.int .i64 0,.slice none 0 0] 91));have hb0:=bE hw0;have C0:Z6 w0 rb 91 #[.int .i64 0,.int .i64 0,.slice none 0 0]:=by rw [hw0,hrb];exact Z6.new _ _ _
 have tK:=hide (Nc (gs.map (·.1)) GA gc w0 ((hg.below hb0).more hb0.size));rw [List.length_map] at tK;have xP:=hide (fun (hf:Zk (gs.map (·.1))=0) (h1:1<=qs.length) (h2:qs.length<=4096)=>rZ gs GA gc qs QA qc w0 ((hg.below hb0).more hb0.size) (hgs.step hb0) ((hq.below hb0).more hb0.size) hqj PW hf h1 h2);have mE:=hide (fun (w':World) (hb:Below w.heap.size w w')=>Rx gs GA gc w' ((hg.below hb).more hb.size) (hgs.step hb));have hcl:=QH gs PW;have hhl:(Y6 gs qs).length=qs.length:=by unfold Y6;rw [List.length_map]
 have zjt:=QC _ hcl;have HB:Hid (YL gs qs=if Yf gs qs.length≠0 then (Wq,Yf gs qs.length) else (⟨bif Y7 gs then 1 else 0,Xt (Y6 gs qs),XO Zh (Y6 gs qs)⟩,0)):=hide rfl;have fO:Hid (Yf gs qs.length=if Zk (gs.map (·.1))≠0 then Zk (gs.map (·.1)) else if qs.length<1\/4096<qs.length then 6 else 0):=hide rfl;obtain ⟨fc,hfc⟩:=eE (Zk (gs.map (·.1)));rw [<- hfc] at tK xP fO;obtain ⟨V,hV⟩:=eE (Y7 gs);rw [<- hV] at mE HB;clear hg hgs hq hqj PW hfc hV;have z0:=C0.q0 rfl;have z1:=C0.q1 rfl;have z2:=C0.q2 rfl;have y0:=C0.frozen 0;have y1:=C0.frozen 1;have y2:=C0.frozen 2;have hlt:=C0.lt;go_enter func93,ntmps93;go_wp2_with fail;rw [<- hw0,<- hrb];refine tK.out.mono ?_;rintro e w1 ⟨rfl,hw1⟩;subst hw1;have pJ:w.heap.size<=rb:=by omega
 have JL:=hide hrb;have Qo:=hide C0;have HW0:=hide hw0;have HB0:=hide hb0;clear hrb C0 hw0 hb0 tK
 by_cases hf:fc=0
 · subst hf
   by_cases h1:qs.length<1
   · have h1':(qs.length:Int)<1:=(by omega);have HE:Hid (YL gs qs=(⟨0,0,[]⟩,6)):=hide (by rw [HB.out,fO.out];simp [h1];rfl);clear xP mE;go_wp2;refine bodyPost_ret (Xq (p:=4) (u:=5) rfl rfl (((Qo.out.set 0 _).set 1 _).set 2 _)) rfl ?_;exact Xo (recs:=[]) HE.out HB0.out pJ (Sl.nil _ _ _) (fun h=>absurd rfl h)
   · have h1':¬ (qs.length:Int)<1:=by omega
     by_cases h2:4096<qs.length
     · have h2':(4096:Int)<(qs.length:Int):=(by omega);have HE:Hid (YL gs qs=(⟨0,0,[]⟩,6)):=hide (by rw [HB.out,fO.out];simp [h2];rfl);clear xP mE;go_wp2;refine bodyPost_ret (Xq (p:=4) (u:=5) rfl rfl (((Qo.out.set 0 _).set 1 _).set 2 _)) rfl ?_;exact Xo (recs:=[]) HE.out HB0.out pJ (Sl.nil _ _ _) (fun h=>absurd rfl h)
     · have h2':¬ (4096:Int)<(qs.length:Int):=(by omega);have HE:Hid (YL gs qs=(⟨bif V then 1 else 0,Xt (Y6 gs qs),XO Zh (Y6 gs qs)⟩,0)):=hide (by rw [HB.out,fO.out];simp [h1,h2]);have HR1:=hide (xP.out rfl (by omega) (by omega));obtain ⟨L,hL⟩:=eE (Y6 gs qs);rw [<- hL] at HR1 HE hcl hhl zjt;have hLn:L.length<=4096:=(by omega);have znk:=hide (fun (A:Option Addr) (c:Nat) (w':World) (hs:Sl w' w'.heap.size A (Zt L))=>bR L hcl hLn A c w' hs);have zmn:=hide (fun (A:Option Addr) (c:Nat) (w':World) (hs:Sl w' w'.heap.size A (Zt L))=>kU L hcl hLn A c w' hs);have HHL:=hide hhl;clear xP HB fO hL hcl hhl z0 z1 z2 y0 y1 y2;go_wp2_with fail;refine HR1.out.mono ?_;rintro e w2 ⟨v,rfl,hv,hb2⟩;obtain ⟨LA,lc,rfl,hlc⟩:=ZJ hv;rw [<- HHL.out] at hv;have HS2:=hide (Sl.YI hv);have hs2:=HS2.out;rw [<- HHL.out];have HB2:=Z9 HB0.out hb2;have Qp:=hide (Qo.out.step hb2);have zhl:rb<w2.heap.size:=Qp.out.lt;clear hv hlc hb2;go_wp2_with fail;refine (znk.out LA lc w2 hs2).mono ?_;rintro e w3 ⟨v,rfl,hv3,hb3⟩;obtain ⟨SA,sc,rfl,hsc⟩:=ZJ hv3;have zmw:=hide hv3;have ng:=hide ((hs2.below hb3).more hb3.size);have HB3:=Z9 HB2 hb3;have HC3:=hide (Qp.out.step hb3);clear hv3 hs2 hb3 hsc;go_wp2_with fail;refine (zmn.out LA lc w3 ng.out).mono ?_;rintro e w4 ⟨rfl,hb4⟩;have hcv:IntKind.i64.wrap ((Xt L:Nat):Int)=((Xt L:Nat):Int):=(by rw [IntKind.wrap_i64];omega);have gH:=hide (ZO zmw.out hb4);have Qv:=Z9 HB3 hb4;have HC4:=hide (HC3.out.step hb4);obtain ⟨tb,htb⟩:=eE w4.heap.size;obtain ⟨w5,hw5⟩:=eE (w4.alloc (.cells #[.int .i64 0,.int .i64 (Xt L:Nat),.slice SA L.length sc] 91));have hb5:=bE hw5;have zmx:=hide (ZO gH.out hb5);have fK:=Z9 Qv hb5;have HC5:=hide (HC4.out.step hb5);have T5:Z6 w5 tb 91 #[.int .i64 0,.int .i64 (Xt L:Nat),.slice SA L.length sc]:=(by rw [hw5,htb];exact Z6.new _ _ _);have HT5:=hide T5
       have HNB:Hid (L≠[]->∀ x,SA=some x->x.block≠rb/\x.block≠tb):=hide fun _ x hx=>by
        have h1:=ZP gH.out (k:=x.block) (by rw [hx];rfl);have h2:=SX gH.out (k:=x.block) (by rw [hx];rfl);omega
       have HVV:=hide (mE.out w5 fK);have mD:Hid (rb<tb/\w.heap.size<=tb):=hide (by have:=HC4.out.lt;have:=Qv.size;omega);clear hb4 zmn znk mE T5 hb5 zmw gH Qp HC3 HC4 HS2 ng;go_wp2_with fail;rw [<- hw5,<- htb];clear hw5 htb;refine HVV.out.mono ?_;rintro e w6 ⟨rfl,hb6⟩;have fM:=Z9 fK hb6;have T6:=HT5.out.step hb6;have C6:=HC5.out.step hb6;have HT6:=hide T6;have HC6:=hide C6;have HS6:=hide (Sl.YI (ZO zmx.out hb6));have t0:=T6.q0 rfl;have t1:=T6.q1 rfl;have t2:=T6.q2 rfl;have f0:=T6.frozen 0;have z0:=C6.q0 rfl;have z1:=C6.q1 rfl;have z2:=C6.q2 rfl;have y0:=C6.frozen 0;have y1:=C6.frozen 1;have y2:=C6.frozen 2;have htr:tb≠rb:=(by have:=mD.out;omega);have hrt:rb≠tb:=fun e=>htr e.symm;have hlen:(XO Zh L).length=L.length:=UK Zh L;clear hb6 T6 C6 HT5 HC5 zmx HVV;cases V with
       | false =>
         go_wp2;refine bodyPost_ret (Xq (p:=4) (u:=5) rfl rfl (((HC6.out.set 0 _).set 1 _).set 2 _)) rfl ?_;have h:=Xo (A:=SA) (c:=sc) (u0:=.int .i64 0) (u1:=.int .i64 (Xt L:Nat)) (u2:=.slice SA L.length sc) HE.out fM pJ HS6.out (fun hx x hA=>(HNB.out (fun e=>hx (by rw [e];rfl)) x hA).1);rw [hlen] at h;exact h
       | true =>
         have t0':=(HT6.out.set 0 (.int .i64 1)).q0 rfl;have t1':=(HT6.out.set 0 (.int .i64 1)).q1 rfl;have t2':=(HT6.out.set 0 (.int .i64 1)).q2 rfl;have C7:=HC6.out.far (p:=⟨tb,0,none⟩) hrt (.int .i64 1);have HC7:=hide C7;have HS7:Hid (Sl (w6.setCell ⟨tb,0,none⟩ (.int .i64 1)) (w6.setCell ⟨tb,0,none⟩ (.int .i64 1)).heap.size SA (Zt (XO Zh L))):=hide ((HS6.out.far (p:=⟨tb,0,none⟩) (fun hx x hA=>(HNB.out (fun e=>hx (by rw [e];rfl)) x hA).2) _).more (by simp));have HB7:=fM.setCell (p:=⟨tb,0,none⟩) mD.out.2 (.int .i64 1);go_wp2;refine bodyPost_ret (Xq (p:=4) (u:=5) rfl rfl (((HC7.out.set 0 _).set 1 _).set 2 _)) rfl ?_;have h:=Xo (A:=SA) (c:=sc) (u0:=.int .i64 1) (u1:=.int .i64 (Xt L:Nat)) (u2:=.slice SA L.length sc) HE.out HB7 pJ HS7.out (fun hx x hA=>(HNB.out (fun e=>hx (by rw [e];rfl)) x hA).1);rw [hlen] at h;exact h
 · have heb:(fc != 0)=true:=bne_iff_ne.2 hf;have HE:Hid (YL gs qs=(⟨0,0,[]⟩,fc)):=hide (by rw [HB.out,fO.out];simp [hf];rfl);clear xP mE;go_wp2;refine bodyPost_ret (Xq (p:=4) (u:=5) rfl rfl (((Qo.out.set 0 _).set 1 _).set 2 _)) rfl ?_;exact Xo (recs:=[]) HE.out HB0.out pJ (Sl.nil _ _ _) (fun h=>absurd rfl h)
end
end
end Go.Proofs.YtfljlmleiggmjaaGreatDoor