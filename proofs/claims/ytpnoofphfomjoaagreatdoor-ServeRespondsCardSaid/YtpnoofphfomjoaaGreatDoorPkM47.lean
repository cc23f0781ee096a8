/- RefSort13 RefSortP RefSortW -/
import Derived.BigQuiet
import Derived.Deep.QuietTactic
import Derived.Deep.RegionHeld3
import Derived.Laws.OwnMore
import Derived.Lib.SliceRun
import Derived.Test.YtpnoofphfomjoaaGreatDoorPkM07
import Derived.Test.YtpnoofphfomjoaaGreatDoorPkM20
import Derived.Test.YtpnoofphfomjoaaGreatDoorPkM25
import Derived.Test.YtpnoofphfomjoaaGreatDoorPkM36
set_option maxRecDepth 1000000
set_option maxHeartbeats 8000000
namespace Go.Proofs.YtpnoofphfomjoaaGreatDoor
section
open Go.RowKit Go.Shelf
theorem rclean3 (x:Int × Int) (hx:Cln x) (w:World):Calls Tryz.prog 135 #[.agg #[.int .u64 x.1,.int .u64 x.2]] w fun e w'=>e=.returned (.agg #[.int .u64 x.1,.int .u64 x.2])∧Below w.heap.size w w':=by
 obtain ⟨l,d⟩:=x
 rcases hx with ⟨rfl,h2,h3⟩ | h
 · dsimp only
   go_enter Tryz.func135,Tryz.ntmps135
   go_wp2
   exact bodyPost_ret (v:=.agg #[.int .u64 1,.int .u64 d]) (by simp [results,Tryz.results135,go_sem]) rfl ⟨rfl,by repeat first | exact Below.refl _ _ | refine bl_alloc ?_ _⟩
 · cases h
   dsimp only
   go_enter Tryz.func135,Tryz.ntmps135
   go_wp2
   exact bodyPost_ret (v:=.agg #[.int .u64 0,.int .u64 0]) (by simp [results,Tryz.results135,go_sem]) rfl ⟨rfl,by repeat first | exact Below.refl _ _ | refine bl_alloc ?_ _⟩
theorem rless3 (x y:Int × Int) (hx:Cln x) (hy:Cln y) (w:World):Calls Tryz.prog 136 #[.agg #[.int .u64 x.1,.int .u64 x.2],.agg #[.int .u64 y.1,.int .u64 y.2]] w fun e w'=>e=.returned (.bool (decide (rkey x<rkey y)))∧Below w.heap.size w w':=by
 rw [← rless_iff hx hy]
 have HX:=hide (fun w=>rclean3 x hx w)
 have HY:=hide (fun w=>rclean3 y hy w)
 have H0:=hide (And.intro hx hy)
 clear hx hy
 obtain ⟨b0,hb0⟩:∃ b0,b0=w.heap.size:=⟨_,rfl⟩
 obtain ⟨w0,hw0⟩:∃ w0,w0=(w.alloc (.cells #[.int .u64 x.1,.int .u64 x.2] 90)).alloc (.cells #[.int .u64 y.1,.int .u64 y.2] 90):=⟨_,rfl⟩
 have hbl0:Below w.heap.size w w0:=by rw [hw0];exact bl_alloc (bA) _
 have Y0:Blk w0 (b0+1) 90 #[.int .u64 y.1,.int .u64 y.2]:=by rw [hw0,hb0];exact Blk.new2 _ _ _ _
 go_enter Tryz.func136,Tryz.ntmps136
 go_wp2_with fail
 rw [← hw0,← hb0]
 have HB0:=hide hb0
 clear hw0 hb0
 refine (HX.out w0).mono ?_
 rintro e w1 ⟨rfl,hb1⟩
 obtain ⟨b2,hb2⟩:∃ b2,b2=w1.heap.size:=⟨_,rfl⟩
 obtain ⟨w2,hw2⟩:∃ w2,w2=w1.alloc (.cells #[.int .u64 x.1,.int .u64 x.2] 90):=⟨_,rfl⟩
 have HB2:Below w.heap.size w w2:=by rw [hw2];exact bl_alloc (bl_step hbl0 hb1) _
 have X2:Blk w2 b2 90 #[.int .u64 x.1,.int .u64 x.2]:=by rw [hw2,hb2];exact Blk.new _ _ _
 have Y2:Blk w2 (b0+1) 90 #[.int .u64 y.1,.int .u64 y.2]:=by rw [hw2];exact (Y0.step hb1).alloc _
 have y0:w2.cell? ⟨b0+1,0,none⟩=some (.int .u64 y.1):=Y2.cell (i:=0) rfl
 have y1:w2.cell? ⟨b0+1,1,none⟩=some (.int .u64 y.2):=Y2.cell (i:=1) rfl
 rw [hw2] at y0 y1
 have HB:=hide hb2
 clear hbl0 hb1 hb2 Y0 Y2
 go_wp2_with fail
 rw [← hw2,← HB.out]
 clear hw2 y0 y1
 refine (HY.out w2).mono ?_
 rintro e w3 ⟨rfl,hb3⟩
 have X3:=X2.step hb3
 have HB3:=bl_step HB2 hb3
 obtain ⟨w4,hw4⟩:∃ w4,w4=w3.alloc (.cells #[.int .u64 y.1,.int .u64 y.2] 90):=⟨_,rfl⟩
 have HB4:Below w.heap.size w w4:=by rw [hw4];exact bl_alloc HB3 _
 have X4:Blk w4 b2 90 #[.int .u64 x.1,.int .u64 x.2]:=by rw [hw4];exact X3.alloc _
 have x0:w4.cell? ⟨b2,0,none⟩=some (.int .u64 x.1):=X4.cell (i:=0) rfl
 have x1:w4.cell? ⟨b2,1,none⟩=some (.int .u64 x.2):=X4.cell (i:=1) rfl
 rw [hw4] at x0 x1 HB4
 obtain ⟨hx,hy⟩:=H0.out
 clear X2 X3 X4 hb3 hw4 H0 HX HY HB3 HB2
 obtain ⟨a,b⟩:=x
 obtain ⟨c,d⟩:=y
 dsimp only at *
 rcases hx with ⟨h1,h2,h3⟩ | h1 <;> rcases hy with ⟨k1,k2,k3⟩ | k1
 · subst h1;subst k1
   have hlt:(b<d)∨¬ (b<d):=by omega
   rcases hlt with hlt | hlt
   all_goals
    go_wp2
    go_ret
    refine ⟨?_,HB4⟩
    simp [hlt]
 · cases k1
   subst h1
   go_wp2
   go_ret
   exact ⟨by simp,HB4⟩
 · cases h1
   subst k1
   go_wp2
   go_ret
   exact ⟨by simp,HB4⟩
 · cases h1
   cases k1
   go_wp2
   go_ret
   exact ⟨by simp,HB4⟩
theorem rcount3 (rs:List (Int × Int)) (hcl:∀ r∈rs,Cln r) (hn:rs.length≤4096) (A:Option Addr) (c:Nat) (w:World) (hs:Sl w w.heap.size A (recCs rs)) :
 Calls Tryz.prog 48 #[.slice A rs.length c] w fun e w'=>e=.returned (.int .u64 (cntL rs:Int))∧Below w.heap.size w w':=by
 have HS:=hide hs;have HCL:=hide hcl
 clear hs hcl
 go_enter Tryz.func48,Tryz.ntmps48
 go_wp2
 go_loopw [3,4] (fun u i wr=>∃ k:Nat,k≤rs.length∧i=.int .i64 k∧u=.int .u64 (cntL (rs.take k):Int)∧Below w.heap.size w wr)
  (fun _ i _=>rs.length - (intOf i).toNat)
 case atStart=>exact ⟨0,Nat.zero_le _,rfl,rfl,Below.refl _ _⟩
 case round =>
  obtain ⟨k,hk,rfl,rfl,hbr⟩:=hrel
  by_cases hlt:k<rs.length
  · have hlti:(k:Int)<(rs.length:Int):=by omega
    obtain ⟨r,hr⟩:∃ r,rs[k]?=some r:=⟨_,List.getElem?_eq_getElem hlt⟩
    have hrc:=HCL.out r (List.mem_of_getElem? hr)
    obtain ⟨b,off,rfl,hb,c0,c1⟩:=(HS.out.below hbr).rec_ hr
    have hcs:=cntL_snoc (rs.take k) r
    have htk:rs.take (k+1)=rs.take k++[r]:=by rw [List.take_add_one,hr];rfl
    rw [← htk] at hcs
    have hle:=cntL_le (rs.take k) (fun x hx=>HCL.out x (List.mem_of_mem_take hx))
    rw [List.length_take] at hle
    have hr1:0≤r.1∧r.1≤1:=by
     rcases hrc with ⟨h,_⟩ | h
     · rw [h];decide
     · rw [h];decide
    have hbit:IntKind.u64.wrap (r.1.tmod 2)=r.1:=by
     rcases hrc with ⟨h,_⟩ | h
     · rw [h];rfl
     · rw [h];rfl
    have hw:IntKind.u64.wrap ((cntL (rs.take k):Int)+r.1)=(cntL (rs.take (k+1)):Int):=by rw [IntKind.wrap_u64,hcs];omega
    obtain ⟨C0,hC0⟩:∃ C0,C0=cntL (rs.take k):=⟨_,rfl⟩
    obtain ⟨C1,hC1⟩:∃ C1,C1=cntL (rs.take (k+1)):=⟨_,rfl⟩
    have HC1:=hide hC1
    rw [← hC0] at hw
    rw [← hC1] at hw
    rw [← hC0]
    obtain ⟨r1,r2⟩:=r
    dsimp only at *
    clear hr hcs htk hle hrc hC0 hC1
    go_wp2
    go_roundw
    case rel=>exact ⟨k+1,by omega,by go_num,by rw [show r1 % 2=r1 by omega,hw,HC1.out],hbr⟩
    case measure=>simp [intOf];omega
  · obtain rfl:k=rs.length:=by omega
    rw [List.take_length]
    go_wp2
    go_ret
    exact ⟨rfl,hbr⟩
end
section
open Go.RowKit Go.Shelf
section
variable {α:Type} {key:α→Nat}
theorem ins_at:∀ (O:List α) (m:Nat) (x:α),m≤O.length→(∀ i y,i<m→O[i]?=some y→key y≤key x)→(∀ y,O[m]?=some y→key x<key y)→ins key x O=O.take m++x::O.drop m
 | [],m,x,hm,_,_=>by simp [ins]
 | y::O,0,x,_,_,h=>by
   have:=h y rfl
   unfold ins
   rw [if_pos this]
   rfl
 | y::O,m+1,x,hm,hl,h=>by
   have h0:=hl 0 y (by omega) rfl
   unfold ins
   rw [if_neg (by omega),ins_at O m x (by simpa using hm) (fun i z hi hz=>hl (i+1) z (by omega) hz) (fun z hz=>h z hz)]
   rfl
theorem shift_set {O:List α} {s:Nat} {X y:α} (h:s≤O.length):(O.take s++X::O.drop s).set s y=O.take s++y::O.drop s:=by
 have hl:(O.take s).length=s:=by rw [List.length_take];omega
 rw [List.set_append_right _ _ (by omega),hl,Nat.sub_self]
 rfl
theorem shift_next {O:List α} {s:Nat} {y:α} (h0:0<s) (hy:O[s - 1]?=some y):O.take s++y::O.drop s=O.take (s - 1)++y::O.drop (s - 1):=by
 obtain ⟨t,rfl⟩:∃ t,s=t+1:=⟨s - 1,by omega⟩
 rw [Nat.add_sub_cancel] at hy ⊢
 obtain ⟨hl,he⟩:=List.getElem?_eq_some_iff.1 hy
 rw [List.take_add_one,hy,List.drop_eq_getElem_cons (i:=t) hl,he]
 simp
end
theorem recCs_snoc13 (rs:List (Int × Int)) (r:Int × Int):recCs (rs++[r])=recCs rs++[.int .u64 r.1,.int .u64 r.2]:=by simp [recCs]
theorem recCs_set:∀ (l:List (Int × Int)) (t:Nat) (r:Int × Int),((recCs l).set (t*2) (.int .u64 r.1)).set (t*2+1) (.int .u64 r.2)=recCs (l.set t r)
 | [],t,r=>by simp [recCs]
 | x::l,0,r=>by simp [recCs]
 | x::l,t+1,r=>by
   have h:=recCs_set l t r
   show ((Value.int .u64 x.1::Value.int .u64 x.2::recCs l).set ((t+1)*2) _).set ((t+1)*2+1) _=Value.int .u64 x.1::Value.int .u64 x.2::recCs (l.set t r)
   rw [show (t+1)*2=t*2+1+1 by omega]
   simp only [List.set_cons_succ]
   rw [h]
theorem recCs_get:∀ (l:List (Int × Int)) (t:Nat) (r:Int × Int),l[t]?=some r→(recCs l)[t*2]?=some (.int .u64 r.1)∧(recCs l)[t*2+1]?=some (.int .u64 r.2)
 | [],t,r,h=>by simp at h
 | x::l,0,r,h=>by
   cases h
   exact ⟨rfl,rfl⟩
 | x::l,t+1,r,h=>by
   have h2:=recCs_get l t r (by simpa using h)
   have e:recCs (x::l)=Value.int .u64 x.1::Value.int .u64 x.2::recCs l:=rfl
   rw [e,show (t+1)*2=t*2+1+1 by omega]
   exact h2
section
variable {w w':World} {B g n cap:Nat} {l:List (Int × Int)}
theorem row_get (h:w.ownsRow B 90 2 (.slice (some ⟨g,0,none⟩) n cap) n (recCs l)) (hl:l.length=n) {t:Nat} {r:Int × Int} (ht:l[t]?=some r):w.cell? ⟨g,t*2,none⟩=some (.int .u64 r.1)∧w.cell? ⟨g,t*2+1,none⟩=some (.int .u64 r.2):=by
 have hlt:=(List.getElem?_eq_some_iff.1 ht).1
 obtain ⟨h0,h1⟩:=recCs_get l t r ht
 exact ⟨(h.cellAt _ (by omega)).trans h0,(h.cellAt _ (by omega)).trans h1⟩
theorem row_set (h:w.ownsRow B 90 2 (.slice (some ⟨g,0,none⟩) n cap) n (recCs l)) {j:Nat} (r:Int × Int) :
 ((w.setCell ⟨g,j*2,none⟩ (.int .u64 r.1)).setCell ⟨g,j*2+1,none⟩ (.int .u64 r.2)).ownsRow B 90 2 (.slice (some ⟨g,0,none⟩) n cap) n (recCs (l.set j r))∧w.grownBy ((w.setCell ⟨g,j*2,none⟩ (.int .u64 r.1)).setCell ⟨g,j*2+1,none⟩ (.int .u64 r.2)) (some g):=by
 obtain ⟨a1,a2⟩:=h.stored (j*2) (.int .u64 r.1)
 obtain ⟨b1,b2⟩:=a1.stored (j*2+1) (.int .u64 r.2)
 rw [recCs_set] at b1
 exact ⟨b1,⟨b2.os.trans a2.os,b2.tape.trans a2.tape,b2.output.trans a2.output,Nat.le_trans a2.size b2.size,fun k hk hne=>(b2.block k (Nat.lt_of_lt_of_le hk a2.size) hne).trans (a2.block k hk hne)⟩⟩
theorem grown_trans {w w' w2:World} {r:Option Nat} (a2:w.grownBy w' r) (b2:w'.grownBy w2 r):w.grownBy w2 r :=
 ⟨b2.os.trans a2.os,b2.tape.trans a2.tape,b2.output.trans a2.output,Nat.le_trans a2.size b2.size,fun k hk hne=>(b2.block k (Nat.lt_of_lt_of_le hk a2.size) hne).trans (a2.block k hk hne)⟩
end
end
section
open Go.RowKit Go.Shelf
abbrev HeldS (wk:World) (xb gO m:Nat) (r1 r2 y1 y2:Int) (w:World):Prop :=
 Below wk.heap.size wk w∧w.cell? ⟨xb,0,none⟩=some (.int .u64 r1)∧w.cell? ⟨xb,1,none⟩=some (.int .u64 r2)∧w.cell? ⟨gO,m*2,none⟩=some (.int .u64 y1)∧w.cell? ⟨gO,m*2+1,none⟩=some (.int .u64 y2)
theorem cell_onS {w w':World} {g i:Nat} {v:Value} (hb:Below w.heap.size w w') (h:w.cell? ⟨g,i,none⟩=some v):w'.cell? ⟨g,i,none⟩=some v:=by
 exact (hb.cell (p:=⟨g,i,none⟩) (cell_lt h)).trans h
theorem keepS {wk w0 w':World} {xb gO m:Nat} {r1 r2 y1 y2:Int} (hb:Below w0.heap.size w0 w') (h:HeldS wk xb gO m r1 r2 y1 y2 w0):HeldS wk xb gO m r1 r2 y1 y2 w' :=
 ⟨bl_step h.1 hb,cell_onS hb h.2.1,cell_onS hb h.2.2.1,cell_onS hb h.2.2.2.1,cell_onS hb h.2.2.2.2⟩
theorem keepSD {wk w0:World} {xb gO m:Nat} {r1 r2 y1 y2:Int} (h:HeldS wk xb gO m r1 r2 y1 y2 w0):HeldS wk xb gO m r1 r2 y1 y2 w0.drew :=
 keepS (bl_drew (Below.refl _ _)) h
theorem rsort3 (l:List (Int × Int)) (hcl:∀ r∈l,Cln r) (hn:l.length≤4096) (A:Option Addr) (c:Nat) (w:World) (hs:Sl w w.heap.size A (recCs l)) :
 Calls Tryz.prog 97 #[.slice A l.length c] w fun e w'=>∃ v,e=.returned v∧w'.ownsRow w.heap.size 90 2 v l.length (recCs (isort rkey l))∧Below w.heap.size w w':=by
 have HS:=hide hs;have HCL:=hide hcl
 clear hs hcl
 go_enter Tryz.func97,Tryz.ntmps97
 go_wp2
 go_loopw [3,4] (fun o i wr=>∃ k:Nat,k≤l.length∧i=.int .i64 k∧wr.ownsRow w.heap.size 90 2 o k (recCs (isort rkey (l.take k)))∧Below w.heap.size w wr)
  (fun _ i _=>l.length - (intOf i).toNat)
 case atStart=>exact ⟨0,Nat.zero_le _,rfl,World.ownsRow_nil _ _ _ _,Below.refl _ _⟩
 case round =>
  obtain ⟨k,hk,rfl,hown,hbr⟩:=hrel
  obtain ⟨OA,oc,rfl,hoc⟩:=own_slice hown
  by_cases hlt:k<l.length
  · have hlti:(k:Int)<(l.length:Int):=by omega
    obtain ⟨r,hr⟩:∃ r,l[k]?=some r:=⟨_,List.getElem?_eq_getElem hlt⟩
    have hrc:=HCL.out r (List.mem_of_getElem? hr)
    obtain ⟨b,off,rfl,hb,c0,c1⟩:=(HS.out.below hbr).rec_ hr
    have HNX:Hid (isort rkey (l.take (k+1))=ins rkey r (isort rkey (l.take k))):=hide (by rw [List.take_add_one,hr];exact isort_snoc rkey _ _)
    have HOL:Hid ((isort rkey (l.take k)).length=k):=hide (by rw [isort_length,List.length_take];omega)
    have HOC:Hid (∀ y∈isort rkey (l.take k),Cln y):=hide fun y hy=>HCL.out y (List.mem_of_mem_take ((isort_perm rkey _).mem_iff.1 hy))
    obtain ⟨O,hO⟩:∃ O,O=isort rkey (l.take k):=⟨_,rfl⟩
    rw [← hO] at hown HNX HOL HOC
    have HRC:=hide hrc
    have HCR:=hide (rclean3 r hrc wr)
    obtain ⟨r1,r2⟩:=r
    dsimp only at HCR c0 c1
    clear hr hrc hO
    have hk4:k≤4096:=by omega
    go_wp2_with fail
    refine HCR.out.mono ?_
    rintro e w1 ⟨rfl,hb1⟩
    obtain ⟨xb,hxb⟩:∃ xb,xb=w1.heap.size:=⟨_,rfl⟩
    obtain ⟨w2,hw2⟩:∃ w2,w2=w1.alloc (.cells #[.int .u64 r1,.int .u64 r2] 90):=⟨_,rfl⟩
    have hb2:Below w1.heap.size w1 w2:=by rw [hw2];exact bA
    have HXB:Hid (Blk w2 xb 90 #[.int .u64 r1,.int .u64 r2]):=hide (by rw [hw2,hxb];exact Blk.new _ _ _)
    have hown1:=own_step hown hb1
    have HXN:Hid ((Value.slice OA k oc).ownBlock≠some xb):=hide fun e=>by have:=own_lt hown1 e;omega
    have HOWN:=hide (own_step hown1 hb2)
    have HBW:=hide (bl_step (bl_step hbr hb1) hb2)
    have HXE:=hide hxb
    clear hown hown1 hb1 hb2 hbr hxb c0 c1 HCR
    go_wp2
    rw [← hw2,← HXE.out]
    clear hw2
    go_loopw [6] (fun t wr2=>∃ m:Nat,m≤k∧t=.int .i64 m∧(∀ i y,i<m→O[i]?=some y→rkey y≤rkey (r1,r2))∧Below w2.heap.size w2 wr2)
     (fun t _=>k - (intOf t).toNat)
    case atStart=>exact ⟨0,Nat.zero_le _,rfl,fun i y h=>by omega,Below.refl _ _⟩
    case round =>
     obtain ⟨m,hm,rfl,hlo,hbx⟩:=hrel
     by_cases hmk:m<k
     · have hmki:(m:Int)<(k:Int):=by omega
       have hd:decide ((m:Int)<(k:Int))=true:=decide_eq_true hmki
       obtain ⟨y,hy⟩:∃ y,O[m]?=some y:=⟨_,List.getElem?_eq_getElem (by rw [HOL.out];exact hmk)⟩
       have hyc:=HOC.out y (List.mem_of_getElem? hy)
       have hX:=HXB.out.step hbx
       have x0:wr.cell? ⟨xb,0,none⟩=some (.int .u64 r1):=hX.cell (i:=0) rfl
       have x1:wr.cell? ⟨xb,1,none⟩=some (.int .u64 r2):=hX.cell (i:=1) rfl
       have hownr:=own_step HOWN.out hbx
       obtain ⟨gO,capO,hv,hgO,hgl⟩:=hownr.form (by omega)
       cases hv
       obtain ⟨y0,y1⟩:=row_get hownr HOL.out hy
       have HLE:=hide (fun wk=>rless3 (r1,r2) y HRC.out hyc wk)
       have hH:HeldS wr xb gO m r1 r2 y.1 y.2 wr:=⟨Below.refl _ _,x0,x1,y0,y1⟩
       obtain ⟨B,hB⟩:∃ B,B=decide (rkey (r1,r2)<rkey y):=⟨_,rfl⟩
       rw [← hB] at HLE
       have HBB:=hide hB;have HY:=hide hy;have HLO0:=hide hlo;have HBX:=hide hbx
       obtain ⟨ya,yb⟩:=y
       dsimp only at HLE hH
       have hmk0:(0:Int)≤(m:Int):=by omega
       clear hX x0 x1 y0 y1 hownr hgO hgl hB hy hlo hbx hyc
       go_wp2
       go_region_held3 (fun w'=>Below wr.heap.size wr w'∧w'.cell? ⟨xb,0,none⟩=some (.int .u64 r1)∧w'.cell? ⟨xb,1,none⟩=some (.int .u64 r2)∧w'.cell? ⟨gO,m*2,none⟩=some (.int .u64 ya)∧w'.cell? ⟨gO,m*2+1,none⟩=some (.int .u64 yb))
        (first | exact keepS (by assumption) (by assumption) | exact keepSD (by assumption))
        (first | (go_at_call 136;refine (HLE.out _).mono ?_;rintro e w' ⟨rfl,hb'⟩))
       have hbx:Below w2.heap.size w2 w':=bl_step HBX.out (And.left (by assumption:HeldS wr xb gO m r1 r2 ya yb w'))
       cases B with
       | false =>
         have hle:rkey (ya,yb)≤rkey (r1,r2):=by have:=HBB.out;simp at this;exact this
         clear HLE hH
         go_wp2
         go_roundw
         case rel =>
          refine ⟨m+1,by omega,by go_num,fun i z hi hz=>?_,hbx⟩
          by_cases him:i<m
          · exact HLO0.out i z him hz
          · obtain rfl:i=m:=by omega
            rw [HY.out] at hz
            cases hz
            exact hle
         case measure=>simp [intOf];omega
       | true =>
         have hHI:∀ z,O[m]?=some z→rkey (r1,r2)<rkey z:=fun z hz=>by
          rw [HY.out] at hz
          cases hz
          have:=HBB.out
          simp at this
          exact this
         have HLO:=HLO0
         clear HLE hH HLO0 HBB HY HBX hb'
         obtain ⟨i0,hi,hi0,hi1,hi2⟩:=info_parts rec_info
         have hbz:=bl_alloc (Below.refl w'.heap.size w') (.cells #[.int .u64 r1,.int .u64 r2] 90)
         have N6:=Blk.new w' 90 #[.int .u64 r1,.int .u64 r2]
         have hXx:=HXB.out.step hbx
         have XA:=hXx.alloc (.cells #[.int .u64 r1,.int .u64 r2] 90)
         have xx0:w'.cell? ⟨xb,0,none⟩=some (.int .u64 r1):=hXx.cell (i:=0) rfl
         have xx1:w'.cell? ⟨xb,1,none⟩=some (.int .u64 r2):=hXx.cell (i:=1) rfl
         have hownx:=own_step (own_step HOWN.out hbx) hbz
         have hw':=bl_step (bl_step HBW.out hbx) hbz
         obtain ⟨g7,cap7,w7,hrun,hown7,hgrow7,hat7,hlt7⟩:=run_append_lies (P:=Tryz.prog) (w'.alloc (.cells #[.int .u64 r1,.int .u64 r2] 90)) 31 31 w.heap.size 90 i0 (.agg #[.int .u64 0,.int .u64 0]) 2 16 Tryz.underlying31 hi hi0 hi1 hi2 rfl (by decide) _ k (recCs O) hownx ⟨w'.heap.size,0,none⟩ 1 1 [.int .u64 r1,.int .u64 r2] rfl (fun j u hu=>by rw [add_zero_off];exact N6.cell (by simpa using hu)) (by simp [Value.oneCell']) (by omega) (by unfold maxLen;omega) (by omega) hw'.size _ rfl
         have hw7:Below w.heap.size w w7:=hw'.grown hgrow7 hw'.size (fun j hj=>own_base hownx hj)
         have X7:=XA.grown hgrow7 (fun e=>HXN.out e.symm)
         have hg7:w.heap.size≤g7∧g7≠xb:=by
          refine ⟨own_base hown7 rfl,?_⟩
          rcases hat7 with h | h
          · intro e;rw [e] at h;exact HXN.out h
          · have:=XA.lt;omega
         have HO7:Hid (w7.ownsRow w.heap.size 90 2 (.slice (some ⟨g7,0,none⟩) (k+1) cap7) (k+1) (recCs (O.take k++(r1,r2)::O.drop k))):=hide (by
          rw [List.take_of_length_le (by rw [HOL.out];exact Nat.le_refl _),List.drop_of_length_le (by rw [HOL.out];exact Nat.le_refl _),recCs_snoc13]
          exact hown7)
         have HX7:=hide X7;have HW7:=hide hw7;have HG7:=hide hg7
         have hwk:IntKind.i64.wrap ((k:Int)+1 - 1)=(k:Int):=by rw [IntKind.wrap_i64];omega
         clear hown7 hgrow7 N6 XA hownx hw' X7 hw7 hg7 hbz hXx hat7 hlt7 hi hi0 hi1 hi2
         go_wp2_with (at_builtin;refine wpList_append_run (.tmp 34) (.tmp 36) 31 rfl rfl _ _ rfl rfl hrun ?_)
         clear hrun xx0 xx1
         go_wp2
         go_loopw [7] (fun t wr=>∃ (s:Nat) (X:Int × Int),m≤s∧s≤k∧t=.int .i64 s∧wr.ownsRow w.heap.size 90 2 (.slice (some ⟨g7,0,none⟩) (k+1) cap7) (k+1) (recCs (O.take s++X::O.drop s))∧w7.grownBy wr (some g7))
          (fun t _=>(intOf t).toNat)
         case atStart=>exact ⟨k,(r1,r2),by omega,Nat.le_refl _,rfl,HO7.out,World.grownBy.refl _ _⟩
         case round =>
          obtain ⟨s,⟨Xa,Xb⟩,hms,hsk,rfl,hown3,hgr3⟩:=hrel
          have hll:(O.take s++(Xa,Xb)::O.drop s).length=k+1:=by rw [List.length_append,List.length_cons,List.length_take,List.length_drop,HOL.out];omega
          have hxs:(O.take s++(Xa,Xb)::O.drop s)[s]?=some (Xa,Xb):=by
           rw [List.getElem?_append_right (by rw [List.length_take,HOL.out];omega),List.length_take,HOL.out,Nat.min_eq_left hsk,Nat.sub_self]
           rfl
          obtain ⟨d0,d1⟩:=row_get hown3 hll hxs
          dsimp only at d0 d1
          clear hxs
          by_cases hgt:m<s
          · have hgti:(m:Int)<(s:Int):=by omega
            obtain ⟨y,hy⟩:∃ y,O[s - 1]?=some y:=⟨_,List.getElem?_eq_getElem (by rw [HOL.out];omega)⟩
            have hy2:(O.take s++(Xa,Xb)::O.drop s)[s - 1]?=some y:=by
             rw [List.getElem?_append_left (by rw [List.length_take,HOL.out];omega),List.getElem?_take,if_pos (by omega)]
             exact hy
            obtain ⟨c0,c1⟩:=row_get hown3 hll hy2
            have f0:=hown3.frozenAt (s*2)
            have f1:=hown3.frozenAt (s*2+1)
            obtain ⟨q1,q2⟩:=row_set hown3 (j:=s) y
            rw [shift_set (by rw [HOL.out];omega),shift_next (by omega) hy] at q1
            have hg3:=grown_trans hgr3 q2
            obtain ⟨y1,y2⟩:=y
            dsimp only at *
            obtain ⟨u,hu⟩:∃ u,s=u+1:=⟨s - 1,by omega⟩
            subst hu
            rw [Nat.add_sub_cancel] at *
            have hs1:IntKind.i64.wrap (((u+1:Nat):Int) - 1)=(u:Int):=by rw [IntKind.wrap_i64];omega
            have hs1':IntKind.i64.wrap ((u:Int)+1 - 1)=(u:Int):=by rw [IntKind.wrap_i64];omega
            have hs2:u<k+1:=by omega
            have hs3:u+1<k+1:=by omega
            have hs3':u<k:=by omega
            have hs4:(u:Int)<(k:Int)+1:=by omega
            have hs5:(u:Int)+1<(k:Int)+1:=by omega
            have hs5':(u:Int)<(k:Int):=by omega
            have hs6:(0:Int)≤(u:Int):=by omega
            have hs7:(0:Int)≤(u:Int)+1:=by omega
            have hs8:((u:Int)+1).toNat=u+1:=by omega
            clear hy hy2 hll
            go_wp2
            go_roundw
            case rel=>exact ⟨u,(y1,y2),by omega,by omega,by go_num,q1,hg3⟩
            case measure=>first | (simp [intOf];done) | (simp [intOf];omega)
          · obtain rfl:m=s:=by omega
            have hgti:¬ (m:Int)<(m:Int):=by omega
            have f0:=hown3.frozenAt (m*2)
            have f1:=hown3.frozenAt (m*2+1)
            obtain ⟨q1,q2⟩:=row_set hown3 (j:=m) (r1,r2)
            rw [shift_set (by rw [HOL.out];omega),← ins_at (key:=rkey) O m (r1,r2) (by rw [HOL.out];omega) HLO.out hHI,← HNX.out] at q1
            have X3:=HX7.out.grown hgr3 (fun e=>HG7.out.2 (by injection e with e;exact e.symm))
            have x0:wr.cell? ⟨xb,0,none⟩=some (.int .u64 r1):=X3.cell (i:=0) rfl
            have x1:wr.cell? ⟨xb,1,none⟩=some (.int .u64 r2):=X3.cell (i:=1) rfl
            have hfin:=HW7.out.grown (grown_trans hgr3 q2) HW7.out.size (fun j hj=>by cases hj;exact HG7.out.1)
            have hs3:m<k+1:=by omega
            have hs5:(m:Int)<(k:Int)+1:=by omega
            clear X3
            go_wp2
            go_roundw
            case rel=>exact ⟨k+1,by omega,by go_num,q1,hfin⟩
            case measure=>simp [intOf];omega
     · obtain rfl:k=m:=by omega
       have hgi:¬ (k:Int)<(k:Int):=by omega
       have hHI:∀ z,O[k]?=some z→rkey (r1,r2)<rkey z:=fun z hz=>by
        have:=(List.getElem?_eq_some_iff.1 hz).1
        have:=HOL.out
        omega
       have HLO:=hide hlo
       clear hlo
       go_wp2
       go_quiet (fail)
       replace hbx:=bl_drewN hbx nq
       generalize wr.drewN nq=wq at *
       obtain ⟨i0,hi,hi0,hi1,hi2⟩:=info_parts rec_info
       have hbz:=bl_alloc (Below.refl wq.heap.size wq) (.cells #[.int .u64 r1,.int .u64 r2] 90)
       have N6:=Blk.new wq 90 #[.int .u64 r1,.int .u64 r2]
       have hXx:=HXB.out.step hbx
       have XA:=hXx.alloc (.cells #[.int .u64 r1,.int .u64 r2] 90)
       have xx0:wq.cell? ⟨xb,0,none⟩=some (.int .u64 r1):=hXx.cell (i:=0) rfl
       have xx1:wq.cell? ⟨xb,1,none⟩=some (.int .u64 r2):=hXx.cell (i:=1) rfl
       have hownx:=own_step (own_step HOWN.out hbx) hbz
       have hwq:=bl_step (bl_step HBW.out hbx) hbz
       obtain ⟨g7,cap7,w7,hrun,hown7,hgrow7,hat7,hlt7⟩:=run_append_lies (P:=Tryz.prog) (wq.alloc (.cells #[.int .u64 r1,.int .u64 r2] 90)) 31 31 w.heap.size 90 i0 (.agg #[.int .u64 0,.int .u64 0]) 2 16 Tryz.underlying31 hi hi0 hi1 hi2 rfl (by decide) _ k (recCs O) hownx ⟨wq.heap.size,0,none⟩ 1 1 [.int .u64 r1,.int .u64 r2] rfl (fun j u hu=>by rw [add_zero_off];exact N6.cell (by simpa using hu)) (by simp [Value.oneCell']) (by omega) (by unfold maxLen;omega) (by omega) hwq.size _ rfl
       have hw7:Below w.heap.size w w7:=hwq.grown hgrow7 hwq.size (fun j hj=>own_base hownx hj)
       have X7:=XA.grown hgrow7 (fun e=>HXN.out e.symm)
       have hg7:w.heap.size≤g7∧g7≠xb:=by
        refine ⟨own_base hown7 rfl,?_⟩
        rcases hat7 with h | h
        · intro e;rw [e] at h;exact HXN.out h
        · have:=XA.lt;omega
       have HO7:Hid (w7.ownsRow w.heap.size 90 2 (.slice (some ⟨g7,0,none⟩) (k+1) cap7) (k+1) (recCs (O.take k++(r1,r2)::O.drop k))):=hide (by
        rw [List.take_of_length_le (by rw [HOL.out];exact Nat.le_refl _),List.drop_of_length_le (by rw [HOL.out];exact Nat.le_refl _),recCs_snoc13]
        exact hown7)
       have HX7:=hide X7;have HW7:=hide hw7;have HG7:=hide hg7
       have hwk:IntKind.i64.wrap ((k:Int)+1 - 1)=(k:Int):=by rw [IntKind.wrap_i64];omega
       clear hown7 hgrow7 N6 XA hownx hwq X7 hw7 hg7 hbz hXx hat7 hlt7 hi hi0 hi1 hi2
       go_wp2_with (at_builtin;refine wpList_append_run (.tmp 34) (.tmp 36) 31 rfl rfl _ _ rfl rfl hrun ?_)
       clear hrun xx0 xx1
       go_wp2
       go_loopw [7] (fun t wr=>∃ (s:Nat) (X:Int × Int),k≤s∧s≤k∧t=.int .i64 s∧wr.ownsRow w.heap.size 90 2 (.slice (some ⟨g7,0,none⟩) (k+1) cap7) (k+1) (recCs (O.take s++X::O.drop s))∧w7.grownBy wr (some g7))
        (fun t _=>(intOf t).toNat)
       case atStart=>exact ⟨k,(r1,r2),by omega,Nat.le_refl _,rfl,HO7.out,World.grownBy.refl _ _⟩
       case round =>
        obtain ⟨s,⟨Xa,Xb⟩,hms,hsk,rfl,hown3,hgr3⟩:=hrel
        have hll:(O.take s++(Xa,Xb)::O.drop s).length=k+1:=by rw [List.length_append,List.length_cons,List.length_take,List.length_drop,HOL.out];omega
        have hxs:(O.take s++(Xa,Xb)::O.drop s)[s]?=some (Xa,Xb):=by
         rw [List.getElem?_append_right (by rw [List.length_take,HOL.out];omega),List.length_take,HOL.out,Nat.min_eq_left hsk,Nat.sub_self]
         rfl
        obtain ⟨d0,d1⟩:=row_get hown3 hll hxs
        dsimp only at d0 d1
        clear hxs
        by_cases hgt:k<s
        · exfalso;omega
        · obtain rfl:k=s:=by omega
          have hgti:¬ (k:Int)<(k:Int):=by omega
          have f0:=hown3.frozenAt (k*2)
          have f1:=hown3.frozenAt (k*2+1)
          obtain ⟨q1,q2⟩:=row_set hown3 (j:=k) (r1,r2)
          rw [shift_set (by rw [HOL.out];omega),← ins_at (key:=rkey) O k (r1,r2) (by rw [HOL.out];omega) HLO.out hHI,← HNX.out] at q1
          have X3:=HX7.out.grown hgr3 (fun e=>HG7.out.2 (by injection e with e;exact e.symm))
          have x0:wr.cell? ⟨xb,0,none⟩=some (.int .u64 r1):=X3.cell (i:=0) rfl
          have x1:wr.cell? ⟨xb,1,none⟩=some (.int .u64 r2):=X3.cell (i:=1) rfl
          have hfin:=HW7.out.grown (grown_trans hgr3 q2) HW7.out.size (fun j hj=>by cases hj;exact HG7.out.1)
          have hs3:k<k+1:=by omega
          have hs5:(k:Int)<(k:Int)+1:=by omega
          clear X3
          go_wp2
          go_roundw
          case rel=>exact ⟨k+1,by omega,by go_num,q1,hfin⟩
          case measure=>simp [intOf];omega
  · obtain rfl:k=l.length:=by omega
    rw [List.take_length] at hown
    have hlti:¬ (l.length:Int)<(l.length:Int):=by omega
    go_wp2
    go_ret
    exact ⟨_,rfl,hown,hbr⟩
end
end Go.Proofs.YtpnoofphfomjoaaGreatDoor
