/- Reader TakeRec Answer Reader2 WordAt -/
import Derived.Deep.RegionLaw
import Derived.Laws.BitsAllLaws
import Derived.Laws.MakeOwn
import Derived.Test.YtfljlmleiggmjaaGreatDoorPkC06
set_option maxRecDepth 1000000
set_option maxHeartbeats 8000000
namespace Go.Proofs.YtfljlmleiggmjaaGreatDoor
section
open Go.RowKit
def le:List Int→Int
 | []=>0
 | b::t=>b+256*le t
theorem le_snoc (l:List Int) (b:Int):le (l++[b])=le l+b*256 ^ l.length:=by
 induction l with
 | nil=>simp [le]
 | cons a l ih =>
   simp only [List.cons_append,le,ih,List.length_cons]
   rw [Int.pow_succ,Int.mul_add,Int.add_assoc]
   congr 2
   rw [Int.mul_comm,Int.mul_assoc]
def By (bs:List Int):Prop:=∀ x∈bs,0≤x∧x≤255
theorem By.tail {b:Int} {t:List Int} (h:By (b::t)):By t:=fun x hx=>h x (by simp [hx])
theorem By.head {b:Int} {t:List Int} (h:By (b::t)):0≤b∧b≤255:=h b (by simp)
theorem By.take {l:List Int} (h:By l) (k:Nat):By (l.take k):=fun x hx=>h x (List.mem_of_mem_take hx)
theorem By.drop {l:List Int} (h:By l) (k:Nat):By (l.drop k):=fun x hx=>h x (List.mem_of_mem_drop hx)
theorem le_bd:∀ (l:List Int),By l→0≤le l∧le l<256 ^ l.length
 | [],_=>by simp [le]
 | b::t,h=>by
   have h1:=le_bd t h.tail
   have h2:=h.head
   simp only [le,List.length_cons]
   rw [Int.pow_succ]
   have:le t+1≤256 ^ t.length:=h1.2
   omega
theorem le_step {x b:Int} {k:Nat} (hk:k<8) (h0:0≤x) (h1:x<256 ^ k) (b0:0≤b) (b1:b≤255):bits .or .u64 x (IntKind.u64.wrap (b*2 ^ (8*k)))=x+b*256 ^ k:=by
 have e:(2:Int) ^ (8*k)=256 ^ k:=Int.pow_mul
 have hp:(256:Int) ^ (k+1)≤18446744073709551616:=by
  exact (by decide:∀ k,k<8→(256:Int) ^ (k+1)≤18446744073709551616) k hk
 have hpos:(0:Int)<256 ^ k:=Int.pow_pos (by omega)
 rw [Int.pow_succ] at hp
 have hb:b*256 ^ k≤255*256 ^ k:=Int.mul_le_mul_of_nonneg_right b1 (Int.le_of_lt hpos)
 have hb0:0≤b*256 ^ k:=Int.mul_nonneg b0 (Int.le_of_lt hpos)
 have hw:IntKind.u64.wrap (b*2 ^ (8*k))=b*256 ^ k:=by rw [e,IntKind.wrap_u64,Int.emod_eq_of_lt hb0 (by omega)]
 rw [hw,u64_or x _ h0 (by omega) hb0 (by omega)]
 have ex:((x.toNat:Nat):Int)=x:=by omega
 have eb:(b*256 ^ k).toNat=2 ^ (8*k)*b.toNat:=by
  have:b*256 ^ k=((2 ^ (8*k)*b.toNat:Nat):Int):=by
   rw [Int.natCast_mul,Int.natCast_pow]
   have:((b.toNat:Nat):Int)=b:=by omega
   rw [this,Int.mul_comm,← e]
   rfl
  omega
 have hlt:x.toNat<2 ^ (8*k):=by
  have:((x.toNat:Nat):Int)<((2 ^ (8*k):Nat):Int):=by rw [ex,Int.natCast_pow];rw [← e] at h1;exact h1
  omega
 rw [eb,Nat.or_comm,← Nat.two_pow_add_eq_or_of_lt hlt]
 have:b*256 ^ k=((2 ^ (8*k)*b.toNat:Nat):Int):=by omega
 omega
def RS (w:World) (P:Nat→Prop) (B g:Nat) (bs:List Int):Prop :=
 ∃ A c,Blk w g 153 #[.slice A bs.length c]∧¬ P g∧bs.length≤c∧Sl w B A (byCells bs)
theorem get_append_cons {l t:List Int} {k:Nat} (h:k<l.length):l.drop k++t=l[k]::(l.drop (k+1)++t):=by
 rw [List.drop_eq_getElem_cons h];rfl
theorem le_take_succ {l:List Int} {k:Nat} (h:k<l.length):le (l.take (k+1))=le (l.take k)+l[k]*256 ^ k:=by
 rw [List.take_succ_eq_append_getElem h,le_snoc,List.length_take,Nat.min_eq_left (by omega)]
section
variable {w w':World} {P R:Nat→Prop} {B g:Nat} {bs:List Int}
theorem RS.lt (h:RS w P B g bs):g<w.heap.size:=by obtain ⟨A,c,h1,_⟩:=h;exact h1.lt
theorem RS.step (h:RS w P B g bs) (hb:Below w.heap.size w w') (hB:∀ k,k<B→P k) (hP:∀ k,P k→k<w.heap.size):RS w' P B g bs:=by
 obtain ⟨A,c,h1,h2,h3,h4⟩:=h
 exact ⟨A,c,h1.step hb,h2,h3,h4.kept (KeepP.of_below hb hP) hB⟩
theorem RS.mono (h:RS w P B g bs) (hR:∀ k,R k→P k):RS w R B g bs:=by
 obtain ⟨A,c,h1,h2,h3,h4⟩:=h
 exact ⟨A,c,h1,fun hr=>h2 (hR _ hr),h3,h4⟩
theorem KeepP.set {b:Nat} (hb:¬ P b) (o:Nat) (u:Value) (w:World):KeepP P w (w.setCell ⟨b,o,none⟩ u) :=
 ⟨rfl,rfl,rfl,by rw [World.size_setCell];exact Nat.le_refl _,fun k hk=>Below.heap_setCell w _ u k (by rintro rfl;exact hb hk)⟩
theorem RS.far (h:RS w P B g bs) {b:Nat} (hg:g≠b) (hb:¬ P b) (hB:∀ k,k<B→P k) (o:Nat) (u:Value):RS (w.setCell ⟨b,o,none⟩ u) P B g bs:=by
 obtain ⟨A,c,h1,h2,h3,h4⟩:=h
 exact ⟨A,c,h1.far (p:=⟨b,o,none⟩) hg u,h2,h3,h4.kept (KeepP.set hb o u w) hB⟩
theorem RS.more (h:RS w P B g bs) (hb:Below w.heap.size w w') (hB:∀ k,k<B→P k) (hP:∀ k,P k→k<w.heap.size):RS w' (More P w w') B g bs:=by
 have hl:=h.lt
 obtain ⟨A,c,h1,h2,h3,h4⟩:=h.step hb hB hP
 exact ⟨A,c,h1,fun hm=>by rcases hm with hm | hm;exact h2 hm;omega,h3,h4⟩
end
section
variable (P:Nat→Prop) (B g:Nat) (w:World) (hB:∀ k,k<B→P k)
include hB
theorem byte_any (x:Int) (t:List Int) (hr:RS w P B g (x::t)) (hl:t.length≤1000000) :
 Calls Tryz.prog 179 #[.pointer (some ⟨g,0,none⟩)] w fun e w'=>e=.returned (.int .u8 x)∧KeepP P w w'∧RS w' P B g t:=by
 obtain ⟨A,c,hblk,hg,hc,hs⟩:=hr
 obtain ⟨b,off,rfl,hb,hcell⟩:=hs.by_ (by simp)
 have c0:=hcell 0 x rfl
 rw [Nat.add_zero] at c0
 have hcl:t.length+1≤c:=by simpa using hc
 have g0:=hblk.cell (i:=0) rfl
 have f0:=hblk.frozen 0
 have hgl:=hblk.lt
 have hbl:=cell_lt c0
 have HB:=hide hB
 have HC:=hide hcell
 have HS:=hide hs
 clear hs hcell hB hc
 simp only [List.length_cons] at g0
 have hkeep:∀ u,KeepP P w (w.setCell ⟨g,0,none⟩ u):=fun u=>⟨rfl,rfl,rfl,by rw [World.size_setCell];exact Nat.le_refl _,fun k hk=>Below.heap_setCell w _ u k (by rintro rfl;exact hg hk)⟩
 have HK:=hide hkeep
 clear hkeep
 by_cases hc1:c=1
 · subst hc1
   have ht:t=[]:=List.eq_nil_of_length_eq_zero (by omega)
   subst ht
   go_enter Tryz.func179,Tryz.ntmps179
   go_wp2
   go_ret
   exact ⟨rfl,HK.out _,_,_,hblk.set 0 _,hg,Nat.le_refl _,Sl.nil _ _ _⟩
 · have hc2:1<c:=by omega
   go_enter Tryz.func179,Tryz.ntmps179
   go_wp2
   go_ret
   refine ⟨rfl,HK.out _,_,_,hblk.set 0 _,hg,by omega,?_⟩
   refine Sl.kept (P:=P) ?_ (HK.out _) HB.out
   exact Sl.mk hb fun j u hu=>by
    have:=HC.out (j+1)
    rw [show off+1+j=off+(j+1) by omega]
    simp only [byCells,List.getElem?_map,Option.map_eq_some_iff] at hu
    obtain ⟨y,hy,rfl⟩:=hu
    exact this y (by simpa using hy)
theorem rdword_any (l t:List Int) (hl8:l.length=8) (hby:By l) (hr:RS w P B g (l++t)) (hl:t.length≤900000) :
 Calls Tryz.prog 146 #[.pointer (some ⟨g,0,none⟩)] w fun e w'=>e=.returned (.int .u64 (le l))∧KeepP P w w'∧RS w' P B g t:=by
 have HB:=hide hB;clear hB
 have HBY:=hide hby;clear hby
 have HL:=hide hl8;clear hl8
 go_enter Tryz.func146,Tryz.ntmps146
 go_wp2
 go_loopw [3,5] (fun x i wr=>∃ (k:Nat) (y:Int),k≤8∧i=.int .i64 k∧x=.int .u64 y∧y=le (l.take k)∧KeepP P w wr∧RS wr P B g (l.drop k++t))
  (fun _ i _=>8 - (intOf i).toNat)
 case atStart=>exact ⟨0,0,by omega,rfl,rfl,rfl,KeepP.refl _ _,by simpa using hr⟩
 case round =>
  obtain ⟨k,y,hk,rfl,rfl,hy,hkp,hrs⟩:=hrel
  have HY:=hide hy;clear hy
  by_cases hlt:k<8
  · have hkl:k<l.length:=by rw [HL.out];exact hlt
    obtain ⟨b,hb⟩:∃ b,b=l[k]:=⟨_,rfl⟩
    have hb01:=HBY.out l[k] (List.getElem_mem hkl)
    rw [← hb] at hb01
    obtain ⟨hb0,hb1⟩:=hb01
    have hyb:=le_bd (l.take k) (HBY.out.take k)
    rw [List.length_take,Nat.min_eq_left (by omega),← HY.out] at hyb
    have HST:=hide (le_step hlt hyb.1 hyb.2 hb0 hb1)
    have HTS:Hid (le (l.take (k+1))=y+b*256 ^ k):=by apply hide;rw [le_take_succ hkl,HY.out,hb]
    rw [get_append_cons hkl,← hb] at hrs
    have hsh:Op.shift .shl .u64 b .i64 (IntKind.i64.wrap (8*(k:Int)))=pure (.int .u64 (IntKind.u64.wrap (b*2 ^ (8*k)))):=by
     have h8:IntKind.i64.wrap (8*(k:Int))=8*(k:Int):=by rw [IntKind.wrap_i64];omega
     have e:(8*(k:Int)).toNat=8*k:=by omega
     have e2:=shift_shl .u64 .i64 b (8*(k:Int)) (by omega) (by simp [IntKind.bits];omega)
     rw [h8,e2,e]
    have HBE:=hide hb
    clear hb hyb
    have hln:(l.drop (k+1)++t).length≤1000000:=by rw [List.length_append,List.length_drop,HL.out];omega
    go_wp2_with fail
    refine (byte_any P B g wr HB.out b _ hrs hln).mono ?_
    rintro e w1 ⟨rfl,k1,r1⟩
    go_wp2
    go_roundw
    case rel=>exact ⟨k+1,_,by omega,by go_num,rfl,by rw [HTS.out];exact HST.out,hkp.trans k1,r1⟩
    case measure=>simp [intOf];omega
  · have hk':k=8:=by omega
    subst hk'
    have h8:l.drop 8=[]:=List.drop_of_length_le (by rw [HL.out];omega)
    have t8:l.take 8=l:=List.take_of_length_le (by rw [HL.out];omega)
    rw [h8,List.nil_append] at hrs
    have HYY:Hid (y=le l):=by apply hide;rw [HY.out,t8]
    clear h8 t8
    go_wp2
    go_ret
    exact ⟨ret_int HYY.out,hkp,hrs⟩
end
end
section
open Go.RowKit
def Plus (P:Nat→Prop) (b k:Nat):Prop:=P k∨k=b
theorem RS.plus {w:World} {P:Nat→Prop} {B g b:Nat} {bs:List Int} (h:RS w P B g bs) (hg:g≠b):RS w (Plus P b) B g bs:=by
 obtain ⟨A,c,h1,h2,h3,h4⟩:=h
 exact ⟨A,c,h1,fun hp=>by rcases hp with hp | hp;exact h2 hp;exact hg hp,h3,h4⟩
def recAt (bs:List Int) (i:Nat):Int × Int:=(bs.getD (9*i) 0,le ((bs.drop (9*i+1)).take 8))
def recsOf (bs:List Int) (n:Nat):List (Int × Int):=(List.range n).map (recAt bs)
theorem rec_info:(Tryz.prog.info? 150).map (fun i=>(i.zero,i.size,i.bytes))=some (some (.agg #[.int .u64 0,.int .u64 0]),2,16):=by kernel_rfl
theorem make_recs (n:Nat) (hn:n≤1000000) (w:World):(Instr.makeSlice 89 (.int .i64 (n:Int)) (.int .i64 (n:Int))).run Tryz.prog w=.ok (.slice (some ⟨w.heap.size,0,none⟩) n n) (w.alloc (.cells (madeCells #[.int .u64 0,.int .u64 0] (n*2)) 150)):=by
 obtain ⟨i,hi,hz0,hz1,hz2⟩:=info_parts rec_info
 have h:=run_make (P:=Tryz.prog) w 89 150 i _ Tryz.underlying89 hi hz0 .i64 .i64 n n (by omega) (Int.le_refl _) (by rw [hz2];omega) (by omega)
 rw [hz1] at h
 simpa [Value.cells] using h
theorem sl_of_cells {w:World} {g:Nat} {t:TypeId} {cs:Array Value} (h:Blk w g t cs) {xs:List Value} (hx:∀ (j:Nat) u,xs[j]?=some u→cs[j]?=some u):Sl w w.heap.size (some ⟨g,0,none⟩) xs :=
 Sl.mk h.lt fun j u hu=>by rw [Nat.zero_add];exact h.cell (hx j u hu)
theorem pairs_get {α:Type} (f:α→List Value) (m:Nat) (hm:0<m) (hf:∀ a,(f a).length=m) (l:List α) (cs:Array Value) (h:∀ (i:Nat) (a:α),l[i]?=some a→∀ j,j<m→cs[i*m+j]?=(f a)[j]?) :
 ∀ (j:Nat) u,(l.flatMap f)[j]?=some u→cs[j]?=some u:=by
 intro j u hu
 have hl:=flat_length f m hf l
 have hj:j<(l.flatMap f).length:=(List.getElem?_eq_some_iff.1 hu).1
 have hi:j / m<l.length:=by rw [hl] at hj;exact (Nat.div_lt_iff_lt_mul hm).2 hj
 have hd:j=j / m*m+j % m:=by rw [Nat.mul_comm];exact (Nat.div_add_mod j m).symm
 have h1:=flat_get f m hf l (j / m) l[j / m] (List.getElem?_eq_getElem hi) (j % m) (Nat.mod_lt _ hm)
 have h2:=h (j / m) l[j / m] (List.getElem?_eq_getElem hi) (j % m) (Nat.mod_lt _ hm)
 rw [← hd] at h1 h2
 rw [h2,← h1];exact hu
section
variable (P:Nat→Prop) (B g:Nat) (w:World) (hB:∀ k,k<B→P k)
include hB
end
end
section
open Go.RowKit
def recOk (cnt:Int) (i:Nat) (r:Int × Int):Bool:=if (i:Int)<cnt then r.1 == 1 else (r.1 == 0 && r.2 == 0)
def okFrom (cnt:Int):Nat→List (Int × Int)→Bool
 | _,[]=>true
 | i,r::t=>recOk cnt i r && okFrom cnt (i+1) t
def most (op:Int):Int:=if op=3 then 3 else if op=5 then 1 else 2
def aLim (val pts:Int):Int:=if val=0 then 0 else pts
def isAns (op pts val cnt:Int) (recs:List (Int × Int)):Bool :=
 if val<0 then false else if most op<val then false else if (recs.length:Int)≠pts then false else if cnt<0 then false else if aLim val pts<cnt then false else okFrom cnt 0 recs
theorem okFrom_drop (cnt:Int) (recs:List (Int × Int)) (k:Nat) (r:Int × Int) (h:recs[k]?=some r):okFrom cnt k (recs.drop k)=(recOk cnt k r && okFrom cnt (k+1) (recs.drop (k+1))):=by
 have hk:k<recs.length:=(List.getElem?_eq_some_iff.1 h).1
 rw [List.drop_eq_getElem_cons hk]
 have:recs[k]=r:=by rw [List.getElem?_eq_getElem hk] at h;simpa using h
 rw [this];rfl
section
variable (op vs pts val cnt:Int) (HA RA:Option Addr) (hn hc rc:Nat) (recs:List (Int × Int)) (w:World)
variable (hs:Sl w w.heap.size RA (recCs recs)) (hrn:recs.length≤maxLen) (hp0:0≤pts) (hp1:pts≤4096)
include hs hrn hp0 hp1
theorem isAnswer_at (M:Int) (hM:op=3∧M=3∨op=5∧M=1∨(op == 3)=false∧(op == 5)=false∧M=2) (hm:most op=M) :
 Calls Tryz.prog 106 #[.agg #[.int .i64 op,.int .i64 vs,.slice HA hn hc,.int .i64 pts],.agg #[.int .i64 val,.int .i64 cnt,.slice RA recs.length rc]] w fun e w'=>e=.returned (.bool (isAns op pts val cnt recs))∧Below w.heap.size w w':=by
 unfold maxLen at hrn
 have HS:=hide hs;clear hs
 obtain ⟨w0,hw0⟩:∃ w0,w0=(w.alloc (.cells #[.int .i64 op,.int .i64 vs,.slice HA hn hc,.int .i64 pts] 24)).alloc (.cells #[.int .i64 val,.int .i64 cnt,.slice RA recs.length rc] 103):=⟨_,rfl⟩
 have hb0:Below w.heap.size w w0:=by rw [hw0];exact bl_alloc (bA) _
 have BA:Blk w0 w.heap.size 24 #[.int .i64 op,.int .i64 vs,.slice HA hn hc,.int .i64 pts]:=by rw [hw0];exact (Blk.new _ _ _).alloc _
 have BR:Blk w0 (w.heap.size+1) 103 #[.int .i64 val,.int .i64 cnt,.slice RA recs.length rc]:=by rw [hw0];exact Blk.new2 _ _ _ _
 have HW0:=hide hw0;clear hw0
 have HI:Hid (isAns op pts val cnt recs=if val<0 then false else if M<val then false else if (recs.length:Int)≠pts then false else if cnt<0 then false else if aLim val pts<cnt then false else okFrom cnt 0 recs):=by
  apply hide;unfold isAns;rw [hm]
 clear hm
 by_cases c1:val<0
 · rcases hM with ⟨rfl,rfl⟩ | ⟨rfl,rfl⟩ | ⟨h3,h5,rfl⟩
   all_goals
    go_enter Tryz.func106,Tryz.ntmps106
    go_wp2
    go_ret
    exact ⟨ret_bool (by rw [HI.out,if_pos (by omega)]),bl_alloc (bA) _⟩
 by_cases c2:M<val
 · rcases hM with ⟨rfl,rfl⟩ | ⟨rfl,rfl⟩ | ⟨h3,h5,rfl⟩
   all_goals
    go_enter Tryz.func106,Tryz.ntmps106
    go_wp2
    go_ret
    exact ⟨ret_bool (by rw [HI.out,if_neg (by omega),if_pos (by omega)]),bl_alloc (bA) _⟩
 by_cases c3:(recs.length:Int)≠pts
 · rcases hM with ⟨rfl,rfl⟩ | ⟨rfl,rfl⟩ | ⟨h3,h5,rfl⟩
   all_goals
    have c3':((recs.length:Int) != pts)=true:=by simpa using c3
    go_enter Tryz.func106,Tryz.ntmps106
    go_wp2
    go_ret
    exact ⟨ret_bool (by rw [HI.out,if_neg (by omega),if_neg (by omega),if_pos (by omega)]),bl_alloc (bA) _⟩
 obtain rfl:pts=(recs.length:Int):=by omega
 by_cases c4:cnt<0
 · rcases hM with ⟨rfl,rfl⟩ | ⟨rfl,rfl⟩ | ⟨h3,h5,rfl⟩
   all_goals
    go_enter Tryz.func106,Tryz.ntmps106
    go_wp2
    go_ret
    exact ⟨ret_bool (by rw [HI.out,if_neg (by omega),if_neg (by omega),if_neg (by omega),if_pos (by omega)]),bl_alloc (bA) _⟩
 have hl:aLim val (recs.length:Int)=if val=0 then 0 else (recs.length:Int):=rfl
 obtain ⟨L,hL⟩:∃ L,aLim val (recs.length:Int)=L:=⟨_,rfl⟩
 rw [hL] at hl
 have HLL:=hide hL;clear hL
 have hv3:val=0∧L=0∨val=1∧L=recs.length∨1<val∧L=recs.length:=by
  by_cases h0:val=0
  · rw [if_pos h0] at hl;omega
  · rw [if_neg h0] at hl;omega
 clear hl
 by_cases c5:L<cnt
 · rcases hv3 with ⟨rfl,rfl⟩ | ⟨rfl,rfl⟩ | ⟨hv1,rfl⟩
   all_goals rcases hM with ⟨rfl,rfl⟩ | ⟨rfl,rfl⟩ | ⟨h3,h5,rfl⟩
   all_goals first | (exfalso;omega) | (
    go_enter Tryz.func106,Tryz.ntmps106
    go_wp2
    go_ret
    exact ⟨ret_bool (by rw [HI.out,if_neg (by omega),if_neg (by omega),if_neg (by omega),if_neg (by omega),HLL.out,if_pos (by omega)]),bl_alloc (bA) _⟩)
 have HI2:Hid (isAns op recs.length val cnt recs=okFrom cnt 0 recs):=by
  apply hide;rw [HI.out,if_neg (by omega),if_neg (by omega),if_neg (by omega),if_neg (by omega),HLL.out,if_neg (by omega)]
 clear HI HLL c3
 have b11:=BR.cell (i:=1) rfl
 have b12:=BR.cell (i:=2) rfl
 rcases hv3 with ⟨rfl,rfl⟩ | ⟨rfl,rfl⟩ | ⟨hv1,rfl⟩
 all_goals rcases hM with ⟨rfl,rfl⟩ | ⟨rfl,rfl⟩ | ⟨h3,h5,rfl⟩
 all_goals first | (exfalso;omega) | (
  go_enter Tryz.func106,Tryz.ntmps106
  go_wp2
  rw [← HW0.out]
  go_loopw [51] (fun i wr=>∃ k:Nat,k≤recs.length∧i=.int .i64 k∧Below w0.heap.size w0 wr∧okFrom cnt k (recs.drop k)=okFrom cnt 0 recs)
   (fun i _=>recs.length - (intOf i).toNat)
  case atStart=>exact ⟨0,by omega,rfl,Below.refl _ _,by simp⟩
  case round =>
   obtain ⟨k,hk,rfl,hbr,hok⟩:=hrel
   have HOK:=hide hok;clear hok
   have r1:=(BR.step hbr).cell (i:=1) rfl
   have hBl:=(BR.step hbr).lt
   by_cases hlt:k<recs.length
   · obtain ⟨r,hr⟩:∃ r,recs[k]?=some r:=⟨_,List.getElem?_eq_getElem hlt⟩
     obtain ⟨b,off,rfl,hb,q0,q1⟩:=(HS.out.below (bl_step hb0 hbr)).rec_ hr
     have hbl:=cell_lt q0
     have HD:=hide (okFrom_drop cnt recs k r hr)
     clear hr b11 b12
     by_cases hlive:(k:Int)<cnt
     · first
        | (exfalso;omega)
        | (by_cases h1:r.1=1
           · have h1':(r.1 != 1)=false:=by simpa using h1
             have HO:Hid (recOk cnt k r=true):=by apply hide;unfold recOk;rw [if_pos hlive,h1];rfl
             have H1:=hide h1;clear h1
             go_wp2
             go_roundw
             case rel=>exact ⟨k+1,by omega,by go_num,bl_alloc hbr _,by rw [← HOK.out,HD.out,HO.out,Bool.true_and]⟩
             case measure=>simp [intOf];omega
           · have h1':(r.1 != 1)=true:=by simpa using h1
             have HO:Hid (recOk cnt k r=false):=by apply hide;unfold recOk;rw [if_pos hlive];simpa using h1
             have H1:=hide h1;clear h1
             go_wp2
             go_ret
             exact ⟨ret_bool (by rw [HI2.out,← HOK.out,HD.out,HO.out,Bool.false_and]),bl_step hb0 (bl_alloc hbr _)⟩)
     · by_cases h1:r.1=0
       · by_cases h2:r.2=0
         · have HO:Hid (recOk cnt k r=true):=by apply hide;unfold recOk;rw [if_neg hlive,h1,h2];rfl
           go_wp2
           go_roundw
           case rel=>exact ⟨k+1,by omega,by go_num,bl_alloc hbr _,by rw [← HOK.out,HD.out,HO.out,Bool.true_and]⟩
           case measure=>simp [intOf];omega
         · have HO:Hid (recOk cnt k r=false):=by apply hide;unfold recOk;rw [if_neg hlive];simp [h2]
           go_wp2
           go_ret
           exact ⟨ret_bool (by rw [HI2.out,← HOK.out,HD.out,HO.out,Bool.false_and]),bl_step hb0 (bl_alloc hbr _)⟩
       · have HO:Hid (recOk cnt k r=false):=by apply hide;unfold recOk;rw [if_neg hlive];simp [h1]
         go_wp2
         go_ret
         exact ⟨ret_bool (by rw [HI2.out,← HOK.out,HD.out,HO.out,Bool.false_and]),bl_step hb0 (bl_alloc hbr _)⟩
   · have hk':k=recs.length:=by omega
     subst hk'
     go_wp2
     go_ret
     exact ⟨ret_bool (by rw [HI2.out,← HOK.out,List.drop_length];rfl),bl_step hb0 hbr⟩)
end
end
section
open Go.RowKit
def i64w (x:Int):Int:=wrap64 x
section
variable (P:Nat→Prop) (B g:Nat) (w:World) (hB:∀ k,k<B→P k)
include hB
theorem rdpoint_any (l1 l2 t:List Int) (h1:l1.length=8) (h2:l2.length=8) (hb1:By l1) (hb2:By l2) (hP:∀ k,P k→k<w.heap.size) (hr:RS w P B g (l1++(l2++t))) (hl:t.length≤800000) :
 Calls Tryz.prog 99 #[.pointer (some ⟨g,0,none⟩)] w fun e w'=>e=.returned (.agg #[.int .i64 (i64w (le l1)),.int .i64 (i64w (le l2))])∧KeepP P w w'∧RS w' P B g t:=by
 obtain ⟨w0,hw0⟩:∃ w0,w0=w.alloc (.cells #[.int .i64 0,.int .i64 0] 123):=⟨_,rfl⟩
 have hb:Below w.heap.size w w0:=by rw [hw0];exact bA
 have hz:w0.heap.size=w.heap.size+1:=by rw [hw0];simp
 have B0:Blk w0 w.heap.size 123 #[.int .i64 0,.int .i64 0]:=by rw [hw0];exact Blk.new _ _ _
 have hP1:=more_lt hP hb
 have h0:=hr.more hb hB hP
 have hm:∀ w1,KeepP (More P w w0) w0 w1→KeepP P w w1:=fun w1=>KeepP.more hb hP
 have hRk:More P w w0 w.heap.size:=.inr ⟨Nat.le_refl _,by omega⟩
 have hBm:∀ k,k<B→More P w w0 k:=fun k hk=>.inl (hB k hk)
 have HM:=hide hm
 have HZ:=hide hz
 have HPP:=hide hP
 clear hm hz hP
 have HP1:=hide hP1
 clear hP1
 have hB0:=hide hB
 have HB:=hide hBm;clear hB hBm
 have HB1:=hide hb1;have HB2:=hide hb2;have HL1:=hide h1;have HL2:=hide h2
 clear hb1 hb2 h1 h2
 have hln:(l2++t).length≤900000:=by rw [List.length_append,HL2.out];omega
 go_enter Tryz.func99,Tryz.ntmps99
 go_wp2_with fail
 rw [← hw0]
 have HW0:=hide hw0;clear hw0
 refine (rdword_any (More P w w0) B g w0 HB.out l1 (l2++t) HL1.out HB1.out h0 hln).mono ?_
 rintro e w1 ⟨rfl,k1,r1⟩
 go_wp2_with fail
 refine (rdword_any (More P w w0) B g w1 HB.out l2 t HL2.out HB2.out r1 (by omega)).mono ?_
 rintro e w2 ⟨rfl,k2,r2⟩
 have B2:=(B0.kept k1 hRk).kept k2 hRk
 have b0:=B2.cell (i:=0) rfl
 have b1:=B2.cell (i:=1) rfl
 have f0:=B2.frozen 0
 have f1:=B2.frozen 1
 have hBl:=B2.lt
 have B3:=(B2.set 0 (.int .i64 (wrap64 (le l1)))).set 1 (.int .i64 (wrap64 (le l2)))
 have e0:(w2.setCell ⟨w.heap.size,0,none⟩ (.int .i64 (wrap64 (le l1)))).cell? ⟨w.heap.size,0,none⟩=some (.int .i64 (wrap64 (le l1))):=(B2.set 0 _).cell (i:=0) rfl
 have e1:((w2.setCell ⟨w.heap.size,0,none⟩ (.int .i64 (wrap64 (le l1)))).setCell ⟨w.heap.size,1,none⟩ (.int .i64 (wrap64 (le l2)))).cell? ⟨w.heap.size,1,none⟩=some (.int .i64 (wrap64 (le l2))):=B3.cell (i:=1) rfl
 have hnP:¬ P w.heap.size:=fun h=>by have:=HPP.out _ h;omega
 have hgne:g≠w.heap.size:=by have:=hr.lt;omega
 clear B3
 go_wp2
 refine bodyPost_ret (v:=.agg #[.int .i64 (wrap64 (le l1)),.int .i64 (wrap64 (le l2))]) (by simp [results,Tryz.results99,go_sem,e0,e1]) rfl ⟨rfl,?_,?_⟩
 · exact ((HM.out _ (k1.trans k2)).trans (KeepP.set hnP _ _ _)).trans (KeepP.set hnP _ _ _)
 · exact ((r2.mono (R:=P) (fun k hk=>.inl hk)).far hgne hnP hB0.out _ _).far hgne hnP hB0.out _ _
theorem rdquery_any (l1 l2 l3 t:List Int) (h1:l1.length=8) (h2:l2.length=8) (h3:l3.length=8) (hb1:By l1) (hb2:By l2) (hb3:By l3) (hP:∀ k,P k→k<w.heap.size) (hr:RS w P B g (l1++(l2++(l3++t)))) (hl:t.length≤700000) :
 Calls Tryz.prog 102 #[.pointer (some ⟨g,0,none⟩)] w fun e w'=>e=.returned (.agg #[.int .i64 (i64w (le l1)),.int .i64 (i64w (le l2)),.int .u64 (le l3)])∧KeepP P w w'∧RS w' P B g t:=by
 obtain ⟨w0,hw0⟩:∃ w0,w0=w.alloc (.cells #[.int .i64 0,.int .i64 0,.int .u64 0] 127):=⟨_,rfl⟩
 have hb:Below w.heap.size w w0:=by rw [hw0];exact bA
 have hz:w0.heap.size=w.heap.size+1:=by rw [hw0];simp
 have B0:Blk w0 w.heap.size 127 #[.int .i64 0,.int .i64 0,.int .u64 0]:=by rw [hw0];exact Blk.new _ _ _
 have hP1:=more_lt hP hb
 have h0:=hr.more hb hB hP
 have hm:∀ w1,KeepP (More P w w0) w0 w1→KeepP P w w1:=fun w1=>KeepP.more hb hP
 have hRk:More P w w0 w.heap.size:=.inr ⟨Nat.le_refl _,by omega⟩
 have hBm:∀ k,k<B→More P w w0 k:=fun k hk=>.inl (hB k hk)
 have HM:=hide hm
 have HZ:=hide hz
 have HPP:=hide hP
 clear hm hz hP
 have HP1:=hide hP1
 clear hP1
 have hB0:=hide hB
 have HB:=hide hBm;clear hB hBm
 have HB3:=hide hb3;have HL3:=hide h3
 have hln:(l3++t).length≤800000:=by rw [List.length_append,h3];omega
 have PT:=rdpoint_any (More P w w0) B g w0 HB.out l1 l2 (l3++t) h1 h2 hb1 hb2 HP1.out h0 hln
 have HPT:=hide PT
 clear hb1 hb2 hb3 h1 h2 h3 PT
 go_enter Tryz.func102,Tryz.ntmps102
 go_wp2_with fail
 rw [← hw0]
 have HW0:=hide hw0;clear hw0
 refine HPT.out.mono ?_
 rintro e w1 ⟨rfl,k1,r1⟩
 go_wp2
 obtain ⟨w2,hw2⟩:∃ w2,w2=w1.alloc (.cells #[.int .i64 (i64w (le l1)),.int .i64 (i64w (le l2))] 123):=⟨_,rfl⟩
 rw [← hw2]
 have hbx:Below w1.heap.size w1 w2:=by rw [hw2];exact bA
 have Q2:Blk w2 w1.heap.size 123 #[.int .i64 (i64w (le l1)),.int .i64 (i64w (le l2))]:=by rw [hw2];exact Blk.new _ _ _
 have hz2:w2.heap.size=w1.heap.size+1:=by rw [hw2];simp
 have HW2:=hide hw2;clear hw2
 have hPx:∀ k,More P w w0 k→k<w1.heap.size:=fun k hk=>Nat.lt_of_lt_of_le (HP1.out k hk) k1.size
 have r2:=r1.more hbx HB.out hPx
 have B2:=(B0.kept k1 hRk).step hbx
 have c0:=Q2.cell (i:=0) rfl
 have c1:=Q2.cell (i:=1) rfl
 have hR2a:More (More P w w0) w1 w2 w.heap.size:=.inl hRk
 have hR2b:More (More P w w0) w1 w2 w1.heap.size:=.inr ⟨Nat.le_refl _,by omega⟩
 have WD:=rdword_any (More (More P w w0) w1 w2) B g w2.drew (fun k hk=>.inl (HB.out k hk)) l3 t HL3.out HB3.out r2 (by omega)
 have HWD:=hide WD
 have HPX:=hide hPx
 clear WD hPx hz2
 have hnP:¬ P w.heap.size:=fun h=>by have:=HPP.out _ h;omega
 have hgne:g≠w.heap.size:=by have:=hr.lt;omega
 go_region_law (first
  | (go_simp;go_at_call 146;refine HWD.out.mono ?_;rintro e w3 ⟨rfl,k3,r3⟩;have x0:=(Q2.drew.kept k3 hR2b).cell (i:=0) rfl;have x1:=(Q2.drew.kept k3 hR2b).cell (i:=1) rfl;have y0:=(B2.drew.kept k3 hR2a).cell (i:=0) rfl;have y1:=(B2.drew.kept k3 hR2a).cell (i:=1) rfl;have y2:=(B2.drew.kept k3 hR2a).cell (i:=2) rfl;have f0:=(B2.drew.kept k3 hR2a).frozen 0;have f1:=(B2.drew.kept k3 hR2a).frozen 1;have f2:=(B2.drew.kept k3 hR2a).frozen 2))
 all_goals
  have B3:=B2.drew.kept k3 hR2a
  go_wp2
  have e0:=(B3.set 0 (.int .i64 (i64w (le l1)))).cell (i:=0) rfl
  have e1:=((B3.set 0 (.int .i64 (i64w (le l1)))).set 1 (.int .i64 (i64w (le l2)))).cell (i:=1) rfl
  have e2:=(((B3.set 0 (.int .i64 (i64w (le l1)))).set 1 (.int .i64 (i64w (le l2)))).set 2 (.int .u64 (le l3))).cell (i:=2) rfl
  have kk:KeepP P w w3:=HM.out _ ((k1.trans (KeepP.of_below hbx HPX.out)).trans ((KeepP.drew _ _).trans (k3.mono (fun k hk=>.inl hk))))
  refine bodyPost_ret (v:=.agg #[.int .i64 (i64w (le l1)),.int .i64 (i64w (le l2)),.int .u64 (le l3)]) (by simp [results,Tryz.results102,go_sem,e0,e1,e2]) rfl ⟨rfl,?_,?_⟩
  · exact ((kk.trans (KeepP.set hnP _ _ _)).trans (KeepP.set hnP _ _ _)).trans (KeepP.set hnP _ _ _)
  · exact (((r3.mono (R:=P) (fun k hk=>.inl (.inl hk))).far hgne hnP hB0.out _ _).far hgne hnP hB0.out _ _).far hgne hnP hB0.out _ _
end
end
section
open Go.RowKit
theorem le_step2 {x b:Int} {k:Nat} (hk:k<8) (h0:0≤x) (h1:x<256 ^ k) (b0:0≤b) (b1:b≤255):IntKind.u64.wrap (x*256)=x*256∧IntKind.u64.wrap (x*256+b)=x*256+b:=by
 have hp:(256:Int) ^ (k+1)≤18446744073709551616:=(by decide:∀ k,k<8→(256:Int) ^ (k+1)≤18446744073709551616) k hk
 rw [Int.pow_succ] at hp
 rw [IntKind.wrap_u64,IntKind.wrap_u64]
 exact ⟨Int.emod_eq_of_lt (by omega) (by omega),Int.emod_eq_of_lt (by omega) (by omega)⟩
theorem wordAt_any (bs:List Int) (A:Option Addr) (c B:Nat) (w:World) (hs:Sl w B A (byCells bs)) (hby:By bs) (hbl:bs.length≤1000000) (at_:Nat) (h8:at_+8≤bs.length) :
 Calls Tryz.prog 80 #[.slice A bs.length c,.int .i64 (at_:Int)] w fun e w'=>e=.returned (.int .u64 (le ((bs.drop at_).take 8)))∧w=w':=by
 obtain ⟨b,off,rfl,hb,hcell⟩:=hs.by_ (by omega)
 have HC:=hide hcell;clear hcell hs
 have HBY:=hide hby;clear hby
 go_enter Tryz.func80,Tryz.ntmps80
 go_wp2
 go_loop [5,6] (fun x i=>∃ (k:Nat) (y:Int),k≤8∧i=.int .i64 (7 - (k:Int))∧x=.int .u64 y∧y=le ((bs.drop (at_+(8 - k))).take k))
  (fun _ i=>(intOf i+1).toNat)
 case atStart=>exact ⟨0,0,by omega,rfl,rfl,by simp [le]⟩
 case round =>
  obtain ⟨k,y,hk,rfl,rfl,hy⟩:=hrel
  have HY:=hide hy;clear hy
  by_cases hlt:k<8
  · have hi:at_+(7 - k)<bs.length:=by omega
    obtain ⟨x,hx⟩:∃ x,x=bs[at_+(7 - k)]:=⟨_,rfl⟩
    have hx01:=HBY.out _ (List.getElem_mem hi)
    rw [← hx] at hx01
    obtain ⟨hx0,hx1⟩:=hx01
    have c0:=HC.out (at_+(7 - k)) x (by rw [hx];exact List.getElem?_eq_getElem hi)
    have hyb:=le_bd ((bs.drop (at_+(8 - k))).take k) ((HBY.out.drop _).take _)
    rw [← HY.out,List.length_take,List.length_drop,Nat.min_eq_left (by omega)] at hyb
    obtain ⟨hy0,hy1⟩:=hyb
    obtain ⟨m1,m2⟩:=le_step2 hlt hy0 hy1 hx0 hx1
    have HSN:Hid (le ((bs.drop (at_+(8 - (k+1)))).take (k+1))=y*256+x):=by
     apply hide
     have e:at_+(8 - (k+1))=at_+(7 - k):=by omega
     have e2:at_+(7 - k)+1=at_+(8 - k):=by omega
     rw [e,List.drop_eq_getElem_cons hi,List.take_succ_cons,e2,le,← hx,← HY.out]
     omega
    have hadd:IntKind.i64.wrap ((at_:Int)+(7 - (k:Int)))=(at_:Int)+(7 - (k:Int)):=by rw [IntKind.wrap_i64];omega
    have hidx:((at_:Int)+(7 - (k:Int))).toNat=at_+(7 - k):=by omega
    have hk0:(0:Int)≤7 - (k:Int):=by omega
    have hi0:(0:Int)≤(at_:Int)+(7 - (k:Int)):=by omega
    have hi1:(at_:Int)+(7 - (k:Int))<(bs.length:Int):=by omega
    have HX:=hide hx;clear hx hy1
    go_wp2
    go_round
    case rel=>exact ⟨k+1,y*256+x,by omega,by congr 1;omega,rfl,HSN.out.symm⟩
    case measure=>simp [intOf];omega
  · have hk':k=8:=by omega
    subst hk'
    go_wp2
    go_ret
    exact ⟨ret_int (by rw [HY.out];simp),rfl⟩
end
end Go.Proofs.YtfljlmleiggmjaaGreatDoor
