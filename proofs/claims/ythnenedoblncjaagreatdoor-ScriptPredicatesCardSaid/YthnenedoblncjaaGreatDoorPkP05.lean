/- Word Limb3 Sign -/
import Derived.Deep.AppendLies
import Derived.Deep.RegionLaw
import Derived.Laws.Externs
import Derived.Laws.MakeOwn
import Derived.Lib.SliceRun
import Derived.OwnWalk
import Derived.Shelf.Bits.Mul64
import Derived.Shelf.Spec.BitsCarry
import Derived.Test.YthnenedoblncjaaGreatDoorPkP01
import Derived.Test.YthnenedoblncjaaGreatDoorPkP04
set_option maxRecDepth 1000000
set_option maxHeartbeats 8000000
namespace Go.Proofs.YthnenedoblncjaaGreatDoor
section
open Go.RowKit
theorem add64 (x y c:Int) (hx:0≤x) (hy:0≤y) (hc0:0≤c) (hc:c≤1) (w:World) :
 (callFunc 200 #[.int .u64 x,.int .u64 y,.int .u64 c]).run Tryz.prog w=.ok (.value (.tuple #[.int .u64 ((x+y+c) % 18446744073709551616),.int .u64 ((x+y+c) / 18446744073709551616)])) w:=by
 rw [run_callFunc_extern Tryz.func200 (by kernel_rfl) (by kernel_rfl) (by kernel_rfl) (e:=add64Entry) (by kernel_rfl),run_add64 x y c hx hy hc0 hc]
 rfl
theorem sub64 (x y b:Int) (hx:0≤x) (hxl:x<18446744073709551616) (hy:0≤y) (hyl:y<18446744073709551616) (hb0:0≤b) (hb:b≤1) (w:World) :
 (callFunc 339 #[.int .u64 x,.int .u64 y,.int .u64 b]).run Tryz.prog w=.ok (.value (.tuple #[.int .u64 ((x - y - b) % 18446744073709551616),.int .u64 (bor x y b)])) w:=by
 obtain ⟨X,rfl⟩:=Int.eq_ofNat_of_zero_le hx
 obtain ⟨Y,rfl⟩:=Int.eq_ofNat_of_zero_le hy
 obtain ⟨B,rfl⟩:=Int.eq_ofNat_of_zero_le hb0
 rw [run_callFunc_extern Tryz.func339 (by kernel_rfl) (by kernel_rfl) (by kernel_rfl) (e:=sub64Entry) (by kernel_rfl),run_sub64 X Y B (by omega)]
 have e1:(((X+18446744073709551616 - Y - B) % 18446744073709551616:Nat):Int)=((X:Int) - Y - B) % 18446744073709551616:=by omega
 have e2:((if X<Y+B then 1 else 0:Nat):Int)=bor X Y B:=by unfold bor;split <;> split <;> omega
 rw [e1,e2]
 rfl
theorem and1 (c:Int) (h0:0≤c) (h1:c≤1):bits .and .u64 c 1=c:=by
 have:c=0∨c=1:=by omega
 rcases this with rfl | rfl <;> decide +kernel
theorem wadd_any (x y c:Int) (hx:0≤x) (hy:0≤y) (hc0:0≤c) (hc:c≤1) (w:World) :
 Calls Tryz.prog 299 #[.int .u64 x,.int .u64 y,.int .u64 c] w fun e w'=>e=.returned (.tuple #[.int .u64 ((x+y+c) % 18446744073709551616),.int .u64 ((x+y+c) / 18446744073709551616)])∧w=w':=by
 have h1:=and1 c hc0 hc
 have HA:=add64 x y c hx hy hc0 hc
 go_enter Tryz.func299,Tryz.ntmps299
 go_wp2_with (simp only [HA])
 go_ret2
 exact ⟨rfl,rfl⟩
theorem wsub_any (x y b:Int) (hx:0≤x) (hxl:x<18446744073709551616) (hy:0≤y) (hyl:y<18446744073709551616) (hb0:0≤b) (hb:b≤1) (w:World) :
 Calls Tryz.prog 308 #[.int .u64 x,.int .u64 y,.int .u64 b] w fun e w'=>e=.returned (.tuple #[.int .u64 ((x - y - b) % 18446744073709551616),.int .u64 (bor x y b)])∧w=w':=by
 have h1:=and1 b hb0 hb
 have HS:=sub64 x y b hx hxl hy hyl hb0 hb
 go_enter Tryz.func308,Tryz.ntmps308
 go_wp2_with (simp only [HS])
 go_ret2
 exact ⟨rfl,rfl⟩
theorem mul64_any (x y:Nat) (hx:x<18446744073709551616) (hy:y<18446744073709551616) (w:World) :
 Calls Tryz.prog 199 #[.int .u64 x,.int .u64 y] w fun e w'=>e=.returned (.tuple #[.int .u64 ((x*y / 18446744073709551616:Nat):Int),.int .u64 ((x*y % 18446744073709551616:Nat):Int)])∧w=w':=by
 obtain ⟨bd,bt,bw,hhi⟩:=Lib.mul64_hi x y hx hy
 have ba:=Lib.half_mul_le (a:=x / 4294967296) (b:=y / 4294967296) (by omega) (by omega)
 have bb:=Lib.half_mul_le (a:=x / 4294967296) (b:=y % 4294967296) (by omega) (by omega)
 have bc:=Lib.half_mul_le (a:=x % 4294967296) (b:=y / 4294967296) (by omega) (by omega)
 have ba':x / 4294967296*(y / 4294967296)<18446744073709551616:=by omega
 have bb':x / 4294967296*(y % 4294967296)<18446744073709551616:=by omega
 have bc':x % 4294967296*(y / 4294967296)<18446744073709551616:=by omega
 have bh1:x / 4294967296*(y / 4294967296)+(x / 4294967296*(y % 4294967296)+x % 4294967296*(y % 4294967296) / 4294967296) / 4294967296<18446744073709551616:=by omega
 have bh:x / 4294967296*(y / 4294967296)+(x / 4294967296*(y % 4294967296)+x % 4294967296*(y % 4294967296) / 4294967296) / 4294967296+((x / 4294967296*(y % 4294967296)+x % 4294967296*(y % 4294967296) / 4294967296) % 4294967296+x % 4294967296*(y / 4294967296)) / 4294967296<18446744073709551616:=by omega
 go_enter Tryz.func199,Tryz.ntmps199
 go_wp2
 simp only [Mul64.maskN x hx,Mul64.maskN y hy,Mul64.divN,Mul64.mulN,Mul64.addN,Mul64.wrapN _ bd,Mul64.wrapN _ bb',Mul64.wrapN _ bt,Mul64.maskN _ bt,Mul64.wrapN _ bc',Mul64.wrapN _ bw,Mul64.wrapN _ ba',Mul64.wrapN _ bh1,Mul64.wrapN _ bh,Mul64.wrapM (x*y)]
 rw [hhi]
 go_ret2
 exact ⟨rfl,rfl⟩
theorem add64_0 (x y:Int) (hx:0≤x) (hy:0≤y) (w:World) :
 (callFunc 200 #[.int .u64 x,.int .u64 y,.int .u64 0]).run Tryz.prog w=.ok (.value (.tuple #[.int .u64 ((x+y) % 18446744073709551616),.int .u64 ((x+y) / 18446744073709551616)])) w:=by
 have h:=add64 x y 0 hx hy (Int.le_refl _) (by decide) w
 rw [Int.add_zero] at h
 exact h
theorem add64_c (x c:Int) (hx:0≤x) (hc0:0≤c) (hc:c≤1) (w:World) :
 (callFunc 200 #[.int .u64 x,.int .u64 0,.int .u64 c]).run Tryz.prog w=.ok (.value (.tuple #[.int .u64 ((x+c) % 18446744073709551616),.int .u64 ((x+c) / 18446744073709551616)])) w:=by
 have h:=add64 x 0 c hx (Int.le_refl _) hc0 hc w
 rw [Int.add_zero] at h
 exact h
theorem mulAdd_any (a b c d:Nat) (ha:a<18446744073709551616) (hb:b<18446744073709551616) (hc:c<18446744073709551616) (hd:d<18446744073709551616) (w:World) :
 Calls Tryz.prog 301 #[.int .u64 a,.int .u64 b,.int .u64 c,.int .u64 d] w fun e w'=>e=.returned (.tuple #[.int .u64 (((a*b+c+d) / 18446744073709551616:Nat):Int),.int .u64 (((a*b+c+d) % 18446744073709551616:Nat):Int)])∧w=w':=by
 have M:=mul64_any a b ha hb w
 have hP:a*b≤18446744073709551615*18446744073709551615:=Nat.mul_le_mul (by omega) (by omega)
 generalize a*b=p at M hP ⊢
 obtain ⟨l1,hl1⟩:∃ l1:Int,l1=((p % 18446744073709551616:Nat):Int):=⟨_,rfl⟩
 obtain ⟨h1,hh1⟩:∃ h1:Int,h1=((p / 18446744073709551616:Nat):Int):=⟨_,rfl⟩
 rw [← hl1,← hh1] at M
 have b1:0≤l1∧l1<18446744073709551616:=by omega
 have b2:0≤h1∧h1<18446744073709551615:=by omega
 have A1:=add64_0 l1 c b1.1 (by omega)
 have A2:=add64_c h1 ((l1+c) / 18446744073709551616) b2.1 (by omega) (by omega)
 have A3:=add64_0 ((l1+c) % 18446744073709551616) d (by omega) (by omega)
 have A4:=add64_c ((h1+(l1+c) / 18446744073709551616) % 18446744073709551616) (((l1+c) % 18446744073709551616+d) / 18446744073709551616) (by omega) (by omega) (by omega)
 have e1:(((p+c+d) / 18446744073709551616:Nat):Int)=(h1+(l1+c) / 18446744073709551616+((l1+c) % 18446744073709551616+d) / 18446744073709551616) % 18446744073709551616:=by omega
 have e2:(((p+c+d) % 18446744073709551616:Nat):Int)=(l1+c+d) % 18446744073709551616:=by omega
 rw [e1,e2]
 have HM:=hide M
 clear M e1 e2 hl1 hh1 hP b1 b2 ha hb hc hd
 go_enter Tryz.func301,Tryz.ntmps301
 go_wp2_with fail
 refine HM.out.mono ?_
 rintro e w' ⟨rfl,rfl⟩
 go_wp2
 go_ret2
 exact ⟨rfl,rfl⟩
end
section
open Go.RowKit
def uCs (l:List Int):List Value:=l.map (Value.int .u64)
theorem uCs_length (l:List Int):(uCs l).length=l.length:=by simp [uCs]
theorem Sl.u {w:World} {B:Nat} {A:Option Addr} {l:List Int} (h:Sl w B A (uCs l)) (hn:0<l.length) :
 ∃ b off,A=some ⟨b,off,none⟩∧b<B∧∀ j x,l[j]?=some x→w.cell? ⟨b,off+j,none⟩=some (.int .u64 x):=by
 obtain ⟨b,off,hA,hB,hc⟩:=h.open_ (by rw [uCs_length];exact hn)
 exact ⟨b,off,hA,hB,fun j x hx=>hc j _ (by simp [uCs,hx])⟩
def GaveL (l:List Int) (w:World) (e:Ending) (w':World):Prop :=
 ∃ A c,e=.returned (.slice A l.length c)∧Below w.heap.size w w'∧Sl w' w'.heap.size A (uCs l)
def slCs (ls:List (Option Addr × Nat × Nat)):List Value:=ls.map fun x=>.slice x.1 x.2.1 x.2.2
theorem Sl.sl {w:World} {B:Nat} {A:Option Addr} {ls:List (Option Addr × Nat × Nat)} (h:Sl w B A (slCs ls)) (hn:0<ls.length) :
 ∃ b off,A=some ⟨b,off,none⟩∧b<B∧∀ j x,ls[j]?=some x→w.cell? ⟨b,off+j,none⟩=some (.slice x.1 x.2.1 x.2.2):=by
 obtain ⟨b,off,hA,hB,hc⟩:=h.open_ (by simpa [slCs] using hn)
 exact ⟨b,off,hA,hB,fun j x hx=>hc j _ (by simp [slCs,hx])⟩
theorem is_true (ls:List (Option Addr × Nat × Nat)) (hl:∀ x∈ls,1≤x.2.1∧x.2.1≤8) (h0:0<ls.length) (h10:ls.length≤10) (B:Nat) (A:Option Addr) (c:Nat) (w:World) (hs:Sl w B A (slCs ls)) :
 Calls Tryz.prog 244 #[.slice A ls.length c] w fun e w'=>e=.returned (.bool true)∧w=w':=by
 obtain ⟨b,off,rfl,_,hcell⟩:=hs.sl h0
 have HC:=hide hcell;have HL:=hide hl
 clear hcell hl hs
 go_enter Tryz.func244,Tryz.ntmps244
 go_wp2
 go_loop [7] (fun i=>∃ k:Nat,k≤ls.length∧i=.int .i64 k)
  (fun i=>ls.length - (intOf i).toNat)
 case atStart=>exact ⟨0,by omega,rfl⟩
 case round =>
  obtain ⟨k,hk,rfl⟩:=hrel
  by_cases hlt:k<ls.length
  · obtain ⟨x,hx⟩:∃ x,ls[k]?=some x:=⟨_,List.getElem?_eq_getElem hlt⟩
    obtain ⟨h1,h2⟩:=HL.out x (List.mem_of_getElem? hx)
    have c0:=HC.out k x hx
    have hk0:(0:Int)≤(k:Int):=by omega
    have hkl:(k:Int)<(ls.length:Int):=by omega
    have n1:¬ (x.2.1:Int)<1:=by omega
    have n2:¬ (8:Int)<(x.2.1:Int):=by omega
    clear hx
    go_wp2
    go_round
    case rel=>exact ⟨k+1,by omega,by go_num⟩
    case measure=>simp [intOf];omega
  · obtain rfl:ls.length=k:=by omega
    go_wp2
    go_ret
    exact ⟨rfl,rfl⟩
theorem u64_info:(Tryz.prog.info? 44).map (fun i=>(i.zero,i.size,i.bytes))=some (some (.int .u64 0),1,8):=by kernel_rfl
def Cloned (l:List Int) (w:World) (e:Ending) (w':World):Prop :=
 ∃ A c,e=.returned (.slice A l.length c)∧Below w.heap.size w w'∧w'.ownsRow w.heap.size 44 1 (.slice A l.length c) l.length (uCs l)
theorem clone_u64 (l:List Int) (h0:0<l.length) (h10:l.length≤100) (B:Nat) (A:Option Addr) (c:Nat) (w:World) (hB:B≤w.heap.size) (hs:Sl w B A (uCs l)) :
 Calls Tryz.prog 201 #[.slice A l.length c] w (Cloned l w):=by
 obtain ⟨b,off,rfl,hb,hcell⟩:=hs.u h0
 have HC:=hide hcell
 clear hcell hs
 obtain ⟨i0,hi,hz0,hz1,hz2⟩:=info_parts u64_info
 have q22:∀ (w:World) (a:Option Addr) (n c n' c':Nat),(binOp .eql 48 (.slice a n c) (.slice none n' c')).run Tryz.prog w=.ok (.bool a.isNone) w:=fun w a n c n' c'=>Lib.run_eql_slice_nil w _ _ a n c n' c' Tryz.underlying48
 go_enter Tryz.func201,Tryz.ntmps201
 go_wp2_with (at_builtin;refine wpList_append_own _ rfl (.tmp 5) (.tmp 6) 48 rfl w.heap.size 44 i0 (.int .u64 0) 1 8 Tryz.underlying48 hi hz0 hz1 hz2 rfl (by decide) (.slice (some ⟨w.heap.size,0,none⟩) 0 0) 0 [] rfl (own_of_blk (xs:=[]) (Blk.new _ _ _) (Nat.le_refl _) rfl (by unfold maxLen;omega)) ⟨b,off,none⟩ l.length c (uCs l) rfl ?c1 ?c2 ?c3 ?c4 ?c5 ?c6 ?_)
 case c1=>simp [uCs]
 case c2 =>
  intro j u hu
  rw [World.cell?_alloc_lt _ _ _ (by simp [Addr.add];split <;> (dsimp only;omega))]
  have e:(⟨b,off,none⟩:Addr).add j=⟨b,off+j,none⟩:=by unfold Addr.add;split <;> simp_all
  rw [e]
  simp only [uCs,List.getElem?_map,Option.map_eq_some_iff] at hu
  obtain ⟨x,hx,rfl⟩:=hu
  exact HC.out j x hx
 case c3=>simp [uCs,Value.oneCell']
 case c4=>unfold maxLen;omega
 case c5=>omega
 case c6=>simp
 intro v3 w3 hown3 hgrow3 _
 have hb3:Below w.heap.size w w3:=(bA).grown hgrow3 (by simp) (fun k hk=>by simp [Value.ownBlock] at hk;omega)
 have hown4:w3.ownsRow w.heap.size 44 1 v3 l.length (uCs l):=by simpa using hown3
 obtain ⟨A3,c3,rfl,_⟩:=own_slice hown4
 clear hown3 hgrow3
 go_wp2
 go_ret
 exact ⟨A3,c3,rfl,hb3,hown4⟩
theorem Sl.pre {w:World} {B:Nat} {A:Option Addr} {xs:List Value} (h:Sl w B A xs) (n:Nat):Sl w B A (xs.take n):=by
 rcases h with h | ⟨b,off,hA,hlt,hc⟩
 · left;rw [h];simp
 · refine .inr ⟨b,off,hA,hlt,fun j u hu=>hc j u ?_⟩
   rw [List.getElem?_take] at hu
   split at hu
   · exact hu
   · cases hu
def lenOf:Value→Nat
 | .slice _ n _=>n
 | _=>0
theorem ext_lims {m n k:Nat} {v:Int} (hm:1≤m) (hf:Fits m v∨n≤m) (hk:m+k≤max m n) (hn:n≤m+k) :
 (lims m v++List.replicate k (msk (decide (9223372036854775808≤lim v (m - 1))))).take n=lims n v:=by
 by_cases h:n≤m
 · have:k=0:=by omega
   subst this
   simp only [List.replicate_zero,List.append_nil]
   exact lims_take v h
 · rcases hf with hf | hf
   · obtain ⟨m',rfl⟩:∃ m',m=m'+1:=⟨m - 1,by omega⟩
     have ht:=lim_top hf
     have hfill:msk (decide (9223372036854775808≤lim v (m'+1 - 1)))=if v<0 then 18446744073709551616 - 1 else 0:=by
      rw [Nat.add_sub_cancel]
      by_cases hv:v<0
      · rw [if_pos hv,decide_eq_true (ht.2 hv)];rfl
      · rw [if_neg hv,decide_eq_false (fun h=>hv (ht.1 h))];rfl
     have hk':k=n - (m'+1):=by omega
     rw [hfill,hk',← lims_extend hf (by omega)]
     exact List.take_of_length_le (by rw [lims_length];exact Nat.le_refl _)
   · omega
theorem extend_any (m n:Nat) (v:Int) (hf:Fits m v∨n≤m) (hm:1≤m) (hm8:m≤8) (hn:1≤n) (hn8:n≤8) (A:Option Addr) (c:Nat) (w:World) (hs:Sl w w.heap.size A (uCs (lims m v))) :
 Calls Tryz.prog 248 #[.slice A m c,.int .i64 (n:Int)] w (GaveL (lims n v) w):=by
 have hll:=lims_length m v
 obtain ⟨b,off,rfl,hb,hcell⟩:=hs.u (by omega)
 obtain ⟨w0,hw0⟩:∃ w0,w0=w.alloc (.cells #[.slice (some ⟨b,off,none⟩) m c] 48):=⟨_,rfl⟩
 have hb0:Below w.heap.size w w0:=by rw [hw0];exact bA
 have X0:Blk w0 w.heap.size 48 #[.slice (some ⟨b,off,none⟩) m c]:=by rw [hw0];exact Blk.new _ _ _
 have IS:=is_true [(some ⟨b,off,none⟩,m,c)] (by simp;omega) (by simp) (by simp) w0.heap.size (some ⟨w.heap.size,0,none⟩) 1 w0 (Sl.mk X0.lt fun j u hu=>by
  rw [Nat.zero_add];exact X0.cell (by simpa [slCs] using hu))
 have hbw0:b<w0.heap.size:=Nat.lt_of_lt_of_le hb hb0.size
 have CL:=clone_u64 (lims m v) (by omega) (by omega) w0.heap.size (some ⟨b,off,none⟩) c w0 (Nat.le_refl _) ((hs.below hb0).more hb0.size)
 rw [hll] at CL
 have htop:(lims m v)[m - 1]?=some (lim v (m - 1)):=lims_get v (by omega)
 have hct:=hcell _ _ htop
 have hlb:=lim_bd v (m - 1)
 have HIS:=hide IS;have HCL:=hide CL
 obtain ⟨top,hto⟩:∃ top,top=lim v (m - 1):=⟨_,rfl⟩
 rw [← hto] at hct hlb
 have HTO:=hide hto
 have HF:=hide hf
 clear IS CL hcell hto htop hf hs
 have hm1:((m:Int) - 1).toNat=m - 1:=by omega
 have hmi:(0:Int)≤(m:Int) - 1:=by omega
 have hmw:IntKind.i64.wrap ((m:Int) - 1)=(m:Int) - 1:=by rw [IntKind.wrap_i64];omega
 have hml:(m:Int) - 1<(m:Int):=by omega
 have n1:¬ (n:Int)<1:=by omega
 have n8:¬ (8:Int)<(n:Int):=by omega
 go_enter Tryz.func248,Tryz.ntmps248
 go_wp2_with fail
 rw [← hw0]
 have HW0:=hide hw0;clear hw0
 refine HIS.out.mono ?_
 rintro e w' ⟨rfl,rfl⟩
 go_wp2_with fail
 refine HCL.out.mono ?_
 rintro e w1 ⟨A1,c1,rfl,hb1,hown1⟩
 rw [hll]
 rw [hll] at hown1
 have HB1:=bl_step hb0 hb1
 have ct:=(HB1.cell (p:=⟨b,off+(m - 1),none⟩) hb).trans hct
 clear hct
 go_wp2_with fail
 refine (fill_any top hlb.1 hlb.2 w1).mono ?_
 rintro e w' ⟨rfl,rfl⟩
 obtain ⟨F,hF⟩:∃ F,F=msk (decide (9223372036854775808≤top)):=⟨_,rfl⟩
 rw [← hF]
 have HFF:Hid (F=msk (decide (9223372036854775808≤lim v (m - 1)))):=by apply hide;rw [hF,HTO.out]
 clear hF
 have h0z:=hb0.size
 go_wp2
 go_loopw [5] (fun u wr=>∃ (k c':Nat) (A':Option Addr),m+k≤max m n∧u=.slice A' (m+k) c'∧Below w0.heap.size w0 wr∧wr.ownsRow w0.heap.size 44 1 (.slice A' (m+k) c') (m+k) (uCs (lims m v++List.replicate k F)))
  (fun u _=>n - lenOf u)
 case atStart=>exact ⟨0,c1,A1,by omega,rfl,hb1,by simpa using hown1⟩
 case round =>
  obtain ⟨k,c',A',hk,rfl,hbr,hown⟩:=hrel
  have hwz:=hbr.size
  by_cases hlt:m+k<n
  · obtain ⟨i0,hi,hz0,hz1,hz2⟩:=info_parts u64_info
    have hmk:(m:Int)+(k:Int)<(n:Int):=by omega
    go_wp2_with (at_builtin;refine wpList_append_own _ rfl (.tmp 32) (.tmp 34) 48 rfl w0.heap.size 44 i0 (.int .u64 0) 1 8 Tryz.underlying48 hi hz0 hz1 hz2 rfl (by decide) _ (m+k) (uCs (lims m v++List.replicate k F)) rfl (hown.alloc _) ⟨wr.heap.size,0,none⟩ 1 1 [.int .u64 F] rfl rfl ?d1 ?d2 ?d3 ?d4 ?d5 ?_)
    case d1=>first | exact fun _ _ h=>h | exact blk_cells (Blk.new _ _ _)
    case d2=>simp [Value.oneCell']
    case d3=>unfold maxLen;omega
    case d4=>omega
    case d5=>first | omega | (simp;omega)
    intro v3 w3 hown3 hgrow3 _
    have hb3:Below w0.heap.size w0 w3:=(hbr.alloc (by omega) _).grown hgrow3 (by simp;omega) (fun k hk=>own_base hown hk)
    have hown4:w3.ownsRow w0.heap.size 44 1 v3 (m+(k+1)) (uCs (lims m v++List.replicate (k+1) F)):=by
     have e:uCs (lims m v++List.replicate (k+1) F)=uCs (lims m v++List.replicate k F)++[.int .u64 F]:=by
      simp [uCs,List.replicate_succ']
     rw [e,← Nat.add_assoc];exact hown3
    obtain ⟨A3,c3,rfl,_⟩:=own_slice hown4
    have HO:=hide hown4
    clear hown3 hown4 hgrow3
    go_wp2
    go_roundw
    case rel=>exact ⟨k+1,c3,A3,by omega,rfl,hb3,HO.out⟩
    case measure=>simp [lenOf];omega
  · obtain ⟨g,cap,hv,hg1,hg2,hg3⟩:=own_form hown (by omega)
    injection hv with hA _ hcap
    subst hA hcap
    have hsl:Sl wr wr.heap.size (some ⟨g,0,none⟩) (uCs (lims n v)):=by
     have h1:=(Sl.of_own hown).pre n
     have e:(uCs (lims m v++List.replicate k F)).take n=uCs (lims n v):=by
      unfold uCs
      rw [← List.map_take,HFF.out,ext_lims hm HF.out hk (by omega)]
     rw [e] at h1;exact h1
    have HSL:=hide hsl
    have hnc:n≤c':=by omega
    have hmk:¬ ((m:Int)+(k:Int)<(n:Int)):=by omega
    have HB:=bl_step hb0 hbr
    clear hsl hown
    go_wp2
    go_ret
    refine ⟨some ⟨g,0,none⟩,n,?_,HB,HSL.out⟩
    rw [lims_length];rfl
theorem fitsOne {x:Int} (h0:-9223372036854775808≤x) (h1:x<9223372036854775808):Fits 1 x:=by
 unfold Fits;rw [Int.pow_one];omega
theorem lims1 (x:Int):lims 1 x=[IntKind.u64.wrap x]:=by
 show [lim x 0]=_
 unfold lim
 rw [Int.pow_zero,Int.ediv_one,IntKind.wrap_u64]
theorem from_any (x:Int) (h0:-9223372036854775808≤x) (h1:x<9223372036854775808) (n:Nat) (hn:1≤n) (hn8:n≤8) (w:World) :
 Calls Tryz.prog 251 #[.int .i64 x,.int .i64 (n:Int)] w (GaveL (lims n x) w):=by
 obtain ⟨w0,hw0⟩:∃ w0,w0=w.alloc (.cells #[.int .u64 (IntKind.u64.wrap x)] 44):=⟨_,rfl⟩
 have hb0:Below w.heap.size w w0:=by rw [hw0];exact bA
 have X0:Blk w0 w.heap.size 44 #[.int .u64 (IntKind.u64.wrap x)]:=by rw [hw0];exact Blk.new _ _ _
 have EX:=extend_any 1 n x (.inl (fitsOne h0 h1)) (by omega) (by omega) hn hn8 (some ⟨w.heap.size,0,none⟩) 1 w0 (Sl.mk X0.lt fun j u hu=>by
  rw [Nat.zero_add,lims1] at *;exact X0.cell (by simpa [uCs] using hu))
 have HE:=hide EX
 clear EX
 go_enter Tryz.func251,Tryz.ntmps251
 go_wp2_with fail
 rw [← hw0]
 have HW0:=hide hw0;clear hw0
 refine HE.out.mono ?_
 rintro e w1 ⟨A,c,rfl,hb1,hs⟩
 go_wp2
 go_ret
 exact ⟨A,c,rfl,bl_step hb0 hb1,hs⟩
end
section
open Go.RowKit
theorem make_u64 (n:Nat) (hn:n≤1000) (w:World):(Instr.makeSlice 48 (.int .i64 (n:Int)) (.int .i64 (n:Int))).run Tryz.prog w=.ok (.slice (some ⟨w.heap.size,0,none⟩) n n) (w.alloc (.cells (uCs (List.replicate n 0)).toArray 44)):=by
 obtain ⟨i,hi,hz0,hz1,hz2⟩:=info_parts u64_info
 have h:=run_make (P:=Tryz.prog) w 48 44 i _ Tryz.underlying48 hi hz0 .i64 .i64 n n (by omega) (Int.le_refl _) (by rw [hz2];omega) (by omega)
 rw [hz1] at h
 have e:madeCells (Value.cells (.int .u64 0)) (n*1)=(uCs (List.replicate n 0)).toArray:=by
  apply Array.ext
  · simp [size_madeCells,uCs]
  · intro j h1 h2
    simp [madeCells,uCs,Value.cells,Nat.mod_one]
 rw [← e]
 simpa using h
theorem set_cells {d:List Int} {k n:Nat} (hd:d.length=k) (hk:k<n) (z:Int) :
 (uCs (d++List.replicate (n - k) 0)).toArray.setIfInBounds k (.int .u64 z)=(uCs ((d++[z])++List.replicate (n - (k+1)) 0)).toArray:=by
 obtain ⟨j,hj⟩:∃ j,n - k=j+1:=⟨n - k - 1,by omega⟩
 have hj2:n - (k+1)=j:=by omega
 rw [hj,hj2,List.replicate_succ]
 subst hd
 simp [uCs,List.setIfInBounds_toArray]
theorem get_cells {d:List Int} {k n:Nat} (hd:d.length=k) (hk:k<n):(uCs (d++List.replicate (n - k) 0)).toArray[k]?=some (.int .u64 0):=by
 obtain ⟨j,hj⟩:∃ j,n - k=j+1:=⟨n - k - 1,by omega⟩
 rw [hj,List.replicate_succ]
 subst hd
 simp [uCs]
theorem apply_sub (n:Nat) (x y:Int) (hn:1≤n) (hn8:n≤8) (A A':Option Addr) (c c':Nat) (w:World) (hs:Sl w w.heap.size A (uCs (lims n x))) (hs':Sl w w.heap.size A' (uCs (lims n y))) :
 Calls Tryz.prog 300 #[.agg #[.func (.func 308) #[] #[]],.slice A n c,.slice A' n c',.int .u64 0] w (GaveL (lims n (x - y)) w):=by
 have hll:=lims_length n x
 have hll':=lims_length n y
 obtain ⟨b,off,rfl,hb,hcell⟩:=hs.u (by omega)
 obtain ⟨b',off',rfl,hb',hcell'⟩:=hs'.u (by omega)
 obtain ⟨w0,hw0⟩:∃ w0,w0=w.alloc (.cells #[.func (.func 308) #[] #[]] 360):=⟨_,rfl⟩
 have hb0:Below w.heap.size w w0:=by rw [hw0];exact bA
 have C0:Blk w0 w.heap.size 360 #[.func (.func 308) #[] #[]]:=by rw [hw0];exact Blk.new _ _ _
 obtain ⟨w1,hw1⟩:∃ w1,w1=w0.alloc (.cells #[.slice (some ⟨b,off,none⟩) n c,.slice (some ⟨b',off',none⟩) n c'] 48):=⟨_,rfl⟩
 have hb1:Below w0.heap.size w0 w1:=by rw [hw1];exact bA
 have X1:Blk w1 (w.heap.size+1) 48 #[.slice (some ⟨b,off,none⟩) n c,.slice (some ⟨b',off',none⟩) n c']:=by rw [hw1,hw0];exact Blk.new2 _ _ _ _
 have HB1:=bl_step hb0 hb1
 have IS:=is_true [(some ⟨b,off,none⟩,n,c),(some ⟨b',off',none⟩,n,c')] (by simp;omega) (by simp) (by simp) w1.heap.size (some ⟨w.heap.size+1,0,none⟩) 2 w1 (Sl.mk X1.lt fun j u hu=>by
  rw [Nat.zero_add];exact X1.cell (by simpa [slCs] using hu))
 obtain ⟨w2,hw2⟩:∃ w2,w2=w1.alloc (.cells (uCs (List.replicate n 0)).toArray 44):=⟨_,rfl⟩
 have hb2:Below w1.heap.size w1 w2:=by rw [hw2];exact bA
 have G2:Blk w2 w1.heap.size 44 (uCs (List.replicate n 0)).toArray:=by rw [hw2];exact Blk.new _ _ _
 have C1:=C0.step hb1
 have hmk:=make_u64 n (by omega)
 have HIS:=hide IS
 have HC:=hide hcell;have HC':=hide hcell'
 clear IS hcell hcell' hs hs'
 have hz1:w.heap.size+2≤w1.heap.size:=by have:=C1.lt;have:=hb1.size;have:=X1.lt;have:=C0.lt;omega
 go_enter Tryz.func300,Tryz.ntmps300
 go_wp2_with fail
 rw [← hw0,← hw1]
 have HW0:=hide hw0;have HW1:=hide hw1
 clear hw0 hw1
 refine HIS.out.mono ?_
 rintro e w' ⟨rfl,rfl⟩
 go_wp2
 rw [← hw2]
 have HW2:=hide hw2
 clear hw2 hmk
 obtain ⟨g,hg⟩:∃ g,g=w1.heap.size:=⟨_,rfl⟩
 rw [← hg] at G2 ⊢
 have hge:w1.heap.size≤g∧g≤w1.heap.size:=by omega
 clear hg
 go_loopw [3,28] (fun u i wr=>∃ (k:Nat) (d:List Int) (bo:Int),k≤n∧i=.int .i64 k∧u=.int .u64 bo∧SubSt (lims n x) (lims n y) d k bo∧Below w1.heap.size w1 wr∧Blk wr g 44 (uCs (d++List.replicate (n - k) 0)).toArray)
  (fun _ i _=>n - (intOf i).toNat)
 case atStart=>exact ⟨0,[],0,by omega,rfl,rfl,SubSt.start _ _,hb2,by simpa using G2⟩
 case round =>
  obtain ⟨k,d,bo,hk,rfl,rfl,hst,hbr,hblk⟩:=hrel
  have HBr:=bl_step HB1 hbr
  by_cases hlt:k<n
  · have hx:=lims_get x hlt
    have hy:=lims_get y hlt
    have hxb:=lim_bd x k
    have hyb:=lim_bd y k
    have c0:=(HBr.cell (p:=⟨b,off+k,none⟩) hb).trans (HC.out _ _ hx)
    have c1:=(HBr.cell (p:=⟨b',off'+k,none⟩) hb').trans (HC'.out _ _ hy)
    have hst':=hst.step hx hy hxb.1 hxb.2 hyb.1 hyb.2
    generalize hxk:lim x k=xk at *
    generalize hyk:lim y k=yk at *
    have b0:=hst.b0
    have b1:=hst.b1
    have HW:Hid (∀ wk,Calls Tryz.prog 308 #[.int .u64 xk,.int .u64 yk,.int .u64 bo] wk fun e w'=>e=.returned (.tuple #[.int .u64 ((xk - yk - bo) % 18446744073709551616),.int .u64 (bor xk yk bo)])∧wk=w'):=hide fun wk=>wsub_any xk yk bo hxb.1 hxb.2 hyb.1 hyb.2 b0 b1 wk
    have q0:=((C1.step hbr)).cell (i:=0) rfl
    have g0:=hblk.cell (get_cells hst.len hlt)
    have f0:=hblk.frozen k
    have hgl:=hblk.lt
    have HST:=hide hst'
    obtain ⟨z,hz⟩:∃ z,z=(xk - yk - bo) % 18446744073709551616:=⟨_,rfl⟩
    obtain ⟨q,hq⟩:∃ q,q=bor xk yk bo:=⟨_,rfl⟩
    rw [← hz,← hq] at HW HST
    have HB:=hide (hblk.drew.set k (.int .u64 z))
    rw [set_cells hst.len hlt] at HB
    have hkn:(k:Int)<(n:Int):=by omega
    have hk0:(0:Int)≤(k:Int):=by omega
    have hwl:w.heap.size<wr.heap.size:=by have:=hbr.size;omega
    clear hst hst' hx hy hz hq hxk hyk hblk b0 b1
    go_wp2
    go_region_law (first
     | (go_simp;go_at_call 308;refine (HW.out _).mono ?_;rintro e w' ⟨rfl,rfl⟩))
    all_goals
     go_wp2
     go_roundw
     case rel=>exact ⟨k+1,_,_,by omega,by go_num,rfl,HST.out,(bl_drew hbr).setCell (by simp;omega) _,HB.out⟩
     case measure=>simp [intOf];omega
  · obtain rfl:n=k:=by omega
    have hd:=hst.done
    subst hd
    have hsl:Sl wr wr.heap.size (some ⟨g,0,none⟩) (uCs (lims n (x - y))):=Sl.mk hblk.lt fun j u hu=>by
     rw [Nat.zero_add];exact hblk.cell (by simpa using hu)
    have HSL:=hide hsl
    clear hst hblk hsl
    go_wp2
    go_ret
    refine ⟨some ⟨g,0,none⟩,n,?_,HBr,HSL.out⟩
    rw [lims_length];rfl
theorem lsub_any (n:Nat) (x y:Int) (hn:1≤n) (hn8:n≤8) (A A':Option Addr) (c c':Nat) (w:World) (hs:Sl w w.heap.size A (uCs (lims n x))) (hs':Sl w w.heap.size A' (uCs (lims n y))) :
 Calls Tryz.prog 273 #[.slice A n c,.slice A' n c'] w (GaveL (lims n (x - y)) w):=by
 have HA:=hide (apply_sub n x y hn hn8 A A' c c' w hs hs')
 clear hs hs'
 go_enter Tryz.func273,Tryz.ntmps273
 go_wp2_with fail
 refine HA.out.mono ?_
 rintro e w1 ⟨A1,c1,rfl,hb1,h1⟩
 go_wp2
 go_ret
 exact ⟨A1,c1,rfl,hb1,h1⟩
theorem apply_add (n:Nat) (x y:Int) (hn:1≤n) (hn8:n≤8) (A A':Option Addr) (c c':Nat) (w:World) (hs:Sl w w.heap.size A (uCs (lims n x))) (hs':Sl w w.heap.size A' (uCs (lims n y))) :
 Calls Tryz.prog 300 #[.agg #[.func (.func 299) #[] #[]],.slice A n c,.slice A' n c',.int .u64 0] w (GaveL (lims n (x+y)) w):=by
 have hll:=lims_length n x
 have hll':=lims_length n y
 obtain ⟨b,off,rfl,hb,hcell⟩:=hs.u (by omega)
 obtain ⟨b',off',rfl,hb',hcell'⟩:=hs'.u (by omega)
 obtain ⟨w0,hw0⟩:∃ w0,w0=w.alloc (.cells #[.func (.func 299) #[] #[]] 360):=⟨_,rfl⟩
 have hb0:Below w.heap.size w w0:=by rw [hw0];exact bA
 have C0:Blk w0 w.heap.size 360 #[.func (.func 299) #[] #[]]:=by rw [hw0];exact Blk.new _ _ _
 obtain ⟨w1,hw1⟩:∃ w1,w1=w0.alloc (.cells #[.slice (some ⟨b,off,none⟩) n c,.slice (some ⟨b',off',none⟩) n c'] 48):=⟨_,rfl⟩
 have hb1:Below w0.heap.size w0 w1:=by rw [hw1];exact bA
 have X1:Blk w1 (w.heap.size+1) 48 #[.slice (some ⟨b,off,none⟩) n c,.slice (some ⟨b',off',none⟩) n c']:=by rw [hw1,hw0];exact Blk.new2 _ _ _ _
 have HB1:=bl_step hb0 hb1
 have IS:=is_true [(some ⟨b,off,none⟩,n,c),(some ⟨b',off',none⟩,n,c')] (by simp;omega) (by simp) (by simp) w1.heap.size (some ⟨w.heap.size+1,0,none⟩) 2 w1 (Sl.mk X1.lt fun j u hu=>by
  rw [Nat.zero_add];exact X1.cell (by simpa [slCs] using hu))
 obtain ⟨w2,hw2⟩:∃ w2,w2=w1.alloc (.cells (uCs (List.replicate n 0)).toArray 44):=⟨_,rfl⟩
 have hb2:Below w1.heap.size w1 w2:=by rw [hw2];exact bA
 have G2:Blk w2 w1.heap.size 44 (uCs (List.replicate n 0)).toArray:=by rw [hw2];exact Blk.new _ _ _
 have C1:=C0.step hb1
 have hmk:=make_u64 n (by omega)
 have HIS:=hide IS
 have HC:=hide hcell;have HC':=hide hcell'
 clear IS hcell hcell' hs hs'
 have hz1:w.heap.size+2≤w1.heap.size:=by have:=C1.lt;have:=hb1.size;have:=X1.lt;have:=C0.lt;omega
 go_enter Tryz.func300,Tryz.ntmps300
 go_wp2_with fail
 rw [← hw0,← hw1]
 have HW0:=hide hw0;have HW1:=hide hw1
 clear hw0 hw1
 refine HIS.out.mono ?_
 rintro e w' ⟨rfl,rfl⟩
 go_wp2
 rw [← hw2]
 have HW2:=hide hw2
 clear hw2 hmk
 obtain ⟨g,hg⟩:∃ g,g=w1.heap.size:=⟨_,rfl⟩
 rw [← hg] at G2 ⊢
 have hge:w1.heap.size≤g∧g≤w1.heap.size:=by omega
 clear hg
 go_loopw [3,28] (fun u i wr=>∃ (k:Nat) (d:List Int) (bo:Int),k≤n∧i=.int .i64 k∧u=.int .u64 bo∧AddSt (lims n x) (lims n y) d k bo∧Below w1.heap.size w1 wr∧Blk wr g 44 (uCs (d++List.replicate (n - k) 0)).toArray)
  (fun _ i _=>n - (intOf i).toNat)
 case atStart=>exact ⟨0,[],0,by omega,rfl,rfl,AddSt.start _ _,hb2,by simpa using G2⟩
 case round =>
  obtain ⟨k,d,bo,hk,rfl,rfl,hst,hbr,hblk⟩:=hrel
  have HBr:=bl_step HB1 hbr
  by_cases hlt:k<n
  · have hx:=lims_get x hlt
    have hy:=lims_get y hlt
    have hxb:=lim_bd x k
    have hyb:=lim_bd y k
    have c0:=(HBr.cell (p:=⟨b,off+k,none⟩) hb).trans (HC.out _ _ hx)
    have c1:=(HBr.cell (p:=⟨b',off'+k,none⟩) hb').trans (HC'.out _ _ hy)
    have hst':=hst.step hx hy hxb.1 hxb.2 hyb.1 hyb.2
    generalize hxk:lim x k=xk at *
    generalize hyk:lim y k=yk at *
    have b0:=hst.b0
    have b1:=hst.b1
    have HW:Hid (∀ wk,Calls Tryz.prog 299 #[.int .u64 xk,.int .u64 yk,.int .u64 bo] wk fun e w'=>e=.returned (.tuple #[.int .u64 ((xk+yk+bo) % 18446744073709551616),.int .u64 ((xk+yk+bo) / 18446744073709551616)])∧wk=w'):=hide fun wk=>wadd_any xk yk bo hxb.1 hyb.1 b0 b1 wk
    have q0:=((C1.step hbr)).cell (i:=0) rfl
    have g0:=hblk.cell (get_cells hst.len hlt)
    have f0:=hblk.frozen k
    have hgl:=hblk.lt
    have HST:=hide hst'
    obtain ⟨z,hz⟩:∃ z,z=(xk+yk+bo) % 18446744073709551616:=⟨_,rfl⟩
    obtain ⟨q,hq⟩:∃ q,q=(xk+yk+bo) / 18446744073709551616:=⟨_,rfl⟩
    rw [← hz,← hq] at HW HST
    have HB:=hide (hblk.drew.set k (.int .u64 z))
    rw [set_cells hst.len hlt] at HB
    have hkn:(k:Int)<(n:Int):=by omega
    have hk0:(0:Int)≤(k:Int):=by omega
    have hwl:w.heap.size<wr.heap.size:=by have:=hbr.size;omega
    clear hst hst' hx hy hz hq hxk hyk hblk b0 b1
    go_wp2
    go_region_law (first
     | (go_simp;go_at_call 299;refine (HW.out _).mono ?_;rintro e w' ⟨rfl,rfl⟩))
    all_goals
     go_wp2
     go_roundw
     case rel=>exact ⟨k+1,_,_,by omega,by go_num,rfl,HST.out,(bl_drew hbr).setCell (by simp;omega) _,HB.out⟩
     case measure=>simp [intOf];omega
  · obtain rfl:n=k:=by omega
    have hd:=hst.done
    subst hd
    have hsl:Sl wr wr.heap.size (some ⟨g,0,none⟩) (uCs (lims n (x+y))):=Sl.mk hblk.lt fun j u hu=>by
     rw [Nat.zero_add];exact hblk.cell (by simpa using hu)
    have HSL:=hide hsl
    clear hst hblk hsl
    go_wp2
    go_ret
    refine ⟨some ⟨g,0,none⟩,n,?_,HBr,HSL.out⟩
    rw [lims_length];rfl
theorem ladd_any (n:Nat) (x y:Int) (hn:1≤n) (hn8:n≤8) (A A':Option Addr) (c c':Nat) (w:World) (hs:Sl w w.heap.size A (uCs (lims n x))) (hs':Sl w w.heap.size A' (uCs (lims n y))) :
 Calls Tryz.prog 253 #[.slice A n c,.slice A' n c'] w (GaveL (lims n (x+y)) w):=by
 have HA:=hide (apply_add n x y hn hn8 A A' c c' w hs hs')
 clear hs hs'
 go_enter Tryz.func253,Tryz.ntmps253
 go_wp2_with fail
 refine HA.out.mono ?_
 rintro e w1 ⟨A1,c1,rfl,hb1,h1⟩
 go_wp2
 go_ret
 exact ⟨A1,c1,rfl,hb1,h1⟩
end
section
open Go.RowKit
theorem mulAdd_int (a b c d:Int) (a0:0≤a) (a1:a<18446744073709551616) (b0:0≤b) (b1:b<18446744073709551616) (c0:0≤c) (c1:c<18446744073709551616) (d0:0≤d) (d1:d<18446744073709551616) (w:World) :
 Calls Tryz.prog 301 #[.int .u64 a,.int .u64 b,.int .u64 c,.int .u64 d] w fun e w'=>e=.returned (.tuple #[.int .u64 ((a*b+c+d) / 18446744073709551616),.int .u64 ((a*b+c+d) % 18446744073709551616)])∧w=w':=by
 obtain ⟨A,rfl⟩:=Int.eq_ofNat_of_zero_le a0
 obtain ⟨B,rfl⟩:=Int.eq_ofNat_of_zero_le b0
 obtain ⟨C,rfl⟩:=Int.eq_ofNat_of_zero_le c0
 obtain ⟨D,rfl⟩:=Int.eq_ofNat_of_zero_le d0
 have h:=mulAdd_any A B C D (by omega) (by omega) (by omega) (by omega) w
 have e:((A:Int)*B+C+D)=((A*B+C+D:Nat):Int):=by push_cast;rfl
 rw [e]
 exact h
theorem set_uCs (l:List Int) (k:Nat) (z:Int):(uCs l).toArray.setIfInBounds k (.int .u64 z)=(uCs (l.set k z)).toArray:=by
 simp [uCs,List.setIfInBounds_toArray,List.map_set]
theorem get_uCs {l:List Int} {k:Nat} {x:Int} (h:l[k]?=some x):(uCs l).toArray[k]?=some (.int .u64 x):=by simp [uCs,h]
theorem lmul_any (p q:Nat) (x y:Int) (hp:1≤p) (hq:1≤q) (h8:p+q≤8) (hfx:Fits p x) (hfy:Fits q y) (A A':Option Addr) (c c':Nat) (w:World) (hs:Sl w w.heap.size A (uCs (lims p x))) (hs':Sl w w.heap.size A' (uCs (lims q y))) :
 Calls Tryz.prog 254 #[.slice A p c,.slice A' q c'] w (GaveL (lims (p+q) (x*y)) w):=by
 obtain ⟨b,off,rfl,hb,hcell⟩:=hs.u (by rw [lims_length];omega)
 obtain ⟨b',off',rfl,hb',hcell'⟩:=hs'.u (by rw [lims_length];omega)
 obtain ⟨w0,hw0⟩:∃ w0,w0=w.alloc (.cells #[.slice (some ⟨b,off,none⟩) p c,.slice (some ⟨b',off',none⟩) q c'] 48):=⟨_,rfl⟩
 have hb0:Below w.heap.size w w0:=by rw [hw0];exact bA
 have X0:Blk w0 w.heap.size 48 #[.slice (some ⟨b,off,none⟩) p c,.slice (some ⟨b',off',none⟩) q c']:=by rw [hw0];exact Blk.new _ _ _
 have IS:=is_true [(some ⟨b,off,none⟩,p,c),(some ⟨b',off',none⟩,q,c')] (by simp;omega) (by simp) (by simp) w0.heap.size (some ⟨w.heap.size,0,none⟩) 2 w0 (Sl.mk X0.lt fun j u hu=>by
  rw [Nat.zero_add];exact X0.cell (by simpa [slCs] using hu))
 obtain ⟨n,hn⟩:∃ n,n=p+q:=⟨_,rfl⟩
 have EX:=extend_any p n x (.inl hfx) hp (by omega) (by omega) (by omega) (some ⟨b,off,none⟩) c w0 ((hs.below hb0).more hb0.size)
 have EY:∀ w1,Below w0.heap.size w0 w1→Calls Tryz.prog 248 #[.slice (some ⟨b',off',none⟩) q c',.int .i64 (n:Int)] w1 (GaveL (lims n y) w1) :=
  fun w1 h1=>extend_any q n y (.inl hfy) hq (by omega) (by omega) (by omega) (some ⟨b',off',none⟩) c' w1 ((hs'.below (hb0.trans (h1.mono hb0.size))).more (Nat.le_trans hb0.size h1.size))
 have hnI:(p:Int)+(q:Int)=(n:Int):=by omega
 have hmk:=make_u64 n (by omega)
 have HIS:=hide IS;have HEX:=hide EX;have HEY:=hide EY
 rw [← hn]
 have hnp:p+q≤n∧n≤p+q:=by omega
 clear IS EX EY hcell hcell' hs hs' hn hfx hfy
 go_enter Tryz.func254,Tryz.ntmps254
 go_wp2_with fail
 rw [← hw0]
 have HW0:=hide hw0
 clear hw0
 refine HIS.out.mono ?_
 rintro e w' ⟨rfl,rfl⟩
 go_wp2_with fail
 refine HEX.out.mono ?_
 rintro e w1 ⟨A1,c1,rfl,hb1,hs1⟩
 have E1:=HEY.out w1 hb1
 have HE1:=hide E1
 rw [lims_length]
 have HS1:=hide hs1
 clear E1 HEX HEY hs1
 go_wp2_with fail
 refine HE1.out.mono ?_
 rintro e w2 ⟨A2,c2,rfl,hb2,hs2⟩
 rw [lims_length]
 have hsx:=(HS1.out.below hb2).more hb2.size
 obtain ⟨xb,xo,rfl,hxb,hxc⟩:=hsx.u (by rw [lims_length];omega)
 obtain ⟨yb,yo,rfl,hyb,hyc⟩:=hs2.u (by rw [lims_length];omega)
 have HXC:=hide hxc;have HYC:=hide hyc
 have HB2:=bl_step (bl_step hb0 hb1) hb2
 obtain ⟨w3,hw3⟩:∃ w3,w3=w2.alloc (.cells (uCs (List.replicate n 0)).toArray 44):=⟨_,rfl⟩
 have hb3:Below w2.heap.size w2 w3:=by rw [hw3];exact bA
 have G3:Blk w3 w2.heap.size 44 (uCs (List.replicate n 0)).toArray:=by rw [hw3];exact Blk.new _ _ _
 clear hxc hyc hsx hs2 HS1 HE1
 go_wp2
 rw [← hw3]
 have HW3:=hide hw3
 clear hw3 hmk
 obtain ⟨g,hg⟩:∃ g,g=w2.heap.size:=⟨_,rfl⟩
 rw [← hg] at G3 ⊢
 have hge:w2.heap.size≤g∧g≤w2.heap.size:=by omega
 clear hg
 go_loopw [35] (fun i wr=>∃ (k:Nat) (l:List Int),k≤n∧i=.int .i64 k∧MulOut (lims n x) (lims n y) l k n∧Below w2.heap.size w2 wr∧Blk wr g 44 (uCs l).toArray)
  (fun i _=>n - (intOf i).toNat)
 case atStart=>exact ⟨0,_,by omega,rfl,MulOut.start _ _ _,hb3,G3⟩
 case round =>
  obtain ⟨k,l,hk,rfl,hmo,hbr,hblk⟩:=hrel
  by_cases hlt:k<n
  · have hx:=lims_get x hlt
    have hxl:=lim_bd x k
    have cx:=(hbr.cell (p:=⟨xb,xo+k,none⟩) hxb).trans (HXC.out _ _ hx)
    have HMO:=hide hmo
    have hml:=hmo.len
    have hmu:=hmo.u
    have HX:=hide hx
    have hin:=MulIn.start (n:=n) k (lim x k) (lims n y) hml hmu
    generalize hxk:lim x k=xk at *
    clear hmo hx hmu
    have hkn:(k:Int)<(n:Int):=by omega
    go_wp2
    go_loopw [10,41] (fun u j wr2=>∃ (i':Nat) (l':List Int) (ca:Int),i'≤n - k∧j=.int .i64 i'∧u=.int .u64 ca∧MulIn l l' k i' n xk (lims n y) ca∧Below w2.heap.size w2 wr2∧Blk wr2 g 44 (uCs l').toArray)
     (fun _ j _=>n - k - (intOf j).toNat)
    case atStart=>exact ⟨0,l,0,by omega,rfl,rfl,hin,hbr,hblk⟩
    case round =>
     clear hin hbr hblk cx
     obtain ⟨i',l',ca,hi',rfl,rfl,hin,hbr,hblk⟩:=hrel
     by_cases hlt':i'<n - k
     · have hy:=lims_get y (show i'<n by omega)
       have hyl:=lim_bd y i'
       have cx:=(hbr.cell (p:=⟨xb,xo+k,none⟩) hxb).trans (HXC.out _ _ HX.out)
       have cy:=(hbr.cell (p:=⟨yb,yo+i',none⟩) hyb).trans (HYC.out _ _ hy)
       generalize hyk:lim y i'=yk at *
       obtain ⟨o,ho⟩:∃ o,l'[k+i']?=some o:=⟨_,List.getElem?_eq_getElem (by rw [hin.len];omega)⟩
       have hob:=hin.u o (List.mem_of_getElem? ho)
       have hst:=hin.step ho hy hxl.1 hxl.2 hyl.1 hyl.2
       have HM:Hid (∀ wk,Calls Tryz.prog 301 #[.int .u64 xk,.int .u64 yk,.int .u64 o,.int .u64 ca] wk fun e w'=>e=.returned (.tuple #[.int .u64 ((xk*yk+o+ca) / 18446744073709551616),.int .u64 ((xk*yk+o+ca) % 18446744073709551616)])∧wk=w') :=
        hide fun wk=>mulAdd_int xk yk o ca hxl.1 hxl.2 hyl.1 hyl.2 hob.1 hob.2 hin.c0 hin.c1 wk
       obtain ⟨hi,hhi⟩:∃ hi,hi=(xk*yk+o+ca) / 18446744073709551616:=⟨_,rfl⟩
       obtain ⟨lo,hlo⟩:∃ lo,lo=(xk*yk+o+ca) % 18446744073709551616:=⟨_,rfl⟩
       rw [← hhi,← hlo] at HM hst
       have HST:=hide hst
       have g0:=hblk.cell (get_uCs ho)
       have f0:=hblk.frozen (k+i')
       have hgl:=hblk.lt
       have HB:=hide (hblk.drew.set (k+i') (.int .u64 lo))
       rw [set_uCs] at HB
       have hin':(i':Int)<(n:Int) - (k:Int):=by omega
       have hi0:(0:Int)≤(i':Int):=by omega
       have hki:(k:Int)+(i':Int)<(n:Int):=by omega
       have hki0:(0:Int)≤(k:Int)+(i':Int):=by omega
       have hto:((k:Int)+(i':Int)).toNat=k+i':=by omega
       have hwk:IntKind.i64.wrap ((k:Int)+(i':Int))=(k:Int)+(i':Int):=by rw [IntKind.wrap_i64];omega
       have hin2:(i':Int)<(n:Int):=by omega
       have hk0:(0:Int)≤(k:Int):=by omega
       clear hin hst hy hyk hhi hlo ho hob hblk hyl hxl
       go_wp2
       go_region_law (first
        | (go_simp;go_at_call 301;refine (HM.out _).mono ?_;rintro e w' ⟨rfl,rfl⟩))
       all_goals
        go_wp2
        go_roundw
        case rel=>exact ⟨i'+1,_,_,by omega,by go_num,rfl,HST.out,(bl_drew hbr).setCell (by simp;omega) _,HB.out⟩
        case measure=>simp [intOf];omega
     · obtain rfl:i'=n - k:=by omega
       have hst:=HMO.out.step (by rw [HX.out]) (lims_length n y) hk hin
       have HST:=hide hst
       have hin':¬ ((n - k:Nat):Int)<(n:Int) - (k:Int):=by omega
       clear hin hst
       go_wp2
       go_roundw
       case rel=>exact ⟨k+1,l',by omega,by go_num,HST.out,hbr,hblk⟩
       case measure=>simp [intOf];omega
  · obtain rfl:n=k:=by omega
    have hd:=hmo.done
    subst hd
    have hsl:Sl wr wr.heap.size (some ⟨g,0,none⟩) (uCs (lims n (x*y))):=Sl.mk hblk.lt fun j u hu=>by
     rw [Nat.zero_add];exact hblk.cell (by simpa using hu)
    have HSL:=hide hsl
    have HBr:=bl_step HB2 hbr
    clear hmo hblk hsl
    go_wp2
    go_ret
    refine ⟨some ⟨g,0,none⟩,n,?_,HBr,HSL.out⟩
    rw [lims_length];rfl
end
section
open Go.RowKit
theorem or_zero {a b:Int} (a0:0≤a) (a1:a<18446744073709551616) (b0:0≤b) (b1:b<18446744073709551616):(0≤bits .or .u64 a b∧bits .or .u64 a b<18446744073709551616)∧(bits .or .u64 a b=0 ↔ a=0∧b=0):=by
 rw [u64_or a b a0 a1 b0 b1]
 have hl:a.toNat≤a.toNat ||| b.toNat:=Nat.left_le_or
 have hr:b.toNat≤a.toNat ||| b.toNat:=Nat.right_le_or
 have hb:a.toNat ||| b.toNat<2 ^ 64:=Nat.or_lt_two_pow (by omega) (by omega)
 refine ⟨by omega,?_,?_⟩
 · intro h;omega
 · rintro ⟨rfl,rfl⟩;rfl
theorem sgnM_sign (v:Int):sgnM (decide (v<0)) (decide (v=0))=v.sign:=by
 unfold sgnM
 by_cases h:v<0
 · rw [decide_eq_true h,Int.sign_eq_neg_one_of_neg h];rfl
 · rw [decide_eq_false h]
   by_cases h0:v=0
   · subst h0;rfl
   · rw [decide_eq_false h0,Int.sign_eq_one_of_pos (by omega)];rfl
theorem lsign_any (n:Nat) (v:Int) (hf:Fits n v) (hn:1≤n) (hn8:n≤8) (A:Option Addr) (c:Nat) (w:World) (hs:Sl w w.heap.size A (uCs (lims n v))) (hw:MWords w) (hwg:8<w.heap.size) :
 Calls Tryz.prog 186 #[.slice A n c] w fun e w'=>e=.returned (.int .i64 v.sign)∧Below w.heap.size w w':=by
 obtain ⟨b,off,rfl,hb,hcell⟩:=hs.u (by rw [lims_length];omega)
 obtain ⟨w0,hw0⟩:∃ w0,w0=w.alloc (.cells #[.slice (some ⟨b,off,none⟩) n c] 48):=⟨_,rfl⟩
 have hb0:Below w.heap.size w w0:=by rw [hw0];exact bA
 have X0:Blk w0 w.heap.size 48 #[.slice (some ⟨b,off,none⟩) n c]:=by rw [hw0];exact Blk.new _ _ _
 have IS:=is_true [(some ⟨b,off,none⟩,n,c)] (by simp;omega) (by simp) (by simp) w0.heap.size (some ⟨w.heap.size,0,none⟩) 1 w0 (Sl.mk X0.lt fun j u hu=>by
  rw [Nat.zero_add];exact X0.cell (by simpa [slCs] using hu))
 have hw1:MWords w0:=⟨(hb0.cell (p:=⟨8,0,none⟩) hwg).trans hw.1,(hb0.cell (p:=⟨8,1,none⟩) hwg).trans hw.2⟩
 have hcell0:∀ j x,(lims n v)[j]?=some x→w0.cell? ⟨b,off+j,none⟩=some (.int .u64 x):=fun j x hx=>(hb0.cell (p:=⟨b,off+j,none⟩) hb).trans (hcell j x hx)
 have MS:=msign_any (decide (v<0)) (decide (v=0)) w0 hw1
 rw [sgnM_sign] at MS
 have hz:=lims_zero hf
 obtain ⟨m,rfl⟩:∃ m,n=m+1:=⟨n - 1,by omega⟩
 have ht:=lim_top hf
 have HIS:=hide IS;have HC:=hide hcell0;have HMS:=hide MS;have HZ:=hide hz;have HT:=hide ht
 clear IS hcell0 MS hcell hs hz ht hf hw hw1
 go_enter Tryz.func186,Tryz.ntmps186
 go_wp2_with fail
 rw [← hw0]
 have HW0:=hide hw0
 clear hw0
 refine HIS.out.mono ?_
 rintro e w' ⟨rfl,rfl⟩
 go_wp2
 go_loop [3,12] (fun u i=>∃ (k:Nat) (U:Int),k≤m+1∧i=.int .i64 k∧u=.int .u64 U∧(0≤U∧U<18446744073709551616)∧Hid (U=0 ↔ ∀ j,j<k→lim v j=0))
  (fun _ i=>m+1 - (intOf i).toNat)
 case atStart=>exact ⟨0,0,by omega,rfl,rfl,by omega,hide ⟨fun _ j hj=>by omega,fun _=>rfl⟩⟩
 case round =>
  obtain ⟨k,U,hk,rfl,rfl,⟨hU0,hU1⟩,HU⟩:=hrel
  by_cases hlt:k<m+1
  · have hx:=lims_get v hlt
    have hxl:=lim_bd v k
    have cx:=HC.out _ _ hx
    have ho:=or_zero hU0 hU1 hxl.1 hxl.2
    have HN:Hid (bits .or .u64 U (lim v k)=0 ↔ ∀ j,j<k+1→lim v j=0):=by
     apply hide
     rw [ho.2,HU.out]
     constructor
     · rintro ⟨h1,h2⟩ j hj
       by_cases hjk:j<k
       · exact h1 j hjk
       · rw [show j=k by omega];exact h2
     · intro h;exact ⟨fun j hj=>h j (by omega),h k (by omega)⟩
    have hob:=ho.1
    clear hx hxl ho
    have hkn:(k:Int)<(m:Int)+1:=by omega
    have hk0:(0:Int)≤(k:Int):=by omega
    go_wp2
    go_round
    case rel=>exact ⟨k+1,_,by omega,by go_num,rfl,hob,HN⟩
    case measure=>simp [intOf];omega
  · obtain rfl:k=m+1:=by omega
    have hx:=lims_get v (show m<m+1 by omega)
    have hxl:=lim_bd v m
    have cx:=HC.out _ _ hx
    have e1:decide (9223372036854775808≤lim v m)=decide (v<0):=by
     by_cases h:v<0
     · rw [decide_eq_true h,decide_eq_true (HT.out.2 h)]
     · rw [decide_eq_false h,decide_eq_false (fun h'=>h (HT.out.1 h'))]
    have e2:decide (U=0)=decide (v=0):=by
     have:U=0 ↔ v=0:=HU.out.trans HZ.out
     by_cases h:v=0
     · rw [decide_eq_true h,decide_eq_true (this.2 h)]
     · rw [decide_eq_false h,decide_eq_false (fun h'=>h (this.1 h'))]
    have FL:=fill_any (lim v m) hxl.1 hxl.2 w0
    have ZR:=zero_any U hU0 hU1 w0
    rw [e1] at FL
    rw [e2] at ZR
    have HFL:=hide FL;have HZR:=hide ZR
    clear FL ZR e1 e2 hx hxl
    go_wp2_with fail
    refine HFL.out.mono ?_
    rintro e w' ⟨rfl,rfl⟩
    go_wp2_with fail
    refine HZR.out.mono ?_
    rintro e w' ⟨rfl,rfl⟩
    go_wp2_with fail
    refine HMS.out.mono ?_
    rintro e w' ⟨rfl,k,rfl⟩
    go_wp2
    go_ret
    exact ⟨rfl,bl_drewN hb0 _⟩
end
end Go.Proofs.YthnenedoblncjaaGreatDoor
