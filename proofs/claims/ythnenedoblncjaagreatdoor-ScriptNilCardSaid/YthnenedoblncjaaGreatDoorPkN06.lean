/- Word -/
import Derived.Laws.Externs
import Derived.Shelf.Bits.Mul64
import Derived.Shelf.Spec.BitsCarry
import Derived.Test.YthnenedoblncjaaGreatDoorPkN00
import Derived.Test.YthnenedoblncjaaGreatDoorPkN05
set_option maxRecDepth 1000000
set_option maxHeartbeats 8000000
namespace Go.Proofs.YthnenedoblncjaaGreatDoor
open Go.Proofs.Tryz
section
open Go.RowKit
theorem Gz(x y c:Int)(hx:0<=x)(hy:0<=y)(hc0:0<=c)(hc:c<=1)(w:World):
 (callFunc 200 #[.int .u64 x,.int .u64 y,.int .u64 c]).run prog w=.ok (.value (.tuple #[.int .u64 ((x+y+c) % 18446744073709551616),.int .u64 ((x+y+c) / 18446744073709551616)])) w:=by
 rw [run_callFunc_extern func200 (by kernel_rfl) (by kernel_rfl) (by kernel_rfl) (e:=add64Entry) (by kernel_rfl),run_add64 x y c hx hy hc0 hc];rfl
theorem xI(x y b:Int)(hx:0<=x)(hxl:x<18446744073709551616)(hy:0<=y)(hyl:y<18446744073709551616)(hb0:0<=b)(hb:b<=1)(w:World):
 (callFunc 339 #[.int .u64 x,.int .u64 y,.int .u64 b]).run prog w=.ok (.value (.tuple #[.int .u64 ((x - y - b) % 18446744073709551616),.int .u64 (Ls x y b)])) w:=by
 obtain ⟨X,rfl⟩:=Int.eq_ofNat_of_zero_le hx;obtain ⟨Y,rfl⟩:=Int.eq_ofNat_of_zero_le hy;obtain ⟨B,rfl⟩:=Int.eq_ofNat_of_zero_le hb0;rw [run_callFunc_extern func339 (by kernel_rfl) (by kernel_rfl) (by kernel_rfl) (e:=sub64Entry) (by kernel_rfl),run_sub64 X Y B (by omega)];have e1:(((X+18446744073709551616 - Y - B) % 18446744073709551616:Nat):Int)=((X:Int) - Y - B) % 18446744073709551616:=by omega
 have e2:((if X<Y+B then 1 else 0:Nat):Int)=Ls X Y B:=by unfold Ls;split <;> split <;> omega
 rw [e1,e2];rfl
theorem and1(c:Int)(h0:0<=c)(h1:c<=1):bits .and .u64 c 1=c:=by
 have:c=0\/c=1:=by omega
 rcases this with rfl|rfl <;> decide +kernel
theorem Jq(x y c:Int)(hx:0<=x)(hy:0<=y)(hc0:0<=c)(hc:c<=1)(w:World):
 Calls prog 299 #[.int .u64 x,.int .u64 y,.int .u64 c] w fun e w'=>e=.returned (.tuple #[.int .u64 ((x+y+c) % 18446744073709551616),.int .u64 ((x+y+c) / 18446744073709551616)])/\w=w':=by
 have h1:=and1 c hc0 hc;have HA:=Gz x y c hx hy hc0 hc;go_enter func299,ntmps299;go_wp2_with (simp only [HA]);go_ret2;exact ⟨rfl,rfl⟩
theorem Jr(x y b:Int)(hx:0<=x)(hxl:x<18446744073709551616)(hy:0<=y)(hyl:y<18446744073709551616)(hb0:0<=b)(hb:b<=1)(w:World):
 Calls prog 308 #[.int .u64 x,.int .u64 y,.int .u64 b] w fun e w'=>e=.returned (.tuple #[.int .u64 ((x - y - b) % 18446744073709551616),.int .u64 (Ls x y b)])/\w=w':=by
 have h1:=and1 b hb0 hb;have HS:=xI x y b hx hxl hy hyl hb0 hb;go_enter func308,ntmps308;go_wp2_with (simp only [HS]);go_ret2;exact ⟨rfl,rfl⟩
theorem Rv(x y:Nat)(hx:x<18446744073709551616)(hy:y<18446744073709551616)(w:World):
 Calls prog 199 #[.int .u64 x,.int .u64 y] w fun e w'=>e=.returned (.tuple #[.int .u64 ((x*y / 18446744073709551616:Nat):Int),.int .u64 ((x*y % 18446744073709551616:Nat):Int)])/\w=w':=by
 obtain ⟨bd,bt,bw,hhi⟩:=Lib.mul64_hi x y hx hy;have ba:=Lib.half_mul_le (a:=x / 4294967296) (b:=y / 4294967296) (by omega) (by omega);have bb:=Lib.half_mul_le (a:=x / 4294967296) (b:=y % 4294967296) (by omega) (by omega);have bc:=Lib.half_mul_le (a:=x % 4294967296) (b:=y / 4294967296) (by omega) (by omega);have ba':x / 4294967296*(y / 4294967296)<18446744073709551616:=by omega
 have bb':x / 4294967296*(y % 4294967296)<18446744073709551616:=by omega
 have bc':x % 4294967296*(y / 4294967296)<18446744073709551616:=by omega
 have bh1:x / 4294967296*(y / 4294967296)+(x / 4294967296*(y % 4294967296)+x % 4294967296*(y % 4294967296) / 4294967296) / 4294967296<18446744073709551616:=by omega
 have bh:x / 4294967296*(y / 4294967296)+(x / 4294967296*(y % 4294967296)+x % 4294967296*(y % 4294967296) / 4294967296) / 4294967296+((x / 4294967296*(y % 4294967296)+x % 4294967296*(y % 4294967296) / 4294967296) % 4294967296+x % 4294967296*(y / 4294967296)) / 4294967296<18446744073709551616:=by omega
 go_enter func199,ntmps199;go_wp2;simp only [Mul64.maskN x hx,Mul64.maskN y hy,Mul64.divN,Mul64.mulN,Mul64.addN,Mul64.wrapN _ bd,Mul64.wrapN _ bb',Mul64.wrapN _ bt,Mul64.maskN _ bt,Mul64.wrapN _ bc',Mul64.wrapN _ bw,Mul64.wrapN _ ba',Mul64.wrapN _ bh1,Mul64.wrapN _ bh,Mul64.wrapM (x*y)];rw [hhi];go_ret2;exact ⟨rfl,rfl⟩
theorem Qj(x y:Int)(hx:0<=x)(hy:0<=y)(w:World):
 (callFunc 200 #[.int .u64 x,.int .u64 y,.int .u64 0]).run prog w=.ok (.value (.tuple #[.int .u64 ((x+y) % 18446744073709551616),.int .u64 ((x+y) / 18446744073709551616)])) w:=by
 have h:=Gz x y 0 hx hy (Int.le_refl _) (by decide) w;rw [Int.add_zero] at h;exact h
theorem Lp(x c:Int)(hx:0<=x)(hc0:0<=c)(hc:c<=1)(w:World):
 (callFunc 200 #[.int .u64 x,.int .u64 0,.int .u64 c]).run prog w=.ok (.value (.tuple #[.int .u64 ((x+c) % 18446744073709551616),.int .u64 ((x+c) / 18446744073709551616)])) w:=by
 have h:=Gz x 0 c hx (Int.le_refl _) hc0 hc w;rw [Int.add_zero] at h;exact h
theorem Nl(a b c d:Nat)(ha:a<18446744073709551616)(hb:b<18446744073709551616)(hc:c<18446744073709551616)(hd:d<18446744073709551616)(w:World):
 Calls prog 301 #[.int .u64 a,.int .u64 b,.int .u64 c,.int .u64 d] w fun e w'=>e=.returned (.tuple #[.int .u64 (((a*b+c+d) / 18446744073709551616:Nat):Int),.int .u64 (((a*b+c+d) % 18446744073709551616:Nat):Int)])/\w=w':=by
 have M:=Rv a b ha hb w;have hP:a*b<=18446744073709551615*18446744073709551615:=Nat.mul_le_mul (by omega) (by omega);generalize a*b=p at M hP ⊢;obtain ⟨l1,hl1⟩:∃ l1:Int,l1=((p % 18446744073709551616:Nat):Int):=⟨_,rfl⟩;obtain ⟨h1,uh⟩:∃ h1:Int,h1=((p / 18446744073709551616:Nat):Int):=⟨_,rfl⟩;rw [<- hl1,<- uh] at M;have b1:0<=l1/\l1<18446744073709551616:=by omega
 have b2:0<=h1/\h1<18446744073709551615:=by omega
 have A1:=Qj l1 c b1.1 (by omega);have A2:=Lp h1 ((l1+c) / 18446744073709551616) b2.1 (by omega) (by omega);have A3:=Qj ((l1+c) % 18446744073709551616) d (by omega) (by omega);have A4:=Lp ((h1+(l1+c) / 18446744073709551616) % 18446744073709551616) (((l1+c) % 18446744073709551616+d) / 18446744073709551616) (by omega) (by omega) (by omega);have e1:(((p+c+d) / 18446744073709551616:Nat):Int)=(h1+(l1+c) / 18446744073709551616+((l1+c) % 18446744073709551616+d) / 18446744073709551616) % 18446744073709551616:=by omega
 have e2:(((p+c+d) % 18446744073709551616:Nat):Int)=(l1+c+d) % 18446744073709551616:=by omega
 rw [e1,e2];have HM:=hide M;clear M e1 e2 hl1 uh hP b1 b2 ha hb hc hd;go_enter func301,ntmps301;go_wp2_with fail;refine HM.out.mono ?_;rintro e w' ⟨rfl,rfl⟩;go_wp2;go_ret2;exact ⟨rfl,rfl⟩
end
end Go.Proofs.YthnenedoblncjaaGreatDoor