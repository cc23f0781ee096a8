/- RespMath -/
import Derived.Test.YthnenedoblncjaaGreatDoorPkA07
import Derived.Test.YthnenedoblncjaaGreatDoorPkA08
set_option maxRecDepth 1000000
set_option maxHeartbeats 8000000
namespace Go.Proofs.YthnenedoblncjaaGreatDoor
section
open Go.RowKit
theorem yV(x:Int)(k:Nat)(hx:0<=x):le ((List.range k).map fun j=>x / 256 ^ j % 256)=x % 256 ^ k:=by
 induction k with
 | zero=>simp [le,Int.emod_one]
 | succ k ih =>
   rw [List.range_succ,List.map_append,List.map_singleton,Iq,ih,List.length_map,List.length_range];obtain ⟨n,rfl⟩:=Int.eq_ofNat_of_zero_le hx;have h:=@Nat.mod_mul (256 ^ k) 256 n;have h2:((n % (256 ^ k*256):Nat):Int)=((n % 256 ^ k+256 ^ k*(n / 256 ^ k % 256):Nat):Int):=(by rw [h]);rw [Int.pow_succ];simp only [Int.natCast_emod,Int.natCast_add,Int.natCast_mul,Int.natCast_ediv,Int.natCast_pow] at h2;rw [Int.mul_comm (((n:Nat):Int) / 256 ^ k % 256)];exact h2.symm
theorem yU{x:Int}(h:Vo x):le (YH x)=x:=by
 unfold YH;rw [yV x 8 h.1];exact Int.emod_eq_of_lt h.1 (by have:=h.2;omega)
theorem Dz(r:Int × Int)(rest:List Int)(h1:0<=r.1)(h2:r.1<256)(h3:Vo r.2):recAt (XR r++rest) 0=r:=by
 have e1:(XR r++rest).getD (9*0) 0=r.1 % 256:=rfl;have e2:((XR r++rest).drop (9*0+1)).take 8=YH r.2:=rfl;unfold recAt;rw [e1,e2,yU h3,Int.emod_eq_of_lt h1 h2]
theorem Ou:∀ (recs:List (Int × Int)),(∀ r∈recs,0<=r.1/\r.1<256/\Vo r.2)->DI (recs.flatMap XR) recs.length=recs
 | [],_=>rfl
 | r::t,h=>by
   have h0:=h r (by simp);have ih:=Ou t fun x hx=>h x (by simp [hx]);unfold DI at ih ⊢;rw [List.length_cons,List.range_succ_eq_map,List.map_cons,List.flatMap_cons,Dz r _ h0.1 h0.2.1 h0.2.2,List.map_map]
   congr 1
theorem Oj{cnt:Int}:∀ {recs:List (Int × Int)} {k:Nat},XI cnt k recs=true->∀ r∈recs,0<=r.1/\r.1<=1
 | [],_,_,r,hr=>by cases hr
 | x::t,k,h,r,hr=>by
   simp only [XI,Bool.and_eq_true] at h;rcases List.mem_cons.1 hr with rfl|hr
   · have h1:=h.1;unfold XF at h1;split at h1
     · have:r.1=1:=(by simpa using h1);omega
     · have:r.1=0:=(by simp at h1;exact h1.1);omega
   · exact Oj h.2 r hr
theorem zU(x:Int):By (YH x):=by
 intro y hy;unfold YH at hy;obtain ⟨j,_,rfl⟩:=List.mem_map.1 hy;omega
theorem oZ(r:Int × Int):By (XR r):=by
 intro y hy;unfold XR at hy;rcases List.mem_append.1 hy with hy|hy
 · simp at hy;subst hy;omega
 · exact zU _ y hy
theorem EJ{op val cnt:Int}{recs:List (Int × Int)}(h0:0<=val)(h3:val<=3)(hc0:0<=cnt)(hc1:cnt<=4096):By (Zp op val cnt recs):=by
 intro y hy;unfold Zp at hy;rcases List.mem_append.1 hy with hy|hy
 · rcases List.mem_append.1 hy with hy|hy
   · simp at hy;omega
   · split at hy
     · simp at hy;omega
     · cases hy
 · obtain ⟨r,_,hr⟩:=List.mem_flatMap.1 hy;exact oZ r y hr
theorem PL(op val cnt:Int)(recs:List (Int × Int)):(Zp op val cnt recs).length=(if op=5 then 4 else 2)+9*recs.length:=by
 unfold Zp;rw [List.length_append,List.length_append,XC XR 9 UJ];split <;> simp <;> omega
theorem II{op vs Z0 val cnt:Int}{hrs:List Rg}{recs:List (Int × Int)}(hz:ZT op vs hrs Z0=0)(hi:WQ op Z0 val cnt recs=true)(hu:∀ r∈recs,Vo r.2):
 hread op vs hrs Z0 (Zp op val cnt recs)=(⟨val,cnt,recs⟩,0):=by
 obtain ⟨_,_,_,_,_,_,tO,hpn,_⟩:=Zu hz;have hp0:0<=Z0:=by
  by_cases h5:op=5
  · have:=tO h5;omega
  · have:=hpn h5;omega
 obtain ⟨h0,h3,hl,hc0,hc1,hok⟩:=VH hi hp0;have hlen:=PL op val cnt recs;have hrd:Mj op Z0 (Zp op val cnt recs)=⟨val,cnt,recs⟩:=by
  by_cases h5:op=5
  · subst h5;have e:Zp 5 val cnt recs=0::val::(cnt % 256)::(cnt / 256)::recs.flatMap XR:=(by unfold Zp;rw [if_pos rfl];rfl);have hn:Z0.toNat=recs.length:=(by omega);unfold Mj;rw [if_pos rfl,if_pos rfl,e,hn];have e4:(0::val::(cnt % 256)::(cnt / 256)::recs.flatMap XR).drop 4=recs.flatMap XR:=rfl;rw [e4,Ou recs fun r hr=>by have:=Oj hok r hr;exact ⟨this.1,by omega,hu r hr⟩];have ec:(0::val::(cnt % 256)::(cnt / 256)::recs.flatMap XR).getD 2 0+(0::val::(cnt % 256)::(cnt / 256)::recs.flatMap XR).getD 3 0*256=cnt:=by
     show cnt % 256+cnt / 256*256=cnt;omega
    rw [ec];rfl
  · have hpz:=hpn h5;have hr:recs=[]:=List.eq_nil_of_length_eq_zero (by omega);subst hr;have hcz:cnt=0:=(by omega);subst hcz;unfold Mj;rw [if_neg h5,if_neg h5];rfl
 unfold hread;rw [if_neg (by simpa using hz),if_neg (by rw [hlen];split <;> omega)];have Ra:((Zp op val cnt recs).length:Int)=Ra op vs hrs Z0:=by
  unfold Go.Proofs.YthnenedoblncjaaGreatDoor.Ra;rw [if_pos hz,hlen]
  by_cases h5:op=5
  · rw [if_pos h5,if_pos h5];omega
  · have:=hpn h5;rw [if_neg h5,if_neg h5];omega
 have h00:(Zp op val cnt recs).getD 0 0=0:=by unfold Zp;rfl
 rw [if_neg (by simpa using Ra),h00,if_neg (by simp),hrd,hi,if_neg (by simp)]
end
end Go.Proofs.YthnenedoblncjaaGreatDoor