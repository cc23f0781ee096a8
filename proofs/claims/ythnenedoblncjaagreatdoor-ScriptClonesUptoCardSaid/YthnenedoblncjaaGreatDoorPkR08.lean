/- RespMath -/
import Derived.Test.YthnenedoblncjaaGreatDoorPkR06
import Derived.Test.YthnenedoblncjaaGreatDoorPkR07
set_option maxRecDepth 1000000
set_option maxHeartbeats 8000000
namespace Go.Proofs.YthnenedoblncjaaGreatDoor
section
open Go.RowKit
theorem qh(x:Int)(k:Nat)(hx:0<=x):le ((List.range k).map fun j=>x / 256 ^ j % 256)=x % 256 ^ k:=by
 induction k with
 | zero=>simp [le,Int.emod_one]
 | succ k ih =>
   rw [List.range_succ,List.map_append,List.map_singleton,Fv,ih,List.length_map,List.length_range];obtain ⟨n,rfl⟩:=Int.eq_ofNat_of_zero_le hx;have h:=@Nat.mod_mul (256 ^ k) 256 n;have h2:((n % (256 ^ k*256):Nat):Int)=((n % 256 ^ k+256 ^ k*(n / 256 ^ k % 256):Nat):Int):=(by rw [h]);rw [Int.pow_succ];simp only [Int.natCast_emod,Int.natCast_add,Int.natCast_mul,Int.natCast_ediv,Int.natCast_pow] at h2;rw [Int.mul_comm (((n:Nat):Int) / 256 ^ k % 256)];exact h2.symm
theorem qg{x:Int}(h:Ua x):le (XB x)=x:=by
 unfold XB;rw [qh x 8 h.1];exact Int.emod_eq_of_lt h.1 (by have:=h.2;omega)
theorem yV(r:Int × Int)(rest:List Int)(h1:0<=r.1)(h2:r.1<256)(h3:Ua r.2):recAt (Vp r++rest) 0=r:=by
 have e1:(Vp r++rest).getD (9*0) 0=r.1 % 256:=rfl;have e2:((Vp r++rest).drop (9*0+1)).take 8=XB r.2:=rfl;unfold recAt;rw [e1,e2,qg h3,Int.emod_eq_of_lt h1 h2]
theorem MV:∀ (recs:List (Int × Int)),(∀ r∈recs,0<=r.1/\r.1<256/\Ua r.2)->yY (recs.flatMap Vp) recs.length=recs
 | [],_=>rfl
 | r::t,h=>by
   have h0:=h r (by simp);have ih:=MV t fun x hx=>h x (by simp [hx]);unfold yY at ih ⊢;rw [List.length_cons,List.range_succ_eq_map,List.map_cons,List.flatMap_cons,yV r _ h0.1 h0.2.1 h0.2.2,List.map_map]
   congr 1
theorem MO{cnt:Int}:∀ {recs:List (Int × Int)} {k:Nat},WV cnt k recs=true->∀ r∈recs,0<=r.1/\r.1<=1
 | [],_,_,r,hr=>by cases hr
 | x::t,k,h,r,hr=>by
   simp only [WV,Bool.and_eq_true] at h;rcases List.mem_cons.1 hr with rfl|hr
   · have h1:=h.1;unfold U7 at h1;split at h1
     · have:r.1=1:=(by simpa using h1);omega
     · have:r.1=0:=(by simp at h1;exact h1.1);omega
   · exact MO h.2 r hr
theorem sG(x:Int):By (XB x):=by
 intro y hy;unfold XB at hy;obtain ⟨j,_,rfl⟩:=List.mem_map.1 hy;omega
theorem aQ(r:Int × Int):By (Vp r):=by
 intro y hy;unfold Vp at hy;rcases List.mem_append.1 hy with hy|hy
 · simp at hy;subst hy;omega
 · exact sG _ y hy
theorem Ag{op val cnt:Int}{recs:List (Int × Int)}(h0:0<=val)(h3:val<=3)(hc0:0<=cnt)(hc1:cnt<=4096):By (Zn op val cnt recs):=by
 intro y hy;unfold Zn at hy;rcases List.mem_append.1 hy with hy|hy
 · rcases List.mem_append.1 hy with hy|hy
   · simp at hy;omega
   · split at hy
     · simp at hy;omega
     · cases hy
 · obtain ⟨r,_,hr⟩:=List.mem_flatMap.1 hy;exact aQ r y hr
theorem Oe(op val cnt:Int)(recs:List (Int × Int)):(Zn op val cnt recs).length=(if op=5 then 4 else 2)+9*recs.length:=by
 unfold Zn;rw [List.length_append,List.length_append,VG Vp 9 MU];split <;> simp <;> omega
theorem FH{op vs ZY val cnt:Int}{hrs:List Rg}{recs:List (Int × Int)}(hz:ZM op vs hrs ZY=0)(hi:Vr op ZY val cnt recs=true)(hu:∀ r∈recs,Ua r.2):
 hread op vs hrs ZY (Zn op val cnt recs)=(⟨val,cnt,recs⟩,0):=by
 obtain ⟨_,_,_,_,_,_,hp5,hpn,_⟩:=ZA hz;have hp0:0<=ZY:=by
  by_cases h5:op=5
  · have:=hp5 h5;omega
  · have:=hpn h5;omega
 obtain ⟨h0,h3,hl,hc0,hc1,hok⟩:=Tc hi hp0;have hlen:=Oe op val cnt recs;have hrd:KN op ZY (Zn op val cnt recs)=⟨val,cnt,recs⟩:=by
  by_cases h5:op=5
  · subst h5;have e:Zn 5 val cnt recs=0::val::(cnt % 256)::(cnt / 256)::recs.flatMap Vp:=(by unfold Zn;rw [if_pos rfl];rfl);have hn:ZY.toNat=recs.length:=(by omega);unfold KN;rw [if_pos rfl,if_pos rfl,e,hn];have e4:(0::val::(cnt % 256)::(cnt / 256)::recs.flatMap Vp).drop 4=recs.flatMap Vp:=rfl;rw [e4,MV recs fun r hr=>by have:=MO hok r hr;exact ⟨this.1,by omega,hu r hr⟩];have ec:(0::val::(cnt % 256)::(cnt / 256)::recs.flatMap Vp).getD 2 0+(0::val::(cnt % 256)::(cnt / 256)::recs.flatMap Vp).getD 3 0*256=cnt:=by
     show cnt % 256+cnt / 256*256=cnt;omega
    rw [ec];rfl
  · have hpz:=hpn h5;have hr:recs=[]:=List.eq_nil_of_length_eq_zero (by omega);subst hr;have hcz:cnt=0:=(by omega);subst hcz;unfold KN;rw [if_neg h5,if_neg h5];rfl
 unfold hread;rw [if_neg (by simpa using hz),if_neg (by rw [hlen];split <;> omega)];have Qi:((Zn op val cnt recs).length:Int)=Qi op vs hrs ZY:=by
  unfold Go.Proofs.YthnenedoblncjaaGreatDoor.Qi;rw [if_pos hz,hlen]
  by_cases h5:op=5
  · rw [if_pos h5,if_pos h5];omega
  · have:=hpn h5;rw [if_neg h5,if_neg h5];omega
 have h00:(Zn op val cnt recs).getD 0 0=0:=by unfold Zn;rfl
 rw [if_neg (by simpa using Qi),h00,if_neg (by simp),hrd,hi,if_neg (by simp)]
end
end Go.Proofs.YthnenedoblncjaaGreatDoor