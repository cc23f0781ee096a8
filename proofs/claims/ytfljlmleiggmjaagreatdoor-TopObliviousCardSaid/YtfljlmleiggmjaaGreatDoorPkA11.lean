/- RespMath -/
import Derived.Test.YtfljlmleiggmjaaGreatDoorPkA09
import Derived.Test.YtfljlmleiggmjaaGreatDoorPkA10
set_option maxRecDepth 1000000
set_option maxHeartbeats 8000000
namespace Go.Proofs.YtfljlmleiggmjaaGreatDoor
section
open Go.RowKit
theorem le_wordsA (x:Int) (k:Nat) (hx:0≤x):le ((List.range k).map fun j=>x / 256 ^ j % 256)=x % 256 ^ k:=by
 induction k with
 | zero=>simp [le,Int.emod_one]
 | succ k ih =>
   rw [List.range_succ,List.map_append,List.map_singleton,le_snoc,ih,List.length_map,List.length_range]
   obtain ⟨n,rfl⟩:=Int.eq_ofNat_of_zero_le hx
   have h:=@Nat.mod_mul (256 ^ k) 256 n
   have h2:((n % (256 ^ k*256):Nat):Int)=((n % 256 ^ k+256 ^ k*(n / 256 ^ k % 256):Nat):Int):=by rw [h]
   rw [Int.pow_succ]
   simp only [Int.natCast_emod,Int.natCast_add,Int.natCast_mul,Int.natCast_ediv,Int.natCast_pow] at h2
   rw [Int.mul_comm (((n:Nat):Int) / 256 ^ k % 256)]
   exact h2.symm
theorem le_word8A {x:Int} (h:U64 x):le (word8 x)=x:=by
 unfold word8
 rw [le_wordsA x 8 h.1]
 exact Int.emod_eq_of_lt h.1 (by have:=h.2;omega)
theorem recAt_zero (r:Int × Int) (rest:List Int) (h1:0≤r.1) (h2:r.1<256) (h3:U64 r.2):recAt (rec9 r++rest) 0=r:=by
 have e1:(rec9 r++rest).getD (9*0) 0=r.1 % 256:=rfl
 have e2:((rec9 r++rest).drop (9*0+1)).take 8=word8 r.2:=rfl
 unfold recAt
 rw [e1,e2,le_word8A h3,Int.emod_eq_of_lt h1 h2]
theorem recsOf_flat:∀ (recs:List (Int × Int)),(∀ r∈recs,0≤r.1∧r.1<256∧U64 r.2)→recsOf (recs.flatMap rec9) recs.length=recs
 | [],_=>rfl
 | r::t,h=>by
   have h0:=h r (by simp)
   have ih:=recsOf_flat t fun x hx=>h x (by simp [hx])
   unfold recsOf at ih ⊢
   rw [List.length_cons,List.range_succ_eq_map,List.map_cons,List.flatMap_cons,recAt_zero r _ h0.1 h0.2.1 h0.2.2,List.map_map]
   congr 1
theorem okFrom_live {cnt:Int}:∀ {recs:List (Int × Int)} {k:Nat},okFrom cnt k recs=true→∀ r∈recs,0≤r.1∧r.1≤1
 | [],_,_,r,hr=>by cases hr
 | x::t,k,h,r,hr=>by
   simp only [okFrom,Bool.and_eq_true] at h
   rcases List.mem_cons.1 hr with rfl | hr
   · have h1:=h.1
     unfold recOk at h1
     split at h1
     · have:r.1=1:=by simpa using h1
       omega
     · have:r.1=0:=by simp at h1;exact h1.1
       omega
   · exact okFrom_live h.2 r hr
theorem word8_byA (x:Int):By (word8 x):=by
 intro y hy
 unfold word8 at hy
 obtain ⟨j,_,rfl⟩:=List.mem_map.1 hy
 omega
theorem rec9_by (r:Int × Int):By (rec9 r):=by
 intro y hy
 unfold rec9 at hy
 rcases List.mem_append.1 hy with hy | hy
 · simp at hy;subst hy;omega
 · exact word8_byA _ y hy
theorem ansBytes_by {op val cnt:Int} {recs:List (Int × Int)} (h0:0≤val) (h3:val≤3) (hc0:0≤cnt) (hc1:cnt≤4096):By (ansBytes op val cnt recs):=by
 intro y hy
 unfold ansBytes at hy
 rcases List.mem_append.1 hy with hy | hy
 · rcases List.mem_append.1 hy with hy | hy
   · simp at hy;omega
   · split at hy
     · simp at hy;omega
     · cases hy
 · obtain ⟨r,_,hr⟩:=List.mem_flatMap.1 hy
   exact rec9_by r y hr
theorem ansBytes_len (op val cnt:Int) (recs:List (Int × Int)):(ansBytes op val cnt recs).length=(if op=5 then 4 else 2)+9*recs.length:=by
 unfold ansBytes
 rw [List.length_append,List.length_append,flat_len rec9 9 rec9_length]
 split <;> simp <;> omega
theorem read_respond {op vs pts val cnt:Int} {hrs:List Rg} {recs:List (Int × Int)} (hz:hcheck op vs hrs pts=0) (hi:isAns op pts val cnt recs=true) (hu:∀ r∈recs,U64 r.2) :
 hread op vs hrs pts (ansBytes op val cnt recs)=(⟨val,cnt,recs⟩,0):=by
 obtain ⟨_,_,_,_,_,_,hp5,hpn,_⟩:=hcheck_zero hz
 have hp0:0≤pts:=by
  by_cases h5:op=5
  · have:=hp5 h5;omega
  · have:=hpn h5;omega
 obtain ⟨h0,h3,hl,hc0,hc1,hok⟩:=isAns_true hi hp0
 have hlen:=ansBytes_len op val cnt recs
 have hrd:rdAns op pts (ansBytes op val cnt recs)=⟨val,cnt,recs⟩:=by
  by_cases h5:op=5
  · subst h5
    have e:ansBytes 5 val cnt recs=0::val::(cnt % 256)::(cnt / 256)::recs.flatMap rec9:=by unfold ansBytes;rw [if_pos rfl];rfl
    have hn:pts.toNat=recs.length:=by omega
    unfold rdAns
    rw [if_pos rfl,if_pos rfl,e,hn]
    have e4:(0::val::(cnt % 256)::(cnt / 256)::recs.flatMap rec9).drop 4=recs.flatMap rec9:=rfl
    rw [e4,recsOf_flat recs fun r hr=>by have:=okFrom_live hok r hr;exact ⟨this.1,by omega,hu r hr⟩]
    have ec:(0::val::(cnt % 256)::(cnt / 256)::recs.flatMap rec9).getD 2 0+(0::val::(cnt % 256)::(cnt / 256)::recs.flatMap rec9).getD 3 0*256=cnt:=by
     show cnt % 256+cnt / 256*256=cnt
     omega
    rw [ec]
    rfl
  · have hpz:=hpn h5
    have hr:recs=[]:=List.eq_nil_of_length_eq_zero (by omega)
    subst hr
    have hcz:cnt=0:=by omega
    subst hcz
    unfold rdAns
    rw [if_neg h5,if_neg h5]
    rfl
 unfold hread
 rw [if_neg (by simpa using hz),if_neg (by rw [hlen];split <;> omega)]
 have hresp:((ansBytes op val cnt recs).length:Int)=hresp op vs hrs pts:=by
  unfold Go.Proofs.YtfljlmleiggmjaaGreatDoor.hresp
  rw [if_pos hz,hlen]
  by_cases h5:op=5
  · rw [if_pos h5,if_pos h5];omega
  · have:=hpn h5
    rw [if_neg h5,if_neg h5];omega
 have h00:(ansBytes op val cnt recs).getD 0 0=0:=by unfold ansBytes;rfl
 rw [if_neg (by simpa using hresp),h00,if_neg (by simp),hrd,hi,if_neg (by simp)]
end
end Go.Proofs.YtfljlmleiggmjaaGreatDoor
