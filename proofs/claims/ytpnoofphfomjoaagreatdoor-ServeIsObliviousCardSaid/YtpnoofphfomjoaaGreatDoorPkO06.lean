/- TapeEq -/
import Derived.Laws.StructEq
import Derived.Test.YtpnoofphfomjoaaGreatDoorPkM27
import Derived.Test.YtpnoofphfomjoaaGreatDoorPkO02
set_option maxRecDepth 1000000
set_option maxHeartbeats 8000000
namespace Go.Proofs.YtpnoofphfomjoaaGreatDoor
section
open Go.RowKit Go.Maps
theorem TpIn.keep {w w':World} {P Q:Nat→Prop} {g m:Nat} {es:List Ev} (h:TpIn w P g m es) (hk:KeepP Q w w') (hQ:∀ k,k<w.heap.size→¬ P k→Q k):TpIn w' P g m es:=by
 obtain ⟨v,n,D,h1,h2,h3,h4,h5,h6,h7,h8⟩:=h
 have hlt:=h8.lt
 refine ⟨v,n,D,h1.kept hk (hQ g h1.lt h2),h2,h3,?_,h5,h6,h7,?_⟩
 · refine ⟨h4.1,?_⟩
   rcases h4.2 with h0 | ⟨g',cap,cur,hv,hb1,hh,r⟩
   · exact .inl h0
   · refine .inr ⟨g',cap,cur,hv,hb1,(hk.block g' (hQ g' (Blk.lt hh) ?_)).trans hh,r⟩
     exact (h6 g' (by rw [hv];simp [Value.ownBlock])).1
 · obtain ⟨es',clock,hb,F,hs,hD⟩:=h8
   exact ⟨es',clock,(hk.block m (hQ m hlt h3)).trans hb,F,hs,hD⟩
theorem equal_events (es:List Ev) (A A':Option Addr) (c c':Nat) (w:World) (hs:Sl w w.heap.size A (evCs es)) (hs':Sl w w.heap.size A' (evCs es)) (hn:es.length≤1000000) :
 Calls Tryz.prog 80 #[.slice A es.length c,.slice A' es.length c'] w fun e w'=>e=.returned (.bool true)∧Below w.heap.size w w':=by
 have HS:=hide hs;have HS':=hide hs'
 clear hs hs'
 go_enter Tryz.func80,Tryz.ntmps80
 go_wp2
 go_loopw [13] (fun i wr=>∃ k:Nat,k≤es.length∧i=.int .i64 k∧Below w.heap.size w wr)
  (fun i _=>es.length - (intOf i).toNat)
 case atStart=>exact ⟨0,by omega,rfl,Below.refl _ _⟩
 case round =>
  obtain ⟨k,hk,rfl,hbr⟩:=hrel
  by_cases hlt:k<es.length
  · obtain ⟨r,hr⟩:∃ r,es[k]?=some r:=⟨_,List.getElem?_eq_getElem hlt⟩
    obtain ⟨b,off,rfl,hb,q0,q1,q2⟩:=(HS.out.below hbr).ev hr
    obtain ⟨b',off',rfl,hb',p0,p1,p2⟩:=(HS'.out.below hbr).ev hr
    have hk0:(0:Int)≤(k:Int):=by omega
    have hkl:(k:Int)<(es.length:Int):=by omega
    clear hr
    go_wp2
    go_quiet (fail)
    go_wp2
    go_roundw
    case rel=>exact ⟨k+1,by omega,by go_num,below_drewN hbr _⟩
    case measure=>simp [intOf];omega
  · have hk':k=es.length:=by omega
    subst hk'
    go_wp2
    go_ret
    exact ⟨rfl,hbr⟩
theorem tequal_any (P Q:Nat→Prop) (g m g' m':Nat) (es:List Ev) (w:World) (ht:TpIn w P g m es) (hu:TpIn w Q g' m' es) (hn:es.length≤1000000) :
 Calls Tryz.prog 35 #[.pointer (some ⟨g,0,none⟩),.pointer (some ⟨g',0,none⟩)] w fun e w'=>e=.returned (.bool true)∧Below w.heap.size w w':=by
 have H:=hide (all_any P g m es w ht)
 have H2:=hide (fun k=>all_any Q g' m' es (w.drewN k) (hu.step (bl_drewN (Below.refl _ _) k)))
 clear ht hu
 go_enter Tryz.func35,Tryz.ntmps35
 go_wp2_with fail
 refine H.out.mono ?_
 rintro e w1 ⟨⟨v,rfl,A,rfl,hs⟩,k,rfl⟩
 have HS:=hide hs
 clear hs
 go_wp2_with fail
 refine (H2.out k).mono ?_
 rintro e w2 ⟨⟨v,rfl,A',rfl,hs'⟩,k',rfl⟩
 have HS':=hide hs'
 clear hs'
 go_wp2_with fail
 refine (equal_events es A A' _ _ (w.drewN (k+k')) (show Sl (w.drewN (k+k')) (w.drewN (k+k')).heap.size A (evCs es) from HS.out) (show Sl (w.drewN (k+k')) (w.drewN (k+k')).heap.size A' (evCs es) from HS'.out) hn).mono ?_
 rintro e w3 ⟨rfl,hb⟩
 go_wp2
 go_ret
 exact ⟨rfl,below_of_drewN hb⟩
end
end Go.Proofs.YtpnoofphfomjoaaGreatDoor
