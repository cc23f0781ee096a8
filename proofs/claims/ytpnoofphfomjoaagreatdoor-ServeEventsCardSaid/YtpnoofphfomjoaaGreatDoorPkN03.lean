/- Events -/
import Derived.BigQuiet
import Derived.Deep.QuietTactic
import Derived.Lib.SliceRun
import Derived.Test.YtpnoofphfomjoaaGreatDoorPkM27
import Derived.Test.YtpnoofphfomjoaaGreatDoorPkN01
set_option maxRecDepth 1000000
set_option maxHeartbeats 8000000
namespace Go.Proofs.YtpnoofphfomjoaaGreatDoor
section
open Go.RowKit Go.Maps
theorem Sl.ev {w:World} {B:Nat} {A:Option Addr} {es:List Ev} (h:Sl w B A (evCs es)) {k:Nat} {e:Ev} (hk:es[k]?=some e) :
 ∃ b off,A=some ⟨b,off,none⟩∧b<B∧w.cell? ⟨b,off+k*3,none⟩=some (.int .i64 e.1)∧w.cell? ⟨b,off+k*3+1,none⟩=some (.int .i64 e.2.1)∧w.cell? ⟨b,off+k*3+2,none⟩=some (.int .i64 e.2.2):=by
 have hl:=flat_length (fun e:Ev=>[Value.int .i64 e.1,.int .i64 e.2.1,.int .i64 e.2.2]) 3 (fun _=>rfl) es
 have hlt:k<es.length:=(List.getElem?_eq_some_iff.1 hk).1
 obtain ⟨b,off,rfl,hB,hc⟩:=h.open_ (by unfold evCs;rw [hl];omega)
 have h0:=flat_get (fun e:Ev=>[Value.int .i64 e.1,.int .i64 e.2.1,.int .i64 e.2.2]) 3 (fun _=>rfl) es k e hk
 refine ⟨b,off,rfl,hB,?_,?_,?_⟩
 · have:=hc (k*3+0) (.int .i64 e.1) (by unfold evCs;rw [h0 0 (by omega)];rfl)
   simpa using this
 · have:=hc (k*3+1) (.int .i64 e.2.1) (by unfold evCs;rw [h0 1 (by omega)];rfl)
   rwa [show off+(k*3+1)=off+k*3+1 by omega] at this
 · have:=hc (k*3+2) (.int .i64 e.2.2) (by unfold evCs;rw [h0 2 (by omega)];rfl)
   rwa [show off+(k*3+2)=off+k*3+2 by omega] at this
theorem first_same (es:List Ev) (A A':Option Addr) (c c':Nat) (w:World) (hs:Sl w w.heap.size A (evCs es)) (hs':Sl w w.heap.size A' (evCs es)) (hn:es.length≤maxLen) :
 Calls Tryz.prog 69 #[.slice A es.length c,.slice A' es.length c'] w fun e w'=>e=.returned (.int .i64 (-1))∧Below w.heap.size w w':=by
 unfold maxLen at hn
 have HS:=hide hs;have HS':=hide hs'
 clear hs hs'
 go_enter Tryz.func69,Tryz.ntmps69
 go_wp2
 go_loopw [5] (fun i wr=>∃ k:Nat,k≤es.length∧i=.int .i64 k∧Below w.heap.size w wr)
  (fun i _=>es.length - (intOf i).toNat)
 case atStart=>exact ⟨0,by omega,rfl,Below.refl _ _⟩
 case round =>
  obtain ⟨k,hk,rfl,hbr⟩:=hrel
  by_cases hlt:k<es.length
  · obtain ⟨r,hr⟩:∃ r,es[k]?=some r:=⟨_,List.getElem?_eq_getElem hlt⟩
    obtain ⟨b,off,rfl,hb,q0,q1,q2⟩:=(HS.out.below hbr).ev hr
    obtain ⟨b',off',rfl,hb',p0,p1,p2⟩:=(HS'.out.below hbr).ev hr
    have e1:(r.1 != r.1)=false:=by simp
    have e2:(r.2.1 != r.2.1)=false:=by simp
    have e3:(r.2.2 != r.2.2)=false:=by simp
    have hk0:(0:Int)≤(k:Int):=by omega
    have hkl:(k:Int)<(es.length:Int):=by omega
    clear hr
    go_wp2
    go_quiet (fail)
    go_wp2
    go_roundw
    case rel=>exact ⟨k+1,by omega,by go_num,below_drewN hbr _⟩
    case measure=>simp [intOf];omega
  · have hk':k=es.length:=by omega
    subst hk'
    go_wp2
    go_ret
    exact ⟨rfl,hbr⟩
theorem same_events (es:List Ev) (A A':Option Addr) (c c':Nat) (w:World) (hs:Sl w w.heap.size A (evCs es)) (hs':Sl w w.heap.size A' (evCs es)) (hn:es.length≤maxLen) :
 Calls Tryz.prog 25 #[.slice A es.length c,.slice A' es.length c'] w fun e w'=>e=.returned (.bool true)∧Below w.heap.size w w':=by
 have H:=hide (first_same es A A' c c' w hs hs' hn)
 clear hs hs' hn
 go_enter Tryz.func25,Tryz.ntmps25
 go_wp2_with fail
 refine H.out.mono ?_
 rintro e w1 ⟨rfl,hb⟩
 go_wp2
 go_ret
 exact ⟨rfl,hb⟩
def newT (w:World):Option (Nat × Nat):=some (w.heap.size+1,w.heap.size)
def TpSl (w:World) (es:List Ev) (v:Value):Prop:=∃ A,v=.slice A es.length es.length∧Sl w w.heap.size A (evCs es)
theorem all_any (P:Nat→Prop) (g m:Nat) (es:List Ev) (w:World) (ht:TpIn w P g m es) :
 Calls Tryz.prog 71 #[.pointer (some ⟨g,0,none⟩)] w fun e w'=>(∃ v,e=.returned v∧TpSl w' es v)∧∃ k,w'=w.drewN k:=by
 obtain ⟨v,n,D,h1,h2,h3,h4,h5,h6,h7,h8⟩:=ht
 obtain ⟨A,cap,rfl,hcap⟩:=own_slice h4
 have c0:w.cell? ⟨g,0,none⟩=some (.slice A es.length cap):=h1.cell (i:=0) rfl
 have hsl:=Sl.of_own h4
 have HSL:=hide hsl
 clear h1 h2 h3 h4 h5 h6 h7 h8 hsl
 go_enter Tryz.func71,Tryz.ntmps71
 go_wp2
 go_quiet (fail)
 go_wp2
 refine bodyPost_ret (results_tmp rfl _ _ _) rfl ?_
 exact ⟨⟨_,rfl,A,rfl,HSL.out⟩,_,rfl⟩
theorem evCs_length (es:List Ev):(evCs es).length=es.length*3:=flat_length (fun e:Ev=>[Value.int .i64 e.1,.int .i64 e.2.1,.int .i64 e.2.2]) 3 (fun _=>rfl) es
theorem evCs_one (es:List Ev):∀ u∈evCs es,u.oneCell'=true:=by
 intro u hu
 unfold evCs at hu
 obtain ⟨e,_,he⟩:=List.mem_flatMap.1 hu
 simp at he
 rcases he with rfl | rfl | rfl <;> rfl
def Evs (es:List Ev) (w:World) (e:Ending) (w':World):Prop:=∃ A c,e=.returned (.slice A es.length c)∧Sl w' w'.heap.size A (evCs es)∧Below w.heap.size w w'
theorem clone_any (es:List Ev) (v:Value) (w:World) (hs:TpSl w es v) (hn:es.length≤1000000) :
 Calls Tryz.prog 70 #[v] w (Evs es w):=by
 obtain ⟨A,rfl,hs⟩:=hs
 have hnil:∀ (w:World) (a:Option Addr) (n c n' c':Nat),(binOp .eql 56 (.slice a n c) (.slice none n' c')).run Tryz.prog w=.ok (.bool a.isNone) w:=fun w a n c n' c'=>Lib.run_eql_slice_nil w 56 123 a n c n' c' Tryz.underlying56
 rcases A with _ | a
 · have he:es=[]:=by
    rcases hs with h | ⟨b,off,hA,_⟩
    · have:=evCs_length es
      rw [h] at this
      exact List.eq_nil_of_length_eq_zero (by simp at this;omega)
    · cases hA
   subst he
   go_enter Tryz.func70,Tryz.ntmps70
   go_wp2
   go_ret
   exact ⟨none,0,rfl,.inl rfl,Below.refl _ _⟩
 · have hc2:∀ j u,(evCs es)[j]?=some u→(w.alloc (.cells #[] 123)).cell? (a.add j)=some u:=by
    intro j u hu
    rcases hs with h | ⟨b,off,hA,hlt,hc⟩
    · rw [h] at hu;simp at hu
    · cases hA
      have e:(⟨b,off,none⟩:Addr).add j=⟨b,off+j,none⟩:=by unfold Addr.add;split <;> simp_all
      rw [e]
      exact ((bl_alloc (Below.refl w.heap.size w) (.cells #[] 123)).cell (p:=⟨b,off+j,none⟩) hlt).trans (hc j u hu)
   have HC:=hide hc2
   clear hs hc2
   obtain ⟨i0,hi,hz0,hz1,hz2⟩:=info_parts ev_info
   go_enter Tryz.func70,Tryz.ntmps70
   go_wp2_with (at_builtin;refine wpList_append_own _ rfl (.tmp 5) (.tmp 6) 56 rfl w.heap.size 123 i0 (.agg #[.int .i64 0,.int .i64 0,.int .i64 0]) 3 24 Tryz.underlying56 hi hz0 hz1 hz2 rfl (by decide) (.slice (some ⟨w.heap.size,0,none⟩) 0 0) 0 [] rfl (own_of_blk (xs:=[]) (Blk.new _ _ _) (Nat.le_refl _) rfl (by unfold maxLen;omega)) a es.length es.length (evCs es) rfl ?c1 ?c2 ?c3 ?c4 ?c5 ?c6 ?_)
   case c1=>exact evCs_length es
   case c2=>exact HC.out
   case c3=>exact evCs_one es
   case c4=>unfold maxLen;omega
   case c5=>omega
   case c6=>simp
   intro v3 w3 hown3 hgrow3 _
   have hb3:Below w.heap.size w w3:=(bA).grown hgrow3 (by simp) (fun k hk=>by simp [Value.ownBlock] at hk;omega)
   have hown4:w3.ownsRow w.heap.size 123 3 v3 es.length (evCs es):=by simpa using hown3
   obtain ⟨A3,c3,rfl,_⟩:=own_slice hown4
   have HS:=hide (Sl.of_own hown4)
   clear hown3 hgrow3 hown4
   go_wp2
   go_ret
   exact ⟨A3,c3,rfl,HS.out,hb3⟩
theorem events_any (P:Nat→Prop) (g m:Nat) (es:List Ev) (w:World) (ht:TpIn w P g m es) (hn:es.length≤1000000) :
 Calls Tryz.prog 26 #[.pointer (some ⟨g,0,none⟩)] w (Evs es w):=by
 have H:=hide (all_any P g m es w ht)
 clear ht
 go_enter Tryz.func26,Tryz.ntmps26
 go_wp2_with fail
 refine H.out.mono ?_
 rintro e w1 ⟨⟨v,rfl,hs⟩,k,rfl⟩
 have hv:∃ A,v=.slice A es.length es.length:=by obtain ⟨A,rfl,_⟩:=hs;exact ⟨A,rfl⟩
 obtain ⟨A,rfl⟩:=hv
 go_wp2_with fail
 refine (clone_any es _ _ hs hn).mono ?_
 rintro e w2 ⟨A2,c2,rfl,hs2,hb2⟩
 go_wp2
 go_ret
 exact ⟨A2,c2,rfl,hs2,below_of_drewN hb2⟩
end
end Go.Proofs.YtpnoofphfomjoaaGreatDoor
