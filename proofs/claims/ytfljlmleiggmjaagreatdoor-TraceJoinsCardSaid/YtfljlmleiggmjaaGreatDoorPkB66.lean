/- LawTrace3 -/
import Derived.BigQuiet
import Derived.Deep.AppendLies
import Derived.Deep.QuietTactic
import Derived.Deep.RegionHeld
import Derived.Deep.RegionHeld3
import Derived.Deep.RegionLaw
import Derived.Laws.Externs
import Derived.OrdersHeld
import Derived.OrdersIn
import Derived.OwnWalkIn
import Derived.Shelf.Bits.Mul64
import Derived.Shelf.Spec.BitsCarry
import Derived.Test.YtfljlmleiggmjaaGreatDoorPkB12
import Derived.Test.YtfljlmleiggmjaaGreatDoorPkB15
import Derived.Test.YtfljlmleiggmjaaGreatDoorPkB19
import Derived.Test.YtfljlmleiggmjaaGreatDoorPkB22
import Derived.Test.YtfljlmleiggmjaaGreatDoorPkB48
set_option maxRecDepth 1000000
set_option maxHeartbeats 8000000
namespace Go.Proofs.YtfljlmleiggmjaaGreatDoor
section
open Go.RowKit Go.Shelf
theorem txt_nospace (n:Int):(32:UInt8) ∉ txt n:=by
 unfold txt dgB
 intro h
 rcases List.mem_append.1 h with h | h
 · split at h
   · simp at h
   · simp at h
 · obtain ⟨d,hd,e⟩:=List.mem_map.1 h
   have h1:=dr_lt _ d (List.mem_reverse.1 hd)
   have h2:=congrArg UInt8.toNat e
   rw [UInt8.toNat_ofNat'] at h2
   have h3:(32:UInt8).toNat=32:=rfl
   omega
theorem lett_nospace (k:Int):lettB k≠32:=by
 unfold lettB
 repeat (first | (split;decide) | decide)
theorem txtE_nospace (e:Ev):(32:UInt8) ∉ txtE e:=by
 have h1:=txt_nospace e.1
 have h2:=txt_nospace e.2.1
 have h3:=txt_nospace e.2.2
 have h4:=lett_nospace e.1
 unfold txtE
 split
 · simp only [List.mem_append,List.mem_singleton,not_or]
   exact ⟨⟨⟨fun h=>h4 h.symm,h2⟩,by decide⟩,h3⟩
 · split
   · simp only [List.mem_append,List.mem_singleton,not_or]
     exact ⟨fun h=>h4 h.symm,h2⟩
   · split
     · decide
     · simp only [List.mem_append,List.mem_singleton,not_or]
       exact ⟨⟨⟨⟨⟨by decide,h1⟩,by decide⟩,h2⟩,by decide⟩,h3⟩
theorem txtE_count (e:Ev):(txtE e).count 32=0:=List.count_eq_zero.2 (txtE_nospace e)
theorem fmtT_count (e:Ev) (l:List Ev):(fmtT (e::l)).count 32=l.length:=by
 have h:∀ l:List Ev,(l.flatMap fun x=>(32:UInt8)::txtE x).count 32=l.length:=by
  intro l
  induction l with
  | nil=>rfl
  | cons x l ih=>rw [List.flatMap_cons,List.count_append,ih,List.count_cons,txtE_count,List.length_cons];simp;omega
 unfold fmtT
 rw [List.count_append,txtE_count,h]
 omega
theorem fmtT_app (l m:List Ev) (hl:l≠[]) (hm:m≠[]):fmtT (l++m)=fmtT l++[32]++fmtT m:=by
 cases l with
 | nil=>exact absurd rfl hl
 | cons x l =>
   cases m with
   | nil=>exact absurd rfl hm
   | cons y m=>simp [fmtT]
theorem countS_any (s:List UInt8) (w:World):Calls Tryz.prog 26 #[.string (strOf s),.string { data:=#[32] }] w fun e w'=>e=.returned (.int .i64 (s.count 32:Nat))∧w'=w:=by
 have h:=Any.strings_Count_one Tryz.lays138 (strOf s) 32 w
 have e:(strOf s).data.toList=s:=by simp [strOf]
 rw [e] at h
 exact h
theorem ev_onto {base k:Nat} {v:Value} {xs:List Ev} {w:World} (hown:w.ownsRow base 66 3 v k (evCs xs)) (_hk:xs.length=k) (hb:base≤w.heap.size) (es:List Ev) (A:Option Addr) (c:Nat) (hs:Sl w w.heap.size A (evCs es)) (h0:es≠[]) (hl:k+es.length≤100000) :
 ∃ A2 c2 w2,(Builtin.append_ #[27,27] 27 #[v,.slice A es.length c]).run Tryz.prog w=.ok (.slice A2 (k+es.length) c2) w2∧w2.ownsRow base 66 3 (.slice A2 (k+es.length) c2) (k+es.length) (evCs (xs++es))∧∀ w0:World,Below w0.heap.size w0 w→w0.heap.size≤base→Below w0.heap.size w0 w2:=by
 obtain ⟨i0,hi,hz0,hz1,hz2⟩:=info_parts ev_info
 have hlen:(evCs es).length=es.length*3:=flat_length (fun e:Ev=>[Value.int .i64 e.1,.int .i64 e.2.1,.int .i64 e.2.2]) 3 (fun _=>rfl) es
 have hel:0<es.length:=List.length_pos_iff.2 h0
 obtain ⟨b,off,rfl,hbb,hc⟩:=hs.open_ (by rw [hlen];omega)
 obtain ⟨g3,c3,w3,hr3,hown3,hgrow3,-,-⟩:=run_append_lies (P:=Tryz.prog) w 27 27 base 66 i0 (.agg #[.int .i64 0,.int .i64 0,.int .i64 0]) 3 24 Tryz.underlying27 hi hz0 hz1 hz2 rfl (by decide) v k (evCs xs) hown ⟨b,off,none⟩ es.length c (evCs es) hlen (fun j u hu=>by
  rw [show (⟨b,off,none⟩:Addr).add j=⟨b,off+j,none⟩ from by unfold Addr.add;split <;> simp_all]
  exact hc j u hu) (evCs_one es) hel (by unfold maxLen;omega) (by omega) hb _ rfl
 have e:evCs xs++evCs es=evCs (xs++es):=by simp [evCs]
 rw [e] at hown3
 exact ⟨_,c3,w3,hr3,hown3,fun w0 h0 hB=>h0.grown hgrow3 h0.size (fun j hj=>Nat.le_trans hB (own_base hown hj))⟩
section
variable (es ms:List Ev) (A:Option Addr) (c:Nat) (A2:Option Addr) (c2:Nat) (w:World)
variable (hs:Sl w w.heap.size A (evCs es)) (hj:∀ e∈es,EvJ e) (hs2:Sl w w.heap.size A2 (evCs ms)) (hj2:∀ e∈ms,EvJ e) (hfix:Fixed w) (hg:1<w.heap.size) (hp:PT w)
include hs hj hs2 hj2 hfix hg hp
theorem lawJoins22:Calls Tryz.prog 8 #[.slice A es.length c,.slice A2 ms.length c2] w fun e w'=>e=.returned (.bool true)∧Below w.heap.size w w':=by
 have HAL:=hide (fun (w':World) (hb:Below w.heap.size w w')=>alive22 w' (hfix.below hb hg) (Nat.lt_of_lt_of_le hg hb.size) (hp.step hb))
 have other:Calls Tryz.prog 11 #[] w fun e w'=>e=.returned (.bool true)∧Below w.heap.size w w':=HAL.out w (Below.refl _ _)
 have HO:=hide other
 clear other
 by_cases h1:200<(es.length:Int)
 · clear hs hj hs2 hj2 hfix hg hp
   go_enter Tryz.func8,Tryz.ntmps8
   go_wp2_with fail
   refine HO.out.mono ?_
   rintro e w1 ⟨rfl,hb1⟩
   have HB:=hide hb1
   clear hb1
   go_wp2
   go_ret
   exact ⟨rfl,HB.out⟩
 by_cases h2:200<(ms.length:Int)
 · clear hs hj hs2 hj2 hfix hg hp
   go_enter Tryz.func8,Tryz.ntmps8
   go_wp2_with fail
   refine HO.out.mono ?_
   rintro e w1 ⟨rfl,hb1⟩
   have HB:=hide hb1
   clear hb1
   go_wp2
   go_ret
   exact ⟨rfl,HB.out⟩
 by_cases h3:es.length=0
 · rw [h3] at h1 ⊢
   clear hs hj hs2 hj2 hfix hg hp
   go_enter Tryz.func8,Tryz.ntmps8
   go_wp2_with fail
   refine HO.out.mono ?_
   rintro e w1 ⟨rfl,hb1⟩
   have HB:=hide hb1
   clear hb1
   go_wp2
   go_ret
   exact ⟨rfl,HB.out⟩
 by_cases h4:ms.length=0
 · rw [h4] at h2 ⊢
   have h3':((es.length:Int) == 0)=false:=by rw [beq_eq_false_iff_ne];omega
   clear hs hj hs2 hj2 hfix hg hp
   go_enter Tryz.func8,Tryz.ntmps8
   go_wp2_with fail
   refine HO.out.mono ?_
   rintro e w1 ⟨rfl,hb1⟩
   have HB:=hide hb1
   clear hb1
   go_wp2
   go_ret
   exact ⟨rfl,HB.out⟩
 have hne:es≠[]:=fun e=>h3 (by rw [e];rfl)
 have hne2:ms≠[]:=fun e=>h4 (by rw [e];rfl)
 have h3':((es.length:Int) == 0)=false:=by rw [beq_eq_false_iff_ne];omega
 have h4':((ms.length:Int) == 0)=false:=by rw [beq_eq_false_iff_ne];omega
 have HF:=hide (fun (w':World) (hb:Below w.heap.size w w')=>tFormat_any es hj (by omega) A c w' ((hs.below hb).more hb.size) (hp.step hb))
 have HF2:=hide (fun (w':World) (hb:Below w.heap.size w w')=>tFormat_any ms hj2 (by omega) A2 c2 w' ((hs2.below hb).more hb.size) (hp.step hb))
 have HF3:=hide (fun (w':World) (B:Option Addr) (k:Nat) (hb:Below w.heap.size w w') (h:Sl w' w'.heap.size B (evCs (es++ms)))=>by
  have:=tFormat_any (es++ms) (fun e he=>(List.mem_append.1 he).elim (hj e) (hj2 e)) (by rw [List.length_append];omega) B k w' h (hp.step hb)
  rw [fmtT_app es ms hne hne2,List.length_append] at this
  exact this)
 have HS:=hide hs;have HS2:=hide hs2
 have z1:(strOf (fmtT es)).size≤30000:=by rw [strOf_size];have:=fmtT_len hj;omega
 have z2:(strOf (fmtT ms)).size≤30000:=by rw [strOf_size];have:=fmtT_len hj2;omega
 have hcnt:((fmtT es).count 32:Int)=(es.length:Int) - 1:=by
  cases es with
  | nil=>exact absurd rfl hne
  | cons e l=>rw [fmtT_count,List.length_cons];omega
 have HCN:=hide (fun w=>countS_any (fmtT es) w)
 rw [hcnt] at HCN
 have hsum:strOf (fmtT es++[32]++fmtT ms)=strOf (fmtT es)++{ data:=#[32] }++strOf (fmtT ms):=by
  rw [← strOf_app,← strOf_app];rfl
 rw [hsum] at HF3
 have HNE:=hide hne;have HNE2:=hide hne2
 obtain ⟨s1,hs1⟩:∃ s1,s1=strOf (fmtT es):=⟨_,rfl⟩
 obtain ⟨s2,hs2⟩:∃ s2,s2=strOf (fmtT ms):=⟨_,rfl⟩
 rw [← hs1] at HF HF3 HCN z1
 rw [← hs2] at HF2 HF3 z2
 have HL:=hide (And.intro h1 h2)
 clear hs hj hj2 hfix hg hp hne hne2 hcnt hsum hs1 h3 h4
 clear hs2
 go_enter Tryz.func8,Tryz.ntmps8
 go_wp2_with fail
 refine (HF.out w (Below.refl _ _)).mono ?_
 rintro e w1 ⟨rfl,hb1⟩
 have HB1:=hide hb1
 clear hb1
 go_wp2_with fail
 refine (HF2.out w1 HB1.out).mono ?_
 rintro e w2 ⟨rfl,hb2⟩
 have HB2:=hide (bl_step HB1.out hb2)
 clear hb2
 go_wp2_with fail
 refine (HAL.out w2 HB2.out).mono ?_
 rintro e w3 ⟨rfl,hb3⟩
 have hB3:=bl_step HB2.out hb3
 have hown4:(w3.alloc (.cells #[] 66)).ownsRow w3.heap.size 66 3 (.slice (some ⟨w3.heap.size,0,none⟩) 0 0) 0 (evCs []):=World.ownsRow_lit w3 #[] 0 (Nat.le_refl _) (by unfold maxLen;omega) rfl
 have hb4:=bl_alloc (Below.refl w3.heap.size w3) (.cells #[] 66)
 have hB4:=bl_step hB3 hb4
 obtain ⟨A5,c5,w5,hr5,hown5,hbl5⟩:=ev_onto hown4 rfl hb4.size es A c ((HS.out.below hB4).more hB4.size) HNE.out (by have:=HL.out;omega)
 have hb5:=hbl5 w3 hb4 (Nat.le_refl _)
 have hB5:=bl_step hB3 hb5
 obtain ⟨A6,c6,w6,hr6,hown6,hbl6⟩:=ev_onto hown5 (by simp) hb5.size ms A2 c2 ((HS2.out.below hB5).more hB5.size) HNE2.out (by have:=HL.out;omega)
 have hb6:=hbl6 w3 hb5 (Nat.le_refl _)
 rw [Nat.zero_add] at hr5
 rw [Nat.zero_add] at hr6 hown6
 rw [List.nil_append] at hown6
 have HB6:=hide (bl_step hB3 hb6)
 have F6:=hide (HF3.out w6 A6 c6 HB6.out (Sl.of_own hown6))
 clear hb3 hB3 hown4 hb4 hB4 hown5 hbl5 hb5 hB5 hown6 hbl6 hb6
 go_wp2_with (first
  | (at_builtin;refine app_runS (.tmp 32) (.tmp 33) 27 rfl rfl _ _ rfl rfl hr5 ?_)
  | (at_builtin;refine app_runS (.tmp 34) (.tmp 35) 27 rfl rfl _ _ rfl rfl hr6 ?_))
 refine F6.out.mono ?_
 rintro e w7 ⟨rfl,hb7⟩
 have HB7:=hide (bl_step HB6.out hb7)
 clear hb7 hr5 hr6
 go_wp2_with fail
 refine (HCN.out _).mono ?_
 rintro e w8 ⟨rfl,rfl⟩
 go_wp2
 go_ret
 exact ⟨by simp,HB7.out⟩
end
end
end Go.Proofs.YtfljlmleiggmjaaGreatDoor
