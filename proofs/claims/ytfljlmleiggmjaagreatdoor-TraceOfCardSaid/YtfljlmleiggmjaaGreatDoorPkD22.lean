/- Poly -/
import Derived.Test.YtfljlmleiggmjaaGreatDoorPkD04
import Derived.Test.YtfljlmleiggmjaaGreatDoorPkD21
set_option maxRecDepth 1000000
set_option maxHeartbeats 8000000
namespace Go.Proofs.YtfljlmleiggmjaaGreatDoor
open Go.Proofs.Tryz
section
open Go.RowKit
def Z4(ps:List Pt)(i:Nat):Pt:=ps.getD i (0,0)
def Tq(ps:List Pt):Prop:=∀ p∈ps,PJ p
theorem Tq.at_{ps:List Pt}(h:Tq ps)(i:Nat):PJ (Z4 ps i):=by
 unfold Z4;rw [List.getD_eq_getElem?_getD];cases hi:ps[i]? with
 | none=>exact ⟨⟨by decide,by decide⟩,⟨by decide,by decide⟩⟩
 | some p=>exact h p (List.mem_of_getElem? hi)
theorem Ej{ps:List Pt}{i:Nat}(hi:i<ps.length):ps[i]?=some (Z4 ps i):=by
 unfold Z4;rw [List.getD_eq_getElem?_getD,List.getElem?_eq_getElem hi];rfl
def Z5(ps:List Pt):Int:=if 3<=ps.length/\ps.length<=64 then (ZF (Z4 ps 0) (Z4 ps 1) (Z4 ps 2)).sign else 0
theorem XE{w:World}{B b off:Nat}{ps:List Pt}(h:Sl w B (some ⟨b,off,none⟩) (Zc ps)){k:Nat}(hk:k<ps.length):
 w.cell? ⟨b,off+k*2,none⟩=some (.int .i64 (Z4 ps k).1)/\w.cell? ⟨b,off+k*2+1,none⟩=some (.int .i64 (Z4 ps k).2):=by
 obtain ⟨b',off',e,_,h1,h2⟩:=h.pt (Ej hk);cases e;exact ⟨h1,h2⟩
theorem Vn{w:World}{B:Nat}{A:Option Addr}{ps:List Pt}(h:Sl w B A (Zc ps))(hn:0<ps.length):∃ b off,A=some ⟨b,off,none⟩/\b<B:=by
 obtain ⟨b,off,e,hb,_,_⟩:=h.pt (Ej hn);exact ⟨b,off,e,hb⟩
theorem Sk(ps:List Pt)(hps:Tq ps)(hn:ps.length<=10000)(A:Option Addr)(c:Nat)(w:World)(hs:Sl w w.heap.size A (Zc ps))(hw:MW w):
 Calls prog 246 #[.slice A ps.length c] w fun e w'=>e=.returned (.int .i64 (Z5 ps))/\Below w.heap.size w w':=by
 by_cases h3:ps.length<3
 · have h3i:((ps.length:Nat):Int)<3:=(by omega);have ho:Z5 ps=0:=(by unfold Z5;rw [if_neg (by omega)]);rw [ho];clear hps hs hw ho;go_enter func246,ntmps246;go_wp2;go_ret;exact ⟨rfl,Below.refl _ _⟩
 · have h3i:¬ ((ps.length:Nat):Int)<3:=by omega
   by_cases h64:64<ps.length
   · have zwu:(64:Int)<((ps.length:Nat):Int):=(by omega);have ho:Z5 ps=0:=(by unfold Z5;rw [if_neg (by omega)]);rw [ho];clear hps hs hw ho;go_enter func246,ntmps246;go_wp2;go_ret;exact ⟨rfl,Below.refl _ _⟩
   · have zwu:¬ (64:Int)<((ps.length:Nat):Int):=(by omega);have ho:Z5 ps=(ZF (Z4 ps 0) (Z4 ps 1) (Z4 ps 2)).sign:=(by unfold Z5;rw [if_pos (by omega)]);rw [ho];obtain ⟨b,off,rfl,hb⟩:=Vn hs (by omega);obtain ⟨a0,a1⟩:=XE hs (k:=0) (by omega);obtain ⟨b0,b1⟩:=XE hs (k:=1) (by omega);obtain ⟨c0,c1⟩:=XE hs (k:=2) (by omega);have l0:0<ps.length:=(by omega);have l1:(1:Int)<((ps.length:Nat):Int):=(by omega);have l2:(2:Int)<((ps.length:Nat):Int):=by omega
     have HO:Hid (∀ wk,Below w.heap.size w wk->Calls prog 187 #[.agg #[.int .i64 (Z4 ps 0).1,.int .i64 (Z4 ps 0).2],.agg #[.int .i64 (Z4 ps 1).1,.int .i64 (Z4 ps 1).2],.agg #[.int .i64 (Z4 ps 2).1,.int .i64 (Z4 ps 2).2]] wk fun e w'=>e=.returned (.int .i64 (ZF (Z4 ps 0) (Z4 ps 1) (Z4 ps 2)).sign)/\Below wk.heap.size wk w') :=
      hide fun wk hk=>UF _ _ _ (hps.at_ 0) (hps.at_ 1) (hps.at_ 2) wk (hw.step hk)
     generalize hos:(ZF (Z4 ps 0) (Z4 ps 1) (Z4 ps 2)).sign=os at *;generalize hpa:Z4 ps 0=pa at *;generalize hpb:Z4 ps 1=pb at *;generalize hpc:Z4 ps 2=pc at *;obtain ⟨a,a'⟩:=pa;obtain ⟨b2,b'⟩:=pb;obtain ⟨c2,c'⟩:=pc;dsimp only at *;simp only [Nat.zero_mul,Nat.add_zero,Nat.one_mul,Nat.reduceMul] at a0 a1 b0 b1 c0 c1;clear hos hpa hpb hpc ho hs hps hw;have h00:Ns w b b b a a' b2 b' c2 c' w\/True:=.inr trivial;clear h00;have hbd:=ZV (Below.refl w.heap.size w);go_enter func246,ntmps246;go_wp2
     go_region_held3 (fun w'=>(Below w.heap.size w w'/\w'.cell? ⟨b,off,none⟩=some (.int .i64 a)/\w'.cell? ⟨b,off+1,none⟩=some (.int .i64 a'))/\(w'.cell? ⟨b,off+2,none⟩=some (.int .i64 b2)/\w'.cell? ⟨b,off+2+1,none⟩=some (.int .i64 b'))/\w'.cell? ⟨b,off+4,none⟩=some (.int .i64 c2)/\w'.cell? ⟨b,off+4+1,none⟩=some (.int .i64 c'))
      (first|exact ⟨⟨hbd,a0,a1⟩,⟨b0,b1⟩,c0,c1⟩|exact ⟨⟨Z9 hbd (by assumption),(hb1.cell (p:=⟨b,_,none⟩) hb).trans a0,(hb1.cell (p:=⟨b,_,none⟩) hb).trans a1⟩,⟨(hb1.cell (p:=⟨b,_,none⟩) hb).trans b0,(hb1.cell (p:=⟨b,_,none⟩) hb).trans b1⟩,(hb1.cell (p:=⟨b,_,none⟩) hb).trans c0,(hb1.cell (p:=⟨b,_,none⟩) hb).trans c1⟩)
      (first
        | (go_at_call 187;((with_reducible refine (HO.out _ hbd).mono ?_);rintro e w' ⟨rfl,hb1⟩)))
     all_goals
      go_wp2;go_ret;exact ⟨rfl,Z9 hbd hb1⟩
end
end Go.Proofs.YtfljlmleiggmjaaGreatDoor