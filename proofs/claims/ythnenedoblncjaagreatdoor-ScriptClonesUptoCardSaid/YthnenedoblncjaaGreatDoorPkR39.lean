/- Serve Req21 SkipB21 -/
import Derived.Defers
import Derived.Laws.BytesArg
import Derived.Test.YthnenedoblncjaaGreatDoorPkR10
import Derived.Test.YthnenedoblncjaaGreatDoorPkR32
set_option maxRecDepth 1000000
set_option maxHeartbeats 8000000
namespace Go.Proofs.YthnenedoblncjaaGreatDoor
open Go.Proofs.Tryz
section
open Go.RowKit Go.Shelf Go.Maps
def Uc(w:World):Option (Nat × Nat)->Prop
 | none=>True
 | some u=>Z7 w u.1 377 #[.slice none 0 0,.map (some u.2)]/\w.ownsMap (H:=Unit) prog 3 (plainElem prog 3) u.2 0 (.map [])
def NT(t:Option (Nat × Nat))(n:Nat)(k:Nat):Prop:=k<n/\∀ u,t=some u->k≠u.1/\k≠u.2
theorem Uc.tp{w:World}{t:Option (Nat × Nat)}{P:Nat->Prop}(h:Uc w t)(hP:∀ k,P k->∀ u,t=some u->k≠u.1/\k≠u.2):Tp w P t []:=by
 cases t with
 | none=>trivial
 | some u=>exact ⟨.slice none 0 0,0,.map [],h.1,fun hp=>(hP _ hp u rfl).1 rfl,fun hp=>(hP _ hp u rfl).2 rfl,World.ownsRow_nil _ _ _ _,by simp [Value.ownBlock],by simp [Value.ownBlock],Nat.le_refl _,h.2⟩
theorem Uc.step{w w':World}{t:Option (Nat × Nat)}(h:Uc w t)(hb:Below w.heap.size w w'):Uc w' t:=by
 cases t with
 | none=>trivial
 | some u=>exact ⟨h.1.step hb,h.2.kept (below_grown hb) (by simp)⟩
theorem Uc.off{w:World}{t:Option (Nat × Nat)}(h:Uc w t){b o:Nat}{v:Value}(hc:w.cell? ⟨b,o,none⟩=some v)(hv:(∀ A n c,v≠.slice A n c)/\∀ m,v≠.map m):NT t w.heap.size b:=by
 refine ⟨Zz hc,?_⟩;rintro u rfl;refine ⟨fun e=>?_,fun e=>?_⟩
 · have hb:=h.1;rw [<- e] at hb;rw [cell_of_row w b o _ _ (0,0) hb] at hc;rcases o with _|_|o
   · simp at hc;exact hv.1 _ _ _ hc.symm
   · simp at hc;exact hv.2 _ hc.symm
   · simp at hc
 · have hm:=h.2;rw [<- e] at hm;obtain ⟨es,clock,hh,_⟩:=hm;simp [World.cell?,hh] at hc
theorem Uc.lX{w:World}{t:Option (Nat × Nat)}(h:Uc w t){B:Nat}{A:Option Addr}{xs:List Value}(hs:Sl w B A xs)(hx:∀ v,xs[0]?=some v->(∀ A n c,v≠.slice A n c)/\∀ m,v≠.map m):Wp w (NT t w.heap.size) A xs:=by
 rcases hs with h0|⟨b,off,hA,hb,hc⟩
 · exact .inl h0
 · cases xs with
   | nil=>exact .inl rfl
   | cons x xs=>exact .inr ⟨b,off,hA,h.off (hc 0 x rfl) (hx x rfl),hc⟩
theorem uU(rs:List Rg):∀ v,(rgCells rs)[0]?=some v->(∀ A n c,v≠.slice A n c)/\∀ m,v≠.map m:=by
 intro v hv;cases rs with
 | nil=>simp [rgCells] at hv
 | cons r rs=>simp [rgCells,Rg.cells] at hv;subst hv;exact ⟨fun _ _ _ h=>(by cases h),fun _ h=>(by cases h)⟩
theorem uR(ps:List (Int × Int)):∀ v,(Zl ps)[0]?=some v->(∀ A n c,v≠.slice A n c)/\∀ m,v≠.map m:=by
 intro v hv;cases ps with
 | nil=>simp [Zl] at hv
 | cons r rs=>simp [Zl] at hv;subst hv;exact ⟨fun _ _ _ h=>(by cases h),fun _ h=>(by cases h)⟩
theorem aM(ps:List ((Int × Int) × Int)):∀ v,(XC ps)[0]?=some v->(∀ A n c,v≠.slice A n c)/\∀ m,v≠.map m:=by
 intro v hv;cases ps with
 | nil=>simp [XC] at hv
 | cons r rs=>simp [XC] at hv;subst hv;exact ⟨fun _ _ _ h=>(by cases h),fun _ h=>(by cases h)⟩
theorem Ib(bs:List Int)(n:Nat):LW (XV bs n):=by
 intro p hp;obtain ⟨i,_,rfl⟩:=List.mem_map.1 hp;unfold UF VO wrap64;exact ⟨⟨by dsimp only;omega,by dsimp only;omega⟩,by dsimp only;omega,by dsimp only;omega⟩
theorem KO:∀ (rs:List Rg) (bs:List Int),∀ g∈Yg rs bs,LW g.2.2/\g.2.2.length<=10000
 | [],_,g,hg=>by cases hg
 | r::rs,bs,g,hg=>by
   unfold Yg at hg;rcases List.mem_cons.1 hg with rfl|hg
   · exact ⟨Ib _ _,by rw [Zj];exact Nat.le_trans (OX _) (by decide)⟩
   · exact KO rs _ g hg
theorem le8{l:List Int}(hb:By l)(hl:l.length<=8):Ua (le l):=by
 obtain ⟨b0,b1⟩:=Cq l hb;generalize le l=L at b0 b1;generalize l.length=k at hl b1;have hk:k=0\/k=1\/k=2\/k=3\/k=4\/k=5\/k=6\/k=7\/k=8:=by omega
 exact ⟨b0,by rcases hk with rfl|rfl|rfl|rfl|rfl|rfl|rfl|rfl|rfl <;> simp at b1 <;> omega⟩
theorem Gs{bs:List Int}{q:Rq}(hby:By bs)(hd:Zr bs=(q,0)):LW q.ps/\(∀ x∈q.qs,PJ x.1/\Ua x.2)/\(∀ g∈q.gs,LW g.2.2/\g.2.2.length<=10000)/\ZM q.h.op q.h.vs q.h.rs q.h.ZY=0:=by
 unfold Zr at hd
 by_cases hc:Y7 bs=0
 · rw [if_pos hc] at hd;have hq:Um (ZW bs).1 (bs.drop (ZW bs).2.1.toNat)=q:=congrArg Prod.fst hd;obtain ⟨⟨h,n,er⟩,hp⟩:∃ r,r=ZW bs:=⟨_,rfl⟩;obtain ⟨_,z2,_⟩:=TI hp.symm hc;rw [<- hp] at hq;subst hq;refine ⟨Ib _ _,fun x hx=>?_,KO _ _,z2⟩;obtain ⟨i,_,rfl⟩:=List.mem_map.1 hx;refine ⟨?_,?_⟩
   · unfold WK VO wrap64;exact ⟨⟨by dsimp only;omega,by dsimp only;omega⟩,by dsimp only;omega,by dsimp only;omega⟩
   · unfold WK;dsimp only;exact le8 (((hby.drop _).drop _).drop _ |>.take _) (by unfold eight;rw [List.length_take];omega)
 · rw [if_neg hc] at hd;exact absurd (congrArg Prod.snd hd) hc
theorem Om(eb ob:Nat)(er:Int)(v:Value)(w:World)(hE:Z7 w eb 94 #[.int .i64 er])(hO:Z7 w ob 49 #[v])(h0:0<=er)(h1:er<=255)(u:FrameMode):
 CallsD prog 163 #[.pointer (some ⟨eb,0,none⟩),.pointer (some ⟨ob,0,none⟩)] u w fun e u' w'=>u'=u/\e=.returned (.tuple #[]) /\
  (er=0/\w'=w\/er≠0/\w'=(w.alloc (.cells #[.int .u8 er] 5)).setCell ⟨ob,0,none⟩ (.slice (some ⟨w.heap.size,0,none⟩) 1 1)):=by
 have e0:=hE.q0 rfl;have o0:=(hO.alloc (.cells #[.int .u8 er] 5)).q0 rfl;have f0:=(hO.alloc (.cells #[.int .u8 er] 5)).frozen 0;have hw8:IntKind.u8.wrap er=er:=by rw [IntKind.wrap_u8];omega
 by_cases he:er=0
 · subst he;refine (callsD_of_wp (R:=fun e w'=>e=.returned (.tuple #[])/\w'=w) func163 rfl ?_).mono ?_
   · simp only [ntmps163,List.size_toArray,List.length_cons,List.length_nil,Nat.reduceAdd,Nat.reduceSub,Array.replicate_succ,Array.replicate_zero,List.push_toArray,List.append_toArray,List.nil_append,List.cons_append];go_wp2;go_end0;exact ⟨rfl,rfl⟩
   · rintro e u' w' ⟨rfl,rfl,rfl⟩;exact ⟨rfl,rfl,.inl ⟨rfl,rfl⟩⟩
 · refine (callsD_of_wp (R:=fun e w'=>e=.returned (.tuple #[])/\w'=(w.alloc (.cells #[.int .u8 er] 5)).setCell ⟨ob,0,none⟩ (.slice (some ⟨w.heap.size,0,none⟩) 1 1)) func163 rfl ?_).mono ?_
   · simp only [ntmps163,List.size_toArray,List.length_cons,List.length_nil,Nat.reduceAdd,Nat.reduceSub,Array.replicate_succ,Array.replicate_zero,List.push_toArray,List.append_toArray,List.nil_append,List.cons_append];have e1:=(hE.alloc (.cells #[.int .u8 er] 5)).q0 rfl;go_wp2;go_end0;exact ⟨rfl,rfl⟩
   · rintro e u' w' ⟨rfl,rfl,rfl⟩;exact ⟨rfl,rfl,.inr ⟨he,rfl⟩⟩
def zeo(r:PH × Int × Int):Prop:=0<=r.2.2/\r.2.2<=8
theorem GV(bs:List Int):0<=Y7 bs/\Y7 bs<=8:=by
 have h:zeo (ZW bs):=by
  unfold ZW
  repeat' (refine YJ (fun _=>?_) (fun _=>?_))
  all_goals exact ⟨by dsimp only;omega,by dsimp only;omega⟩
 unfold Y7;unfold zeo at h;split
 · split <;> omega
 · exact h
def Jt(t:Option (Nat × Nat))(bs:List Int)(w:World)(e:Ending)(w':World):Prop :=
 ∃ A c,e=.returned (.slice A (YE bs).length c)/\(YE bs).length<=c/\Z9 (NT t w.heap.size) w w'/\Tp w' (NT t w.heap.size) t (OV bs)/\Sl w' w'.heap.size A (ZU (YE bs))
theorem zB (t:Option (Nat × Nat)) (bs:List Int) (A:Option Addr) (c:Nat) (w:World) (hs:Sl w w.heap.size A (ZU bs)) (hcap:bs.length<=c) (hby:By bs) (hmax:bs.length<=300000) (hfix:Fixed w) (hg:9<w.heap.size) (hw:MW w) (hf:Uc w t)
 (hl:t=none\/4161*(Zr bs).1.qs.length+(YK (lg (Zr bs).1.qs.length)).length<=600000) :
 Calls prog 114 #[.pointer (ZG t),.slice A bs.length c] w (Jt t bs w):=by
 obtain ⟨ob,Sq⟩:=eE w.heap.size;obtain ⟨w0,hw0⟩:=eE ((w.alloc (.cells #[.slice none 0 0] 49)).alloc (.cells #[.int .i64 0] 94));have hb0:=bF hw0;have O0:Z7 w0 ob 49 #[.slice none 0 0]:=by rw [hw0,Sq];exact (Z7.new _ _ _).alloc _
 have E0:Z7 w0 (ob+1) 94 #[.int .i64 0]:=by rw [hw0,Sq];exact Z7.new2 _ _ _ _
 have HD:=hide (wH bs A c w0 ((hs.below hb0).more hb0.size) hcap hby hmax (hfix.below hb0 hg) (Nat.lt_of_lt_of_le hg hb0.size));have hmf:∀ (fn:Fn) (first cap:Array Value) (w:World),(Instr.makeFunc fn first cap).run prog w=.ok (.func fn first cap) w:=fun _ _ _ _=>rfl
 have zbj:Hid (∀ n,ob+1<n->NT t n ob/\NT t n (ob+1)):=fun n hn=>by
  refine ⟨⟨by omega,?_⟩,by omega,?_⟩
  · rintro u rfl;have h1:=hf.1.lt;have h2:=hf.2.lt;exact ⟨by omega,by omega⟩
  · rintro u rfl;have h1:=hf.1.lt;have h2:=hf.2.lt;exact ⟨by omega,by omega⟩
 have zO:Hid (¬ NT t w.heap.size ob/\¬ NT t w.heap.size (ob+1)):=⟨fun h=>by have:=h.1;omega,fun h=>by have:=h.1;omega⟩;have HF:=hide hf;have HW:=hide hw;have HB0:=hide hb0;have HO0:=hide O0;have HE0:=hide E0;have HL:=hide hl;have hcb:=GV bs;have HFG:=hide hg;have HFX:=hide hfix;clear hfix hg hf hw hb0 O0 E0 hl hs hcap
 by_cases hc:Y7 bs=0
 · obtain ⟨q,hq⟩:∃ q,Zr bs=(q,0):=⟨_,by unfold Zr;rw [if_pos hc]⟩;obtain ⟨dj1,dj2,dj3,dj4⟩:=Gs hby hq;obtain ⟨z1,z2,z3,z4,z5,z6,z7,z8,_⟩:=ZA dj4;have zhr:q.h.rs.length<=64:=by
    by_cases h4:4<=q.h.op
    · exact (z5 h4).2.1
    · rw [z6 (by omega)];simp
   have hsv:YE bs=Zn q.h.op (XW q).val (XW q).cnt (XW q).recs:=(by unfold YE;rw [hq,if_neg (by simp)]);have hse:OV bs=qEv q:=by unfold OV;rw [hq,if_neg (by simp)]
   have HSD:Hid (∀ e w',(∃ A c,e=.returned (.slice A (Zn q.h.op (XW q).val (XW q).cnt (XW q).recs).length c)/\(Zn q.h.op (XW q).val (XW q).cnt (XW q).recs).length<=c/\Z9 (NT t w.heap.size) w w'/\Tp w' (NT t w.heap.size) t (qEv q)/\Sl w' w'.heap.size A (ZU (Zn q.h.op (XW q).val (XW q).cnt (XW q).recs)))->Jt t bs w e w'):=fun e w' h=>by
    unfold Jt;rw [hsv,hse];exact h
   have Ud:Hid (∀ hrs gs,hrs.map Rg.key=q.h.rs.map Rg.key->gs.map Oq=q.gs->(∀ g∈gs,g.1.n=g.2.length)->Uw q.h.op q.h.vs hrs q.h.ZY gs q.ps q.qs=(XW q,0)/\VH q.h.op q.h.vs hrs q.h.ZY gs q.ps q.qs=qEv q/\Vr q.h.op q.h.ZY (XW q).val (XW q).cnt (XW q).recs=true/\ZM q.h.op q.h.vs hrs q.h.ZY=0) :=
    fun hrs gs hk hgd hn=>GR (by rw [tV hby hq hk hgd hn]) hn (fun x hx=>(dj2 x hx).2) rfl hgd.symm rfl rfl
   rw [hq] at HD HL;have HDJ:=hide (And.intro dj1 (And.intro dj2 dj3));have HQL:=hide zhr;have vJ:=hide (And.intro z7 z8);clear hq hsv hse hby hmax hc hcb dj1 dj2 dj3 dj4 z1 z2 z3 z4 z5 z6 z7 z8 zhr;obtain ⟨⟨op,vs,rs0,ZY⟩,gds,ps,qs⟩:=q;dsimp only at *;go_enter_defers func114,ntmps114;go_wp2_with fail;rw [<- hw0,<- Sq];have HW0:=hide hw0;have HOB:=hide Sq;clear hw0 Sq;refine HD.out.mono ?_;rintro e w1 ⟨hrs,HA,hc2,gs,GA,gc,PA,pc,QA,qc,rfl,hb1,hr1,hcap1⟩;unfold Il;dsimp only;obtain ⟨hh,hkey,hgg,hgk,hgd,hpp,hqq⟩:=hr1;dsimp only at hkey hgd hpp hqq hcap1;have hn:∀ g∈gs,g.1.n=g.2.length:=fun g hg=>(hgk g hg).1;obtain ⟨k1,k2,k3,k4⟩:=Ud.out hrs gs hkey hgd hn;have hhl:hrs.length<=64:=(by have:=congrArg List.length hkey;simp at this;have:=HQL.out;omega);have E1:=HE0.out.step hb1;have O1:=HO0.out.step hb1;have hB1:=Z8 HB0.out hb1;have hf1:=HF.out.step hB1;obtain ⟨rb,hrb⟩:=eE w1.heap.size;obtain ⟨W3,hW3⟩:=eE ((w1.setCell ⟨ob+1,0,none⟩ (.int .i64 0)).alloc (.cells #[.int .i64 op,.int .i64 vs,.slice HA hrs.length hc2,.int .i64 ZY,.slice GA gs.length gc,.slice PA ps.length pc,.slice QA qs.length qc] 182));have e1:w1.cell? ⟨ob+1,0,none⟩=some (.int .i64 0):=E1.q0 rfl;have fe1:=E1.frozen 0;have hl1:ob+1<w1.heap.size:=E1.lt;have hl0:ob<w1.heap.size:=O1.lt;have hro:w.heap.size<=ob:=(by rw [HOB.out];exact Nat.le_refl _);have hB3:Below w.heap.size w W3:=(by rw [hW3];exact Z5 (hB1.setCell (p:=⟨ob+1,0,none⟩) (by dsimp only;omega) _) _);have hz3:W3.heap.size=rb+1:=by rw [hW3,hrb];simp
   have hsame:∀ b o,b<w1.heap.size->W3.cell? ⟨b,o,none⟩=w1.cell? ⟨b,o,none⟩:=fun b o hb=>by
    rw [hW3,World.cell?_alloc_lt _ _ _ (by simpa using hb),TH e1]
   have pW:∀ {A:Option Addr} {xs:List Value},Sl w1 w1.heap.size A xs->Sl W3 w1.heap.size A xs:=fun {A xs} h=>by
    rcases h with h|⟨b,off,hA,hb,hcc⟩
    · exact .inl h
    · exact .inr ⟨b,off,hA,hb,fun j u hu=>(hsame b _ hb).trans (hcc j u hu)⟩
   have hf3:=HF.out.step hB3;have Q3:Z7 W3 rb 182 #[.int .i64 op,.int .i64 vs,.slice HA hrs.length hc2,.int .i64 ZY,.slice GA gs.length gc,.slice PA ps.length pc,.slice QA qs.length qc]:=by
    have h:=Z7.new (w1.setCell ⟨ob+1,0,none⟩ (.int .i64 0)) 182 #[.int .i64 op,.int .i64 vs,.slice HA hrs.length hc2,.int .i64 ZY,.slice GA gs.length gc,.slice PA ps.length pc,.slice QA qs.length qc];rw [World.size_setCell,<- hrb,<- hW3] at h;exact h
   have E3:Z7 W3 (ob+1) 94 #[.int .i64 0]:=(by rw [hW3];exact (E1.set 0 (.int .i64 0)).alloc _);have O3:Z7 W3 ob 49 #[.slice none 0 0]:=(by rw [hW3];exact (O1.far (p:=⟨ob+1,0,none⟩) (by dsimp only;omega) _).alloc _);have zhl:∀ k,NT t w.heap.size k->NT t W3.heap.size k:=fun k hk=>⟨Nat.lt_of_lt_of_le hk.1 hB3.size,hk.2⟩;have zqn:∀ k,NT t W3.heap.size k->k<W3.heap.size:=fun k hk=>hk.1;have hmem:=zbj.out W3.heap.size (by rw [hz3];omega)
   have zhu:NT t W3.heap.size rb:=⟨by omega,by
    rintro u rfl;have h1:=HF.out.1.lt;have h2:=HF.out.2.lt
    exact ⟨by omega,by omega⟩⟩
   have hw3:=HW.out.step hB3;have hwm:NT t W3.heap.size 8:=hf3.off hw3.1.1 ⟨fun _ _ _ h=>(by cases h),fun _ h=>(by cases h)⟩
   have zqp:Aa W3 (NT t W3.heap.size) hrs HA gs GA ps PA pc qs QA :=
    ⟨hf3.lX (pW hh) (uU _),by unfold maxLen;omega,hf3.lX (pW hgg) (uU _),fun g hg=>⟨hn g hg,hf3.lX (pW (hgk g hg).2) (uR _),HDJ.out.2.2 (Oq g) (by rw [<- hgd];exact List.mem_map_of_mem hg)⟩,hf3.lX (pW hpp) (uR _),HDJ.out.1,hcap1,hf3.lX (pW hqq) (aM _),fun x hx=>(HDJ.out.2.1 x hx).1,fun x hx=>(HDJ.out.2.1 x hx).2⟩
   have zon:=xC (NT t W3.heap.size) t [] op vs ZY hrs HA hc2 gs GA gc ps PA pc qs QA qc W3 zqn hwm hw3 (hf3.tp fun k hk=>hk.2) (by rcases HL.out with h|h;exact .inl h;exact .inr (by simp only [List.length_nil];omega)) zqp;rw [k1,k2,List.nil_append] at zon;have HHD:=hide zon;have HHS:Hid (Wp W3 (NT t W3.heap.size) HA (rgCells hrs)):=zqp.hh;obtain ⟨⟨val,cnt,recs⟩,hqa⟩:∃ a,a=XW ⟨⟨op,vs,rs0,ZY⟩,gds,ps,qs⟩:=⟨_,rfl⟩;rw [<- hqa] at k3 HHD HSD;dsimp only at k3;have hp0:0<=ZY:=by
    by_cases h5:op=5
    · have:=vJ.out.1 h5;omega
    · have:=vJ.out.2 h5;omega
   have hp1:ZY<=4096:=by
    by_cases h5:op=5
    · have:=vJ.out.1 h5;omega
    · have:=vJ.out.2 h5;omega
   have hia:=Tc k3 hp0;have Qi:UZ op vs hrs ZY val cnt recs=(Zn op val cnt recs,0):=(by unfold UZ;rw [if_neg (by simpa using k4),if_neg (by simp [k3])]);have sU:Hid (recs.length<=maxLen):=(by unfold maxLen;exact (by omega:recs.length<=9223372036854775807));have zfi:=hide Qi;obtain ⟨EV,hEV⟩:=eE (qEv ⟨⟨op,vs,rs0,ZY⟩,gds,ps,qs⟩);rw [<- hEV] at HHD HSD;obtain ⟨RB,hRB⟩:=eE (Zn op val cnt recs);rw [<- hRB] at HSD zfi;have c0:=Q3.q0 rfl;have HW3:=hide hW3;have Gc:=hide hrb;have HQ3:=hide Q3;have HE3:=hide E3;have HO3:=hide O3;have HB3:=hide hB3;have zor:=hide zhl;have nL:=hide hmem;have zbm:=hide zhu;have zfb:=hide zqn;have HHL:=hide hhl;have HZ3:=hide hz3;clear hqa hEV hRB Qi hia k1 k2 k3 k4 zon zqp hwm hw3 zhu hmem zqn zhl hf3 pW hsame hB1 hf1 hb1 hh hkey hgg hgk hgd hpp hqq hn E1 O1 E3 O3 hB3 hz3 hcap1 Ud HD HDJ;go_wp2_with fail;have zdd:=Gc.out;subst zdd;rw [<- HW3.out];refine HHD.out.mono ?_;rintro e w4 ⟨RA,rc,rfl,hk4,I6,hs4⟩;dsimp only at hs4;have E4:=HE3.out.kept hk4 nL.out.2;have O4:=HO3.out.kept hk4 nL.out.1;have Q4:=HQ3.out.kept hk4 zbm.out;have e4:w4.cell? ⟨ob+1,0,none⟩=some (.int .i64 0):=E4.q0 rfl;have fe4:=E4.frozen 0;have q0:=Q4.q0 rfl;have q1:=Q4.q1 rfl;have q2:=Q4.q2 rfl;have q3:=Q4.q3 rfl;have hl4:ob+1<w4.heap.size:=E4.lt;have yzq:ob<w4.heap.size:=O4.lt;have yzr:w1.heap.size<w4.heap.size:=Q4.lt;obtain ⟨W5,D8⟩:=eE ((w4.setCell ⟨ob+1,0,none⟩ (.int .i64 0)).alloc (.cells #[.int .i64 val,.int .i64 cnt,.slice RA recs.length rc] 175))
   have xS:∀ b o,b<w4.heap.size->W5.cell? ⟨b,o,none⟩=w4.cell? ⟨b,o,none⟩:=fun b o hb=>by
    rw [D8,World.cell?_alloc_lt _ _ _ (by simpa using hb),TH e4]
   have hz5:W5.heap.size=w4.heap.size+1:=(by rw [D8];simp);have zif:Sl W5 W5.heap.size RA (Zb recs):=by
    rcases hs4 with h|⟨b,off,hA,hb,hcc⟩
    · exact .inl h
    · exact .inr ⟨b,off,hA,by omega,fun j u hu=>(xS b _ hb).trans (hcc j u hu)⟩
   have zie:Sl W5 W5.heap.size HA (rgCells hrs):=by
    have h4:=(HHS.out.kept hk4).sl (fun k hk=>Nat.lt_of_lt_of_le (zfb.out k hk) hk4.size);rcases h4 with h|⟨b,off,hA,hb,hcc⟩
    · exact .inl h
    · exact .inr ⟨b,off,hA,by omega,fun j u hu=>(xS b _ hb).trans (hcc j u hu)⟩
   have E5:Z7 W5 (ob+1) 94 #[.int .i64 0]:=(by rw [D8];exact (E4.set 0 (.int .i64 0)).alloc _);have O5:Z7 W5 ob 49 #[.slice none 0 0]:=(by rw [D8];exact (O4.far (p:=⟨ob+1,0,none⟩) (by dsimp only;omega) _).alloc _);have hnE:¬ NT t w.heap.size (ob+1):=zO.out.2;have hnO:¬ NT t w.heap.size ob:=zO.out.1;have zS:∀ k,NT t w.heap.size k->k<w4.heap.size:=fun k hk=>Nat.lt_of_lt_of_le (zfb.out k (zor.out k hk)) hk4.size;have hk5:Z9 (NT t w.heap.size) w W5:=by
    rw [D8];refine ((Z9.of_below HB3.out fun k hk=>hk.1).trans ((hk4.mono zor.out).trans (Z9.setCell hnE _ _ _))).trans (Z9.of_below (bA) fun k hk=>by simpa using zS k hk)
   have Rf:Tp W5 (NT t W3.heap.size) t EV:=(by rw [D8];exact (I6.set nL.out.2 _ _).step (bA));have zou:=Di op vs ZY hrs HA hc2 val cnt recs RA rc W5 zie (by unfold maxLen;have:=HHL.out;omega) zif sU.out;rw [zfi.out] at zou;have HRS:=hide zou;have HW5:=hide D8;have HE5:=hide E5;have cK:=hide O5;have HK5:=hide hk5;have HT5:=hide Rf;have HZ5:=hide hz5;clear E4 O4 Q4 hk4 I6 hs4 xS zif zie E5 O5 hnE hnO zS hk5 Rf zou hz5 e1 fe1 c0 HHD;go_wp2_with fail;rw [<- HW5.out];refine HRS.out.mono ?_;rintro e w6 ⟨v,rfl,hv6,hb6⟩;obtain ⟨VA,UG,rfl,xV⟩:=ZP hv6;dsimp only at xV;have E6:=HE5.out.step hb6;have O6:=cK.out.step hb6;have e6:w6.cell? ⟨ob+1,0,none⟩=some (.int .i64 0):=E6.q0 rfl;have fe6:=E6.frozen 0;have o6:=O6.q0 rfl;have fo6:=O6.frozen 0;have zid:=Sl.Zv hv6
   have zil:ZU RB≠[]->∀ x,VA=some x->x.block≠ob/\x.block≠ob+1:=fun _ x hx=>by
    subst hx;have h:=ZN hv6 (k:=x.block) (by rcases hv6.2 with ⟨h,_⟩|⟨g',cap,cur,h,_⟩ <;> cases h;rfl);have:=HZ5.out;exact ⟨by omega,by omega⟩
   have HE6:=hide E6;have HO6:=hide O6;have nH:=hide hb6;have zbn:=hide zid;have HVC:=hide xV;have zox:=hide zil;clear E6 O6 hb6 zid hv6 xV zil q0 q1 q2 q3 e4 fe4 HRS;go_wp2;obtain ⟨W7,Pm⟩:=eE ((((w6.setCell ⟨ob,0,none⟩ (.slice VA RB.length UG)).setCell ⟨ob+1,0,none⟩ (.int .i64 0)).setCell ⟨ob,0,none⟩ (.slice VA RB.length UG)));rw [<- Pm];have E7:Z7 W7 (ob+1) 94 #[.int .i64 0]:=by
    rw [Pm];exact (((HE6.out.far (p:=⟨ob,0,none⟩) (by dsimp only;omega) _).set 0 (.int .i64 0)).far (p:=⟨ob,0,none⟩) (by dsimp only;omega) _)
   have O7:Z7 W7 ob 49 #[.slice VA RB.length UG]:=by
    rw [Pm];exact ((HO6.out.set 0 (.slice VA RB.length UG)).far (p:=⟨ob+1,0,none⟩) (by dsimp only;omega) _).set 0 (.slice VA RB.length UG)
   refine leaves_cons (f:=163) (args:=#[.pointer (some ⟨ob+1,0,none⟩),.pointer (some ⟨ob,0,none⟩)]) (by simp) (by simp [go_sem,invoke]) ?_;refine (Om (ob+1) ob 0 _ W7 E7 O7 (by omega) (by omega) .returning).mono ?_;rintro e u' w' ⟨rfl,rfl,h⟩;rcases h with ⟨_,rfl⟩|⟨h,_⟩
   · have o7:=O7.q0 rfl;have Uh:∀ k,NT t w.heap.size k->k<W5.heap.size:=fun k hk=>Nat.lt_of_lt_of_le hk.1 HK5.out.size;refine ⟨.slice VA RB.length UG,by simp [results,Tryz.results114,go_sem,o7],?_⟩;refine HSD.out _ _ ⟨VA,UG,rfl,HVC.out,?_,?_,?_⟩
     · rw [Pm];exact (HK5.out.trans (Z9.of_below nH.out Uh)).trans ((Z9.setCell zO.out.1 _ _ _).trans ((Z9.setCell zO.out.2 _ _ _).trans (Z9.setCell zO.out.1 _ _ _)))
     · rw [Pm];exact ((((HT5.out.step nH.out).set nL.out.1 _ _).set nL.out.2 _ _).set nL.out.1 _ _).mono zor.out
     · rw [Pm];exact (((zbn.out.TS (fun h x hx=>(zox.out h x hx).1) _).TS (fun h x hx=>(zox.out h x hx).2) _).TS (fun h x hx=>(zox.out h x hx).1) _)
   · exact absurd rfl h
 · have hd:Zr bs=(XM,Y7 bs):=(by unfold Zr;rw [if_neg hc]);have hsv:YE bs=[Y7 bs]:=(by unfold YE;rw [hd,if_pos hc]);have hse:OV bs=[]:=by unfold OV;rw [hd,if_pos hc]
   have HSD:Hid (∀ e w',(∃ A c,e=.returned (.slice A 1 c)/\1<=c/\Z9 (NT t w.heap.size) w w'/\Tp w' (NT t w.heap.size) t []/\Sl w' w'.heap.size A (ZU [Y7 bs]))->Jt t bs w e w'):=fun e w' h=>by
    unfold Jt;rw [hsv,hse];exact h
   rw [hd] at HD;obtain ⟨er,her⟩:=eE (Y7 bs);rw [<- her] at hc hcb HSD HD;clear hd hsv hse her hby hmax;go_enter_defers func114,ntmps114;go_wp2_with fail;rw [<- hw0,<- Sq];have HW0:=hide hw0;have HOB:=hide Sq;clear hw0 Sq;refine HD.out.mono ?_;rintro e w1 ⟨hrs,HA,hc2,gs,GA,gc,PA,pc,QA,qc,rfl,hb1,hr1,_⟩;unfold Il;dsimp only;have E1:=HE0.out.step hb1;have O1:=HO0.out.step hb1;have e1:=E1.q0 rfl;have fe1:=E1.frozen 0;have o1:=O1.q0 rfl;have fo1:=O1.frozen 0;have hB1:=hide (Z8 HB0.out hb1);have RO:=hide E1;have Eh:=hide O1;have hl1:ob+1<w1.heap.size:=E1.lt;have hl0:ob<w1.heap.size:=O1.lt;clear hb1 hr1 E1 O1 HD;go_wp2;obtain ⟨W5,D8⟩:=eE ((((w1.setCell ⟨ob+1,0,none⟩ (.int .i64 er)).setCell ⟨ob,0,none⟩ (.slice none 0 0)).alloc (.cells #[.int .i64 XM.h.op,.int .i64 XM.h.vs,.slice HA hrs.length hc2,.int .i64 XM.h.ZY,.slice GA gs.length gc,.slice PA XM.ps.length pc,.slice QA XM.qs.length qc] 182)));rw [<- D8];have E5:Z7 W5 (ob+1) 94 #[.int .i64 er]:=by
    rw [D8];exact ((RO.out.set 0 (.int .i64 er)).far (p:=⟨ob,0,none⟩) (by dsimp only;omega) _).alloc _
   have O5:Z7 W5 ob 49 #[.slice none 0 0]:=by
    rw [D8];exact ((Eh.out.far (p:=⟨ob+1,0,none⟩) (by dsimp only;omega) _).set 0 (.slice none 0 0)).alloc _
   have uj:Below w.heap.size w W5:=by
    rw [D8];have hr:w.heap.size<=ob:=(by rw [HOB.out];exact Nat.le_refl _);exact Z5 ((hB1.out.setCell (p:=⟨ob+1,0,none⟩) (by dsimp only;omega) _).setCell (p:=⟨ob,0,none⟩) hr _) _
   refine leaves_cons (f:=163) (args:=#[.pointer (some ⟨ob+1,0,none⟩),.pointer (some ⟨ob,0,none⟩)]) (by simp) (by simp [go_sem,invoke]) ?_;refine (Om (ob+1) ob er _ W5 E5 O5 hcb.1 (by omega) .returning).mono ?_;rintro e u' w' ⟨rfl,rfl,h⟩;rcases h with ⟨h,_⟩|⟨_,rfl⟩
   · exact absurd h hc
   have O6:=(O5.alloc (.cells #[.int .u8 er] 5)).set 0 (.slice (some ⟨W5.heap.size,0,none⟩) 1 1);have o6:=O6.q0 rfl;have yzw:=O5.lt;have hr:w.heap.size<=ob:=(by rw [HOB.out];exact Nat.le_refl _);have hB6:=(Z5 uj (.cells #[.int .u8 er] 5)).setCell (p:=⟨ob,0,none⟩) hr (.slice (some ⟨W5.heap.size,0,none⟩) 1 1);refine ⟨.slice (some ⟨W5.heap.size,0,none⟩) 1 1,by simp [results,Tryz.results114,go_sem,o6],?_⟩;have hnt:∀ k,NT t w.heap.size k->k<w.heap.size:=fun k hk=>hk.1;refine HSD.out _ _ ⟨some ⟨W5.heap.size,0,none⟩,1,rfl,Nat.le_refl _,Z9.of_below hB6 hnt,(HF.out.tp fun k hk=>hk.2).step hB6,?_⟩;refine (Sl.OW (UD (Z7.new W5 5 #[.int .u8 er]) fun j u hu=>?_) (by omega) _);rw [<- hu];show ([.int .u8 er]:List Value).toArray[j]?=_;rw [List.getElem?_toArray];rfl
theorem rJ(bs:List Int)(A:Option Addr)(c:Nat)(w:World)(hs:Sl w w.heap.size A (ZU bs))(hcap:bs.length<=c)(hby:By bs)(hmax:bs.length<=300000)(hfix:Fixed w)(hg:9<w.heap.size)(hw:MW w):
 Calls prog 67 #[.slice A bs.length c] w fun e w'=>∃ A' c',e=.returned (.slice A' (YE bs).length c')/\(YE bs).length<=c'/\Below w.heap.size w w'/\Sl w' w'.heap.size A' (ZU (YE bs)):=by
 have H:=hide (zB none bs A c w hs hcap hby hmax hfix hg hw trivial (.inl rfl));clear hs hcap hby hmax hfix hg hw;go_enter func67,ntmps67;go_wp2_with fail;refine H.out.mono ?_;rintro e w1 ⟨A',c',rfl,hc,hk,_,hs1⟩;go_wp2;go_ret;exact ⟨A',c',rfl,hc,⟨hk.os,hk.tape,hk.output,hk.size,fun k hb=>hk.block k ⟨hb,fun u hu=>by cases hu⟩⟩,hs1⟩
end
section
open Go.RowKit Go.Shelf
structure eT(w:World)(hrs:List Rg)(HA:Option Addr)(gs:List Gr)(GA:Option Addr)(ps:List Pt)(PA:Option Addr)(pc:Nat)(qs:List ((Int × Int) × Int))(QA:Option Addr):Prop where
 hh:Sl w w.heap.size HA (rgCells hrs)
 hn:hrs.length<=maxLen
 hg:Sl w w.heap.size GA (rgCells (gs.map (·.1)))
 gn:gs.length<=maxLen
 gk:dL w w.heap.size gs
 gj:∀ g∈gs,LW g.2
 hp:Sl w w.heap.size PA (Zl ps)
 pj:LW ps
 cap:ps.length<=pc
 hq:Sl w w.heap.size QA (XC qs)
 qj:∀ q∈qs,PJ q.1
 qu:∀ q∈qs,Ua q.2
section
variable {w:World}{hrs:List Rg}{HA:Option Addr}{gs:List Gr}{GA:Option Addr}{ps:List Pt}{PA:Option Addr}{pc:Nat}{qs:List ((Int × Int) × Int)}{QA:Option Addr}
theorem eT.below{w':World}(h:eT w hrs HA gs GA ps PA pc qs QA)(hb:Below w.heap.size w w'):eT w' hrs HA gs GA ps PA pc qs QA :=
 ⟨(h.hh.below hb).more hb.size,h.hn,(h.hg.below hb).more hb.size,h.gn,fun g hg=>⟨(h.gk g hg).1,((h.gk g hg).2.below hb).more hb.size⟩,h.gj,(h.hp.below hb).more hb.size,h.pj,h.cap,(h.hq.below hb).more hb.size,h.qj,h.qu⟩
theorem eT.len(h:eT w hrs HA gs GA ps PA pc qs QA):∀ g∈gs,g.1.n=g.2.length:=fun g hg=>(h.gk g hg).1
end
theorem Lm{α:Type}(f:α->List Int)(h:∀ a,By (f a))(l:List α):By (l.flatMap f):=fun x hx=>by
 obtain ⟨a,_,ha⟩:=List.mem_flatMap.1 hx;exact h a x ha
theorem By.append{a b:List Int}(ha:By a)(hb:By b):By (a++b):=fun x hx=>by
 rcases List.mem_append.1 hx with h|h
 · exact ha x h
 · exact hb x h
theorem FD(p:Int × Int):By (Vo p):=(Pj _).append (Pj _)
theorem zup(q:(Int × Int) × Int):By (q24 q):=(FD _).append (Pj _)
theorem xJ{op vs ZY:Int}{hrs:List Rg}{gs:List Gr}{ps:List (Int × Int)}{qs:List ((Int × Int) × Int)}{b:List Int}{er:Int}(h:ZE op vs hrs ZY gs ps qs=(b,er))(hn:∀ g∈gs,g.1.n=g.2.length):
 (er≠0->b=[])/\(er=0->b.length<=200000/\By b):=by
 unfold ZE at h
 by_cases hc:ZM op vs hrs ZY=0
 · rw [if_neg (by simpa using hc)] at h
   by_cases ha:gs.length≠hrs.length\/(ps.length:Int)≠XI op vs\/(qs.length:Int)≠Xm op ZY
   · rw [if_pos ha] at h;simp only [Prod.mk.injEq] at h;exact ⟨fun _=>h.1.symm,fun e=>by omega⟩
   · rw [if_neg ha] at h;cases hs:(gs.zip hrs).any Vs with
     | true =>
       rw [hs,if_pos rfl] at h;simp only [Prod.mk.injEq] at h;exact ⟨fun _=>h.1.symm,fun e=>by omega⟩
     | false =>
       rw [hs,if_neg (by simp)] at h;cases hk:(gs.zip hrs).any TM with
       | true =>
         rw [hk,if_pos rfl] at h;simp only [Prod.mk.injEq] at h;exact ⟨fun _=>h.1.symm,fun e=>by omega⟩
       | false =>
         rw [hk,if_neg (by simp)] at h;simp only [Prod.mk.injEq] at h;refine ⟨fun e=>absurd h.2.symm e,fun _=>?_⟩;rw [<- h.1];obtain ⟨_,_,yzs,hcP,hcQ⟩:=JM hc;have hl1:gs.length=hrs.length:=(by omega);have hsm:=Bz hs hl1;have hgl:=PL gs (fun x hx=>by have h1:=hn x hx;have h2:=hsm x hx;omega);have hfl:=GH op vs hrs ZY;constructor
         · rw [List.length_append,List.length_append,List.length_append,VG Vo 16 VU,VG q24 24 KL];omega
         · refine By.append (By.append (By.append ?_ ?_) (Lm _ FD _)) (Lm _ zup _)
           · intro x hx;obtain ⟨j,hj⟩:=List.getElem?_of_mem hx;exact Bj hc j x hj
           · exact Lm _ (fun g=>Lm _ FD _) _
 · rw [if_pos hc] at h;simp only [Prod.mk.injEq] at h;exact ⟨fun _=>h.1.symm,fun e=>absurd (h.2.trans e) hc⟩
end
section
open Go.RowKit Go.Shelf
theorem Ql:∀ (rs:List Rg) (bs:List Int),(Yg rs bs).length=rs.length
 | [],_=>rfl
 | r::rs,bs=>by simp [Yg,Ql rs]
theorem KQ:∀ (rs:List Rg) (bs:List Int),∀ g∈Yg rs bs,g.2.2.length<=64
 | [],_,g,h=>by simp [Yg] at h
 | r::rs,bs,g,h=>by
   simp only [Yg,List.mem_cons] at h;rcases h with rfl|h
   · dsimp only;rw [Zj];exact OX _
   · exact KQ rs _ g h
structure zwt(q:Rq):Prop where
 n1:q.h.rs.length<=64
 n2:q.gs.length<=64
 n3:q.ps.length<=65
 n4:q.qs.length<=4096
 n5:∀ g∈q.gs,g.2.2.length<=64
theorem IX(bs:List Int):zwt (Zr bs).1:=by
 unfold Zr
 by_cases hc:Y7 bs=0
 · rw [if_pos hc];obtain ⟨h,n,er,hp⟩:∃ h n er,ZW bs=(h,n,er):=⟨_,_,_,rfl⟩;obtain ⟨_,hk,_⟩:=TI hp hc;obtain ⟨_,_,h3,h4,h5⟩:=JM hk;rw [hp];refine ⟨h3,?_,?_,?_,?_⟩
   · simp only [Um];rw [Ql];exact h3
   · simp only [Um];rw [Zj];omega
   · simp only [Um];rw [WJ];omega
   · exact fun g hg=>KQ _ _ g hg
 · rw [if_neg hc];exact ⟨by simp [XM,Zh],by simp [XM],by simp [XM],by simp [XM],fun g hg=>by simp [XM] at hg⟩
def SkB(bs:List Int)(w:World)(e:Ending)(w':World):Prop:=∃ z:Int,e=.returned (.int .i64 z)/\(z=0\/z=1)/\(z=0->bs.length<=6000/\(Zr bs).1.qs.length<=100)/\Below w.heap.size w w'
section
variable (bs:List Int)(A:Option Addr)(c:Nat)(w:World)
variable (hs:Sl w w.heap.size A (ZU bs))(hby:By bs)
include hs hby
theorem bI:Calls prog 30 #[.slice A bs.length c] w (SkB bs w):=by
 by_cases hl:bs.length<=6000
 · have hD:=Df bs A c w hs hby (by omega)
   have hqz:(Zr bs).2≠0->(Zr bs).1.qs.length<=100:=fun h=>by
    unfold Zr at h ⊢
    by_cases hc:Y7 bs=0
    · rw [if_pos hc] at h;exact absurd rfl h
    · rw [if_neg hc];simp [XM]
   have hsm:=IX bs;obtain ⟨⟨q,er⟩,hr⟩:∃ r,Zr bs=r:=⟨_,rfl⟩;have HP:Hid (∀ e w',(∃ z:Int,e=.returned (.int .i64 z)/\(z=0\/z=1)/\(z=0->q.qs.length<=100)/\Below w.heap.size w w')->SkB bs w e w'):=hide fun e w' ⟨z,h1,h2,h3,h4⟩=>⟨z,h1,h2,fun h=>⟨hl,by rw [hr];exact h3 h⟩,h4⟩;rw [hr] at hD hqz hsm;dsimp only at hqz hsm;have HD:=hide hD;have HSM:=hide hsm;have hl':¬ (6000:Int)<((bs.length:Nat):Int):=(by omega);clear hs hby hr hD hsm hl;go_enter func30,ntmps30;go_wp2_with fail;refine HD.out.mono ?_;rintro e w1 ⟨hrs,HA,hc,gs,GA,gc,PA,pc,QA,qc,rfl,hb1,hr1,_⟩;clear HD;unfold Il;dsimp only;obtain ⟨rb,hrb⟩:=eE w1.heap.size;obtain ⟨w2,hw2⟩:=eE (w1.alloc (.cells #[.int .i64 q.h.op,.int .i64 q.h.vs,.slice HA hrs.length hc,.int .i64 q.h.ZY,.slice GA gs.length gc,.slice PA q.ps.length pc,.slice QA q.qs.length qc] 55));have hb2:=bE hw2;have HB2:=Z8 hb1 hb2;have B2:Z7 w2 rb 55 #[.int .i64 q.h.op,.int .i64 q.h.vs,.slice HA hrs.length hc,.int .i64 q.h.ZY,.slice GA gs.length gc,.slice PA q.ps.length pc,.slice QA q.qs.length qc]:=(by rw [hw2,hrb];exact Z7.new _ _ _);have hgl:gs.length<=maxLen:=by
    have:=congrArg List.length hr1.gd;rw [List.length_map] at this;dsimp only at this;have:=HSM.out.n2;unfold maxLen;omega
   have HS:=hide (zvn q.h.op q.h.vs q.h.ZY hrs HA hc gs GA gc q.ps PA pc q.qs QA qc w2 ((hr1.hg.below hb2).more hb2.size) hgl)
   by_cases he:er=0
   · subst he;have b0:w2.cell? ⟨rb,0,none⟩=some (.int .i64 q.h.op):=B2.q0 rfl;have b1:w2.cell? ⟨rb,1,none⟩=some (.int .i64 q.h.vs):=B2.q1 rfl;have b2:w2.cell? ⟨rb,2,none⟩=some (.slice HA hrs.length hc):=B2.q2 rfl;have b3:w2.cell? ⟨rb,3,none⟩=some (.int .i64 q.h.ZY):=B2.q3 rfl;have b4:w2.cell? ⟨rb,4,none⟩=some (.slice GA gs.length gc):=B2.q4 rfl;have b5:w2.cell? ⟨rb,5,none⟩=some (.slice PA q.ps.length pc):=B2.q5 rfl;have b6:w2.cell? ⟨rb,6,none⟩=some (.slice QA q.qs.length qc):=B2.q6 rfl;rw [hw2,hrb] at b0 b1 b2 b3 b4 b5 b6;clear B2 hb1 hb2 hr1 hgl hqz;go_wp2_with fail;rw [<- hw2];clear b0 b1 b2 b3 b4 b5 b6 hw2 hrb;refine HS.out.mono ?_;rintro e w3 ⟨z,rfl,hz,hT,hb3⟩;have HB3:=Z8 HB2 hb3;have HT:=hide hT;clear hT hb3 HS;go_wp2;go_ret;exact HP.out _ _ ⟨z,rfl,hz,fun h=>(HT.out h).2.2.2.1,HB3⟩
   · have hne:(er != 0)=true:=(by simpa using he);have hq:=hqz he;rw [hw2] at HB2;clear HS B2 hr1 he hqz hw2;go_wp2;go_ret;exact HP.out _ _ ⟨0,rfl,.inl rfl,fun _=>hq,HB2⟩
 · have hl':(6000:Int)<((bs.length:Nat):Int):=(by omega);go_enter func30,ntmps30;go_wp2;go_ret;exact ⟨1,rfl,.inr rfl,fun h=>by omega,Below.refl _ _⟩
end
end
end Go.Proofs.YthnenedoblncjaaGreatDoor