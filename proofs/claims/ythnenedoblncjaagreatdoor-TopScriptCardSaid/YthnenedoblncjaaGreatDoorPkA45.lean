/- RefRec20 RefRun20 -/
import Derived.BigQuiet
import Derived.Deep.QuietTactic
import Derived.Lib.SliceRun
import Derived.OneCell
import Derived.Test.YthnenedoblncjaaGreatDoorPkA37
import Derived.Test.YthnenedoblncjaaGreatDoorPkA44
set_option maxRecDepth 1000000
set_option maxHeartbeats 8000000
namespace Go.Proofs.YthnenedoblncjaaGreatDoor
open Go.Proofs.Tryz
section
open Go.RowKit Go.Shelf
section
variable (gs:List Gr)(GA:Option Addr)(gc:Nat)(qs:List ((Int × Int) × Int))(QA:Option Addr)(qc:Nat)(w:World)
variable (hg:Sl w w.heap.size GA (rgCells (gs.map (·.1))))(hgs:xB w gs)(hq:Sl w w.heap.size QA (Wt qs))(hqj:∀ q∈qs,PJ q.1)(Ro:∀ q∈qs,Vo q.2)
include hg hgs hq hqj Ro
theorem vY(hf:Zi (gs.map (·.1))=0)(hn1:1<=qs.length)(hn2:qs.length<=4096):
 Calls prog 159 #[.slice GA gs.length gc,.slice QA qs.length qc] w fun e w'=>∃ v,e=.returned v/\w'.ownsRow w.heap.size 148 2 v qs.length (ZA (Zb gs qs))/\Below w.heap.size w w':=by
 have wV:=hide (Ox (gs.map (·.1)) GA gc w hg);rw [List.length_map,hf] at wV;have qB:=hide (SN gs GA gc w hg hgs);have HME:=hide (fun (w':World) (hb:Below w.heap.size w w') (p:Pt) (hp:PJ p)=>Oz gs p hp GA gc w' ((hg.below hb).more hb.size) (hgs.step hb));have HQ:=hide hq;have HQJ:=hide hqj;have HQU:=hide Ro;obtain ⟨V,hV⟩:=eE (Zc gs);rw [<- hV] at qB;have HV:=hide hV;clear hg hgs hq hqj Ro hf hV;have h1:¬ (qs.length:Int)<1:=by omega
 have h2:¬ (4096:Int)<(qs.length:Int):=by omega
 go_enter func159,ntmps159;go_wp2_with fail;refine wV.out.mono ?_;rintro e w1 ⟨rfl,rfl⟩;clear wV;go_wp2_with fail;refine qB.out.mono ?_;rintro e w1' ⟨rfl,hb1⟩;clear qB h1 h2;go_wp2
 go_loopw [6,7] (fun o i wr=>∃ k:Nat,k<=qs.length/\i=.int .i64 k/\wr.ownsRow w1.heap.size 148 2 o k (ZA (Zb gs (qs.take k)))/\Below w1.heap.size w1 wr)
  (fun _ i _=>qs.length - (intOf i).toNat)
 case atStart=>exact ⟨0,Nat.zero_le _,rfl,World.ownsRow_nil _ _ _ _,hb1⟩
 case round =>
  obtain ⟨k,hk,rfl,ZL,hbr⟩:=hrel;obtain ⟨OA,oc,rfl,hoc⟩:=Zl ZL
  by_cases hlt:k<qs.length
  · have Sv:(k:Int)<(qs.length:Int):=(by omega);obtain ⟨q,hr⟩:∃ q,qs[k]?=some q:=⟨_,List.getElem?_eq_getElem hlt⟩;have hqj:=HQJ.out q (List.mem_of_getElem? hr);obtain ⟨b,off,rfl,hb,c0,c1,c2⟩:=(HQ.out.below hbr).qu hr;have qx:Hid (Zb gs (qs.take (k+1))=Zb gs (qs.take k)++[hrec gs q]):=hide (by rw [List.take_add_one,hr];unfold Zb;rw [List.map_append];rfl);obtain ⟨⟨p1,p2⟩,id⟩:=q;dsimp only at c0 c1 c2 hqj;obtain ⟨xb,hxb⟩:=eE wr.heap.size;obtain ⟨w2,hw2⟩:=eE (wr.alloc (.cells #[.int .u64 0,.int .u64 0] 148));have hb2:=bE hw2;have Em:=Z9 hbr hb2;have XB:Z6 w2 xb 148 #[.int .u64 0,.int .u64 0]:=(by rw [hw2,hxb];exact Z6.new _ _ _);have qC:(Value.slice OA k oc).ownBlock≠some xb:=fun e=>by have:=TN ZL e;omega
    have HOWN:=ZH ZL hb2;have hkk:k<=4096:=(by omega);have hk0:(0:Int)<=(k:Int):=(by omega);have hxw:w1.heap.size<=xb:=(by rw [hxb];exact hbr.size);have d0:w2.cell? ⟨b,off+k*3,none⟩=some (.int .i64 p1):=(by rw [hw2];exact (World.cell?_alloc_lt _ _ _ (Zv c0)).trans c0);have d1:w2.cell? ⟨b,off+k*3+1,none⟩=some (.int .i64 p2):=(by rw [hw2];exact (World.cell?_alloc_lt _ _ _ (Zv c1)).trans c1);have d2:w2.cell? ⟨b,off+k*3+2,none⟩=some (.int .u64 id):=(by rw [hw2];exact (World.cell?_alloc_lt _ _ _ (Zv c2)).trans c2);rw [hw2] at d0 d1 d2;have wW:=hide (HME.out w2 Em (p1,p2) hqj);clear hr hqj ZL hbr;cases V with
    | false =>
      have zZ:hrec gs ((p1,p2),id)=(0,0):=(by unfold hrec;rw [<- HV.out];simp);clear wW hb2 qC d0 d1 d2 c0 c1 c2;have hsz:w2.heap.size=wr.heap.size+1:=(by rw [hw2];simp);obtain ⟨wx,hwx⟩:=eE w2;rw [<- hwx] at XB HOWN Em;have wS:wx.cell? ⟨xb,0,none⟩=some (.int .u64 0):=XB.q0 rfl;have wT:wx.cell? ⟨xb,1,none⟩=some (.int .u64 0):=XB.q1 rfl;obtain ⟨i0,hi,hi0,hi1,hi2⟩:=info_parts Un;have hbz:=Z7 (Below.refl wx.heap.size wx) (.cells #[.int .u64 0,.int .u64 0] 148);have N6:=Z6.new wx 148 #[.int .u64 0,.int .u64 0];have V7:=ZH HOWN hbz;have P6:=Z9 Em hbz;obtain ⟨g7,Lg,w7,hrun,Yg,WL,_,_⟩:=run_append_lies (P:=prog) (wx.alloc (.cells #[.int .u64 0,.int .u64 0] 148)) 110 110 w1.heap.size 148 i0 (.agg #[.int .u64 0,.int .u64 0]) 2 16 underlying110 hi hi0 hi1 hi2 rfl (by decide) _ k _ V7 ⟨wx.heap.size,0,none⟩ 1 1 [.int .u64 0,.int .u64 0] rfl (fun j u hu=>by rw [VW];exact N6.cell (by simpa using hu)) (by simp [Value.oneCell']) (by omega) (by unfold maxLen;omega) (by omega) P6.size _ rfl;have hw7:Below w1.heap.size w1 w7:=P6.grown WL P6.size (fun j hj=>ZG V7 hj);have q1:w7.ownsRow w1.heap.size 148 2 (.slice (some ⟨g7,0,none⟩) (k+1) Lg) (k+1) (ZA (Zb gs (qs.take (k+1)))):=by
       rw [qx.out,zZ,Wm];exact Yg
      clear Yg WL N6 V7 P6 hi hi0 hi1 hi2;rw [hwx,hsz,hw2] at hrun;rw [hwx,hw2,hxb] at wS wT;go_wp2_with (at_builtin;refine wpList_append_run (.tmp 47) (.tmp 49) 110 rfl rfl _ _ rfl rfl hrun ?_);clear hrun wS wT;go_wp2;go_roundw
      case rel=>exact ⟨k+1,by omega,by go_num,q1,hw7⟩
      case measure=>simp [intOf];omega
    | true =>
      go_wp2_with fail;rw [<- hw2,<- hxb];have D2:Hid (w2.cell? ⟨b,off+k*3+2,none⟩=some (.int .u64 id)):=hide (by rw [<- hw2] at d2;exact d2);clear d0 d1 d2 c0 c1 c2 hw2 hxb hb2;unfold Mh at wW;refine wW.out.mono ?_;rintro e wm ⟨rfl,hbm⟩;have HOWN:=ZH HOWN hbm;have XB:=XB.step hbm;have Em:=Z9 Em hbm;have d2:wm.cell? ⟨b,off+k*3+2,none⟩=some (.int .u64 id):=R9 hbm D2.out;obtain ⟨M,hM⟩:=eE (XZ gs (p1,p2));rw [<- hM];clear wW D2 hbm;cases M with
      | false =>
        have zZ:hrec gs ((p1,p2),id)=(0,0):=(by unfold hrec;rw [<- hM];simp);clear d2 hM qC;obtain ⟨wx,hwx⟩:=eE wm;subst hwx;have wS:wx.cell? ⟨xb,0,none⟩=some (.int .u64 0):=XB.q0 rfl;have wT:wx.cell? ⟨xb,1,none⟩=some (.int .u64 0):=XB.q1 rfl;obtain ⟨i0,hi,hi0,hi1,hi2⟩:=info_parts Un;have hbz:=Z7 (Below.refl wx.heap.size wx) (.cells #[.int .u64 0,.int .u64 0] 148);have N6:=Z6.new wx 148 #[.int .u64 0,.int .u64 0];have V7:=ZH HOWN hbz;have P6:=Z9 Em hbz;obtain ⟨g7,Lg,w7,hrun,Yg,WL,_,_⟩:=run_append_lies (P:=prog) (wx.alloc (.cells #[.int .u64 0,.int .u64 0] 148)) 110 110 w1.heap.size 148 i0 (.agg #[.int .u64 0,.int .u64 0]) 2 16 underlying110 hi hi0 hi1 hi2 rfl (by decide) _ k _ V7 ⟨wx.heap.size,0,none⟩ 1 1 [.int .u64 0,.int .u64 0] rfl (fun j u hu=>by rw [VW];exact N6.cell (by simpa using hu)) (by simp [Value.oneCell']) (by omega) (by unfold maxLen;omega) (by omega) P6.size _ rfl;have hw7:Below w1.heap.size w1 w7:=P6.grown WL P6.size (fun j hj=>ZG V7 hj);have q1:w7.ownsRow w1.heap.size 148 2 (.slice (some ⟨g7,0,none⟩) (k+1) Lg) (k+1) (ZA (Zb gs (qs.take (k+1)))):=by
         rw [qx.out,zZ,Wm];exact Yg
        clear Yg WL N6 V7 P6 hi hi0 hi1 hi2;go_wp2_with (at_builtin;refine wpList_append_run (.tmp 47) (.tmp 49) 110 rfl rfl _ _ rfl rfl hrun ?_);clear hrun wS wT;go_wp2;go_roundw
        case rel=>exact ⟨k+1,by omega,by go_num,q1,hw7⟩
        case measure=>simp [intOf];omega
      | true =>
        have zZ:hrec gs ((p1,p2),id)=(1,id):=(by unfold hrec;rw [<- hM,<- HV.out];simp);have Eu:b≠xb\/True:=.inr trivial;have x0:=XB.q0 rfl;have x1:=XB.q1 rfl;have f0:=XB.frozen 0;have f1:=XB.frozen 1;obtain ⟨wx,hwx⟩:=eE ((wm.setCell ⟨xb,0,none⟩ (.int .u64 1)).setCell ⟨xb,1,none⟩ (.int .u64 id));have XB:Z6 wx xb 148 #[.int .u64 1,.int .u64 id]:=(by rw [hwx];exact (XB.set 0 (.int .u64 1)).set 1 (.int .u64 id));have HOWN:wx.ownsRow w1.heap.size 148 2 (.slice OA k oc) k (ZA (Zb gs (qs.take k))):=(by rw [hwx];exact ownsRow_setCell_other (ownsRow_setCell_other HOWN (a:=⟨xb,0,none⟩) qC _) (a:=⟨xb,1,none⟩) qC _);have Em:Below w1.heap.size w1 wx:=(by rw [hwx];exact (Em.setCell (p:=⟨xb,0,none⟩) hxw _).setCell (p:=⟨xb,1,none⟩) hxw _);have hsz:wx.heap.size=wm.heap.size:=(by rw [hwx];simp);clear hM qC Eu;have wS:wx.cell? ⟨xb,0,none⟩=some (.int .u64 1):=XB.q0 rfl;have wT:wx.cell? ⟨xb,1,none⟩=some (.int .u64 id):=XB.q1 rfl;obtain ⟨i0,hi,hi0,hi1,hi2⟩:=info_parts Un;have hbz:=Z7 (Below.refl wx.heap.size wx) (.cells #[.int .u64 1,.int .u64 id] 148);have N6:=Z6.new wx 148 #[.int .u64 1,.int .u64 id];have V7:=ZH HOWN hbz;have P6:=Z9 Em hbz;obtain ⟨g7,Lg,w7,hrun,Yg,WL,_,_⟩:=run_append_lies (P:=prog) (wx.alloc (.cells #[.int .u64 1,.int .u64 id] 148)) 110 110 w1.heap.size 148 i0 (.agg #[.int .u64 0,.int .u64 0]) 2 16 underlying110 hi hi0 hi1 hi2 rfl (by decide) _ k _ V7 ⟨wx.heap.size,0,none⟩ 1 1 [.int .u64 1,.int .u64 id] rfl (fun j u hu=>by rw [VW];exact N6.cell (by simpa using hu)) (by simp [Value.oneCell']) (by omega) (by unfold maxLen;omega) (by omega) P6.size _ rfl;have hw7:Below w1.heap.size w1 w7:=P6.grown WL P6.size (fun j hj=>ZG V7 hj);have q1:w7.ownsRow w1.heap.size 148 2 (.slice (some ⟨g7,0,none⟩) (k+1) Lg) (k+1) (ZA (Zb gs (qs.take (k+1)))):=by
         rw [qx.out,zZ,Wm];exact Yg
        clear Yg WL N6 V7 P6 hi hi0 hi1 hi2;rw [hsz,hwx] at hrun;rw [hwx] at wS wT;go_wp2_with (at_builtin;refine wpList_append_run (.tmp 47) (.tmp 49) 110 rfl rfl _ _ rfl rfl hrun ?_);clear hrun wS wT x0 x1 f0 f1 d2;go_wp2;go_roundw
        case rel=>exact ⟨k+1,by omega,by go_num,q1,hw7⟩
        case measure=>simp [intOf];omega
  · obtain rfl:k=qs.length:=(by omega);rw [List.take_length] at ZL;have Sv:¬ (qs.length:Int)<(qs.length:Int):=(by omega);go_wp2;go_ret;exact ⟨_,rfl,ZL,hbr⟩
end
end
section
open Go.RowKit Go.Shelf
theorem XP {fn:Func} {p u:Tmp} {tmps:Array Value} {w:World} {g:Nat} {v0 v1 v2:Value} (h:fn.results=#[.cell p 112,.tmp u])
 (hp:tmps.getD p undef=.pointer (some ⟨g,0,none⟩)) (hb:Z6 w g 112 #[v0,v1,v2]) :
 (results fn tmps).run prog w=.ok (.tuple #[.agg #[v0,v1,v2],tmps.getD u undef]) w:=by
 have c0:=hb.q0 rfl;have c1:=hb.q1 rfl;have c2:=hb.q2 rfl;have hp':tmps[p]?.getD undef=.pointer (some ⟨g,0,none⟩):=by rw [<- hp];simp
 simp [results,h,hp',go_sem,c0,c1,c2]
theorem XM {r:qd × Int} {w w2:World} {g c:Nat} {A:Option Addr} {val cnt er:Int} {recs:List (Int × Int)} {u0 u1 u2:Value} (hr:r=(⟨val,cnt,recs⟩,er)) (hk:Below w.heap.size w w2) (hg:w.heap.size<=g)
 (hs:Sl w2 w2.heap.size A (ZA recs)) (hne:recs≠[]->∀ x,A=some x->x.block≠g) :
 Hf r w (.returned (.tuple #[.agg #[.int .i64 val,.int .i64 cnt,.slice A recs.length c],.int .i64 er])) (((w2.setCell ⟨g,0,none⟩ u0).setCell ⟨g,1,none⟩ u1).setCell ⟨g,2,none⟩ u2):=by
 subst hr;have hne':ZA recs≠[]->∀ x,A=some x->x.block≠g:=fun h=>hne fun e=>h (by rw [e];rfl);have far:∀ {wx:World} (o:Nat) (u:Value),Sl wx wx.heap.size A (ZA recs)->Sl (wx.setCell ⟨g,o,none⟩ u) (wx.setCell ⟨g,o,none⟩ u).heap.size A (ZA recs):=fun o u h=>(h.far (p:=⟨g,o,none⟩) hne' u).more (by simp);exact ⟨A,c,rfl,((hk.setCell (p:=⟨g,0,none⟩) hg _).setCell (p:=⟨g,1,none⟩) hg _).setCell (p:=⟨g,2,none⟩) hg _,far 2 _ (far 1 _ (far 0 _ hs))⟩
section
variable (gs:List Gr)(GA:Option Addr)(gc:Nat)(qs:List ((Int × Int) × Int))(QA:Option Addr)(qc:Nat)(w:World)
variable (hg:Sl w w.heap.size GA (rgCells (gs.map (·.1))))(hgs:xB w gs)(hq:Sl w w.heap.size QA (Wt qs))(hqj:∀ q∈qs,PJ q.1)(Ro:∀ q∈qs,Vo q.2)
include hg hgs hq hqj Ro
theorem zqq:Calls prog 110 #[.slice GA gs.length gc,.slice QA qs.length qc] w (Hf (YW gs qs) w):=by
 obtain ⟨rb,hrb⟩:=eE w.heap.size;obtain ⟨w0,hw0⟩:=eE (w.alloc (.cells #[.int .i64 0,.int .i64 0,.slice none 0 0] 112));have hb0:=bE hw0;have C0:Z6 w0 rb 112 #[.int .i64 0,.int .i64 0,.slice none 0 0]:=by rw [hw0,hrb];exact Z6.new _ _ _
 have wV:=hide (Ox (gs.map (·.1)) GA gc w0 ((hg.below hb0).more hb0.size));rw [List.length_map] at wV;have zZ:=hide (fun (hf:Zi (gs.map (·.1))=0) (h1:1<=qs.length) (h2:qs.length<=4096)=>vY gs GA gc qs QA qc w0 ((hg.below hb0).more hb0.size) (hgs.step hb0) ((hq.below hb0).more hb0.size) hqj Ro hf h1 h2);have qB:=hide (fun (w':World) (hb:Below w.heap.size w w')=>SN gs GA gc w' ((hg.below hb).more hb.size) (hgs.step hb));have hcl:=Ui gs Ro;have hhl:(Zb gs qs).length=qs.length:=by unfold Zb;rw [List.length_map]
 have zpg:=RF _ hcl;have HB:Hid (YW gs qs=if Yl gs qs.length≠0 then (Xk,Yl gs qs.length) else (⟨bif Zc gs then 1 else 0,XQ (Zb gs qs),Yi Zm (Zb gs qs)⟩,0)):=hide rfl;have kN:Hid (Yl gs qs.length=if Zi (gs.map (·.1))≠0 then Zi (gs.map (·.1)) else if qs.length<1\/4096<qs.length then 6 else 0):=hide rfl;obtain ⟨fc,hfc⟩:=eE (Zi (gs.map (·.1)));rw [<- hfc] at wV zZ kN;obtain ⟨V,hV⟩:=eE (Zc gs);rw [<- hV] at qB HB;clear hg hgs hq hqj Ro hfc hV;have z0:=C0.q0 rfl;have z1:=C0.q1 rfl;have z2:=C0.q2 rfl;have y0:=C0.frozen 0;have y1:=C0.frozen 1;have y2:=C0.frozen 2;have hlt:=C0.lt;go_enter func110,ntmps110;go_wp2_with fail;rw [<- hw0,<- hrb];refine wV.out.mono ?_;rintro e w1 ⟨rfl,hw1⟩;subst hw1;have tZ:w.heap.size<=rb:=by omega
 have Eo:=hide hrb;have Qz:=hide C0;have HW0:=hide hw0;have HB0:=hide hb0;clear hrb C0 hw0 hb0 wV
 by_cases hf:fc=0
 · subst hf
   by_cases h1:qs.length<1
   · have h1':(qs.length:Int)<1:=(by omega);have HE:Hid (YW gs qs=(⟨0,0,[]⟩,6)):=hide (by rw [HB.out,kN.out];simp [h1];rfl);clear zZ qB;go_wp2;refine bodyPost_ret (XP (p:=4) (u:=5) rfl rfl (((Qz.out.set 0 _).set 1 _).set 2 _)) rfl ?_;exact XM (recs:=[]) HE.out HB0.out tZ (Sl.nil _ _ _) (fun h=>absurd rfl h)
   · have h1':¬ (qs.length:Int)<1:=by omega
     by_cases h2:4096<qs.length
     · have h2':(4096:Int)<(qs.length:Int):=(by omega);have HE:Hid (YW gs qs=(⟨0,0,[]⟩,6)):=hide (by rw [HB.out,kN.out];simp [h2];rfl);clear zZ qB;go_wp2;refine bodyPost_ret (XP (p:=4) (u:=5) rfl rfl (((Qz.out.set 0 _).set 1 _).set 2 _)) rfl ?_;exact XM (recs:=[]) HE.out HB0.out tZ (Sl.nil _ _ _) (fun h=>absurd rfl h)
     · have h2':¬ (4096:Int)<(qs.length:Int):=(by omega);have HE:Hid (YW gs qs=(⟨bif V then 1 else 0,XQ (Zb gs qs),Yi Zm (Zb gs qs)⟩,0)):=hide (by rw [HB.out,kN.out];simp [h1,h2]);have HR1:=hide (zZ.out rfl (by omega) (by omega));obtain ⟨L,hL⟩:=eE (Zb gs qs);rw [<- hL] at HR1 HE hcl hhl zpg;have hLn:L.length<=4096:=(by omega);have zsc:=hide (fun (A:Option Addr) (c:Nat) (w':World) (hs:Sl w' w'.heap.size A (ZA L))=>jf L hcl hLn A c w' hs);have zrl:=hide (fun (A:Option Addr) (c:Nat) (w':World) (hs:Sl w' w'.heap.size A (ZA L))=>oW L hcl hLn A c w' hs);have HHL:=hide hhl;clear zZ HB kN hL hcl hhl z0 z1 z2 y0 y1 y2;go_wp2_with fail;refine HR1.out.mono ?_;rintro e w2 ⟨v,rfl,hv,hb2⟩;obtain ⟨LA,lc,rfl,hlc⟩:=Zl hv;rw [<- HHL.out] at hv;have HS2:=hide (Sl.Xw hv);have hs2:=HS2.out;rw [<- HHL.out];have HB2:=Z9 HB0.out hb2;have OD:=hide (Qz.out.step hb2);have zmx:rb<w2.heap.size:=OD.out.lt;clear hv hlc hb2;go_wp2_with fail;refine (zsc.out LA lc w2 hs2).mono ?_;rintro e w3 ⟨v,rfl,hv3,hb3⟩;obtain ⟨SA,sc,rfl,hsc⟩:=Zl hv3;have zrs:=hide hv3;have HS3:=hide ((hs2.below hb3).more hb3.size);have HB3:=Z9 HB2 hb3;have HC3:=hide (OD.out.step hb3);clear hv3 hs2 hb3 hsc;go_wp2_with fail;refine (zrl.out LA lc w3 HS3.out).mono ?_;rintro e w4 ⟨rfl,hb4⟩;have hcv:IntKind.i64.wrap ((XQ L:Nat):Int)=((XQ L:Nat):Int):=(by rw [IntKind.wrap_i64];omega);have kY:=hide (ZH zrs.out hb4);have KX:=Z9 HB3 hb4;have HC4:=hide (HC3.out.step hb4);obtain ⟨tb,htb⟩:=eE w4.heap.size;obtain ⟨w5,hw5⟩:=eE (w4.alloc (.cells #[.int .i64 0,.int .i64 (XQ L:Nat),.slice SA L.length sc] 112));have hb5:=bE hw5;have zrt:=hide (ZH kY.out hb5);have kM:=Z9 KX hb5;have HC5:=hide (HC4.out.step hb5);have T5:Z6 w5 tb 112 #[.int .i64 0,.int .i64 (XQ L:Nat),.slice SA L.length sc]:=(by rw [hw5,htb];exact Z6.new _ _ _);have HT5:=hide T5
       have aG:Hid (L≠[]->∀ x,SA=some x->x.block≠rb/\x.block≠tb):=hide fun _ x hx=>by
        have h1:=ZG kY.out (k:=x.block) (by rw [hx];rfl);have h2:=TN kY.out (k:=x.block) (by rw [hx];rfl);omega
       have HVV:=hide (qB.out w5 kM);have qA:Hid (rb<tb/\w.heap.size<=tb):=hide (by have:=HC4.out.lt;have:=KX.size;omega);clear hb4 zrl zsc qB T5 hb5 zrs kY OD HC3 HC4 HS2 HS3;go_wp2_with fail;rw [<- hw5,<- htb];clear hw5 htb;refine HVV.out.mono ?_;rintro e w6 ⟨rfl,hb6⟩;have ah:=Z9 kM hb6;have T6:=HT5.out.step hb6;have C6:=HC5.out.step hb6;have HT6:=hide T6;have HC6:=hide C6;have HS6:=hide (Sl.Xw (ZH zrt.out hb6));have t0:=T6.q0 rfl;have t1:=T6.q1 rfl;have t2:=T6.q2 rfl;have f0:=T6.frozen 0;have z0:=C6.q0 rfl;have z1:=C6.q1 rfl;have z2:=C6.q2 rfl;have y0:=C6.frozen 0;have y1:=C6.frozen 1;have y2:=C6.frozen 2;have htr:tb≠rb:=(by have:=qA.out;omega);have hrt:rb≠tb:=fun e=>htr e.symm;have hlen:(Yi Zm L).length=L.length:=Vf Zm L;clear hb6 T6 C6 HT5 HC5 zrt HVV;cases V with
       | false =>
         go_wp2;refine bodyPost_ret (XP (p:=4) (u:=5) rfl rfl (((HC6.out.set 0 _).set 1 _).set 2 _)) rfl ?_;have h:=XM (A:=SA) (c:=sc) (u0:=.int .i64 0) (u1:=.int .i64 (XQ L:Nat)) (u2:=.slice SA L.length sc) HE.out ah tZ HS6.out (fun hx x hA=>(aG.out (fun e=>hx (by rw [e];rfl)) x hA).1);rw [hlen] at h;exact h
       | true =>
         have t0':=(HT6.out.set 0 (.int .i64 1)).q0 rfl;have t1':=(HT6.out.set 0 (.int .i64 1)).q1 rfl;have t2':=(HT6.out.set 0 (.int .i64 1)).q2 rfl;have C7:=HC6.out.far (p:=⟨tb,0,none⟩) hrt (.int .i64 1);have HC7:=hide C7;have aP:Hid (Sl (w6.setCell ⟨tb,0,none⟩ (.int .i64 1)) (w6.setCell ⟨tb,0,none⟩ (.int .i64 1)).heap.size SA (ZA (Yi Zm L))):=hide ((HS6.out.far (p:=⟨tb,0,none⟩) (fun hx x hA=>(aG.out (fun e=>hx (by rw [e];rfl)) x hA).2) _).more (by simp));have HB7:=ah.setCell (p:=⟨tb,0,none⟩) qA.out.2 (.int .i64 1);go_wp2;refine bodyPost_ret (XP (p:=4) (u:=5) rfl rfl (((HC7.out.set 0 _).set 1 _).set 2 _)) rfl ?_;have h:=XM (A:=SA) (c:=sc) (u0:=.int .i64 1) (u1:=.int .i64 (XQ L:Nat)) (u2:=.slice SA L.length sc) HE.out HB7 tZ aP.out (fun hx x hA=>(aG.out (fun e=>hx (by rw [e];rfl)) x hA).1);rw [hlen] at h;exact h
 · have heb:(fc != 0)=true:=bne_iff_ne.2 hf;have HE:Hid (YW gs qs=(⟨0,0,[]⟩,fc)):=hide (by rw [HB.out,kN.out];simp [hf];rfl);clear zZ qB;go_wp2;refine bodyPost_ret (XP (p:=4) (u:=5) rfl rfl (((Qz.out.set 0 _).set 1 _).set 2 _)) rfl ?_;exact XM (recs:=[]) HE.out HB0.out tZ (Sl.nil _ _ _) (fun h=>absurd rfl h)
end
end
end Go.Proofs.YthnenedoblncjaaGreatDoor