/- Encode Large19 Skip21 -/
import Derived.Deep.RegionHeld3
import Derived.Test.YtfljlmleiggmjaaGreatDoorPkC06
set_option maxRecDepth 1000000
set_option maxHeartbeats 8000000
namespace Go.Proofs.YtfljlmleiggmjaaGreatDoor
section
open Go.RowKit
abbrev Gr:=Rg × List (Int × Int)
def szBad (x:Gr × Rg):Bool:=(x.1.1.n:Int) != sizeOfReg x.2.v
def kdBad (x:Gr × Rg):Bool:=(x.1.1.d != x.2.d) || (x.1.1.v != x.2.v)
def GsOk (w:World) (B:Nat) (gs:List Gr):Prop:=∀ g∈gs,g.1.n=g.2.length∧Sl w B g.1.A (ptCs g.2)
def gBytes (gs:List Gr):List Int:=gs.flatMap fun g=>g.2.flatMap pt16
def hencode (op vs:Int) (hrs:List Rg) (pts:Int) (gs:List Gr) (ps:List (Int × Int)) (qs:List ((Int × Int) × Int)):List Int × Int :=
 if hcheck op vs hrs pts≠0 then ([],hcheck op vs hrs pts)
 else if gs.length≠hrs.length∨(ps.length:Int)≠cntP op vs∨(qs.length:Int)≠cntQ op pts then ([],8)
 else if (gs.zip hrs).any szBad=true then ([],8)
 else if (gs.zip hrs).any kdBad=true then ([],2)
 else (fbytes op vs hrs pts++gBytes gs++ps.flatMap pt16++qs.flatMap q24,0)
theorem cnt_bd {op vs:Int} {hrs:List Rg} {pts:Int} (h:hcheck op vs hrs pts=0):-1000≤vs∧vs≤1000∧hrs.length≤64∧cntP op vs≤65∧cntQ op pts≤4096:=by
 obtain ⟨h1,h2,h3,h4,h5,h6,h7,h8,_⟩:=hcheck_zero h
 refine ⟨?_,?_,?_,?_,?_⟩
 · by_cases e:op=3
   · have:=h3 e;omega
   · have:=h4 e;omega
 · by_cases e:op=3
   · have:=h3 e;omega
   · have:=h4 e;omega
 · by_cases e:4≤op
   · exact (h5 e).2.1
   · have:=h6 (by omega);rw [this];simp
 · unfold cntP
   split
   · omega
   · split
     · omega
     · split
       · rename_i e;have:=h3 e;omega
       · split <;> omega
 · unfold cntQ
   split
   · omega
   · have:=h7 (by omega);omega
theorem keep4 {w0 wk w':World} {b1 o1 b2 o2 b3 o3 b4 o4:Nat} {v1 v2 v3 v4:Value} (hb:Below wk.heap.size wk w')
 (h:Below w0.heap.size w0 wk∧wk.cell? ⟨b1,o1,none⟩=some v1∧wk.cell? ⟨b2,o2,none⟩=some v2∧wk.cell? ⟨b3,o3,none⟩=some v3∧wk.cell? ⟨b4,o4,none⟩=some v4) :
 Below w0.heap.size w0 w'∧w'.cell? ⟨b1,o1,none⟩=some v1∧w'.cell? ⟨b2,o2,none⟩=some v2∧w'.cell? ⟨b3,o3,none⟩=some v3∧w'.cell? ⟨b4,o4,none⟩=some v4 :=
 have on:∀ {b o:Nat} {v:Value},wk.cell? ⟨b,o,none⟩=some v→w'.cell? ⟨b,o,none⟩=some v:=fun h=>(hb.cell (p:=⟨_,_,none⟩) (cell_lt h)).trans h
 ⟨bl_step h.1 hb,on h.2.1,on h.2.2.1,on h.2.2.2.1,on h.2.2.2.2⟩
theorem eachPt_n (P:Nat→Prop) (g:Nat) (bs:List Int) (w:World) (B:Nat) (A:Option Addr) (c n:Nat)
 (hP:∀ k,P k→k<w.heap.size) (hw:WS w P g bs) (hlen:bs.length≤400000) (hB:∀ k,k<B→P k) (ps:List (Int × Int)) (hnl:n=ps.length) (hs:Sl w B A (ptCs ps)) (hn:ps.length≤10000) :
 Calls Tryz.prog 147 #[.slice A n c,.func (.func 148) #[.pointer (some ⟨g,0,none⟩)] #[]] w fun e w'=>e=.returned (.tuple #[])∧KeepP P w w'∧WS w' P g (bs++ps.flatMap pt16):=by
 subst hnl;exact eachPt_any P g bs w B A c hP hw hlen hB ps hs hn
def LtP (n k:Nat):Prop:=k<n
theorem own_raise {w:World} {base:Nat} {e:TypeId} {size n:Nat} {v:Value} {xs:List Value} (h:w.ownsRow 0 e size v n xs) (hb:∀ k,v.ownBlock=some k→base≤k):w.ownsRow base e size v n xs:=by
 refine ⟨h.1,?_⟩
 rcases h.2 with h0 | ⟨g',cap,cur,rfl,_,r⟩
 · exact .inl h0
 · exact .inr ⟨g',cap,cur,rfl,hb g' rfl,r⟩
theorem ws_new {w:World} {base:Nat} {bs:List Int} {v:Value} (h:w.ownsRow base 5 1 v bs.length (byCells bs)) (hb:base≤w.heap.size):WS (w.alloc (.cells #[v] 162)) (LtP base) w.heap.size bs:=by
 refine ⟨v,Blk.new _ _ _,by unfold LtP;omega,own_step (own_mono h (Nat.zero_le _)) (bA),fun e=>?_,fun k hk hp=>?_⟩
 · have:=own_lt h e;omega
 · have:=own_base h hk;unfold LtP at hp;omega
theorem ws_read {w:World} {base base' g:Nat} {bs:List Int} (h:WS w (LtP base) g bs) (hb:base'≤base):∃ v,w.cell? ⟨g,0,none⟩=some v∧w.ownsRow base' 5 1 v bs.length (byCells bs):=by
 obtain ⟨v,h1,h2,h3,h4,h5⟩:=h
 refine ⟨v,h1.cell (i:=0) rfl,own_raise h3 fun k hk=>?_⟩
 have:=h5 k hk
 unfold LtP at this
 omega
theorem gs_small {gs:List Gr} {hrs:List Rg} (h:(gs.zip hrs).any szBad=false) (hl:gs.length=hrs.length):∀ g∈gs,(g.1.n:Int)≤64:=by
 intro g hg
 obtain ⟨k,hk,rfl⟩:=List.mem_iff_getElem.1 hg
 have h1:(gs.zip hrs)[k]?=some (gs[k],hrs[k]'(by omega)):=by
  rw [List.getElem?_zip_eq_some];exact ⟨List.getElem?_eq_getElem hk,List.getElem?_eq_getElem (by omega)⟩
 have h2:=List.any_eq_false.1 h _ (List.mem_of_getElem? h1)
 have h3:=sizeOfReg_bd (hrs[k]'(by omega)).v
 simp only [szBad,bne_iff_ne,ne_eq,Decidable.not_not] at h2
 omega
theorem gBytes_len (gs:List Gr) (h:∀ g∈gs,(g.2.length:Int)≤64):(gBytes gs).length≤1024*gs.length:=by
 induction gs with
 | nil=>simp [gBytes]
 | cons g gs ih =>
   have h1:=h g (by simp)
   have h2:=ih fun x hx=>h x (by simp [hx])
   have h3:=flat_len pt16 16 pt16_length g.2
   simp only [gBytes,List.flatMap_cons,List.length_append,List.length_cons] at *
   omega
theorem gBytes_succ (gs:List Gr) (k:Nat) (g:Gr) (h:gs[k]?=some g):gBytes (gs.take (k+1))=gBytes (gs.take k)++g.2.flatMap pt16:=by
 unfold gBytes;rw [List.take_add_one,h];simp
theorem zip_take_all {gs:List Gr} {hrs:List Rg}:(gs.zip hrs).take gs.length=gs.zip hrs:=List.take_of_length_le (by rw [List.length_zip];omega)
theorem fbytes_le (op vs:Int) (rs:List Rg) (pts:Int):(fbytes op vs rs pts).length≤rs.length+4:=by
 unfold fbytes
 simp only [List.length_append,List.length_map,List.length_cons,List.length_nil]
 split <;> split <;> (try split) <;> simp <;> omega
section
variable (op vs pts:Int) (hrs:List Rg) (HA:Option Addr) (hc:Nat) (gs:List Gr) (GA:Option Addr) (gc:Nat) (ps:List (Int × Int)) (PA:Option Addr) (pc:Nat) (qs:List ((Int × Int) × Int)) (QA:Option Addr) (qc:Nat) (w:World)
variable (hh:Sl w w.heap.size HA (rgCells hrs)) (hgc:Sl w w.heap.size GA (rgCells (gs.map (·.1)))) (hgs:GsOk w w.heap.size gs) (hps:Sl w w.heap.size PA (ptCs ps)) (hqs:Sl w w.heap.size QA (quCs qs))
variable (hn:hrs.length≤maxLen)
include hh hgc hgs hps hqs hn
theorem encode_any:Calls Tryz.prog 103 #[.agg #[.int .i64 op,.int .i64 vs,.slice HA hrs.length hc,.int .i64 pts,.slice GA gs.length gc,.slice PA ps.length pc,.slice QA qs.length qc]] w (Formatted (hencode op vs hrs pts gs ps qs) w):=by
 have HH:=hide hh;clear hh
 have HG:=hide hgc;clear hgc
 have HGS:=hide hgs;clear hgs
 have HPS:=hide hps;clear hps
 have HQS:=hide hqs;clear hqs
 obtain ⟨w0,hw0⟩:∃ w0,w0=w.alloc (.cells #[.int .i64 op,.int .i64 vs,.slice HA hrs.length hc,.int .i64 pts,.slice GA gs.length gc,.slice PA ps.length pc,.slice QA qs.length qc] 100):=⟨_,rfl⟩
 have hb0:Below w.heap.size w w0:=by rw [hw0];exact bA
 have hz0:w0.heap.size=w.heap.size+1:=by rw [hw0];simp
 have B0:Blk w0 w.heap.size 100 #[.int .i64 op,.int .i64 vs,.slice HA hrs.length hc,.int .i64 pts,.slice GA gs.length gc,.slice PA ps.length pc,.slice QA qs.length qc]:=by rw [hw0];exact Blk.new _ _ _
 have HZ0:=hide hz0;clear hz0
 have b00:=B0.cell (i:=0) rfl
 have b01:=B0.cell (i:=1) rfl
 have b02:=B0.cell (i:=2) rfl
 have b03:=B0.cell (i:=3) rfl
 by_cases he:hcheck op vs hrs pts=0
 · obtain ⟨hv0,hv1,hrl,hcp,hcq⟩:=cnt_bd he
   have hf2:hformat op vs hrs pts=(fbytes op vs hrs pts,0):=by unfold hformat;rw [if_pos he]
   have HF2:=hide hf2;clear hf2
   have HE:=hide he;clear he
   have hlens:∃ b1 b2 b3:Bool,((gs.length:Int) != (hrs.length:Int))=b1∧((ps.length:Int) != cntP op vs)=b2∧((qs.length:Int) != cntQ op pts)=b3:=⟨_,_,_,rfl,rfl,rfl⟩
   obtain ⟨b1,b2,b3,g1,g2,g3⟩:=hlens
   have hmf:∀ (fn:Fn) (first cap:Array Value) (w:World),(Instr.makeFunc fn first cap).run Tryz.prog w=.ok (.func fn first cap) w:=fun _ _ _ _=>rfl
   go_enter Tryz.func103,Tryz.ntmps103
   go_wp2_with fail
   rw [← hw0]
   have HW0:=hide hw0;clear hw0
   have F:=format_any vs hrs HA hc pts w0 ((HH.out.below hb0).more hb0.size) hn op
   rw [HF2.out] at F
   refine F.mono ?_
   clear F
   rintro e w1 ⟨v,rfl,hv1',hb1⟩
   have B1:=B0.step hb1
   have b10:=B1.cell (i:=0) rfl
   have b11:=B1.cell (i:=1) rfl
   have b12:=B1.cell (i:=2) rfl
   have b13:=B1.cell (i:=3) rfl
   dsimp only at hv1'
   have hfl:=fbytes_le op vs hrs pts
   generalize hbs0:fbytes op vs hrs pts=bs0 at hv1' hfl
   have HBS:=hide hbs0;clear hbs0
   obtain ⟨VA,vcap,rfl,_⟩:=own_slice hv1'
   go_wp2_with fail
   refine (counts_any op vs pts w1 hv0 hv1 HA hrs.length hc).mono ?_
   rintro e w2 ⟨rfl,hb2⟩
   have B2:=B1.step hb2
   have b20:=B2.cell (i:=0) rfl
   have b21:=B2.cell (i:=1) rfl
   have b22:=B2.cell (i:=2) rfl
   have b23:=B2.cell (i:=3) rfl
   have b24:=B2.cell (i:=4) rfl
   have b25:=B2.cell (i:=5) rfl
   have b26:=B2.cell (i:=6) rfl
   have HB2:=bl_step (bl_step hb0 hb1) hb2
   cases b1
   case true =>
    have hf:hencode op vs hrs pts gs ps qs=([],8):=by unfold hencode;rw [if_neg (by simpa using HE.out),if_pos (.inl (by simp at g1;omega))]
    have HF:=hide hf;clear hf g2 g3
    go_wp2
    go_ret2
    rw [HF.out]
    exact ⟨_,rfl,World.ownsRow_nil _ _ _ _,HB2⟩
   case false =>
    have g1':gs.length=hrs.length:=by simp at g1;omega
    cases b2
    case true =>
     have hf:hencode op vs hrs pts gs ps qs=([],8):=by unfold hencode;rw [if_neg (by simpa using HE.out),if_pos (.inr (.inl (by simpa using g2)))]
     have HF:=hide hf;clear hf g3 g1'
     go_wp2
     go_ret2
     rw [HF.out]
     exact ⟨_,rfl,World.ownsRow_nil _ _ _ _,HB2⟩
    case false =>
     cases b3
     case true =>
      have hf:hencode op vs hrs pts gs ps qs=([],8):=by unfold hencode;rw [if_neg (by simpa using HE.out),if_pos (.inr (.inr (by simpa using g3)))]
      have HF:=hide hf;clear hf g1'
      go_wp2
      go_ret2
      rw [HF.out]
      exact ⟨_,rfl,World.ownsRow_nil _ _ _ _,HB2⟩
     case false =>
      have hf:hencode op vs hrs pts gs ps qs=if (gs.zip hrs).any szBad=true then ([],8) else if (gs.zip hrs).any kdBad=true then ([],2)
       else (fbytes op vs hrs pts++gBytes gs++ps.flatMap pt16++qs.flatMap q24,0):=by
       unfold hencode
       rw [if_neg (by simpa using HE.out),if_neg (by simp at g2 g3;omega)]
      have G1:=hide g1';clear g1'
      have HF:=hide hf;clear hf
      go_wp2
      go_loopw [5,54] (fun x i wr=>∃ (k:Nat) (b:Bool),k≤gs.length∧i=.int .i64 k∧x=.int .i64 (bif b then 2 else 0)∧((gs.zip hrs).take k).any kdBad=b∧((gs.zip hrs).take k).any szBad=false∧Below w2.heap.size w2 wr)
       (fun _ i _=>gs.length - (intOf i).toNat)
      case atStart=>exact ⟨0,false,by omega,rfl,rfl,by simp,by simp,Below.refl _ _⟩
      case round =>
       obtain ⟨k,b,hk,rfl,rfl,hany,hsz,hbr⟩:=hrel
       have HANY:=hide hany;clear hany
       have HSZ:=hide hsz;clear hsz
       by_cases hlt:k<gs.length
       · obtain ⟨r,hr⟩:∃ r,gs[k]?=some r:=⟨_,List.getElem?_eq_getElem hlt⟩
         obtain ⟨h,hh⟩:∃ h,hrs[k]?=some h:=⟨_,List.getElem?_eq_getElem (by have:=G1.out;omega)⟩
         have hzip:(gs.zip hrs)[k]?=some (r,h):=by rw [List.getElem?_zip_eq_some];exact ⟨hr,hh⟩
         have HBr:=bl_step HB2 hbr
         have hrm:(gs.map (·.1))[k]?=some r.1:=by rw [List.getElem?_map,hr];rfl
         obtain ⟨gb,goff,rfl,hgb,c0,c1,c2⟩:=(HG.out.below HBr).rg hrm
         obtain ⟨hb_,hoff,rfl,hhb,d0,d1,d2⟩:=(HH.out.below HBr).rg hh
         have Br:=B2.step hbr
         have r2:=Br.cell (i:=2) rfl
         have hwl:w.heap.size<wr.heap.size:=Br.lt
         have hlt':(k:Int)<(hrs.length:Int):=by have:=G1.out;omega
         have hsz1:=hbr.size
         have hgb':gb<wr.heap.size:=cell_lt c0
         have hhb':hb_<wr.heap.size:=cell_lt d0
         have ts:=any_take_succ (gs.zip hrs) szBad k (r,h) hzip
         have tk:=any_take_succ (gs.zip hrs) kdBad k (r,h) hzip
         have HTS:=hide ts;have HTK:=hide tk
         have HZIP:=hide hzip
         clear hr hh hrm hzip ts tk r2 b24 b20 b21 b22 b23 b25 b26 b10 b11 b12 b13 b00 b01 b02 b03
         have r2:=Br.cell (i:=2) rfl
         go_wp2
         obtain ⟨wx,hwx⟩:∃ wx,wx=(wr.alloc (.cells #[.bool r.1.d,.int .i64 r.1.v,.slice r.1.A r.1.n r.1.c] 61)).alloc (.cells #[.bool h.d,.int .i64 h.v,.slice h.A h.n h.c] 61):=⟨_,rfl⟩
         rw [← hwx]
         have hbx:Below wr.heap.size wr wx:=by rw [hwx];exact bl_alloc (bA) _
         have BX:Blk wx wr.heap.size 61 #[.bool r.1.d,.int .i64 r.1.v,.slice r.1.A r.1.n r.1.c]:=by rw [hwx];exact (Blk.new _ _ _).alloc _
         have BY:Blk wx (wr.heap.size+1) 61 #[.bool h.d,.int .i64 h.v,.slice h.A h.n h.c]:=by rw [hwx];exact Blk.new2 _ _ _ _
         have x2:=BX.cell (i:=2) rfl
         have y0:=BY.cell (i:=0) rfl
         have y1:=BY.cell (i:=1) rfl
         have y2:=BY.cell (i:=2) rfl
         have HWX:=hide hwx
         clear hwx c0 c1 c2 d0 d1 d2 r2
         obtain ⟨sb,hsb⟩:∃ sb,((r.1.n:Int) != sizeOfReg h.v)=sb:=⟨_,rfl⟩
         go_region_held3 (fun w'=>Below wx.heap.size wx w'∧w'.cell? ⟨wr.heap.size,2,none⟩=some (.slice r.1.A r.1.n r.1.c)∧w'.cell? ⟨wr.heap.size+1,0,none⟩=some (.bool h.d)∧w'.cell? ⟨wr.heap.size+1,1,none⟩=some (.int .i64 h.v)∧w'.cell? ⟨wr.heap.size+1,2,none⟩=some (.slice h.A h.n h.c))
          (first | exact ⟨Below.refl _ _,x2,y0,y1,y2⟩ | exact keep4 (by assumption) (by assumption) | exact keep4 (bl_drew (Below.refl _ _)) (by assumption) | exact keep4 (bl_drew (Below.refl _ _)) ⟨Below.refl _ _,x2,y0,y1,y2⟩)
          (first | (go_at_call 86;refine (size_any _ _ _ _ _ _).mono ?_;rintro e w' ⟨rfl,hb'⟩))
         have hbw:Below wx.heap.size wx w':=bl_step (bl_drew (Below.refl _ _)) hb'
         have hbn:Below w2.heap.size w2 w':=bl_step (bl_step hbr hbx) hbw
         have BX1:=BX.step hbw
         have BY1:=BY.step hbw
         clear x2 y0 y1 y2
         have x0:=BX1.cell (i:=0) rfl
         have x1:=BX1.cell (i:=1) rfl
         have y0:=BY1.cell (i:=0) rfl
         have y1:=BY1.cell (i:=1) rfl
         cases sb
         case true =>
          go_wp2
          go_ret2
          rw [HF.out,if_pos (any_of_get _ _ k _ HZIP.out hsb)]
          exact ⟨_,rfl,World.ownsRow_nil _ _ _ _,bl_step HB2 hbn⟩
         case false =>
          obtain ⟨q1,hq1⟩:∃ q,(r.1.d != h.d)=q:=⟨_,rfl⟩
          obtain ⟨q2,hq2⟩:∃ q,(r.1.v != h.v)=q:=⟨_,rfl⟩
          have hb2':((gs.zip hrs).take (k+1)).any szBad=false:=by rw [HTS.out,HSZ.out];exact hsb
          have hb3':((gs.zip hrs).take (k+1)).any kdBad=(b || (q1 || q2)):=by rw [HTK.out,HANY.out,← hq1,← hq2];rfl
          have HB2':=hide hb2';have HB3':=hide hb3'
          clear hb2' hb3'
          cases q1
          case true =>
           have hd:¬ r.1.d=h.d:=by simpa using hq1
           go_wp2
           go_roundw
           case rel=>exact ⟨k+1,true,by omega,by go_num,rfl,by rw [HB3'.out];simp,HB2'.out,hbn⟩
           case measure=>simp [intOf];omega
          case false =>
           have hd:r.1.d=h.d:=by simpa using hq1
           cases q2
           case true =>
            go_wp2
            go_roundw
            case rel=>exact ⟨k+1,true,by omega,by go_num,rfl,by rw [HB3'.out];simp,HB2'.out,hbn⟩
            case measure=>simp [intOf];omega
           case false =>
            go_wp2
            go_roundw
            case rel=>exact ⟨k+1,b,by omega,by go_num,rfl,by rw [HB3'.out];simp,HB2'.out,hbn⟩
            case measure=>simp [intOf];omega
       · have hk':k=gs.length:=by omega
         subst hk'
         have hany':=HANY.out
         have hsz':=HSZ.out
         rw [zip_take_all] at hany' hsz'
         have HA':=hide hany';have HS':=hide hsz'
         clear hany' hsz' HANY HSZ b24 b20 b21 b22 b23 b25 b26 b10 b11 b12 b13 b00 b01 b02 b03
         have HBr:=bl_step HB2 hbr
         have Br:=B2.step hbr
         cases b
         case true =>
          go_wp2
          go_ret2
          rw [HF.out,if_neg (by rw [HS'.out];simp),if_pos HA'.out]
          exact ⟨_,rfl,World.ownsRow_nil _ _ _ _,HBr⟩
         case false =>
          rw [show (bif false then (2:Int) else 0)=0 from rfl]
          have r4:=Br.cell (i:=4) rfl
          have hwl:w.heap.size<wr.heap.size:=Br.lt
          have HFIN:Hid (hencode op vs hrs pts gs ps qs=(fbytes op vs hrs pts++gBytes gs++ps.flatMap pt16++qs.flatMap q24,0)):=by
           apply hide;rw [HF.out,if_neg (by rw [HS'.out];simp),if_neg (by rw [HA'.out];simp)]
          have hsm:=gs_small HS'.out G1.out
          have HSM:=hide hsm;clear hsm
          have hgl64:gs.length≤64:=by have:=G1.out;omega
          have hpl:ps.length≤65:=by simp at g2;omega
          have hql:qs.length≤4096:=by simp at g3;omega
          have hown:=own_step (own_step hv1' hb2) hbr
          have hszr:w0.heap.size≤wr.heap.size:=by have:=hb1.size;have:=hb2.size;have:=hbr.size;omega
          have hws:=ws_new hown hszr
          have hbA:Below w.heap.size w (wr.alloc (.cells #[.slice VA bs0.length vcap] 162)):=bl_alloc HBr _
          have BA:=Br.alloc (.cells #[.slice VA bs0.length vcap] 162)
          have hsA:(wr.alloc (.cells #[.slice VA bs0.length vcap] 162)).heap.size=wr.heap.size+1:=by simp
          have hLT:∀ k,k<w.heap.size→LtP w0.heap.size k:=fun k hk=>by have:=HZ0.out;unfold LtP;omega
          have hLT0:LtP w0.heap.size w.heap.size:=by have:=HZ0.out;unfold LtP;omega
          have HLT:=hide hLT;clear hLT
          have HG1:=hide g1;have HG2:=hide g2;have HG3:=hide g3
          clear g1 g2 g3 hown
          go_wp2
          generalize hwA:wr.alloc (.cells #[.slice VA bs0.length vcap] 162)=wA at *
          have HWA:=hide hwA;clear hwA
          have hPA:∀ k,LtP w0.heap.size k→k<wA.heap.size:=fun k hk=>by unfold LtP at hk;omega
          have HPA:=hide hPA;clear hPA
          have HSA:=hide hsA;clear hsA
          obtain ⟨gw,hgw⟩:∃ gw,gw=wr.heap.size:=⟨_,rfl⟩
          rw [← hgw] at hws ⊢
          have HGW:=hide hgw;clear hgw
          go_loopw [95] (fun i wr=>∃ k:Nat,k≤gs.length∧i=.int .i64 k∧KeepP (LtP w0.heap.size) wA wr∧WS wr (LtP w0.heap.size) gw (bs0++gBytes (gs.take k)))
           (fun i _=>gs.length - (intOf i).toNat)
          case atStart=>exact ⟨0,by omega,rfl,KeepP.refl _ _,by simpa [gBytes] using hws⟩
          case round =>
           obtain ⟨k,hk,rfl,hkp,hwr⟩:=hrel
           by_cases hlt:k<gs.length
           · obtain ⟨r,hr⟩:∃ r,gs[k]?=some r:=⟨_,List.getElem?_eq_getElem hlt⟩
             have hrm:(gs.map (·.1))[k]?=some r.1:=by rw [List.getElem?_map,hr];rfl
             obtain ⟨gb,goff,rfl,hgb,c0,c1,c2⟩:=((HG.out.below hbA).kept hkp HLT.out).rg hrm
             have hrg:=HGS.out r (List.mem_of_getElem? hr)
             have hr64:=HSM.out r (List.mem_of_getElem? hr)
             have HRG:=hide hrg;clear hrg
             have hgl:=gBytes_len (gs.take k) (fun x hx=>by have h1:=HGS.out x (List.mem_of_mem_take hx);have h2:=HSM.out x (List.mem_of_mem_take hx);have:=h1.1;omega)
             have hln:(bs0++gBytes (gs.take k)).length≤400000:=by rw [List.length_append];rw [List.length_take] at hgl;omega
             have HGB:=hide (gBytes_succ gs k r hr)
             clear hr hrm hgl r4
             have hgb':gb<wr.heap.size:=cell_lt c0
             go_wp2_with fail
             obtain ⟨wx,hwx⟩:∃ wx,wx=wr.alloc (.cells #[.bool r.1.d,.int .i64 r.1.v,.slice r.1.A r.1.n r.1.c] 61):=⟨_,rfl⟩
             rw [← hwx]
             have hbx:Below wr.heap.size wr wx:=by rw [hwx];exact bA
             have HWX:=hide hwx;clear hwx
             have hPq:∀ k,LtP w0.heap.size k→k<wr.heap.size:=fun k hk=>Nat.lt_of_lt_of_le (HPA.out k hk) hkp.size
             have kx:KeepP (LtP w0.heap.size) wr wx:=KeepP.of_below hbx hPq
             refine (eachPt_n (LtP w0.heap.size) gw _ wx w.heap.size r.1.A r.1.c r.1.n (fun j hj=>Nat.lt_of_lt_of_le (hPq j hj) hbx.size) (hwr.step hbx) hln HLT.out r.2 HRG.out.1
              (((HRG.out.2.below hbA).kept hkp HLT.out).kept kx HLT.out) (by have:=HRG.out.1;omega)).mono ?_
             rintro e w5 ⟨rfl,k5,s5⟩
             clear hPq c0 c1 c2
             go_wp2
             go_roundw
             case rel=>exact ⟨k+1,by omega,by go_num,(hkp.trans kx).trans k5,by rw [HGB.out,← List.append_assoc];exact s5⟩
             case measure=>simp [intOf];omega
           · have hk':k=gs.length:=by omega
             subst hk'
             rw [List.take_length] at hwr
             have BQ:=BA.kept hkp hLT0
             have q5:=BQ.cell (i:=5) rfl
             have hgl:=gBytes_len gs (fun x hx=>by have h1:=HGS.out x hx;have h2:=HSM.out x hx;have:=h1.1;omega)
             have hln:(bs0++gBytes gs).length≤70000:=by rw [List.length_append];omega
             clear r4
             go_wp2_with fail
             refine (eachPt_any (LtP w0.heap.size) gw _ wr w.heap.size PA pc (fun j hj=>Nat.lt_of_lt_of_le (HPA.out j hj) hkp.size) hwr (by omega) HLT.out ps ((HPS.out.below hbA).kept hkp HLT.out) (by omega)).mono ?_
             rintro e w6 ⟨rfl,k6,s6⟩
             have k6':=hkp.trans k6
             have B6:=BQ.kept k6 hLT0
             have q6:=B6.cell (i:=6) rfl
             have hln6:(bs0++gBytes gs++ps.flatMap pt16).length≤80000:=by rw [List.length_append,flat_len pt16 16 pt16_length];omega
             clear q5
             go_wp2_with fail
             refine (eachQu_any (LtP w0.heap.size) gw _ w6 w.heap.size QA qc (fun j hj=>Nat.lt_of_lt_of_le (HPA.out j hj) k6'.size) s6 (by omega) HLT.out qs ((HQS.out.below hbA).kept k6' HLT.out) (by omega)).mono ?_
             rintro e w7 ⟨rfl,k7,s7⟩
             have k7':=k6'.trans k7
             generalize hbF:bs0++gBytes gs++ps.flatMap pt16++qs.flatMap q24=bF at s7
             have HBF:=hide hbF;clear hbF
             obtain ⟨rv,cv,rown⟩:=ws_read (base':=w.heap.size) s7 (by have:=HZ0.out;omega)
             obtain ⟨RA,rcap,rfl,_⟩:=own_slice rown
             clear q6
             go_wp2
             go_ret2
             rw [HFIN.out,HBS.out,HBF.out]
             exact ⟨.slice RA _ rcap,rfl,rown,hbA.trans (k7'.below HLT.out)⟩
 · have hf:hencode op vs hrs pts gs ps qs=([],hcheck op vs hrs pts):=by unfold hencode;rw [if_pos he]
   have hf2:hformat op vs hrs pts=([],hcheck op vs hrs pts):=by unfold hformat;rw [if_neg he]
   rw [hf]
   have he':(hcheck op vs hrs pts != 0)=true:=by rw [bne_iff_ne];exact he
   have HF2:=hide hf2;clear hf2 hf
   have HE:=hide he;clear he
   go_enter Tryz.func103,Tryz.ntmps103
   go_wp2_with fail
   rw [← hw0]
   have HW0:=hide hw0;clear hw0
   have F:=format_any vs hrs HA hc pts w0 ((HH.out.below hb0).more hb0.size) hn op
   rw [HF2.out] at F
   refine F.mono ?_
   clear F
   rintro e w1 ⟨v,rfl,hv1,hb1⟩
   go_wp2
   go_ret2
   exact ⟨_,rfl,World.ownsRow_nil _ _ _ _,bl_step hb0 hb1⟩
end
end
section
open Go.RowKit
def Lrg (rs:List Rg) (w:World) (e:Ending) (w':World):Prop:=∃ z:Int,e=.returned (.int .i64 z)∧(z=0∨z=1)∧(z=0→(∀ r∈rs,r.n≤250)∧rs.length≤250)∧Below w.heap.size w w'
theorem large16 (rs:List Rg) (A:Option Addr) (c:Nat) (w:World) (hs:Sl w w.heap.size A (rgCells rs)) (hn:rs.length≤maxLen) :
 Calls Tryz.prog 127 #[.slice A rs.length c] w (Lrg rs w):=by
 unfold maxLen at hn
 have HS:=hide hs;clear hs
 go_enter Tryz.func127,Tryz.ntmps127
 go_wp2
 go_loopw [3,8] (fun x i wr=>∃ (k:Nat) (z:Int),k≤rs.length∧i=.int .i64 k∧x=.int .i64 z∧(k:Int)≤z∧z≤250∧Hid (∀ r∈rs.take k,r.n≤250)∧Below w.heap.size w wr)
  (fun _ i _=>rs.length - (intOf i).toNat)
 case atStart=>exact ⟨0,0,by omega,rfl,rfl,by omega,by omega,hide (fun r hr=>by simp at hr),Below.refl _ _⟩
 case round =>
  obtain ⟨k,z,hk,rfl,rfl,hz0,hz1,hT,hbr⟩:=hrel
  by_cases hlt:k<rs.length
  · obtain ⟨r,hr⟩:∃ r,rs[k]?=some r:=⟨_,List.getElem?_eq_getElem hlt⟩
    obtain ⟨b,off,rfl,hB,c0,c1,c2⟩:=(HS.out.below hbr).rg hr
    have HTS:Hid (rs.take (k+1)=rs.take k++[r]):=hide (by rw [List.take_add_one,hr];rfl)
    have hlti:((k:Nat):Int)<((rs.length:Nat):Int):=by omega
    obtain ⟨d,v,A,n,c⟩:=r
    dsimp only at *
    clear hr
    by_cases hn5:n≤500
    · have hmin:min ((n:Nat):Int) 500=(n:Int):=by omega
      have hw1:IntKind.i64.wrap (1+(n:Int))=1+(n:Int):=by rw [IntKind.wrap_i64];omega
      have hw2:IntKind.i64.wrap (z+(1+(n:Int)))=z+(1+(n:Int)):=by rw [IntKind.wrap_i64];omega
      by_cases hbig:250<z+(1+(n:Int))
      · go_wp2
        go_ret
        exact ⟨1,rfl,.inr rfl,fun h=>by omega,bl_alloc hbr _⟩
      · have hT2:Hid (∀ r∈rs.take (k+1),r.n≤250):=hide (by
         rw [HTS.out]
         intro r hr
         rcases List.mem_append.1 hr with h | h
         · exact hT.out r h
         · obtain rfl:=List.mem_singleton.1 h
           show n≤250
           omega)
        go_wp2
        go_roundw
        case rel=>exact ⟨k+1,z+(1+(n:Int)),by omega,by go_num,rfl,by omega,by omega,hT2,bl_alloc hbr _⟩
        case measure=>simp [intOf];omega
    · have hmin:min ((n:Nat):Int) 500=500:=by omega
      have hw2:IntKind.i64.wrap (z+501)=z+501:=by rw [IntKind.wrap_i64];omega
      have hbig:250<z+501:=by omega
      go_wp2
      go_ret
      exact ⟨1,rfl,.inr rfl,fun h=>by omega,bl_alloc hbr _⟩
  · obtain rfl:k=rs.length:=by omega
    rw [List.take_length] at hT
    go_wp2
    go_ret
    exact ⟨0,rfl,.inl rfl,fun _=>⟨hT.out,by omega⟩,hbr⟩
section
variable (op vs pts:Int) (hrs:List Rg) (HA:Option Addr) (hc:Nat) (gs:List Gr) (GA:Option Addr) (gc:Nat) (ps:List (Int × Int)) (PA:Option Addr) (pc:Nat) (qs:List ((Int × Int) × Int)) (QA:Option Addr) (qc:Nat) (w:World)
variable (hgc:Sl w w.heap.size GA (rgCells (gs.map (·.1)))) (hgn:gs.length≤maxLen)
def Lreq (gs:List Gr) (ps:List (Int × Int)) (w:World) (e:Ending) (w':World):Prop:=∃ z:Int,e=.returned (.int .i64 z)∧(z=0∨z=1)∧(z=0→(∀ g∈gs,g.1.n≤250)∧gs.length≤250∧ps.length≤100)∧Below w.heap.size w w'
include hgc hgn
theorem large19:Calls Tryz.prog 81 #[.agg #[.int .i64 op,.int .i64 vs,.slice HA hrs.length hc,.int .i64 pts,.slice GA gs.length gc,.slice PA ps.length pc,.slice QA qs.length qc]] w (Lreq gs ps w):=by
 obtain ⟨w0,hw0⟩:∃ w0,w0=w.alloc (.cells #[.int .i64 op,.int .i64 vs,.slice HA hrs.length hc,.int .i64 pts,.slice GA gs.length gc,.slice PA ps.length pc,.slice QA qs.length qc] 129):=⟨_,rfl⟩
 have hb0:Below w.heap.size w w0:=by rw [hw0];exact bA
 have B0:Blk w0 w.heap.size 129 #[.int .i64 op,.int .i64 vs,.slice HA hrs.length hc,.int .i64 pts,.slice GA gs.length gc,.slice PA ps.length pc,.slice QA qs.length qc]:=by rw [hw0];exact Blk.new _ _ _
 have L:=large16 (gs.map (·.1)) GA gc w0 ((hgc.below hb0).more hb0.size) (by rw [List.length_map];exact hgn)
 rw [List.length_map] at L
 have HL:=hide L
 clear L hgc hgn
 go_enter Tryz.func81,Tryz.ntmps81
 go_wp2_with fail
 rw [← hw0]
 clear hw0
 refine HL.out.mono ?_
 rintro e w1 ⟨z,rfl,hz,hT,hb1⟩
 have B1:=B0.step hb1
 have b0:w1.cell? ⟨w.heap.size,2,none⟩=some (.slice HA hrs.length hc):=B1.cell (i:=2) rfl
 have b1:w1.cell? ⟨w.heap.size,5,none⟩=some (.slice PA ps.length pc):=B1.cell (i:=5) rfl
 have b2:w1.cell? ⟨w.heap.size,6,none⟩=some (.slice QA qs.length qc):=B1.cell (i:=6) rfl
 have HB:=hide (bl_step hb0 hb1)
 have HT:=hide hT
 clear B0 B1 hb0 hb1 hT
 rcases hz with rfl | rfl
 · have HG:Hid ((∀ g∈gs,g.1.n≤250)∧gs.length≤250):=hide ⟨fun g hg=>(HT.out rfl).1 g.1 (List.mem_map.2 ⟨g,hg,rfl⟩),by have:=(HT.out rfl).2;rwa [List.length_map] at this⟩
   have h1:(100:Int)<((hrs.length:Nat):Int)∨¬ (100:Int)<((hrs.length:Nat):Int):=by omega
   have h2:(100:Int)<((ps.length:Nat):Int)∨¬ (100:Int)<((ps.length:Nat):Int):=by omega
   have h3:(1000:Int)<((qs.length:Nat):Int)∨¬ (1000:Int)<((qs.length:Nat):Int):=by omega
   rcases h1 with h1 | h1 <;> rcases h2 with h2 | h2 <;> rcases h3 with h3 | h3
   all_goals
    go_wp2
    go_ret
    first
     | exact ⟨1,rfl,.inr rfl,fun h=>by omega,HB.out⟩
     | exact ⟨0,rfl,.inl rfl,fun _=>⟨HG.out.1,HG.out.2,by omega⟩,HB.out⟩
 · go_wp2
   go_ret
   exact ⟨1,rfl,.inr rfl,fun h=>by omega,HB.out⟩
end
end
section
open Go.RowKit
def sumN (rs:List Rg):Nat:=(rs.map (·.n)).sum
theorem sumN_le:∀ (rs:List Rg),(∀ r∈rs,r.n≤250)→sumN rs≤250*rs.length
 | [],_=>by simp [sumN]
 | r::rs,h=>by
   have h1:=sumN_le rs (fun x hx=>h x (List.mem_cons_of_mem _ hx))
   have h2:=h r List.mem_cons_self
   unfold sumN at *
   rw [List.map_cons,List.sum_cons,List.length_cons]
   omega
theorem sumN_take (rs:List Rg) (k:Nat) (r:Rg) (h:rs[k]?=some r):sumN (rs.take (k+1))=sumN (rs.take k)+r.n:=by
 unfold sumN
 rw [List.take_add_one,h]
 simp [List.sum_append]
def Skp (rs:List Rg) (m:Nat) (w:World) (e:Ending) (w':World):Prop:=∃ z:Int,e=.returned (.int .i64 z)∧(z=0∨z=1)∧(z=0→(∀ r∈rs,r.n≤250)∧rs.length≤250∧m≤100∧sumN rs*m≤2000)∧Below w.heap.size w w'
theorem skip20 (rs:List Rg) (A:Option Addr) (c:Nat) (m:Nat) (QA:Option Addr) (qc:Nat) (w:World) (hs:Sl w w.heap.size A (rgCells rs)) (hn:rs.length≤maxLen) :
 Calls Tryz.prog 82 #[.slice A rs.length c,.slice QA m qc] w (Skp rs m w):=by
 have HS:=hide hs
 have HL:=hide (large16 rs A c w hs hn)
 clear hs hn
 go_enter Tryz.func82,Tryz.ntmps82
 go_wp2_with fail
 refine HL.out.mono ?_
 rintro e w1 ⟨z,rfl,hz,hT,hb1⟩
 clear HL
 rcases hz with rfl | rfl
 · obtain ⟨hT1,hT2⟩:=hT rfl
   clear hT
   by_cases hm:m≤100
   · have hm':¬ (100:Int)<((m:Nat):Int):=by omega
     have HT:=hide hT1
     clear hT1
     go_wp2
     go_loopw [5,18] (fun x i wr=>∃ (k:Nat),k≤rs.length∧i=.int .i64 k∧x=.int .i64 (sumN (rs.take k):Nat)∧Below w.heap.size w wr)
      (fun _ i _=>rs.length - (intOf i).toNat)
     case atStart=>exact ⟨0,by omega,rfl,rfl,hb1⟩
     case round =>
      obtain ⟨k,hk,rfl,rfl,hbr⟩:=hrel
      by_cases hlt:k<rs.length
      · obtain ⟨r,hr⟩:∃ r,rs[k]?=some r:=⟨_,List.getElem?_eq_getElem hlt⟩
        obtain ⟨b,off,rfl,hB,c0,c1,c2⟩:=(HS.out.below hbr).rg hr
        have HE:=hide (sumN_take rs k r hr)
        have hr250:=HT.out r (List.mem_of_getElem? hr)
        have hle:=sumN_le (rs.take k) (fun x hx=>HT.out x (List.take_subset _ _ hx))
        rw [List.length_take] at hle
        obtain ⟨d,v,A,n,c⟩:=r
        dsimp only at *
        obtain ⟨S,hS⟩:∃ S,S=sumN (rs.take k):=⟨_,rfl⟩
        rw [← hS] at hle HE ⊢
        have hS':S≤62500:=by
         have:min k rs.length≤250:=by omega
         omega
        have hw2:IntKind.i64.wrap ((S:Int)+(n:Int))=(S:Int)+(n:Int):=by rw [IntKind.wrap_i64];omega
        have hlti:((k:Nat):Int)<((rs.length:Nat):Int):=by omega
        clear hr hS
        go_wp2
        go_roundw
        case rel=>exact ⟨k+1,by omega,by go_num,by rw [HE.out];simp,bl_alloc hbr _⟩
        case measure=>simp [intOf];omega
      · obtain rfl:k=rs.length:=by omega
        rw [List.take_length]
        have hle:=sumN_le rs HT.out
        obtain ⟨S,hS⟩:∃ S,S=sumN rs:=⟨_,rfl⟩
        rw [← hS] at hle ⊢
        have hS':S≤62500:=by omega
        have hmul:S*m≤62500*100:=Nat.mul_le_mul hS' hm
        have hw2:IntKind.i64.wrap ((S:Int)*(m:Int))=((S*m:Nat):Int):=by rw [IntKind.wrap_i64];push_cast;rw [← Int.natCast_mul];omega
        have HF:Hid ((∀ r∈rs,r.n≤250)∧S=sumN rs):=hide ⟨HT.out,hS⟩
        clear HT hS HS
        by_cases hbig:(2000:Int)<((S*m:Nat):Int)
        · go_wp2
          go_ret
          exact ⟨1,rfl,.inr rfl,fun h=>by omega,hbr⟩
        · go_wp2
          go_ret
          exact ⟨0,rfl,.inl rfl,fun _=>⟨HF.out.1,by omega,hm,by rw [← HF.out.2];omega⟩,hbr⟩
   · have hm':(100:Int)<((m:Nat):Int):=by omega
     go_wp2
     go_ret
     exact ⟨1,rfl,.inr rfl,fun h=>by omega,hb1⟩
 · go_wp2
   go_ret
   exact ⟨1,rfl,.inr rfl,fun h=>by omega,hb1⟩
section
variable (op vs pts:Int) (hrs:List Rg) (HA:Option Addr) (hc:Nat) (gs:List Gr) (GA:Option Addr) (gc:Nat) (ps:List (Int × Int)) (PA:Option Addr) (pc:Nat) (qs:List ((Int × Int) × Int)) (QA:Option Addr) (qc:Nat) (w:World)
variable (hgc:Sl w w.heap.size GA (rgCells (gs.map (·.1)))) (hgn:gs.length≤maxLen)
def NoSkip (gs:List Gr) (ps:List (Int × Int)) (qs:List ((Int × Int) × Int)):Prop :=
 (∀ g∈gs,g.1.n≤250)∧gs.length≤250∧ps.length≤100∧qs.length≤100∧sumN (gs.map (·.1))*qs.length≤2000
def Skq (gs:List Gr) (ps:List (Int × Int)) (qs:List ((Int × Int) × Int)) (w:World) (e:Ending) (w':World):Prop:=∃ z:Int,e=.returned (.int .i64 z)∧(z=0∨z=1)∧(z=0→NoSkip gs ps qs)∧Below w.heap.size w w'
include hgc hgn
theorem skip21:Calls Tryz.prog 40 #[.agg #[.int .i64 op,.int .i64 vs,.slice HA hrs.length hc,.int .i64 pts,.slice GA gs.length gc,.slice PA ps.length pc,.slice QA qs.length qc]] w (Skq gs ps qs w):=by
 obtain ⟨rb,hrb⟩:∃ rb,rb=w.heap.size:=⟨_,rfl⟩
 obtain ⟨w0,hw0⟩:∃ w0,w0=w.alloc (.cells #[.int .i64 op,.int .i64 vs,.slice HA hrs.length hc,.int .i64 pts,.slice GA gs.length gc,.slice PA ps.length pc,.slice QA qs.length qc] 77):=⟨_,rfl⟩
 have hb0:Below w.heap.size w w0:=by rw [hw0];exact bA
 have B0:Blk w0 rb 77 #[.int .i64 op,.int .i64 vs,.slice HA hrs.length hc,.int .i64 pts,.slice GA gs.length gc,.slice PA ps.length pc,.slice QA qs.length qc]:=by rw [hw0,hrb];exact Blk.new _ _ _
 have HL:=hide (large19 op vs pts hrs HA hc gs GA gc ps PA pc qs QA qc w0 ((hgc.below hb0).more hb0.size) hgn)
 have HSK:=hide (fun (w':World) (hb:Below w.heap.size w w')=>skip20 (gs.map (·.1)) GA gc qs.length QA qc w' ((hgc.below hb).more hb.size) (by rw [List.length_map];exact hgn))
 rw [List.length_map] at HSK
 clear hgc hgn
 go_enter Tryz.func40,Tryz.ntmps40
 go_wp2_with fail
 rw [← hw0,← hrb]
 have HRB:=hide hrb
 clear hw0 hrb
 refine HL.out.mono ?_
 rintro e w1 ⟨z,rfl,hz,hT,hb1⟩
 have HB1:=bl_step hb0 hb1
 have B1:=B0.step hb1
 have b4:=B1.cell (i:=4) rfl
 have b6:=B1.cell (i:=6) rfl
 have HK:=hide (HSK.out w1 HB1)
 have HT:=hide hT
 clear B0 B1 hb0 hb1 HL HSK hT
 rcases hz with rfl | rfl
 · go_wp2_with fail
   refine HK.out.mono ?_
   rintro e w2 ⟨z,rfl,hz,hT2,hb2⟩
   have HB2:=bl_step HB1 hb2
   have HT2:=hide hT2
   clear hT2 hb2 HK
   rcases hz with rfl | rfl
   · go_wp2
     go_ret
     refine ⟨0,rfl,.inl rfl,fun _=>?_,HB2⟩
     obtain ⟨h1,h2,h3⟩:=HT.out trivial
     obtain ⟨_,_,h4,h5⟩:=HT2.out trivial
     exact ⟨h1,h2,h3,h4,h5⟩
   · go_wp2
     go_ret
     exact ⟨1,rfl,.inr rfl,fun h=>by omega,HB2⟩
 · go_wp2
   go_ret
   exact ⟨1,rfl,.inr rfl,fun h=>by omega,HB1⟩
end
end
end Go.Proofs.YtfljlmleiggmjaaGreatDoor
