/- Split1 Do -/
import Derived.Deep.RegionLaw
import Derived.Deep.RegionWith
import Derived.Lib.IndexBytes
import Derived.Shelf.Strings.Split
import Derived.Test.YthnenedoblncjaaGreatDoorPkP07
import Derived.Test.YthnenedoblncjaaGreatDoorPkP14
set_option maxRecDepth 1000000
set_option maxHeartbeats 8000000
namespace Go.Proofs.YthnenedoblncjaaGreatDoor
section
open Go.RowKit Go.Shelf
def sp (c:UInt8):List UInt8→List (List UInt8)
 | []=>[[]]
 | b::l=>if b=c then []::sp c l else match sp c l with
   | []=>[[b]]
   | x::r=>(b::x)::r
theorem sp_ne (c:UInt8) (l:List UInt8):sp c l≠[]:=by
 cases l with
 | nil=>simp [sp]
 | cons b l =>
   unfold sp
   split
   · simp
   · split <;> simp
theorem sp_none {c:UInt8} {l:List UInt8} (h:c ∉ l):sp c l=[l]:=by
 induction l with
 | nil=>rfl
 | cons b l ih =>
   have h1:¬ b=c:=fun e=>h (by rw [e];exact List.mem_cons_self ..)
   unfold sp
   rw [if_neg h1,ih fun e=>h (List.mem_cons_of_mem _ e)]
theorem sp_app {c:UInt8} {l:List UInt8} (h:c ∉ l) (r:List UInt8):sp c (l++c::r)=l::sp c r:=by
 induction l with
 | nil=>simp [sp]
 | cons b l ih =>
   have h1:¬ b=c:=fun e=>h (by rw [e];exact List.mem_cons_self ..)
   rw [List.cons_append,sp,if_neg h1,ih fun e=>h (List.mem_cons_of_mem _ e)]
theorem sp_len (c:UInt8) (l:List UInt8):(sp c l).length=l.count c+1:=by
 induction l with
 | nil=>rfl
 | cons b l ih =>
   by_cases h1:b=c
   · subst h1
     rw [sp,if_pos rfl,List.length_cons,ih,List.count_cons_self]
   · rw [sp,if_neg h1,List.count_cons_of_ne (fun e=>h1 e)]
     have h2:=sp_ne c l
     cases hs:sp c l with
     | nil=>exact absurd hs h2
     | cons x r=>rw [hs] at ih;exact ih
theorem sp_mem_len (c:UInt8):∀ (l y:List UInt8),y∈sp c l→y.length≤l.length
 | [],y,h=>by
   rw [sp,List.mem_singleton] at h
   subst h;exact Nat.le_refl _
 | b::l,y,h=>by
   have ih:=sp_mem_len c l
   unfold sp at h
   split at h
   · rcases List.mem_cons.1 h with rfl | h
     · exact Nat.zero_le _
     · exact Nat.le_trans (ih y h) (Nat.le_succ _)
   · split at h
     · rw [List.mem_singleton] at h
       subst h
       exact Nat.succ_le_succ (Nat.zero_le _)
     · rename_i x r hs
       rcases List.mem_cons.1 h with rfl | h
       · exact Nat.succ_le_succ (ih x (by rw [hs];exact List.mem_cons_self ..))
       · exact Nat.le_trans (ih y (by rw [hs];exact List.mem_cons_of_mem _ h)) (Nat.le_succ _)
theorem splitK_sp (c:UInt8) (l:List UInt8):Lib.splitK [c] 0 (l.count c) l=sp c l:=by
 induction l with
 | nil=>rfl
 | cons b l ih =>
   by_cases h1:b=c
   · subst h1
     have h2:Lib.index (b::l) [b]=0:=by unfold Lib.index;simp
     rw [List.count_cons_self,Lib.splitK,h2,sp,if_pos rfl,← ih]
     simp
   · have h2:Lib.index (b::l) [c]=if Lib.index l [c] == -1 then -1 else Lib.index l [c]+1:=by
      rw [Lib.index]
      rw [if_neg]
      simp [List.isPrefixOf]
      exact fun e=>h1 e.symm
     have h3:=Lib.index_ge l [c]
     have h4:(b::l).count c=l.count c:=List.count_cons_of_ne (fun e=>h1 e)
     rw [h4,sp,if_neg h1,← ih]
     cases hk:l.count c with
     | zero=>rfl
     | succ k =>
       rw [Lib.splitK,Lib.splitK,h2]
       by_cases h5:Lib.index l [c]=-1
       · rw [h5];rfl
       · obtain ⟨i,hi⟩:∃ i:Nat,Lib.index l [c]=i:=⟨(Lib.index l [c]).toNat,by omega⟩
         have h6:((i:Int) == -1)=false:=beq_eq_false_iff_ne.2 (by omega)
         have h7:((i:Int)+1 == -1)=false:=beq_eq_false_iff_ne.2 (by omega)
         rw [hi]
         simp only [h6,h7,Bool.false_eq_true,if_false]
         rw [show ((i:Int)+1).toNat=i+1 from by omega,show (i:Int).toNat=i from by omega]
         simp
theorem strOf_data (s:ByteArray):strOf s.data.toList=s:=by
 apply ByteArray.ext
 simp [strOf]
theorem sp_pieces (c:UInt8) (s:ByteArray):(Lib.splitB ⟨#[c]⟩ 0 (s.data.toList.count c) s).map Value.string=(sp c s.data.toList).map fun x=>Value.string (strOf x):=by
 have h:=Lib.splitB_data ⟨#[c]⟩ 0 (s.data.toList.count c) s
 have h1:Lib.splitK (ByteArray.mk #[c]).data.toList 0 (s.data.toList.count c) s.data.toList=sp c s.data.toList:=splitK_sp c _
 rw [h1] at h
 rw [← h,List.map_map]
 refine List.map_congr_left fun x _=>?_
 simp only [Function.comp,strOf_data]
section
variable {P:Program} {ρ:Ren}
theorem split_one (L:Lays.n146 P ρ) (hi9:(P.info? (ρ.t 9)).map (fun i=>(i.zero,i.size,i.bytes))=some (some (.string ByteArray.empty),1,16)) (s:ByteArray) (c:UInt8) (w:World) (hs:s.size<4294967281) :
 Calls P (ρ.f 146) #[.string s,.string ⟨#[c]⟩] w fun e w' =>
  e=.returned (.slice (some ⟨w.heap.size,0,none⟩) (sp c s.data.toList).length (sp c s.data.toList).length)∧w'=w.alloc (.cells ((sp c s.data.toList).map fun x=>Value.string (strOf x)).toArray (ρ.t 9)):=by
 have h1:1≤(ByteArray.mk #[c]).size:=Nat.le_refl 1
 have hcb:Lib.countB s ⟨#[c]⟩=s.data.toList.count c:=Lib.count_one c _
 have hle:=Lib.countB_le ⟨#[c]⟩ h1 s.size s (Nat.le_refl _)
 have hlen:=Lib.splitB_all ⟨#[c]⟩ h1 0 _ s rfl
 have hI:∀ (x:ByteArray) (cs:Array Value),x.size≤s.size→Calls P (ρ.f 143) #[.string x,.string ⟨#[c]⟩] (w.alloc (.cells cs (ρ.t 9))) fun e w'=>e=.returned (.int .i64 (Lib.indexB x ⟨#[c]⟩))∧w'=w.alloc (.cells cs (ρ.t 9)):=fun x cs _=>by
  refine (Any.strings_Index_one { L with } x c _).mono ?_
  rintro e w' ⟨rfl,rfl⟩
  refine ⟨?_,rfl⟩
  show _=Ending.returned (Value.int .i64 (Lib.index x.data.toList [c]))
  rw [Lib.index_one]
 have hC:Calls P (ρ.f 138) #[.string s,.string ⟨#[c]⟩] w fun e w'=>e=.returned (.int .i64 (Lib.countB s ⟨#[c]⟩))∧w'=w:=by
  refine (Any.strings_Count_one { L with } s c w).mono ?_
  rintro e w' ⟨rfl,rfl⟩
  refine ⟨?_,rfl⟩
  rw [hcb]
  rfl
 have g:=Any.strings_genSplit_core { L with } hi9 s ⟨#[c]⟩ 0 (-1) (Lib.countB s ⟨#[c]⟩+1) w hs h1 (Nat.zero_le _) hI hC (by decide) (by decide) (by rw [if_pos (by decide)];omega)
 rw [Nat.add_sub_cancel,hlen] at g
 have e2:Lib.cellsOf (Lib.splitB ⟨#[c]⟩ 0 (Lib.countB s ⟨#[c]⟩) s) (Lib.countB s ⟨#[c]⟩+1)=((Lib.splitB ⟨#[c]⟩ 0 (Lib.countB s ⟨#[c]⟩) s).map Value.string).toArray:=by rw [← hlen];exact Lib.cellsOf_full _
 rw [e2,hcb,sp_pieces,← sp_len] at g
 clear hlen e2 hcb hle hI hC h1
 have t3:=L.t3;have t9:=L.t9;have t31:=L.t31
 have a3:=L.a3;have a9:=L.a9;have a31:=L.a31
 have z3:=L.z3;have v3:=L.v3;have z9:=L.z9;have v9:=L.v9;have z31:=L.z31;have v31:=L.v31
 have e221:∀ args w,(callFunc (ρ.f 221) args).run P w=.ok (.enter (ρ.f 221) args) w:=enters_of L.f221 (by kernel_rfl) rfl
 go_enter L.f146,Body.n146_ntmps ρ
 go_wp2_with (go_at_fn (ρ.f 221);refine g.mono ?_;rintro e w' ⟨rfl,hw⟩;rw [hw])
 go_ret
 exact ⟨rfl,rfl⟩
end
end
section
open Go.RowKit Go.Shelf
def strCs (l:List (List UInt8)):List Value:=l.map fun x=>Value.string (strOf x)
theorem strCs_at {l:List (List UInt8)} {k:Nat} {x:List UInt8} (h:l[k]?=some x):(strCs l)[k]?=some (.string (strOf x)):=by
 unfold strCs
 rw [List.getElem?_map,h]
 rfl
theorem cmds_ctr (s:ByteArray) (hs:s.size≤1000000) (n:Nat) (hn:cmdOf s.data.toList=n) (fv:Value) (ok:Bool) (hf:n=0∧fv=.nilFunc∧ok=false∨n≠0∧fv=.func (.func n) #[] #[]∧ok=true) (g:Nat) (cs:Array Value) (w wx:World) (hb:Below w.heap.size w wx) (hx:Blk wx g 9 cs) :
 Calls Tryz.prog 51 #[] wx fun e w5=>∃ b5,e=.returned (.map (some b5))∧Below w.heap.size w w5∧Blk w5 g 9 cs ∧
  (Instr.lookup 98 (.map (some b5)) (.string s) true).run Tryz.prog w5=.ok (.tuple #[fv,.bool ok]) w5:=by
 refine (commands_any wx).mono ?_
 rintro e w5 ⟨rfl,hb5,hc5⟩
 refine ⟨_,rfl,bl_step hb hb5,hx.step hb5,?_⟩
 rw [cmd_look hc5 s hs,hn]
 rcases hf with ⟨h,rfl,rfl⟩ | ⟨h,rfl,rfl⟩
 · rw [if_pos h]
 · rw [if_neg h]
section
variable (L x:List UInt8) (xs:List (List UInt8)) (hL:L.length≤1000000) (hsp:sp 32 L=x::xs) (n:Nat) (hn:cmdOf x=n) (sA:Addr) (w:World)
include hL hsp hn
theorem do_known (hn0:n≠0) (he:∀ args w,(callFunc n args).run Tryz.prog w=.ok (.enter n args) w) (Q:ByteArray→World→Prop)
 (hcall:∀ w1 bb ob c,Below w.heap.size w w1→Sl w1 w1.heap.size (some ⟨bb,ob,none⟩) (strCs xs)→xs.length≤c→Calls Tryz.prog n #[.pointer (some sA),.slice (some ⟨bb,ob,none⟩) xs.length c] w1 fun e w'=>∃ t,e=.returned (.string t)∧Q t w') :
 Calls Tryz.prog 21 #[.pointer (some sA),.string (strOf L)] w fun e w'=>∃ t,e=.returned (.string t)∧Q t w':=by
 have hxl:x.length≤1000000:=by
  have h1:∀ (l:List UInt8) (y:List UInt8),y∈sp 32 l→y.length≤l.length:=sp_mem_len 32
  have:=h1 L x (by rw [hsp];exact List.mem_cons_self ..)
  omega
 have SP:=hide (split_one Tryz.lays146 (by kernel_rfl) (strOf L) 32 w (by rw [strOf_size];omega))
 have e1:(strOf L).data.toList=L:=rfl
 rw [e1,hsp] at SP
 obtain ⟨w1,hw1⟩:∃ w1,w1=w.alloc (.cells (strCs (x::xs)).toArray 9):=⟨_,rfl⟩
 obtain ⟨g,hg⟩:∃ g,g=w.heap.size:=⟨_,rfl⟩
 obtain ⟨q,hq⟩:∃ q,q=xs.length:=⟨_,rfl⟩
 have hb1:Below w.heap.size w w1:=by rw [hw1];exact bA
 have B1:Blk w1 g 9 (strCs (x::xs)).toArray:=by rw [hw1,hg];exact Blk.new _ _ _
 have SP1:Hid (Calls Tryz.prog 50 #[.string (strOf L),.string ⟨#[32]⟩] w fun e w'=>e=.returned (.slice (some ⟨g,0,none⟩) (q+1) (q+1))∧w'=w1):=hide (by rw [hg,hw1,hq];exact SP.out)
 have HQ:=hide hq
 have HCALL:=hide hcall
 rw [← hq] at HCALL
 have HB1:=hide hb1;have HX1:=hide B1
 have c0:=B1.cell (i:=0) (v:=.string (strOf x)) rfl
 clear hw1 hg hq hb1 B1 SP hsp e1
 go_enter Tryz.func21,Tryz.ntmps21
 go_wp2_with fail
 refine SP1.out.mono ?_
 rintro e w' ⟨rfl,rfl⟩
 have HC:=hide (fun wx hb hx=>cmds_ctr (strOf x) (by rw [strOf_size];exact hxl) n hn _ _ (.inr ⟨hn0,rfl,rfl⟩) g (strCs (x::xs)).toArray w wx hb hx)
 go_wp2_with fail
 go_region_law (first | (go_simp;go_at_call 51;refine (HC.out _ (bl_drew HB1.out) HX1.out.drew).mono ?_;rintro e w5 ⟨b5,rfl,hb5,hx5,hlk⟩;have c5:=hx5.cell (i:=0) (v:=.string (strOf x)) rfl))
 all_goals
  have HS:Hid (Sl w5 w5.heap.size (some ⟨g,1,none⟩) (strCs xs)):=hide (Sl.mk hx5.lt fun j u hu=>by rw [Nat.add_comm];exact hx5.cell (i:=j+1) (by simpa [strCs] using hu))
  clear hcall hlk c5 hx5
  go_wp2_with fail
 all_goals
  first
   | refine (HCALL.out w5 g 1 _ hb5 HS.out (Nat.le_refl _)).mono ?_
   | obtain rfl:q=0:=by omega
     refine (HCALL.out w5 g 0 0 hb5 (by obtain rfl:xs=[]:=List.length_eq_zero_iff.1 HQ.out.symm;exact Sl.nil _ _ _) (Nat.le_refl _)).mono ?_
  rintro e w6 ⟨t,rfl,ht⟩
  go_wp2
  go_ret
  exact ⟨t,rfl,ht⟩
end
end
end Go.Proofs.YthnenedoblncjaaGreatDoor
