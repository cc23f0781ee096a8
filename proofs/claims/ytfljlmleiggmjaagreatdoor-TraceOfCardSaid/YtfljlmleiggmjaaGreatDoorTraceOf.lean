/- TraceOf: the law's function returns true for every input. -/
import Derived.Test.YtfljlmleiggmjaaGreatDoorPkD48
import Derived.Test.YtfljlmleiggmjaaGreatDoorPkD49
namespace Go.Proofs.YtfljlmleiggmjaaGreatDoor
open Go.ChangeShapes Go.WideShapes Go.ChangeAt Go.RowKit
namespace rowTraceOf
theorem laid_met (os : Os) : laidMet Tryz.prog Rows.traceOfRow.laid ((NS os).forCall (fun _ _ => 0) ⟨#[], #[.slice none 0 0], []⟩).memory :=
 laidMet_of_run3 8 (by kernel_rfl) (by kernel_rfl) (by kernel_rfl)
theorem reads (os : Os) {H : Type} (enc : TypeId × Value → H) : ∃ places, DataW.whole enc Tryz.prog ((NS os).forCall (fun _ _ => 0) ⟨#[], #[.slice none 0 0], []⟩).memory Tryz.f7.params.toList Rows.traceOfSpec.vars false #[.slice none 0 0].toList 8 = some ([.nil], [], places) :=
 ⟨[], by kernel_rfl⟩
theorem readable : ∀ t ∈ Tryz.f7.params.toList, Tryz.prog.readableRec t = true ∧ t < Tryz.prog.types.size := by
 intro t ht;rw [Tryz.params7] at ht;simp only [List.mem_cons, List.not_mem_nil, or_false] at ht;rcases ht with rfl
 all_goals exact ⟨by kernel_rfl, of_decide_eq_true (by kernel_rfl)⟩
set_option maxRecDepth 100000 in
theorem contract (H : Type) (enc : TypeId × Value → H) (W : World) (base : Nat) (args : Array Value) (ds gs : List (DataW H)) (before : List MemPlace)
 (hval : ∀ (j : Nat) t v, Tryz.f7.params[j]? = some t → args[j]? = some v → Value.okWide Tryz.prog W .any base t v)
 (hW : DataW.Whole enc Tryz.prog Tryz.f7.params.toList Rows.traceOfSpec.vars false W args.toList ds gs before) (hL : laidMetH Tryz.prog Rows.traceOfRow.laid W) :
 Calls Tryz.prog 7 args W fun e W' => ∃ v, e = .returned v ∧ Rows.traceOfSpec.post enc Tryz.prog Tryz.f7 false true false false W args v W' := by
 have hW' := hW;obtain ⟨p, q, hA0, hV, rfl, hfz, hnd⟩ := hW;have hA : DataW.TrodAll enc Tryz.prog W 0 (fun _ => true) true Tryz.f7.params.toList args.toList ds p := hA0;rw [Tryz.params7] at hA hval;obtain ⟨v0, zhw, d0, zgb, p_0, q_0, hargs, rfl, rfl, h0, r0⟩ := trodAll_cons hA;obtain ⟨rfl, rfl, rfl⟩ := trodAll_nil r0;obtain rfl : args = #[v0] := by cases args; simp_all
 obtain ⟨rfl, rfl⟩ := trodVars_none hV;obtain ⟨A0, Ny, c0, rfl, hcap0, zhx, hs0, zjr⟩ := Bh (hval 0 36 v0 rfl rfl) h0;obtain ⟨g1, g2⟩ := Jr hL;have walk := jW Ny A0 c0 W hs0 hcap0 (fun x hx => (List.getElem?_of_mem hx).elim fun j hj => zjr j x hj) g1.1 g1.2 g2.1 g2.2;exact walk.mono fun e W' ⟨he, hb⟩ => ⟨_, he, qD rfl rfl readable rfl hW' hb⟩
set_option maxRecDepth 100000 in
theorem lifted (os : Os) (started : os.Started) (H : Type) (enc : TypeId × Value → H) (F : Stop.Interp) :
 ReturnsInHanded {} Tryz.checked os 7 .any ((OpenSpec.ofChange Rows.traceOfSpec).preRow enc Tryz.prog Tryz.f7 Rows.traceOfRow.domain false Rows.traceOfRow.laid) (((OpenSpec.ofChange Rows.traceOfSpec).at F).post enc Tryz.prog Tryz.f7 false true false false) := by
 obtain ⟨places, hx⟩ := reads os enc
 refine returnsInHanded_of_row (C := Tryz.checked) (s := OpenSpec.ofChange Rows.traceOfSpec) znp started (by kernel_rfl) Tryz.func7
  (witness_row_at (enc := enc) (C := Tryz.checked) false (NS os) #[.slice none 0 0] rfl (by kernel_rfl) (by kernel_rfl) (by kernel_rfl)
    (OpenSpec.preRow_of_cond 8 hx (by kernel_rfl) (fun k hk => by cases hk) (by kernel_rfl) (laid_met os))) ?_
 intro W base args ds gs before hval hW _ _ _ hL _ _;exact contract H enc W base args ds gs before hval hW hL
theorem said : Rows.TraceOfSaid :=
 OpenClaim.holds_of_cond 7 Tryz.f7 rfl rfl rfl rfl rfl rfl rfl ⟨rfl, rfl, rfl, rfl, rfl⟩ rfl rfl rfl rfl rfl (by kernel_rfl) Tryz.func7 (by kernel_rfl)
  (of_decide_eq_true (by kernel_rfl)) (by unfold Func.isWrapper; first | (rw [if_pos (by decide +kernel)]; kernel_rfl) | (rw [if_neg (by decide +kernel)]; exact ⟨rfl, rfl⟩))
  (fun os started H enc _ F => by rw [OpenClaim.pre_eq_preRow]; exact lifted os started H enc F)
theorem plain (f : FuncId) (fn : Func) (hf : Tryz.pinned.checked.prog.funcNamed "geofence/geofencelaw22.TraceOf" = some f) (hfn : Tryz.pinned.checked.prog.funcs[f]? = some fn) :
 false = Tryz.pinned.checked.prog.looks [] ∧ ∀ (j : Nat) t, fn.params[j]? = some t → Tryz.pinned.checked.prog.wantsStandIn t = false := by
 obtain rfl : f = 7 := Option.some.inj ((show Tryz.prog.funcNamed "geofence/geofencelaw22.TraceOf" = some 7 by kernel_rfl).symm.trans hf) |>.symm
 obtain rfl : fn = Tryz.f7 := (Option.some.inj (Tryz.func7.symm.trans hfn)).symm;refine ⟨by kernel_rfl, fun j t ht => ?_⟩;rw [Tryz.params7] at ht;have hm := Array.mem_of_getElem? ht;simp only [List.mem_toArray, List.mem_cons, List.not_mem_nil, or_false] at hm;rcases hm with rfl
 all_goals exact (show Tryz.prog.wantsStandIn _ = false by kernel_rfl)
theorem card : Rows.TraceOfCardSaid :=
 Claim7.holds_tied_plain_at .later [] _ _ _ _ said (fun _ h => by cases h) (by kernel_rfl) (fun _ h => by cases h) traceOf_row_tie rfl ⟨rfl, rfl⟩ (by kernel_rfl) rfl plain (by kernel_rfl)
end rowTraceOf
end Go.Proofs.YtfljlmleiggmjaaGreatDoor