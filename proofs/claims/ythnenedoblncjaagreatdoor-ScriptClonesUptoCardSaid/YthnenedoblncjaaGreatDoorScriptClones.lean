/- ScriptClones: the law's function returns true for every input. -/
import Derived.Test.YthnenedoblncjaaGreatDoorPkR51
namespace Go.Proofs.YthnenedoblncjaaGreatDoor
open Go.ChangeShapes Go.WideShapes Go.ChangeAt Go.RowKit
namespace rowScriptClones
theorem laid_met (os : Os) : laidMet Tryz.prog Rows.scriptClonesUptoRow.laid ((Vf os).forCall (fun _ _ => 0) ⟨#[], #[.string ⟨#[]⟩, .string ⟨#[]⟩], []⟩).memory :=
 laidMet_of_run3 10 (by kernel_rfl) (by kernel_rfl) (by kernel_rfl)
theorem reads (os : Os) {H : Type} (enc : TypeId × Value → H) : ∃ places, DataW.whole enc Tryz.prog ((Vf os).forCall (fun _ _ => 0) ⟨#[], #[.string ⟨#[]⟩, .string ⟨#[]⟩], []⟩).memory Tryz.f7.params.toList Rows.scriptClonesSpec.vars false #[.string ⟨#[]⟩, .string ⟨#[]⟩].toList 8 = some ([.lit (.string []), .lit (.string [])], [], places) :=
 ⟨[], by kernel_rfl⟩
theorem readable : ∀ t ∈ Tryz.f7.params.toList, Tryz.prog.readableRec t = true ∧ t < Tryz.prog.types.size := by
 intro t ht;rw [Tryz.params7] at ht;simp only [List.mem_cons, List.not_mem_nil, or_false] at ht;rcases ht with rfl | rfl
 all_goals exact ⟨by kernel_rfl, of_decide_eq_true (by kernel_rfl)⟩
set_option maxRecDepth 100000 in
theorem contract (H : Type) (enc : TypeId × Value → H) (W : World) (base : Nat) (args : Array Value) (ds gs : List (DataW H)) (before : List MemPlace)
 (hval : ∀ (j : Nat) t v, Tryz.f7.params[j]? = some t → args[j]? = some v → Value.okWide Tryz.prog W .any base t v)
 (hW : DataW.Whole enc Tryz.prog Tryz.f7.params.toList Rows.scriptClonesSpec.vars false W args.toList ds gs before) (hL : laidMetH Tryz.prog Rows.scriptClonesUptoRow.laid W) (hC : Rows.uptoSmall H (ds ++ gs) = true) :
 Calls Tryz.prog 7 args W fun e W' => ∃ v, e = .returned v ∧ Rows.scriptClonesSpec.post enc Tryz.prog Tryz.f7 false true false false W args v W' := by
 have hW' := hW;obtain ⟨p, q, hA0, hV, rfl, hfz, hnd⟩ := hW;have hA : DataW.TrodAll enc Tryz.prog W 0 (fun _ => true) true Tryz.f7.params.toList args.toList ds p := hA0;rw [Tryz.params7] at hA hval;obtain ⟨v0, zeb, d0, zcc, p_0, q_0, hargs, rfl, rfl, h0, r0⟩ := trodAll_cons hA;obtain ⟨v1, zec, d1, zcd, p_1, q_1, rfl, rfl, rfl, h1, r1⟩ := trodAll_cons r0;obtain ⟨rfl, rfl, rfl⟩ := trodAll_nil r1;obtain rfl : args = #[v0, v1] := by cases args; simp_all
 obtain ⟨rfl, rfl⟩ := trodVars_none hV;obtain ⟨s0, rfl, rfl, ws0⟩ := QM (hval 0 9 v0 rfl rfl) h0;obtain ⟨s1, rfl, rfl, ws1⟩ := QM (hval 1 9 v1 rfl rfl) h1;obtain ⟨g1, g2⟩ := Qg hL;have walk := Fu s0 s1 (vo hC).1 (vo hC).2 W (gQ ⟨g1, g2⟩ (O8 hL));exact walk.mono fun e W' ⟨he, hb⟩ => ⟨_, he, Cn rfl rfl readable rfl hW' hb⟩
set_option maxRecDepth 100000 in
theorem lifted (os : Os) (started : os.Started) (H : Type) (enc : TypeId × Value → H) (F : Stop.Interp) :
 ReturnsInHanded {} Tryz.checked os 7 .any ((Rows.OpenSpec.upto Rows.scriptClonesSpec).preRow enc Tryz.prog Tryz.f7 Rows.scriptClonesUptoRow.domain false Rows.scriptClonesUptoRow.laid) (((Rows.OpenSpec.upto Rows.scriptClonesSpec).at F).post enc Tryz.prog Tryz.f7 false true false false) := by
 obtain ⟨places, hx⟩ := reads os enc
 refine returnsInHanded_of_row (C := Tryz.checked) (s := Rows.OpenSpec.upto Rows.scriptClonesSpec) zwa started (by kernel_rfl) Tryz.func7
  (witness_row_atRef (enc := enc) (C := Tryz.checked) false (Vf os) #[.string ⟨#[]⟩, .string ⟨#[]⟩] rfl (by kernel_rfl) (by kernel_rfl) (by kernel_rfl)
    (OpenSpec.preRow_of_cond 8 hx (by kernel_rfl) (fun k hk => by cases hk; rfl) (by kernel_rfl) (laid_met os))) ?_
 intro W base args ds gs before hval hW _ hC _ hL _ _;exact contract H enc W base args ds gs before hval hW hL (hC _ rfl)
theorem factInPlace : (Rows.scriptClonesUptoRow.inPlace == Tryz.pinned.checked.prog.inPlace 7) = true := by kernel_rfl
theorem factUnfollowed : (Rows.scriptClonesUptoRow.unfollowed == Tryz.pinned.checked.prog.unfollowed 7) = true := by kernel_rfl
theorem factRecurses : (Rows.scriptClonesUptoRow.recurses == Tryz.pinned.checked.prog.recurses 7) = true := by kernel_rfl
theorem factNamed : (Rows.scriptClonesUptoRow.named == Tryz.pinned.checked.prog.varsNamed 7) = true := by kernel_rfl
theorem factKeys : (Rows.scriptClonesUptoRow.plainKeys == Tryz.pinned.checked.prog.plainKeys) = true := by kernel_rfl
theorem factLifts : (Rows.scriptClonesUptoRow.lifted == Tryz.pinned.checked.prog.liftsFinal) = true := by kernel_rfl
theorem factMake : (Tryz.pinned.checked.prog.make == some Rows.scriptClonesUptoRow.make) = true := by kernel_rfl
theorem factWfText : Rows.scriptClonesUptoRow.wfByText (Rows.OpenSpec.upto Rows.scriptClonesSpec) = true := by kernel_rfl
theorem factMain : Tryz.pinned.checked.prog.mainIs = some (Rows.scriptClonesUptoCard.stood.harness.1, Rows.scriptClonesUptoCard.stood.harness.2.toList) := by kernel_rfl
theorem factGoes : false = Rows.scriptClonesUptoRow.goesBy Tryz.pinned.checked.prog := by kernel_rfl
theorem closed : joinedFacts Tryz.pinned.checked.prog 7 Tryz.f7 (Rows.OpenSpec.upto Rows.scriptClonesSpec).bare Rows.scriptClonesUptoRow = true :=
 Y4 (Y4 (Y4 (Y4 (Y4 (Y4 (Y4 (Y4 (Y4 (Y4 (Y4 (Y4 (Y4 (Y4 (Y4 (Y4 (Y4 (Y4 (Y4 (Y4 (Y4 (Y4 (Y4 (Y4 (Y4 (Y4 (Y4 (Y4 (Y4 (Y4 (Y4 (by kernel_rfl) Bg) Bh) (by kernel_rfl)) (by kernel_rfl)) (by kernel_rfl)) (by kernel_rfl)) (by kernel_rfl)) (by kernel_rfl)) factInPlace) factUnfollowed) factRecurses) factNamed) (by kernel_rfl)) (by kernel_rfl)) (by kernel_rfl)) (by kernel_rfl)) (by kernel_rfl)) (by kernel_rfl)) (by kernel_rfl)) (by kernel_rfl)) (by kernel_rfl)) factKeys) (by kernel_rfl)) GD) Gz) factLifts) factMake) (by kernel_rfl)) (by kernel_rfl)) (by kernel_rfl)) (by kernel_rfl)
theorem said : Rows.ScriptClonesUptoSaid :=
 OpenClaim.holds_of_cond 7 Tryz.f7 rfl rfl rfl rfl rfl rfl rfl ⟨rfl, rfl, rfl, rfl, rfl⟩ rfl rfl rfl rfl rfl (by kernel_rfl) Tryz.func7 closed
  (of_decide_eq_true (by kernel_rfl)) (by unfold Func.isWrapper; first | (rw [if_pos (by decide +kernel)]; kernel_rfl) | (rw [if_neg (by decide +kernel)]; exact ⟨rfl, rfl⟩))
  (fun os started H enc _ F => by rw [OpenClaim.pre_eq_preRow]; exact lifted os started H enc F)
theorem plain (f : FuncId) (fn : Func) (hf : Tryz.pinned.checked.prog.funcNamed "geofence/geofencelaw23.ScriptClones" = some f) (hfn : Tryz.pinned.checked.prog.funcs[f]? = some fn) :
 false = Tryz.pinned.checked.prog.looks [] ∧ ∀ (j : Nat) t, fn.params[j]? = some t → Tryz.pinned.checked.prog.wantsStandIn t = false := by
 obtain rfl : f = 7 := Option.some.inj ((show Tryz.prog.funcNamed "geofence/geofencelaw23.ScriptClones" = some 7 by kernel_rfl).symm.trans hf) |>.symm
 obtain rfl : fn = Tryz.f7 := (Option.some.inj (Tryz.func7.symm.trans hfn)).symm;refine ⟨by kernel_rfl, fun j t ht => ?_⟩;rw [Tryz.params7] at ht;have hm := Array.mem_of_getElem? ht;simp only [List.mem_toArray, List.mem_cons, List.not_mem_nil, or_false] at hm;rcases hm with rfl | rfl
 all_goals exact (show Tryz.prog.wantsStandIn _ = false by kernel_rfl)
theorem card : Rows.ScriptClonesUptoCardSaid :=
 Claim7.holds_tied_plain_at .later [] _ _ _ _ said (fun _ h => by cases h) factWfText (fun _ h => by cases h) scriptClonesUpto_row_tie rfl ⟨rfl, rfl⟩ factMain rfl plain factGoes
end rowScriptClones
end Go.Proofs.YthnenedoblncjaaGreatDoor