/- ScriptNil: the law's function returns true for every input. -/
import Derived.Test.YthnenedoblncjaaGreatDoorPkN46
import Derived.Test.YthnenedoblncjaaGreatDoorPkN49
namespace Go.Proofs.YthnenedoblncjaaGreatDoor
open Go.ChangeShapes Go.WideShapes Go.ChangeAt Go.RowKit
namespace rowScriptNil
theorem laid_met (os : Os) : laidMet Tryz.prog Rows.scriptNilRow.laid ((UJ os).forCall (fun _ _ => 0) ⟨#[], #[.string ⟨#[]⟩], []⟩).memory :=
 laidMet_of_run3 10 (by kernel_rfl) (by kernel_rfl) (by kernel_rfl)
theorem reads (os : Os) {H : Type} (enc : TypeId × Value → H) : ∃ places, DataW.whole enc Tryz.prog ((UJ os).forCall (fun _ _ => 0) ⟨#[], #[.string ⟨#[]⟩], []⟩).memory Tryz.f8.params.toList Rows.scriptNilSpec.vars false #[.string ⟨#[]⟩].toList 8 = some ([.lit (.string [])], [], places) :=
 ⟨[], by kernel_rfl⟩
theorem readable : ∀ t ∈ Tryz.f8.params.toList, Tryz.prog.readableRec t = true ∧ t < Tryz.prog.types.size := by
 intro t ht;rw [Tryz.params8] at ht;simp only [List.mem_cons, List.not_mem_nil, or_false] at ht;rcases ht with rfl
 all_goals exact ⟨by kernel_rfl, of_decide_eq_true (by kernel_rfl)⟩
set_option maxRecDepth 100000 in
theorem contract (H : Type) (enc : TypeId × Value → H) (W : World) (base : Nat) (args : Array Value) (ds gs : List (DataW H)) (before : List MemPlace)
 (hval : ∀ (j : Nat) t v, Tryz.f8.params[j]? = some t → args[j]? = some v → Value.okWide Tryz.prog W .any base t v)
 (hW : DataW.Whole enc Tryz.prog Tryz.f8.params.toList Rows.scriptNilSpec.vars false W args.toList ds gs before) (hL : laidMetH Tryz.prog Rows.scriptNilRow.laid W) :
 Calls Tryz.prog 8 args W fun e W' => ∃ v, e = .returned v ∧ Rows.scriptNilSpec.post enc Tryz.prog Tryz.f8 false true false false W args v W' := by
 have hW' := hW;obtain ⟨p, q, iG, hV, rfl, hfz, hnd⟩ := hW;have hA : DataW.TrodAll enc Tryz.prog W 0 (fun _ => true) true Tryz.f8.params.toList args.toList ds p := iG;rw [Tryz.params8] at hA hval;obtain ⟨v0, jq, d0, iC, p_0, dI, hargs, rfl, rfl, h0, r0⟩ := trodAll_cons hA;obtain ⟨rfl, rfl, rfl⟩ := trodAll_nil r0;obtain rfl : args = #[v0] := by cases args; simp_all
 obtain ⟨rfl, rfl⟩ := trodVars_none hV;obtain ⟨s0, rfl, dL⟩ := IK (hval 0 9 v0 rfl rfl) h0;obtain ⟨g1, g2⟩ := RX hL;have walk := Ky s0 W (zI ⟨g1, g2⟩ (QO hL));exact walk.mono fun e W' ⟨he, hb⟩ => ⟨_, he, Iq rfl rfl readable rfl hW' hb⟩
set_option maxRecDepth 100000 in
theorem lifted (os : Os) (started : os.Started) (H : Type) (enc : TypeId × Value → H) (F : Stop.Interp) :
 ReturnsInHanded {} Tryz.checked os 8 .any ((OpenSpec.ofChange Rows.scriptNilSpec).preRow enc Tryz.prog Tryz.f8 Rows.scriptNilRow.domain false Rows.scriptNilRow.laid) (((OpenSpec.ofChange Rows.scriptNilSpec).at F).post enc Tryz.prog Tryz.f8 false true false false) := by
 obtain ⟨places, hx⟩ := reads os enc
 refine returnsInHanded_of_row (C := Tryz.checked) (s := OpenSpec.ofChange Rows.scriptNilSpec) sK started (by kernel_rfl) Tryz.func8
  (witness_row_atRef (enc := enc) (C := Tryz.checked) false (UJ os) #[.string ⟨#[]⟩] rfl (by kernel_rfl) (by kernel_rfl) (by kernel_rfl)
    (OpenSpec.preRow_of_cond 8 hx (by kernel_rfl) (fun k hk => by cases hk) (by kernel_rfl) (laid_met os))) ?_
 intro W base args ds gs before hval hW _ _ _ hL _ _;exact contract H enc W base args ds gs before hval hW hL
theorem factInPlace : (Rows.scriptNilRow.inPlace == Tryz.pinned.checked.prog.inPlace 8) = true := by kernel_rfl
theorem factUnfollowed : (Rows.scriptNilRow.unfollowed == Tryz.pinned.checked.prog.unfollowed 8) = true := by kernel_rfl
theorem factRecurses : (Rows.scriptNilRow.recurses == Tryz.pinned.checked.prog.recurses 8) = true := by kernel_rfl
theorem factNamed : (Rows.scriptNilRow.named == Tryz.pinned.checked.prog.varsNamed 8) = true := by kernel_rfl
theorem factKeys : (Rows.scriptNilRow.plainKeys == Tryz.pinned.checked.prog.plainKeys) = true := by kernel_rfl
theorem factLifts : (Rows.scriptNilRow.lifted == Tryz.pinned.checked.prog.liftsFinal) = true := by kernel_rfl
theorem factMake : (Tryz.pinned.checked.prog.make == some Rows.scriptNilRow.make) = true := by kernel_rfl
theorem factWfText : Rows.scriptNilRow.wfByText (OpenSpec.ofChange Rows.scriptNilSpec) = true := by kernel_rfl
theorem factMain : Tryz.pinned.checked.prog.mainIs = some (Rows.scriptNilCard.stood.harness.1, Rows.scriptNilCard.stood.harness.2.toList) := by kernel_rfl
theorem factGoes : false = Rows.scriptNilRow.goesBy Tryz.pinned.checked.prog := by kernel_rfl
theorem closed : joinedFacts Tryz.pinned.checked.prog 8 Tryz.f8 (OpenSpec.ofChange Rows.scriptNilSpec).bare Rows.scriptNilRow = true :=
 YK (YK (YK (YK (YK (YK (YK (YK (YK (YK (YK (YK (YK (YK (YK (YK (YK (YK (YK (YK (YK (YK (YK (YK (YK (YK (YK (YK (YK (YK (YK (by kernel_rfl) Hg) Hl) (by kernel_rfl)) (by kernel_rfl)) (by kernel_rfl)) (by kernel_rfl)) (by kernel_rfl)) (by kernel_rfl)) factInPlace) factUnfollowed) factRecurses) factNamed) (by kernel_rfl)) (by kernel_rfl)) (by kernel_rfl)) (by kernel_rfl)) (by kernel_rfl)) (by kernel_rfl)) (by kernel_rfl)) (by kernel_rfl)) (by kernel_rfl)) factKeys) (by kernel_rfl)) Ki) Kh) factLifts) factMake) (by kernel_rfl)) (by kernel_rfl)) (by kernel_rfl)) (by kernel_rfl)
theorem said : Rows.ScriptNilSaid :=
 OpenClaim.holds_of_cond 8 Tryz.f8 rfl rfl rfl rfl rfl rfl rfl ⟨rfl, rfl, rfl, rfl, rfl⟩ rfl rfl rfl rfl rfl (by kernel_rfl) Tryz.func8 closed
  (of_decide_eq_true (by kernel_rfl)) (by unfold Func.isWrapper; first | (rw [if_pos (by decide +kernel)]; kernel_rfl) | (rw [if_neg (by decide +kernel)]; exact ⟨rfl, rfl⟩))
  (fun os started H enc _ F => by rw [OpenClaim.pre_eq_preRow]; exact lifted os started H enc F)
theorem plain (f : FuncId) (fn : Func) (hf : Tryz.pinned.checked.prog.funcNamed "geofence/geofencelaw23.ScriptNil" = some f) (hfn : Tryz.pinned.checked.prog.funcs[f]? = some fn) :
 false = Tryz.pinned.checked.prog.looks [] ∧ ∀ (j : Nat) t, fn.params[j]? = some t → Tryz.pinned.checked.prog.wantsStandIn t = false := by
 obtain rfl : f = 8 := Option.some.inj ((show Tryz.prog.funcNamed "geofence/geofencelaw23.ScriptNil" = some 8 by kernel_rfl).symm.trans hf) |>.symm
 obtain rfl : fn = Tryz.f8 := (Option.some.inj (Tryz.func8.symm.trans hfn)).symm;refine ⟨by kernel_rfl, fun j t ht => ?_⟩;rw [Tryz.params8] at ht;have hm := Array.mem_of_getElem? ht;simp only [List.mem_toArray, List.mem_cons, List.not_mem_nil, or_false] at hm;rcases hm with rfl
 all_goals exact (show Tryz.prog.wantsStandIn _ = false by kernel_rfl)
theorem card : Rows.ScriptNilCardSaid :=
 Claim7.holds_tied_plain_at .later [] _ _ _ _ said (fun _ h => by cases h) factWfText (fun _ h => by cases h) scriptNil_row_tie rfl ⟨rfl, rfl⟩ factMain rfl plain factGoes
end rowScriptNil
end Go.Proofs.YthnenedoblncjaaGreatDoor