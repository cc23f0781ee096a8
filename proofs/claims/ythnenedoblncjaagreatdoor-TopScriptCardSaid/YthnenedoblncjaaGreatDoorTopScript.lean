/- TopScript: the law's function returns true for every input. -/
import Derived.Test.YthnenedoblncjaaGreatDoorPkA49
namespace Go.Proofs.YthnenedoblncjaaGreatDoor
open Go.ChangeShapes Go.WideShapes Go.ChangeAt Go.RowKit
namespace rowTopScript
theorem laid_met (os : Os) : laidMet Tryz.prog Rows.topScriptRow.laid ((Pj os).forCall (fun _ _ => 0) ⟨#[], #[.slice none 0 0], []⟩).memory :=
 laidMet_of_run3 10 (by kernel_rfl) (by kernel_rfl) (by kernel_rfl)
theorem reads (os : Os) {H : Type} (enc : TypeId × Value → H) : ∃ places, DataW.whole enc Tryz.prog ((Pj os).forCall (fun _ _ => 0) ⟨#[], #[.slice none 0 0], []⟩).memory Tryz.f9.params.toList Rows.topScriptSpec.vars false #[.slice none 0 0].toList 8 = some ([.nil], [], places) :=
 ⟨[], by kernel_rfl⟩
theorem readable : ∀ t ∈ Tryz.f9.params.toList, Tryz.prog.readableRec t = true ∧ t < Tryz.prog.types.size := by
 intro t ht;rw [Tryz.params9] at ht;simp only [List.mem_cons, List.not_mem_nil, or_false] at ht;rcases ht with rfl
 all_goals exact ⟨by kernel_rfl, of_decide_eq_true (by kernel_rfl)⟩
set_option maxRecDepth 100000 in
theorem contract (H : Type) (enc : TypeId × Value → H) (W : World) (base : Nat) (args : Array Value) (ds gs : List (DataW H)) (before : List MemPlace)
 (hval : ∀ (j : Nat) t v, Tryz.f9.params[j]? = some t → args[j]? = some v → Value.okWide Tryz.prog W .any base t v)
 (hW : DataW.Whole enc Tryz.prog Tryz.f9.params.toList Rows.topScriptSpec.vars false W args.toList ds gs before) (hL : laidMetH Tryz.prog Rows.topScriptRow.laid W) :
 Calls Tryz.prog 9 args W fun e W' => ∃ v, e = .returned v ∧ Rows.topScriptSpec.post enc Tryz.prog Tryz.f9 false true false false W args v W' := by
 have hW' := hW;obtain ⟨p, q, hA0, hV, rfl, hfz, hnd⟩ := hW;have hA : DataW.TrodAll enc Tryz.prog W 0 (fun _ => true) true Tryz.f9.params.toList args.toList ds p := hA0;rw [Tryz.params9] at hA hval;obtain ⟨v0, znk, d0, zln, p_0, q_0, hargs, rfl, rfl, h0, r0⟩ := trodAll_cons hA;obtain ⟨rfl, rfl, rfl⟩ := trodAll_nil r0;obtain rfl : args = #[v0] := by cases args; simp_all
 obtain ⟨rfl, rfl⟩ := trodVars_none hV;obtain ⟨A0, OP, c0, rfl, hcap0, znm, hs0, zpf⟩ := Dm (hval 0 49 v0 rfl rfl) h0;obtain ⟨g1, g2⟩ := KE hL;have walk := Ip OP A0 c0 W hs0 (fun x hx => (List.getElem?_of_mem hx).elim fun j hj => zpf j x hj) g1.1 g1.2 g2;exact walk.mono fun e W' ⟨he, hb⟩ => ⟨_, he, uR rfl rfl readable rfl hW' hb⟩
set_option maxRecDepth 100000 in
theorem lifted (os : Os) (started : os.Started) (H : Type) (enc : TypeId × Value → H) (F : Stop.Interp) :
 ReturnsInHanded {} Tryz.checked os 9 .any ((OpenSpec.ofChange Rows.topScriptSpec).preRow enc Tryz.prog Tryz.f9 Rows.topScriptRow.domain false Rows.topScriptRow.laid) (((OpenSpec.ofChange Rows.topScriptSpec).at F).post enc Tryz.prog Tryz.f9 false true false false) := by
 obtain ⟨places, hx⟩ := reads os enc
 refine returnsInHanded_of_row (C := Tryz.checked) (s := OpenSpec.ofChange Rows.topScriptSpec) zsi started (by kernel_rfl) Tryz.func9
  (witness_row_atRef (enc := enc) (C := Tryz.checked) false (Pj os) #[.slice none 0 0] rfl (by kernel_rfl) (by kernel_rfl) (by kernel_rfl)
    (OpenSpec.preRow_of_cond 8 hx (by kernel_rfl) (fun k hk => by cases hk) (by kernel_rfl) (laid_met os))) ?_
 intro W base args ds gs before hval hW _ _ _ hL _ _;exact contract H enc W base args ds gs before hval hW hL
theorem factInPlace : (Rows.topScriptRow.inPlace == Tryz.pinned.checked.prog.inPlace 9) = true := by kernel_rfl
theorem factUnfollowed : (Rows.topScriptRow.unfollowed == Tryz.pinned.checked.prog.unfollowed 9) = true := by kernel_rfl
theorem factRecurses : (Rows.topScriptRow.recurses == Tryz.pinned.checked.prog.recurses 9) = true := by kernel_rfl
theorem factNamed : (Rows.topScriptRow.named == Tryz.pinned.checked.prog.varsNamed 9) = true := by kernel_rfl
theorem factKeys : (Rows.topScriptRow.plainKeys == Tryz.pinned.checked.prog.plainKeys) = true := by kernel_rfl
theorem factLifts : (Rows.topScriptRow.lifted == Tryz.pinned.checked.prog.liftsFinal) = true := by kernel_rfl
theorem factMake : (Tryz.pinned.checked.prog.make == some Rows.topScriptRow.make) = true := by kernel_rfl
theorem factWfText : Rows.topScriptRow.wfByText (OpenSpec.ofChange Rows.topScriptSpec) = true := by kernel_rfl
theorem factMain : Tryz.pinned.checked.prog.mainIs = some (Rows.topScriptCard.stood.harness.1, Rows.topScriptCard.stood.harness.2.toList) := by kernel_rfl
theorem factGoes : false = Rows.topScriptRow.goesBy Tryz.pinned.checked.prog := by kernel_rfl
theorem closed : joinedFacts Tryz.pinned.checked.prog 9 Tryz.f9 (OpenSpec.ofChange Rows.topScriptSpec).bare Rows.topScriptRow = true :=
 WA (WA (WA (WA (WA (WA (WA (WA (WA (WA (WA (WA (WA (WA (WA (WA (WA (WA (WA (WA (WA (WA (WA (WA (WA (WA (WA (WA (WA (WA (WA (by kernel_rfl) sw) sD) (by kernel_rfl)) (by kernel_rfl)) (by kernel_rfl)) (by kernel_rfl)) (by kernel_rfl)) (by kernel_rfl)) factInPlace) factUnfollowed) factRecurses) factNamed) (by kernel_rfl)) (by kernel_rfl)) (by kernel_rfl)) (by kernel_rfl)) (by kernel_rfl)) (by kernel_rfl)) (by kernel_rfl)) (by kernel_rfl)) (by kernel_rfl)) factKeys) (by kernel_rfl)) yx) yw) factLifts) factMake) (by kernel_rfl)) (by kernel_rfl)) (by kernel_rfl)) (by kernel_rfl)
theorem said : Rows.TopScriptSaid :=
 OpenClaim.holds_of_cond 9 Tryz.f9 rfl rfl rfl rfl rfl rfl rfl ⟨rfl, rfl, rfl, rfl, rfl⟩ rfl rfl rfl rfl rfl (by kernel_rfl) Tryz.func9 closed
  (of_decide_eq_true (by kernel_rfl)) (by unfold Func.isWrapper; first | (rw [if_pos (by decide +kernel)]; kernel_rfl) | (rw [if_neg (by decide +kernel)]; exact ⟨rfl, rfl⟩))
  (fun os started H enc _ F => by rw [OpenClaim.pre_eq_preRow]; exact lifted os started H enc F)
theorem plain (f : FuncId) (fn : Func) (hf : Tryz.pinned.checked.prog.funcNamed "geofence/geofencetop.TopScript" = some f) (hfn : Tryz.pinned.checked.prog.funcs[f]? = some fn) :
 false = Tryz.pinned.checked.prog.looks [] ∧ ∀ (j : Nat) t, fn.params[j]? = some t → Tryz.pinned.checked.prog.wantsStandIn t = false := by
 obtain rfl : f = 9 := Option.some.inj ((show Tryz.prog.funcNamed "geofence/geofencetop.TopScript" = some 9 by kernel_rfl).symm.trans hf) |>.symm
 obtain rfl : fn = Tryz.f9 := (Option.some.inj (Tryz.func9.symm.trans hfn)).symm;refine ⟨by kernel_rfl, fun j t ht => ?_⟩;rw [Tryz.params9] at ht;have hm := Array.mem_of_getElem? ht;simp only [List.mem_toArray, List.mem_cons, List.not_mem_nil, or_false] at hm;rcases hm with rfl
 all_goals exact (show Tryz.prog.wantsStandIn _ = false by kernel_rfl)
theorem card : Rows.TopScriptCardSaid :=
 Claim7.holds_tied_plain_at .later [] _ _ _ _ said (fun _ h => by cases h) factWfText (fun _ h => by cases h) topScript_row_tie rfl ⟨rfl, rfl⟩ factMain rfl plain factGoes
end rowTopScript
end Go.Proofs.YthnenedoblncjaaGreatDoor