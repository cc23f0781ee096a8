/- CodecEncodes: the law's function returns true for every input and leaves its arguments as they were. Without conditions. -/
import Derived.Test.YtcfbkabiapaobaaLawEncodes
import Derived.Test.YtcfbkabiapaobaaRowKit0
import Derived.Test.YtcfbkabiapaobaaOpenReq
namespace Go.Proofs.Ytcfbkabiapaobaa
open Go.ChangeShapes Go.WideShapes Go.ChangeAt Go.RowKit

namespace rowCodecEncodes
theorem laid_met (os : Os) : laidMet Try.prog Rows.codecEncodesRow.laid ((laidWorld os).forCall (fun _ _ => 0) ⟨#[], #[.agg #[.int .i64 0, .int .i64 0, .slice none 0 0, .int .i64 0, .slice none 0 0, .slice none 0 0, .slice none 0 0]], []⟩).memory :=
  laidMet_of_run' 8 (by kernel_rfl) (by kernel_rfl)
theorem reads (os : Os) {H : Type} (enc : TypeId × Value → H) : ∃ places, DataW.whole enc Try.prog ((laidWorld os).forCall (fun _ _ => 0) ⟨#[], #[.agg #[.int .i64 0, .int .i64 0, .slice none 0 0, .int .i64 0, .slice none 0 0, .slice none 0 0, .slice none 0 0]], []⟩).memory Try.f3.params.toList Rows.codecEncodesSpec.vars false #[.agg #[.int .i64 0, .int .i64 0, .slice none 0 0, .int .i64 0, .slice none 0 0, .slice none 0 0, .slice none 0 0]].toList 8 = some ([.agg [.agg [.lit (.int .i64 0), .lit (.int .i64 0), .nil, .lit (.int .i64 0)], .nil, .nil, .nil]], [], places) :=
  ⟨[], by kernel_rfl⟩
theorem readable : ∀ t ∈ Try.f3.params.toList, Try.prog.readableRec t = true ∧ t < Try.prog.types.size := by
  intro t ht
  rw [Try.params3] at ht
  simp only [List.mem_cons, List.not_mem_nil, or_false] at ht
  rcases ht with rfl
  all_goals exact ⟨by kernel_rfl, of_decide_eq_true (by kernel_rfl)⟩

set_option maxRecDepth 100000 in
theorem contract (H : Type) (enc : TypeId × Value → H) (W : World) (base : Nat) (args : Array Value) (ds gs : List (DataW H)) (before : List MemPlace)
    (hval : ∀ (j : Nat) t v, Try.f3.params[j]? = some t → args[j]? = some v → Value.okWide Try.prog W .any base t v)
    (hW : DataW.Whole enc Try.prog Try.f3.params.toList Rows.codecEncodesSpec.vars false W args.toList ds gs before) (_hL : laidMetH Try.prog Rows.codecEncodesRow.laid W) :
    Calls Try.prog 3 args W fun e W' => ∃ v, e = .returned v ∧ Rows.codecEncodesSpec.post enc Try.prog Try.f3 false true false false W args v W' := by
  have hW' := hW
  obtain ⟨p, q, hA0, hV, rfl, hfz, hnd⟩ := hW
  have hA : DataW.TrodAll enc Try.prog W 0 (fun _ => true) true Try.f3.params.toList args.toList ds p := hA0
  rw [Try.params3] at hA hval
  obtain ⟨v0, vs_0, d0, ds_0, p_0, q_0, hargs, rfl, rfl, h0, r0⟩ := trodAll_cons hA
  obtain ⟨rfl, rfl, rfl⟩ := trodAll_nil r0
  obtain rfl : args = #[v0] := by cases args; simp_all
  obtain ⟨rfl, rfl⟩ := trodVars_none hV
  obtain ⟨op0, vs0, pts0, HA0, GA0, PA0, QA0, hrs0, hc0, gc0, pc0, qc0, gs0, pl0, ql0, rfl, ha0, hb0, hcc0, hd0, he0, hf0, hg0, hi0, hsh0, hsg0, hsr0, hsp0, hsq0, hqu0⟩ := open_request (hval 0 28 v0 rfl rfl) h0
  have walk := lawEncodes op0 vs0 pts0 hrs0 HA0 hc0 gs0 GA0 gc0 pl0 PA0 pc0 ql0 QA0 qc0 W hsh0 hsg0 hsr0 hsp0 hsq0 hqu0 (Nat.le_trans ha0 hb0) (Nat.le_trans hcc0 hd0)
  exact walk.mono fun e W' ⟨he, hb⟩ => ⟨_, he, law_post rfl rfl readable rfl hW' hb⟩

set_option maxRecDepth 100000 in
theorem lifted (os : Os) (started : os.Started) (H : Type) (enc : TypeId × Value → H) (F : Stop.Interp) :
    ReturnsInHanded {} Try.checked os 3 .any ((OpenSpec.ofChange Rows.codecEncodesSpec).preRow enc Try.prog Try.f3 Rows.codecEncodesRow.domain false Rows.codecEncodesRow.laid) (((OpenSpec.ofChange Rows.codecEncodesSpec).at F).post enc Try.prog Try.f3 false true false false) := by
  obtain ⟨places, hx⟩ := reads os enc
  refine returnsInHanded_of_row (C := Try.checked) (s := OpenSpec.ofChange Rows.codecEncodesSpec) frOwn started (by kernel_rfl) Try.func3
    (witness_row_at (enc := enc) (C := Try.checked) false (laidWorld os) #[.agg #[.int .i64 0, .int .i64 0, .slice none 0 0, .int .i64 0, .slice none 0 0, .slice none 0 0, .slice none 0 0]] rfl (by kernel_rfl) (by kernel_rfl) (by kernel_rfl)
      (OpenSpec.preRow_of_cond 8 hx (by kernel_rfl) (fun k hk => by cases hk) (by kernel_rfl) (laid_met os))) ?_
  intro W base args ds gs before hval hW _ _ _ hL _ _
  exact contract H enc W base args ds gs before hval hW hL

theorem said : Rows.CodecEncodesSaid :=
  OpenClaim.holds_of_cond 3 Try.f3 rfl rfl rfl rfl rfl rfl rfl ⟨rfl, rfl, rfl, rfl, rfl⟩ rfl rfl rfl rfl rfl (by kernel_rfl) Try.func3 (by kernel_rfl)
    (of_decide_eq_true (by kernel_rfl)) (by unfold Func.isWrapper; first | (rw [if_pos (by decide +kernel)]; kernel_rfl) | (rw [if_neg (by decide +kernel)]; exact ⟨rfl, rfl⟩))
    (fun os started H enc _ F => by rw [OpenClaim.pre_eq_preRow]; exact lifted os started H enc F)

end rowCodecEncodes
end Go.Proofs.Ytcfbkabiapaobaa
