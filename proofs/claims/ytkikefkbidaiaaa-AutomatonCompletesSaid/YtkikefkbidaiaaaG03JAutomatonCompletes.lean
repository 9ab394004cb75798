/-
  AutomatonCompletes: for every input the law returns true, and each argument reads behind the call as it read before. No conditions.
-/
import Derived.Test.YtkikefkbidaiaaaP6
import Derived.Test.YtkikefkbidaiaaaRows
set_option linter.unusedVariables false
set_option linter.unusedSimpArgs false
set_option linter.unusedSectionVars false
namespace Go.Proofs.Ytkikefkbidaiaaa
open Go Go.Abs Go.ChangeShapes Go.WideShapes Go.ChangeAt Go.RowKit
set_option linter.unusedVariables false
set_option maxRecDepth 100000
theorem law : LawOK Try.prog 11 [22, 26, 70] :=
  lawOK3 A_22 (fun _ => rfl) (fun _ => rfl) A_26 (fun _ => rfl) (fun _ => rfl) A_70 (fun _ => rfl) (fun _ => rfl) fun a b c wa wb wc M nb => ok_overseerlaw03_AutomatonCompletes a b c true (automatonCompletes_ok a b c (wf_u8 wa) (graph_wf wb) (fun x hx => wf_u8 (wc.2 x hx))) M nb
theorem own : ownKnob Try.prog.godebug = none := by kernel_rfl
theorem lifted (os : Os) (started : os.Started) (H : Type) (enc : TypeId × Value → H) :
    ReturnsInHanded {} Try.checked os 11 .any (Rows.automatonCompletesSpec.pre6 enc Try.prog Try.f11 Rows.automatonCompletesRow.domain false) (Rows.automatonCompletesSpec.post enc Try.prog Try.f11 false true false false) :=
  law_returns (C := Try.checked) own started (by kernel_rfl) Try.func11
    (ChangeSpec.witness6 (enc := enc) (C := Try.checked) false ⟨#[], #[.int .u8 0, .agg #[.int .u8 0, .int .u8 0, .int .u8 0, .int .u8 0, .int .u8 0, .int .u8 0, .int .u8 0, .int .u8 0, .int .u8 0, .int .u8 0, .int .u8 0, .int .u8 0, .int .u8 0, .int .u8 0, .int .u8 0, .int .u8 0, .int .u8 0, .int .u8 0, .int .u8 0, .int .u8 0, .int .u8 0, .int .u8 0, .int .u8 0, .int .u8 0, .int .u8 0, .int .u8 0, .int .u8 0], .slice none 0 0], []⟩ 8 (by kernel_rfl) (by kernel_rfl) (by kernel_rfl) (by kernel_rfl))
    rfl rfl Try.underlying4 (by kernel_rfl)
    (by
      intro t ht
      have hp : Try.f11.params.toList = [22, 26, 70] := by rw [Try.params11]
      rw [hp] at ht
      simp only [List.mem_cons, List.not_mem_nil, or_false] at ht
      rcases ht with rfl | rfl | rfl
      · exact ⟨by kernel_rfl, of_decide_eq_true (by kernel_rfl)⟩
      · exact ⟨by kernel_rfl, of_decide_eq_true (by kernel_rfl)⟩
      · exact ⟨by kernel_rfl, of_decide_eq_true (by kernel_rfl)⟩)
    (by
      intro ds hl
      have hp : Try.f11.params.size = 3 := by rw [Try.params11]; rfl
      rw [hp] at hl
      match ds, hl with
      | [da, db, dc], _ => rfl)
    (by
      have hp : Try.f11.params.toList = [22, 26, 70] := by rw [Try.params11]
      show LawOK Try.prog 11 Try.f11.params.toList
      rw [hp]; exact law)
theorem over : Rows.automatonCompletesRow.holds Try.pinned (OpenSpec.ofChange Rows.automatonCompletesSpec) :=
  OpenClaim.holds_of_wide 11 Try.f11 rfl rfl rfl rfl rfl rfl rfl ⟨rfl, rfl, rfl, rfl, rfl⟩ rfl rfl rfl rfl rfl (by kernel_rfl) Try.func11 (by kernel_rfl)
    (of_decide_eq_true (by kernel_rfl)) (by unfold Func.isWrapper; first | (rw [if_pos (by decide +kernel)]; kernel_rfl) | (rw [if_neg (by decide +kernel)]; exact ⟨rfl, rfl⟩))
    (fun os started H enc _ => lifted os started H enc)
theorem automatonCompletes_holds : Rows.AutomatonCompletesSaid := over
end Go.Proofs.Ytkikefkbidaiaaa
