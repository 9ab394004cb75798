/-
  DiagnoserNil: for every input the law returns true, and each argument reads behind the call as it read before. No conditions.
-/
import Derived.Test.YtjngkimolkhdmaaGreatP10
import Derived.Test.YtjngkimolkhdmaaGreatRows
set_option linter.unusedVariables false
set_option linter.unusedSimpArgs false
set_option linter.unusedSectionVars false
namespace Go.Proofs.YtjngkimolkhdmaaGreat
open Go Go.Abs Go.ChangeShapes Go.WideShapes Go.ChangeAt Go.RowKit
set_option maxRecDepth 100000
theorem law : Q7g Tryz.prog 7 [3, 3] :=
  Q7s A_3 (fun _ => rfl) (fun _ => rfl) A_3 (fun _ => rfl) (fun _ => rfl) fun a b wa wb M nb => Qud a b true (Q3x a b) M nb
theorem own : ownKnob Tryz.prog.godebug = none := by kernel_rfl
theorem lifted (os : Os) (started : os.Started) (H : Type) (enc : TypeId × Value → H) :
    ReturnsInHanded {} Tryz.checked os 7 .any (Rows.diagnoserNilSpec.pre6 enc Tryz.prog Tryz.f7 Rows.diagnoserNilRow.domain false) (Rows.diagnoserNilSpec.post enc Tryz.prog Tryz.f7 false true false false) :=
  Q6j (C := Tryz.checked) own started (by kernel_rfl) Tryz.func7
    (ChangeSpec.witness6 (enc := enc) (C := Tryz.checked) false ⟨#[], #[.int .i64 0, .int .i64 0], []⟩ 8 (by kernel_rfl) (by kernel_rfl) (by kernel_rfl) (by kernel_rfl))
    rfl rfl Tryz.underlying4 (by kernel_rfl)
    (by
      intro t ht
      have hp : Tryz.f7.params.toList = [3, 3] := by rw [Tryz.params7]
      rw [hp] at ht
      simp only [List.mem_cons, List.not_mem_nil, or_false] at ht
      rcases ht with rfl | rfl
      · exact ⟨by kernel_rfl, of_decide_eq_true (by kernel_rfl)⟩
      · exact ⟨by kernel_rfl, of_decide_eq_true (by kernel_rfl)⟩)
    (by
      intro ds hl
      have hp : Tryz.f7.params.size = 2 := by rw [Tryz.params7]; rfl
      rw [hp] at hl
      match ds, hl with
      | [da, db], _ => rfl)
    (Q7h (by kernel_rfl))
    (by
      have hp : Tryz.f7.params.toList = [3, 3] := by rw [Tryz.params7]
      show Q7g Tryz.prog 7 Tryz.f7.params.toList
      rw [hp]; exact law)
theorem over : Rows.diagnoserNilRow.holds Tryz.pinned (OpenSpec.ofChange Rows.diagnoserNilSpec) :=
  OpenClaim.holds_of_wide 7 Tryz.f7 rfl rfl rfl rfl rfl rfl rfl ⟨rfl, rfl, rfl, rfl, rfl⟩ rfl rfl rfl rfl rfl (by kernel_rfl) Tryz.func7 (by kernel_rfl)
    (of_decide_eq_true (by kernel_rfl)) (by unfold Func.isWrapper; first | (rw [if_pos (by decide +kernel)]; kernel_rfl) | (rw [if_neg (by decide +kernel)]; exact ⟨rfl, rfl⟩))
    (fun os started H enc _ => lifted os started H enc)
theorem diagnoserNil_holds : Rows.DiagnoserNilSaid := over
end Go.Proofs.YtjngkimolkhdmaaGreat
