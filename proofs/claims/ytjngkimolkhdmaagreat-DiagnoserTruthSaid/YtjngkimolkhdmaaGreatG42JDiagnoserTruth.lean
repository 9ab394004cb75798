/-
  DiagnoserTruth: for every input the law returns true, and each argument reads behind the call as it read before. No conditions.
-/
import Derived.Test.YtjngkimolkhdmaaGreatP12
import Derived.Test.YtjngkimolkhdmaaGreatRows
set_option linter.unusedVariables false
set_option linter.unusedSimpArgs false
set_option linter.unusedSectionVars false
namespace Go.Proofs.YtjngkimolkhdmaaGreat
open Go Go.Abs Go.ChangeShapes Go.WideShapes Go.ChangeAt Go.RowKit
set_option maxRecDepth 100000
theorem law : Qbix Tryz.prog 9 [29, 32, 5] :=
  Qbkt A_29 (fun _ => rfl) (fun _ => rfl) A_32 (fun _ => rfl) (fun _ => rfl) A_5 (fun _ => rfl) (fun _ => rfl) fun a b c wa wb wc M nb => Qz6 a b c true (Qbb9 (Qbkh wa) b c) M nb
theorem own : ownKnob Tryz.prog.godebug = none := by kernel_rfl
theorem lifted (os : Os) (started : os.Started) (H : Type) (enc : TypeId × Value → H) :
    ReturnsInHanded {} Tryz.checked os 9 .any (Rows.diagnoserTruthSpec.pre6 enc Tryz.prog Tryz.f9 Rows.diagnoserTruthRow.domain false) (Rows.diagnoserTruthSpec.post enc Tryz.prog Tryz.f9 false true false false) :=
  Qbiy (C := Tryz.checked) own started (by kernel_rfl) Tryz.func9
    (ChangeSpec.witness6 (enc := enc) (C := Tryz.checked) false ⟨#[], #[.agg #[.int .u8 0, .int .u8 0, .int .u8 0, .int .u8 0, .int .u8 0, .int .u8 0, .int .u8 0, .int .u8 0, .int .u8 0, .int .u8 0, .int .u8 0, .int .u8 0, .int .u8 0, .int .u8 0, .int .u8 0, .int .u8 0, .int .u8 0, .int .u8 0, .int .u8 0, .int .u8 0, .int .u8 0, .int .u8 0, .int .u8 0, .int .u8 0, .int .u8 0, .int .u8 0, .int .u8 0, .int .u8 0, .int .u8 0, .int .u8 0, .int .u8 0, .int .u8 0, .int .u8 0], .slice none 0 0, .int .u8 0], []⟩ 8 (by kernel_rfl) (by kernel_rfl) (by kernel_rfl) (by kernel_rfl))
    rfl rfl Tryz.underlying4 (by kernel_rfl)
    (by
      intro t ht
      have hp : Tryz.f9.params.toList = [29, 32, 5] := by rw [Tryz.params9]
      rw [hp] at ht
      simp only [List.mem_cons, List.not_mem_nil, or_false] at ht
      rcases ht with rfl | rfl | rfl
      · exact ⟨by kernel_rfl, of_decide_eq_true (by kernel_rfl)⟩
      · exact ⟨by kernel_rfl, of_decide_eq_true (by kernel_rfl)⟩
      · exact ⟨by kernel_rfl, of_decide_eq_true (by kernel_rfl)⟩)
    (by
      intro ds hl
      have hp : Tryz.f9.params.size = 3 := by rw [Tryz.params9]; rfl
      rw [hp] at hl
      match ds, hl with
      | [da, db, dc], _ => rfl)
    (Qbkg (by kernel_rfl))
    (by
      have hp : Tryz.f9.params.toList = [29, 32, 5] := by rw [Tryz.params9]
      show Qbix Tryz.prog 9 Tryz.f9.params.toList
      rw [hp]; exact law)
theorem over : Rows.diagnoserTruthRow.holds Tryz.pinned (OpenSpec.ofChange Rows.diagnoserTruthSpec) :=
  OpenClaim.holds_of_wide 9 Tryz.f9 rfl rfl rfl rfl rfl rfl rfl ⟨rfl, rfl, rfl, rfl, rfl⟩ rfl rfl rfl rfl rfl (by kernel_rfl) Tryz.func9 (by kernel_rfl)
    (of_decide_eq_true (by kernel_rfl)) (by unfold Func.isWrapper; first | (rw [if_pos (by decide +kernel)]; kernel_rfl) | (rw [if_neg (by decide +kernel)]; exact ⟨rfl, rfl⟩))
    (fun os started H enc _ => lifted os started H enc)
theorem diagnoserTruth_holds : Rows.DiagnoserTruthSaid := over
end Go.Proofs.YtjngkimolkhdmaaGreat
