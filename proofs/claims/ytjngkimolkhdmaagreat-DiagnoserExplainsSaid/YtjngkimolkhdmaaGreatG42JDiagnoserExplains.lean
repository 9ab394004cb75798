/-
  DiagnoserExplains: for every input the law returns true, and each argument reads behind the call as it read before. No conditions.
-/
import Derived.Test.YtjngkimolkhdmaaGreatP13
import Derived.Test.YtjngkimolkhdmaaGreatRows
set_option linter.unusedVariables false
set_option linter.unusedSimpArgs false
set_option linter.unusedSectionVars false
namespace Go.Proofs.YtjngkimolkhdmaaGreat
open Go Go.Abs Go.ChangeShapes Go.WideShapes Go.ChangeAt Go.RowKit
set_option maxRecDepth 100000
theorem law : Qbj9 Tryz.prog 10 [29, 32, 3] :=
  Qbma A_29 (fun _ => rfl) (fun _ => rfl) A_32 (fun _ => rfl) (fun _ => rfl) A_3 (fun _ => rfl) (fun _ => rfl) fun a b c wa wb wc M nb => Qys a b c true (Q9j (Qbly wa) b c) M nb
theorem own : ownKnob Tryz.prog.godebug = none := by kernel_rfl
theorem lifted (os : Os) (started : os.Started) (H : Type) (enc : TypeId × Value → H) :
    ReturnsInHanded {} Tryz.checked os 10 .any (Rows.diagnoserExplainsSpec.pre6 enc Tryz.prog Tryz.f10 Rows.diagnoserExplainsRow.domain false) (Rows.diagnoserExplainsSpec.post enc Tryz.prog Tryz.f10 false true false false) :=
  Qbka (C := Tryz.checked) own started (by kernel_rfl) Tryz.func10
    (ChangeSpec.witness6 (enc := enc) (C := Tryz.checked) false ⟨#[], #[.agg #[.int .u8 0, .int .u8 0, .int .u8 0, .int .u8 0, .int .u8 0, .int .u8 0, .int .u8 0, .int .u8 0, .int .u8 0, .int .u8 0, .int .u8 0, .int .u8 0, .int .u8 0, .int .u8 0, .int .u8 0, .int .u8 0, .int .u8 0, .int .u8 0, .int .u8 0, .int .u8 0, .int .u8 0, .int .u8 0, .int .u8 0, .int .u8 0, .int .u8 0, .int .u8 0, .int .u8 0, .int .u8 0, .int .u8 0, .int .u8 0, .int .u8 0, .int .u8 0, .int .u8 0], .slice none 0 0, .int .i64 0], []⟩ 8 (by kernel_rfl) (by kernel_rfl) (by kernel_rfl) (by kernel_rfl))
    rfl rfl Tryz.underlying4 (by kernel_rfl)
    (by
      intro t ht
      have hp : Tryz.f10.params.toList = [29, 32, 3] := by rw [Tryz.params10]
      rw [hp] at ht
      simp only [List.mem_cons, List.not_mem_nil, or_false] at ht
      rcases ht with rfl | rfl | rfl
      · exact ⟨by kernel_rfl, of_decide_eq_true (by kernel_rfl)⟩
      · exact ⟨by kernel_rfl, of_decide_eq_true (by kernel_rfl)⟩
      · exact ⟨by kernel_rfl, of_decide_eq_true (by kernel_rfl)⟩)
    (by
      intro ds hl
      have hp : Tryz.f10.params.size = 3 := by rw [Tryz.params10]; rfl
      rw [hp] at hl
      match ds, hl with
      | [da, db, dc], _ => rfl)
    (Qblx (by kernel_rfl))
    (by
      have hp : Tryz.f10.params.toList = [29, 32, 3] := by rw [Tryz.params10]
      show Qbj9 Tryz.prog 10 Tryz.f10.params.toList
      rw [hp]; exact law)
theorem over : Rows.diagnoserExplainsRow.holds Tryz.pinned (OpenSpec.ofChange Rows.diagnoserExplainsSpec) :=
  OpenClaim.holds_of_wide 10 Tryz.f10 rfl rfl rfl rfl rfl rfl rfl ⟨rfl, rfl, rfl, rfl, rfl⟩ rfl rfl rfl rfl rfl (by kernel_rfl) Tryz.func10 (by kernel_rfl)
    (of_decide_eq_true (by kernel_rfl)) (by unfold Func.isWrapper; first | (rw [if_pos (by decide +kernel)]; kernel_rfl) | (rw [if_neg (by decide +kernel)]; exact ⟨rfl, rfl⟩))
    (fun os started H enc _ => lifted os started H enc)
theorem diagnoserExplains_holds : Rows.DiagnoserExplainsSaid := over
end Go.Proofs.YtjngkimolkhdmaaGreat
