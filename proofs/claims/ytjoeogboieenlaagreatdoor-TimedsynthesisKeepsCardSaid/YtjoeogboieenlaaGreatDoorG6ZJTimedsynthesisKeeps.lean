/-
  TimedsynthesisKeeps: for every input the law returns true, and each argument reads behind the call as it read before. The package-level variables that the row lists start as the program's text lays them: the card ties that to the text.
-/
import Derived.Test.YtjoeogboieenlaaGreatDoorP13
import Derived.Test.YtjoeogboieenlaaGreatDoorCards
import Derived.Test.YtjoeogboieenlaaGreatDoorTie
import Derived.Test.YtjoeogboieenlaaGreatDoorRows
set_option linter.unusedVariables false
set_option linter.unusedSimpArgs false
set_option linter.unusedSectionVars false
namespace Go.Proofs.YtjoeogboieenlaaGreatDoor
open Go Go.Abs Go.ChangeShapes Go.WideShapes Go.ChangeAt Go.RowKit
set_option maxRecDepth 100000
theorem law : Qbkx Tryz.prog 4 [54, 5] :=
  Qblg A_54 (fun _ => rfl) (fun _ => rfl) A_5 (fun _ => rfl) (fun _ => rfl) fun a b wa wb M nb => Qwy a b true (Q6f (Qbk4 wa) (Qbci wb)) M nb
theorem own : ownKnob Tryz.prog.godebug = none := by kernel_rfl
theorem door_met (os : Os) (args : Array Value) : laidMetH Tryz.prog Rows.timedsynthesisKeepsRow.laid ((World.doorLaid Tryz.prog 24 os).forCall (fun _ _ => 0) ⟨#[], args, []⟩).memory :=
  laidMetH_of_parts3 (fuel := 8) (laidMet_of_run' 8 (by kernel_rfl) (by kernel_rfl)) (by kernel_rfl) (by kernel_rfl)
theorem lifted (os : Os) (started : os.Started) (H : Type) (enc : TypeId × Value → H) :
    ReturnsInHanded {} Tryz.checked os 4 .any (fun w args => (Rows.timedsynthesisKeepsSpec.pre enc Tryz.prog Tryz.f4 Rows.timedsynthesisKeepsRow.domain false w args ∧ laidMetH Tryz.prog Rows.timedsynthesisKeepsRow.laid w) ∧ sizedMet enc Tryz.prog Tryz.f4 (OpenSpec.ofChange Rows.timedsynthesisKeepsSpec) false w args)
      (Rows.timedsynthesisKeepsSpec.post enc Tryz.prog Tryz.f4 false true false false) :=
  Qbfx (C := Tryz.checked) (X := fun w _ => laidMetH Tryz.prog Rows.timedsynthesisKeepsRow.laid w) (fun _ _ _ hh h => h.of_heap hh) own started (by kernel_rfl) Tryz.func4
    (ChangeSpec.witness_shaped (enc := enc) (C := Tryz.checked) (os := os) (X := fun w _ => laidMetH Tryz.prog Rows.timedsynthesisKeepsRow.laid w) false (World.doorLaid Tryz.prog 24 os) #[.agg #[.int .u8 0, .int .u8 0, .int .u8 0, .int .u8 0, .int .u8 0, .int .u8 0, .int .u8 0, .int .u8 0, .int .u8 0, .int .u8 0, .int .u8 0, .int .u8 0, .int .u8 0, .int .u8 0, .int .u8 0, .int .u8 0, .int .u8 0, .int .u8 0, .int .u8 0, .int .u8 0, .int .u8 0, .int .u8 0, .int .u8 0, .int .u8 0, .int .u8 0, .int .u8 0, .int .u8 0, .int .u8 0, .int .u8 0, .int .u8 0, .int .u8 0], .int .u8 0] 8 rfl (World.shaped_of_RefB (by kernel_rfl) (by kernel_rfl)) (by kernel_rfl) (by kernel_rfl) (by kernel_rfl) (door_met os _))
    rfl rfl Tryz.underlying4 (by kernel_rfl)
    (by
      intro t ht
      have hp : Tryz.f4.params.toList = [54, 5] := by rw [Tryz.params4]
      rw [hp] at ht
      simp only [List.mem_cons, List.not_mem_nil, or_false] at ht
      rcases ht with rfl | rfl
      · exact ⟨by kernel_rfl, of_decide_eq_true (by kernel_rfl)⟩
      · exact ⟨by kernel_rfl, of_decide_eq_true (by kernel_rfl)⟩)
    (by
      intro ds hl
      have hp : Tryz.f4.params.size = 2 := by rw [Tryz.params4]; rfl
      rw [hp] at hl
      match ds, hl with
      | [da, db], _ => rfl)
    (fun W args h => tabK h)
    (by
      have hp : Tryz.f4.params.toList = [54, 5] := by rw [Tryz.params4]
      show Qbkx Tryz.prog 4 Tryz.f4.params.toList
      rw [hp]; exact law)
theorem over : Rows.TimedsynthesisKeepsSaid :=
  OpenClaim.holds_of_wide 4 Tryz.f4 rfl rfl rfl rfl rfl rfl rfl ⟨rfl, rfl, rfl, rfl, rfl⟩ rfl rfl rfl rfl rfl (by kernel_rfl) Tryz.func4 (by kernel_rfl)
    (of_decide_eq_true (by kernel_rfl)) (by unfold Func.isWrapper; first | (rw [if_pos (by decide +kernel)]; kernel_rfl) | (rw [if_neg (by decide +kernel)]; exact ⟨rfl, rfl⟩))
    (fun os started H enc _ => lifted os started H enc)
theorem timedsynthesisKeeps_holds : Rows.TimedsynthesisKeepsCardSaid :=
  Claim7.holds_tied_plain_at .later [] [.data, .data, .data] true (true, "b02222e58bf3fc95be255e3d0a7cc33a8b320e1cd8ad6ed5a74c4ca75f3e8ff8") false
    over (fun _ h => by cases h) (by kernel_rfl) (fun _ h => by cases h) timedsynthesisKeeps_row_tie rfl ⟨rfl, rfl⟩ (by kernel_rfl) rfl
    (fun f fn hf hfn => by
      obtain rfl : f = 4 := Option.some.inj ((show Tryz.prog.funcNamed "overseer/overseerlaw46.TimedsynthesisKeeps" = some 4 by kernel_rfl).symm.trans hf) |>.symm
      obtain rfl : fn = Tryz.f4 := (Option.some.inj (Tryz.func4.symm.trans hfn)).symm
      exact ⟨by kernel_rfl, fun j t ht => by
        rw [Tryz.params4] at ht
        have hm : t ∈ [54, 5] := by simpa using Array.mem_of_getElem? ht
        have hall : ([54, 5].all fun u => !Tryz.prog.wantsStandIn u) = true := by kernel_rfl
        exact (show Tryz.prog.wantsStandIn t = false by simpa using List.all_eq_true.1 hall t hm)⟩)
    (by kernel_rfl)
end Go.Proofs.YtjoeogboieenlaaGreatDoor
