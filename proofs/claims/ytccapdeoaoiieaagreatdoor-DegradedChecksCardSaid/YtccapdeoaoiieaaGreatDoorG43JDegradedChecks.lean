/-
  DegradedChecks: for every input the law returns true, and each argument reads behind the call as it read before. The package-level variables that the row lists start as the program's text lays them: the card ties that to the text.
-/
import Derived.Test.YtccapdeoaoiieaaGreatDoorP12
import Derived.Test.YtccapdeoaoiieaaGreatDoorCards
import Derived.Test.YtccapdeoaoiieaaGreatDoorTie
import Derived.Test.YtccapdeoaoiieaaGreatDoorRows
set_option linter.unusedVariables false
set_option linter.unusedSimpArgs false
set_option linter.unusedSectionVars false
namespace Go.Proofs.YtccapdeoaoiieaaGreatDoor
open Go Go.Abs Go.ChangeShapes Go.WideShapes Go.ChangeAt Go.RowKit
set_option maxRecDepth 100000
theorem law : Qbgu Tryz.prog 7 [39] :=
  Qbg5 A_39 (fun _ => rfl) (fun _ => rfl) fun a wa M nb => Q00 a true (Q9x a) M nb
theorem own : ownKnob Tryz.prog.godebug = none := by kernel_rfl
theorem door_met (os : Os) (args : Array Value) : laidMetH Tryz.prog Rows.degradedChecksRow.laid ((World.doorLaid Tryz.prog 24 os).forCall (fun _ _ => 0) ⟨#[], args, []⟩).memory :=
  laidMetH_of_parts3 (fuel := 8) (laidMet_of_run' 8 (by kernel_rfl) (by kernel_rfl)) (by kernel_rfl) (by kernel_rfl)
theorem lifted (os : Os) (started : os.Started) (H : Type) (enc : TypeId × Value → H) :
    ReturnsInHanded {} Tryz.checked os 7 .any (fun w args => (Rows.degradedChecksSpec.pre enc Tryz.prog Tryz.f7 Rows.degradedChecksRow.domain false w args ∧ laidMetH Tryz.prog Rows.degradedChecksRow.laid w) ∧ sizedMet enc Tryz.prog Tryz.f7 (OpenSpec.ofChange Rows.degradedChecksSpec) false w args)
      (Rows.degradedChecksSpec.post enc Tryz.prog Tryz.f7 false true false false) :=
  Qbcm (C := Tryz.checked) (X := fun w _ => laidMetH Tryz.prog Rows.degradedChecksRow.laid w) (fun _ _ _ hh h => h.of_heap hh) own started (by kernel_rfl) Tryz.func7
    (ChangeSpec.witness_shaped (enc := enc) (C := Tryz.checked) (os := os) (X := fun w _ => laidMetH Tryz.prog Rows.degradedChecksRow.laid w) false (World.doorLaid Tryz.prog 24 os) #[.agg #[.slice none 0 0, .slice none 0 0, .int .i64 0, .slice none 0 0, .slice none 0 0, .slice none 0 0, .int .i64 0, .slice none 0 0, .slice none 0 0, .int .i64 0, .slice none 0 0]] 8 rfl (World.shaped_of_RefB (by kernel_rfl) (by kernel_rfl)) (by kernel_rfl) (by kernel_rfl) (by kernel_rfl) (door_met os _))
    rfl rfl Tryz.underlying4 (by kernel_rfl)
    (by
      intro t ht
      have hp : Tryz.f7.params.toList = [39] := by rw [Tryz.params7]
      rw [hp] at ht
      simp only [List.mem_cons, List.not_mem_nil, or_false] at ht
      rcases ht with rfl
      · exact ⟨by kernel_rfl, of_decide_eq_true (by kernel_rfl)⟩)
    (by
      intro ds hl
      have hp : Tryz.f7.params.size = 1 := by rw [Tryz.params7]; rfl
      rw [hp] at hl
      match ds, hl with
      | [da], _ => rfl)
    (fun W args h => tabK h)
    (by
      have hp : Tryz.f7.params.toList = [39] := by rw [Tryz.params7]
      show Qbgu Tryz.prog 7 Tryz.f7.params.toList
      rw [hp]; exact law)
theorem over : Rows.DegradedChecksSaid :=
  OpenClaim.holds_of_wide 7 Tryz.f7 rfl rfl rfl rfl rfl rfl rfl ⟨rfl, rfl, rfl, rfl, rfl⟩ rfl rfl rfl rfl rfl (by kernel_rfl) Tryz.func7 (by kernel_rfl)
    (of_decide_eq_true (by kernel_rfl)) (by unfold Func.isWrapper; first | (rw [if_pos (by decide +kernel)]; kernel_rfl) | (rw [if_neg (by decide +kernel)]; exact ⟨rfl, rfl⟩))
    (fun os started H enc _ => lifted os started H enc)
theorem degradedChecks_holds : Rows.DegradedChecksCardSaid :=
  Claim7.holds_tied_plain_at .later [] [.data, .data, .data] true (true, "551c08c93a0fed682274bcc859ae8f6befa5d6fa3e5afe23c69fdf25400490fc") false
    over (fun _ h => by cases h) (by kernel_rfl) (fun _ h => by cases h) degradedChecks_row_tie rfl ⟨rfl, rfl⟩ (by kernel_rfl) rfl
    (fun f fn hf hfn => by
      obtain rfl : f = 7 := Option.some.inj ((show Tryz.prog.funcNamed "overseer/overseerlaw43.DegradedChecks" = some 7 by kernel_rfl).symm.trans hf) |>.symm
      obtain rfl : fn = Tryz.f7 := (Option.some.inj (Tryz.func7.symm.trans hfn)).symm
      exact ⟨by kernel_rfl, fun j t ht => by
        rw [Tryz.params7] at ht
        have hm : t ∈ [39] := by simpa using Array.mem_of_getElem? ht
        have hall : ([39].all fun u => !Tryz.prog.wantsStandIn u) = true := by kernel_rfl
        exact (show Tryz.prog.wantsStandIn t = false by simpa using List.all_eq_true.1 hall t hm)⟩)
    (by kernel_rfl)
end Go.Proofs.YtccapdeoaoiieaaGreatDoor
