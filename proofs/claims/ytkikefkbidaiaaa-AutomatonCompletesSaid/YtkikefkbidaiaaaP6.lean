/-
  Part 6 of the proof: see the last text.
-/
import Derived.Test.YtkikefkbidaiaaaP5
import Derived.Shelf.SlSortCmp.NoneTotal
import Derived.Shelf.SortM.Plain
import Derived.Shelf.SortM.SortNone
import Derived.Shelf.Small.Bits
import Derived.Test.YtkikefkbidaiaaaProg
import Derived.KernelRfl
import Derived.WalkKit
import Derived.Shelf.SlIterI.Sorted
import Derived.RangeFuncBox
import Derived.RangeFuncLeaves
import Derived.Shelf.Abstract
import Derived.OwnWalkIn
import Derived.TacticsInMore
import Derived.RegionIn
import Derived.LoopNIn
import Derived.LoopIn
import Derived.OpenShut
import Derived.ProofKit
import Derived.Carry
import GoSem.Claim
import GoSem.ClaimJoined
import Derived.JoinedTies
set_option linter.unusedVariables false
set_option linter.unusedSimpArgs false
set_option linter.unusedSectionVars false
section
namespace Go.Abs
open Go Go.RowKit
set_option linter.unusedVariables false
def F_values (g : Nat) : CFn := ⟨1, 4, [.t 2], .seq (.region [⟨some 1, .box 1, [.t 0], false, none⟩, ⟨some 2, .mov, [.c .und], false, none⟩] 9 []) (.seq (.region [⟨some 3, .func g, [.t 1], false, none⟩, ⟨some 2, .mov, [.t 3], false, none⟩] 9 []) .ret)⟩
theorem valsK_of {P : Program} {c g : Nat} (hcf : compFn P c = some (F_values g)) : ValsK P c g 1 4 := by
  intro x M nb
  by_cases hM : ∀ k, nb ≤ k → M k = none
  case neg => exact acalls_vac (compFn_body hcf) (by omega) hM
  by_cases hon : MOn (There M) M
  case neg => exact ⟨compFn_body hcf, by omega, fun w g us hm h => absurd h hon⟩
  refine fn_tr hcf hM rfl (by omega) fun Γ hP hn ht => ?_
  have hlt : ∀ k, There M k → k < nb := fun k hk => by
    rcases Nat.lt_or_ge k nb with h | h
    · exact h
    · simp [There, hM k h] at hk
  subst hn
  rw [← memOf_nil hM]
  refine Tr.init [(0, .d x)] rfl ?_
  unfold F_values
  refine Tr.seq ?_
  refine Tr.rgn ?_
  refine Rn.box (v := .d x) (cs := [.d x]) trivial rfl rfl rfl rfl rfl ?_
  refine Rn.mov (v := .und) trivial rfl ?_
  refine Rn.nil ?_
  refine toN ?_
  refine Tr.seq ?_
  refine Tr.rgn ?_
  refine Rn.k (v := .clo g [.ptr (Γ.n0 + 1) 0]) trivial rfl rfl rfl ?_
  refine Rn.mov (v := .clo g [.ptr (Γ.n0 + 1) 0]) trivial rfl ?_
  refine Rn.nil ?_
  refine toN ?_
  refine Tr.ret ?_
  rw [memOf_nil hM]
  have hth : There (M.put (Γ.n0 + 1) (.cells [.d x])) (Γ.n0 + 1) := by simp [There, Mem.put]
  refine ⟨.inr rfl, .clo g [.ptr (Γ.n0 + 1) 0], rfl, fun _ _ _ _ h => h, fun k b hk => ?_, ⟨hth, trivial⟩, fun k cs hk => ?_, fun k hk => ?_⟩
  · show memOf Γ.n0 [(1, .cells [.d x])] M k = some b
    have := memOf_put (n0 := Γ.n0) (L := []) (M0 := M) (t := 1) (b := .cells [.d x])
    rw [← this, memOf_nil hM]; exact hk
  · by_cases h : k = Γ.n0 + 1
    · subst h; rw [put_same] at hk; cases hk; exact ⟨trivial, trivial⟩
    · rw [put_other _ _ h] at hk
      exact ons_mono (fun j hj => There.put hj) _ (hon k cs hk)
  · by_cases h : k = Γ.n0 + 1
    · omega
    · have : There M k := by simpa [There, Mem.put, h] using hk
      have := hlt k this
      omega
theorem RDL_ints {imm : Nat → Nat → Prop} {w : World} {b : Nat} : ∀ (xs : List Int) (o : Nat), (∀ j x, xs[j]? = some x → imm b (o + j) ∧ w.cell? ⟨b, o + j, none⟩ = some (.int .i64 x)) → RDL imm w 1 b (List.map (eI .i64) xs) o
  | [], _, _ => by simp [RDL]
  | x :: xs, o, h => by
    simp only [List.map_cons, RDL]
    obtain ⟨h1, h2⟩ := h 0 x rfl
    refine ⟨rfl, ⟨h1, ⟨_, h2, rfl⟩, trivial⟩, RDL_ints xs (o + 1) fun j y hj => ?_⟩
    have := h (j + 1) y (by simpa using hj)
    rwa [show o + (j + 1) = o + 1 + j from by omega] at this
theorem ints_RDL {imm : Nat → Nat → Prop} {w : World} {b : Nat} : ∀ (xs : List Int) (o : Nat), RDL imm w 1 b (List.map (eI .i64) xs) o → ∀ j x, xs[j]? = some x → w.cell? ⟨b, o + j, none⟩ = some (.int .i64 x)
  | [], _, _, j, x, hj => by simp at hj
  | y :: ys, o, h, j, x, hj => by
    simp only [List.map_cons, RDL] at h
    obtain ⟨_, ⟨_, ⟨u, h2, h3⟩, _⟩, h4⟩ := h
    cases j with
    | zero =>
      simp at hj; subst hj
      have : u = .int .i64 y := h3
      rw [← this]; exact h2
    | succ j =>
      have := ints_RDL ys (o + 1) h4 j x (by simpa using hj)
      rwa [show o + 1 + j = o + (j + 1) from by omega] at this
def Ints (n₀ : Nat) (W : World) (sv : Value) (zs : List Int) : Prop :=
  (∃ a cap, sv = .slice a 0 cap ∧ zs = []) ∨ ∃ b off cap, sv = .slice (some ⟨b, off, none⟩) zs.length cap ∧ b < n₀ ∧ ∀ j, j < zs.length → W.cell? ⟨b, off + j, none⟩ = some (.int .i64 (zs[j]?.getD 0))
theorem Ints.below {n₀ : Nat} {A B : World} (h : Below n₀ A B) {sv : Value} {zs : List Int} : Ints n₀ A sv zs → Ints n₀ B sv zs
  | .inl e => .inl e
  | .inr ⟨b, off, cap, e, hb, hc⟩ => .inr ⟨b, off, cap, e, hb, fun j hj => (h.cell (p := ⟨b, off + j, none⟩) hb).trans (hc j hj)⟩
def ltInt' (a b : Int) : Bool := decide (a < b)
def intsO (l : List Int) : Option (List Int) := if l.length ≤ lim then some (isortB ltInt' l) else none
theorem merge_isort (l : List Int) : (l.mergeSort fun x y => decide (x ≤ y)) = isortB ltInt' l := by
  have hO : Go.Sort.SWO ltInt' := ⟨fun x => by simp [ltInt'], fun x y z h1 h2 => by simp [ltInt'] at *; omega, fun x y z h1 h2 => by simp [ltInt'] at *; omega⟩
  refine List.Perm.eq_of_pairwise (le := fun a b => ltInt' b a = false) (fun a b _ _ h1 h2 => by simp [ltInt'] at *; omega) ?_ (isortB_sorted hO l) ((List.mergeSort_perm _ _).trans (isortB_perm _ l).symm)
  have := List.pairwise_mergeSort (le := fun x y : Int => decide (x ≤ y)) (fun a b c h1 h2 => by simp at *; omega) (fun a b => by simp; omega) l
  exact this.imp fun h => by simp [ltInt'] at *; omega
theorem overK_of {P : Program} {c g : Nat} {t : TypeId} (hb : HasBody P c = true)
    (hcall : ∀ (Bs : Nat) (sv : Value) (zs : List Int) (w : World), zs.length * 8 ≤ 140737488351232 → Bs < w.heap.size → w.cell? ⟨Bs, 0, none⟩ = some sv → Ints w.heap.size w sv zs →
      Calls P c #[.func (.func g) #[] #[.pointer (some ⟨Bs, 0, none⟩)]] w fun e W' => ∃ v, e = .returned v ∧ W'.ownsRow w.heap.size t 1 v zs.length ((zs.mergeSort fun x y => decide (x ≤ y)).map (Value.int .i64)) ∧ Below w.heap.size w W') :
    OverK P c g (eI .i64) 1 intsO := by
  intro xs ys hf M nb k hM
  unfold intsO at hf
  split at hf <;> cases hf
  rename_i hlen
  refine ⟨hb, Nat.le_refl _, fun w g0 us hm hMon hfresh hus hfl hons => ?_⟩
  obtain ⟨u0, us', rfl, hu0, rfl⟩ := hus
  obtain ⟨hk0, hown, vals, et, hh, hrv, hone⟩ := hm.box k _ hM
  obtain ⟨vs, rfl, hvs⟩ : ∃ vs : List Value, u0 = .func (.func g) #[] vs.toArray ∧ RVs g0 w [.ptr k 0] .ext 0 vs := by
    have := hu0 .ext; simpa only [RV] using this
  obtain ⟨p, _, rfl, hp, rfl⟩ := hvs
  simp only [RV] at hp
  subst hp
  obtain ⟨sv, _, rfl, hsv, rfl⟩ := hrv
  simp only [RV] at hsv
  obtain ⟨a, cap, rfl, hcap, hcells⟩ := hsv
  have hBs : g0.box k < w.heap.size := (Array.getElem?_eq_some_iff.1 hh).1
  have hI : Ints w.heap.size w (.slice a (List.map (eI .i64) xs).length cap) xs := by
    rcases hcells with h | ⟨b, o, rfl, h⟩
    · have : xs = [] := by simpa using h
      subst this; exact .inl ⟨a, cap, rfl, rfl⟩
    · by_cases h0 : xs = []
      · subst h0; exact .inl ⟨_, cap, rfl, rfl⟩
      · have hc := ints_RDL xs o h
        refine .inr ⟨b, o, cap, by rw [List.length_map], ?_, fun j hj => ?_⟩
        · have h1 : 0 < xs.length := List.length_pos_iff.2 h0
          have := hc 0 xs[0] (List.getElem?_eq_getElem h1)
          simp only [World.cell?] at this
          cases hbk : w.heap[b]? with
          | none => simp [hbk] at this
          | some ob => exact (Array.getElem?_eq_some_iff.1 hbk).1
        · have := hc j xs[j] (List.getElem?_eq_getElem hj)
          rw [this, List.getElem?_eq_getElem hj]; rfl
  have hlen8 : xs.length * 8 ≤ 140737488351232 := by unfold lim at hlen; omega
  refine (hcall (g0.box k) _ xs w hlen8 hBs (by simp [World.cell?, hh]) hI).mono ?_
  rintro e W' ⟨v, rfl, hrow, hbel⟩
  rw [merge_isort] at hrow
  generalize isortB ltInt' xs = ys at hrow ⊢
  obtain ⟨gb, hgb, hv⟩ : ∃ gb, w.heap.size ≤ gb ∧ (ys = [] ∧ v = .slice none 0 0 ∨ ∃ cap, v = .slice (some ⟨gb, 0, none⟩) ys.length cap ∧ ys.length ≤ cap ∧ ∀ j x, ys[j]? = some x → gb < W'.heap.size ∧ W'.cell? ⟨gb, j, none⟩ = some (.int .i64 x)) := by
    obtain ⟨h1, h2⟩ := hrow
    have h1 : ys.length = xs.length := by simpa using h1
    rcases h2 with ⟨rfl, h0⟩ | ⟨gb, cap, cur, rfl, hbase, hgb, r1, r2, r3, r4⟩
    · exact ⟨w.heap.size, Nat.le_refl _, .inl ⟨List.eq_nil_of_length_eq_zero (by omega), rfl⟩⟩
    · refine ⟨gb, hbase, .inr ⟨cap, by rw [h1], by omega, fun j x hj => ⟨(Array.getElem?_eq_some_iff.1 hgb).1, ?_⟩⟩⟩
      have hj2 := (List.getElem?_eq_some_iff.1 hj).1
      have : (cur.toList.take (xs.length * 1))[j]? = some (.int .i64 x) := by rw [r4, List.getElem?_map, hj]; rfl
      rw [List.getElem?_take_of_lt (by omega)] at this
      simp only [World.cell?, hgb]
      simpa using this
  let g' : G := ⟨g0.box, fun b o => g0.imm b o ∨ (b = gb ∧ o < ys.length), fun b => if b = gb then .ext else g0.own b⟩
  have hne : ∀ b, b < w.heap.size → b ≠ gb := fun b h => by omega
  have himm : Imm g0.imm g'.imm w W' := by
    refine ⟨fun _ _ h => .inl h, fun b o h => ?_⟩
    have := (hm.imm b o h).1
    simp only [World.cell?, hbel.block b this]
  have hkept : Kept g0 w g' W' (There M) (fun _ => True) := ⟨himm, fun _ _ => rfl, fun b _ hl => ⟨by simp [g', hne b hl], hbel.block b hl, fun o => by simp [g', hne b hl]⟩⟩
  refine ⟨v, g', rfl, hm.kept hkept hMon (fun _ _ _ => trivial) trivial (fun _ _ => trivial) fun b o h => ?_, ?_, trivial, hMon, ?_⟩
  · rcases h with h | ⟨rfl, h⟩
    · obtain ⟨h1, h2⟩ := hm.imm b o h
      refine ⟨Nat.lt_of_lt_of_le h1 hbel.size, fun k => ?_⟩
      simp only [g', hne b h1, if_false]; exact h2 k
    · refine ⟨?_, fun k => by simp [g']⟩
      rcases hv with ⟨rfl, _⟩ | ⟨cap, _, _, hc⟩
      · simp at h
      · exact (hc o _ (List.getElem?_eq_getElem h)).1
  · simp only [RV]
    rcases hv with ⟨rfl, rfl⟩ | ⟨cap, rfl, hcp, hc⟩
    · simp only [RD]; exact ⟨none, 0, rfl, Nat.le_refl _, .inl rfl⟩
    · simp only [RD, List.length_map]
      refine ⟨_, cap, rfl, hcp, .inr ⟨gb, 0, rfl, RDL_ints ys 0 fun j x hj => ?_⟩⟩
      rw [Nat.zero_add]
      have h2 := (hc j x hj).2
      exact ⟨⟨.inr ⟨rfl, (List.getElem?_eq_some_iff.1 hj).1⟩, by simp [g'], by rw [h2]; rfl⟩, h2⟩
  · exact ⟨hbel.os, hbel.tape, hbel.output, hbel.size, himm, fun _ _ => rfl, fun b hb _ => ⟨by simp [g', hne b hb], hbel.block b hb, fun o => by simp [g', hne b hb]⟩⟩
end Go.Abs
end
section
namespace Go.Abs
def okE (x : api_Edge) : Bool := decide (0 ≤ x.From ∧ x.From < 4611686018427387904 ∧ 0 ≤ x.Event ∧ x.Event < 4611686018427387904)
def ltE (x y : api_Edge) : Bool := decide (x.From < y.From ∨ (x.From = y.From ∧ x.Event < y.Event))
def edgesO (l : List api_Edge) : Option (List api_Edge) := if l.length ≤ 65536 then sortO okE ltE l else none
end Go.Abs
end
section
namespace Go.Abs
open Go Go.Abs
set_option linter.unusedVariables false
set_option maxRecDepth 10000
set_option maxHeartbeats 4000000
def fuel0 : Nat := 1099511627776
def g_overseerlaw03_example := f_overseerlaw03_example
def g_automaton_checkSet := f_automaton_checkSet fuel0
def g_slices_Index_int := f_slices_Index_int fuel0
def g_slices_Contains_int := f_slices_Contains_int g_slices_Index_int
def g_automaton_checkEdges := f_automaton_checkEdges g_slices_Contains_int fuel0
def g_automaton_Check := f_automaton_Check g_automaton_checkSet g_automaton_checkEdges
def g_slices_Clone_int := f_slices_Clone_int
def g_cmp_isNaN_int := f_cmp_isNaN_int
def g_cmp_Less_int := f_cmp_Less_int g_cmp_isNaN_int
def g_slices_isNaN_int := f_slices_isNaN_int
def g_slices_BinarySearch_int := f_slices_BinarySearch_int g_cmp_Less_int g_slices_isNaN_int fuel0
def g_slices_BinarySearchFunc_int := f_slices_BinarySearchFunc_int fuel0
def g_automaton_out_1 := f_automaton_out_1
def g_automaton_out_2 := f_automaton_out_2
def g_automaton_out := f_automaton_out g_slices_BinarySearchFunc_int g_automaton_out_1 g_automaton_out_2
def g_automaton_canonical := f_automaton_canonical g_automaton_out g_slices_Clone_int g_slices_BinarySearch_int fuel0
def g_automaton_Canonical := f_automaton_Canonical g_automaton_Check g_automaton_canonical
def g_automaton_checkState := f_automaton_checkState g_automaton_Check
def g_automaton_Run_1 := f_automaton_Run_1 g_slices_Contains_int
def g_slices_IndexFunc_int := f_slices_IndexFunc_int fuel0
def g_slices_ContainsFunc_int := f_slices_ContainsFunc_int g_slices_IndexFunc_int
def g_automaton_next_1 := f_automaton_next_1
def g_slices_IndexFunc_Edge := f_slices_IndexFunc_Edge fuel0
def g_automaton_next := f_automaton_next g_automaton_out g_slices_IndexFunc_Edge g_automaton_next_1
def g_automaton_follow := f_automaton_follow g_automaton_next fuel0
def g_automaton_Run := f_automaton_Run g_automaton_checkState g_slices_ContainsFunc_int g_automaton_Run_1 g_automaton_follow
def g_automaton_Words := f_automaton_Words g_automaton_Check g_automaton_out g_slices_Clone_int g_slices_Contains_int fuel0
def g_automaton_Relabel := f_automaton_Relabel g_automaton_Check g_slices_Contains_int intsO g_slices_Index_int edgesO g_automaton_canonical fuel0
def g_overseerref03_SameInts := f_overseerref03_SameInts fuel0
def g_overseerref03_Same := f_overseerref03_Same g_overseerref03_SameInts fuel0
def g_overseerlaw03_known := f_overseerlaw03_known g_automaton_Words g_automaton_Relabel g_overseerref03_Same g_automaton_Canonical g_automaton_Run g_overseerref03_SameInts g_overseerlaw03_example
def g_overseerlaw03_Set_Events := f_overseerlaw03_Set_Events fuel0
def g_overseerref03_Empty := f_overseerref03_Empty
def g_overseerref03_Step := f_overseerref03_Step fuel0
def g_overseerref03_has := f_overseerref03_has fuel0
def g_overseerref03_Found := f_overseerref03_Found g_overseerref03_Step g_overseerref03_has fuel0
def g_overseerref03_index := f_overseerref03_index fuel0
def g_overseerref03_Canonical := f_overseerref03_Canonical g_overseerref03_Step g_overseerref03_Empty g_overseerref03_has g_overseerref03_index g_overseerref03_Found fuel0
def g_overseerlaw03_Make := f_overseerlaw03_Make g_overseerref03_Canonical g_overseerref03_Empty fuel0
def g_automaton_Complete := f_automaton_Complete g_automaton_Check g_automaton_canonical g_automaton_next fuel0
def g_automaton_Closed := f_automaton_Closed g_automaton_Check g_automaton_canonical fuel0
def g_overseerref03_Complete := f_overseerref03_Complete g_overseerref03_Canonical g_overseerref03_Step fuel0
def g_overseerref03_Closed := f_overseerref03_Closed g_overseerref03_Canonical fuel0
def g_automaton_reached := f_automaton_reached g_automaton_follow
def g_automaton_Generates := f_automaton_Generates g_automaton_Check g_automaton_reached
def g_automaton_Accepts := f_automaton_Accepts g_automaton_Check g_slices_Contains_int g_automaton_reached
def g_overseerlaw03_AutomatonCompletes := f_overseerlaw03_AutomatonCompletes g_overseerlaw03_known g_overseerlaw03_Make g_overseerlaw03_Set_Events g_overseerref03_Same g_automaton_Generates g_automaton_Accepts g_automaton_Complete g_automaton_Closed g_overseerref03_Complete g_overseerref03_Closed fuel0
def g_slices_Equal_int := f_slices_Equal_int fuel0
def g_slices_Equal_Edge := f_slices_Equal_Edge fuel0
end Go.Abs
end
section
namespace Go.Proofs
open Go.Shelf
def Try.sortE_ren : Go.Shelf.Ren := ⟨fun | 6 => 76 | 15 => 84 | 14 => 85 | 28 => 96 | 29 => 97 | 20 => 98 | 21 => 99 | 22 => 100 | 23 => 101 | 24 => 102 | 25 => 103 | 26 => 104 | 27 => 105 | 46 => 112 | 47 => 108 | 48 => 109 | 49 => 113 | 50 => 114 | 57 => 116 | n => n, fun | 22 => 29 | 24 => 43 | 25 => 97 | 3 => 3 | 39 => 102 | 0 => 0 | 53 => 116 | 55 => 118 | 4 => 4 | 46 => 110 | 45 => 109 | 50 => 88 | 5 => 5 | 9 => 9 | 66 => 124 | 70 => 128 | 76 => 132 | 77 => 59 | n => n, fun | n => n⟩
theorem Try.sortE : Go.Proofs.SlLaysF0.n6 Try.prog Try.sortE_ren := {
  mixed := by kernel_rfl
  f6 := ⟨Try.f76.name, by decide, Try.func76.trans (congrArg some (by kernel_rfl))⟩
  f14 := ⟨Try.f85.name, by decide, Try.func85.trans (congrArg some (by kernel_rfl))⟩
  f15 := Try.func84.trans (congrArg some (by kernel_rfl))
  f20 := ⟨Try.f98.name, by decide, Try.func98.trans (congrArg some (by kernel_rfl))⟩
  f21 := ⟨Try.f99.name, by decide, Try.func99.trans (congrArg some (by kernel_rfl))⟩
  f22 := ⟨Try.f100.name, by decide, Try.func100.trans (congrArg some (by kernel_rfl))⟩
  f23 := ⟨Try.f101.name, by decide, Try.func101.trans (congrArg some (by kernel_rfl))⟩
  f24 := ⟨Try.f102.name, by decide, Try.func102.trans (congrArg some (by kernel_rfl))⟩
  f25 := ⟨Try.f103.name, by decide, Try.func103.trans (congrArg some (by kernel_rfl))⟩
  f26 := ⟨Try.f104.name, by decide, Try.func104.trans (congrArg some (by kernel_rfl))⟩
  f27 := ⟨Try.f105.name, by decide, Try.func105.trans (congrArg some (by kernel_rfl))⟩
  f28 := Try.func96.trans (congrArg some (by kernel_rfl))
  f29 := Try.func97.trans (congrArg some (by kernel_rfl))
  f46 := ⟨Try.f112.name, by decide, Try.func112.trans (congrArg some (by kernel_rfl))⟩
  f47 := Try.func108.trans (congrArg some (by kernel_rfl))
  f48 := Try.func109.trans (congrArg some (by kernel_rfl))
  f49 := ⟨Try.f113.name, by decide, Try.func113.trans (congrArg some (by kernel_rfl))⟩
  f50 := ⟨Try.f114.name, by decide, Try.func114.trans (congrArg some (by kernel_rfl))⟩
  f57 := ⟨Try.f116.name, by decide, Try.func116.trans (congrArg some (by kernel_rfl))⟩
  t0 := Try.underlying0
  a0 := Try.isAgg0
  z0 := Try.sizeOf0
  v0 := Try.zeroValue0
  t3 := Try.underlying3
  a3 := Try.isAgg3
  z3 := Try.sizeOf3
  v3 := Try.zeroValue3
  t4 := Try.underlying4
  a4 := Try.isAgg4
  z4 := Try.sizeOf4
  v4 := Try.zeroValue4
  t5 := Try.underlying5
  a5 := Try.isAgg5
  z5 := Try.sizeOf5
  v5 := Try.zeroValue5
  t9 := Try.underlying9
  a9 := Try.isAgg9
  z9 := Try.sizeOf9
  v9 := Try.zeroValue9
  t22 := Try.underlying29
  a22 := Try.isAgg29
  z22 := Try.sizeOf29
  v22 := Try.zeroValue29
  t25 := Try.underlying97
  a25 := Try.isAgg97
  z25 := Try.sizeOf97
  v25 := Try.zeroValue97
  t39 := Try.underlying102
  a39 := Try.isAgg102
  z39 := Try.sizeOf102
  v39 := Try.zeroValue102
  t45 := Try.underlying109
  a45 := Try.isAgg109
  z45 := Try.sizeOf109
  v45 := Try.zeroValue109
  t46 := Try.underlying110
  a46 := Try.isAgg110
  z46 := Try.sizeOf110
  v46 := Try.zeroValue110
  t50 := Try.underlying88
  a50 := Try.isAgg88
  z50 := Try.sizeOf88
  v50 := Try.zeroValue88
  t53 := Try.underlying116
  a53 := Try.isAgg116
  z53 := Try.sizeOf116
  v53 := Try.zeroValue116
  t55 := Try.underlying118
  a55 := Try.isAgg118
  z55 := Try.sizeOf118
  v55 := Try.zeroValue118
  t66 := Try.underlying124
  a66 := Try.isAgg124
  z66 := Try.sizeOf124
  v66 := Try.zeroValue124
  t70 := Try.underlying128
  a70 := Try.isAgg128
  z70 := Try.sizeOf128
  v70 := Try.zeroValue128
  t76 := Try.underlying132
  a76 := Try.isAgg132
  z76 := Try.sizeOf132
  v76 := Try.zeroValue132
  t77 := Try.underlying59
  a77 := Try.isAgg59
  z77 := Try.sizeOf59
  v77 := Try.zeroValue59 }
def Try.sortI_ren : Go.Shelf.Ren := ⟨fun | 5 => 74 | 8 => 84 | 7 => 83 | 19 => 96 | 20 => 97 | 10 => 88 | 11 => 89 | 12 => 90 | 13 => 91 | 14 => 92 | 15 => 93 | 16 => 86 | 17 => 94 | 18 => 95 | 30 => 107 | 31 => 108 | 32 => 109 | 33 => 110 | 34 => 111 | 35 => 106 | 40 => 115 | n => n, fun | 23 => 28 | 25 => 3 | 3 => 3 | 32 => 102 | 22 => 28 | 0 => 0 | 44 => 116 | 46 => 118 | 4 => 4 | 36 => 110 | 35 => 109 | 41 => 88 | 5 => 5 | 9 => 9 | 53 => 124 | 57 => 128 | 63 => 132 | 64 => 59 | n => n, fun | n => n⟩
theorem Try.sortI : Go.Proofs.SlLaysM.n5 Try.prog Try.sortI_ren := {
  mixed := by kernel_rfl
  f5 := ⟨Try.f74.name, by decide, Try.func74.trans (congrArg some (by kernel_rfl))⟩
  f7 := ⟨Try.f83.name, by decide, Try.func83.trans (congrArg some (by kernel_rfl))⟩
  f8 := Try.func84.trans (congrArg some (by kernel_rfl))
  f10 := ⟨Try.f88.name, by decide, Try.func88.trans (congrArg some (by kernel_rfl))⟩
  f11 := ⟨Try.f89.name, by decide, Try.func89.trans (congrArg some (by kernel_rfl))⟩
  f12 := ⟨Try.f90.name, by decide, Try.func90.trans (congrArg some (by kernel_rfl))⟩
  f13 := ⟨Try.f91.name, by decide, Try.func91.trans (congrArg some (by kernel_rfl))⟩
  f14 := ⟨Try.f92.name, by decide, Try.func92.trans (congrArg some (by kernel_rfl))⟩
  f15 := ⟨Try.f93.name, by decide, Try.func93.trans (congrArg some (by kernel_rfl))⟩
  f16 := ⟨Try.f86.name, by decide, Try.func86.trans (congrArg some (by kernel_rfl))⟩
  f17 := ⟨Try.f94.name, by decide, Try.func94.trans (congrArg some (by kernel_rfl))⟩
  f18 := ⟨Try.f95.name, by decide, Try.func95.trans (congrArg some (by kernel_rfl))⟩
  f19 := Try.func96.trans (congrArg some (by kernel_rfl))
  f20 := Try.func97.trans (congrArg some (by kernel_rfl))
  f30 := ⟨Try.f107.name, by decide, Try.func107.trans (congrArg some (by kernel_rfl))⟩
  f31 := Try.func108.trans (congrArg some (by kernel_rfl))
  f32 := Try.func109.trans (congrArg some (by kernel_rfl))
  f33 := ⟨Try.f110.name, by decide, Try.func110.trans (congrArg some (by kernel_rfl))⟩
  f34 := ⟨Try.f111.name, by decide, Try.func111.trans (congrArg some (by kernel_rfl))⟩
  f35 := ⟨Try.f106.name, by decide, Try.func106.trans (congrArg some (by kernel_rfl))⟩
  f40 := ⟨Try.f115.name, by decide, Try.func115.trans (congrArg some (by kernel_rfl))⟩
  t0 := Try.underlying0
  a0 := Try.isAgg0
  z0 := Try.sizeOf0
  v0 := Try.zeroValue0
  t3 := Try.underlying3
  a3 := Try.isAgg3
  z3 := Try.sizeOf3
  v3 := Try.zeroValue3
  t4 := Try.underlying4
  a4 := Try.isAgg4
  z4 := Try.sizeOf4
  v4 := Try.zeroValue4
  t5 := Try.underlying5
  a5 := Try.isAgg5
  z5 := Try.sizeOf5
  v5 := Try.zeroValue5
  t9 := Try.underlying9
  a9 := Try.isAgg9
  z9 := Try.sizeOf9
  v9 := Try.zeroValue9
  t22 := Try.underlying28
  a22 := Try.isAgg28
  z22 := Try.sizeOf28
  v22 := Try.zeroValue28
  t23 := Try.underlying28
  a23 := Try.isAgg28
  z23 := Try.sizeOf28
  v23 := Try.zeroValue28
  t25 := Try.underlying3
  a25 := Try.isAgg3
  z25 := Try.sizeOf3
  v25 := Try.zeroValue3
  t32 := Try.underlying102
  a32 := Try.isAgg102
  z32 := Try.sizeOf102
  v32 := Try.zeroValue102
  t35 := Try.underlying109
  a35 := Try.isAgg109
  z35 := Try.sizeOf109
  v35 := Try.zeroValue109
  t36 := Try.underlying110
  a36 := Try.isAgg110
  z36 := Try.sizeOf110
  v36 := Try.zeroValue110
  t41 := Try.underlying88
  a41 := Try.isAgg88
  z41 := Try.sizeOf88
  v41 := Try.zeroValue88
  t44 := Try.underlying116
  a44 := Try.isAgg116
  z44 := Try.sizeOf116
  v44 := Try.zeroValue116
  t46 := Try.underlying118
  a46 := Try.isAgg118
  z46 := Try.sizeOf118
  v46 := Try.zeroValue118
  t53 := Try.underlying124
  a53 := Try.isAgg124
  z53 := Try.sizeOf124
  v53 := Try.zeroValue124
  t57 := Try.underlying128
  a57 := Try.isAgg128
  z57 := Try.sizeOf128
  v57 := Try.zeroValue128
  t63 := Try.underlying132
  a63 := Try.isAgg132
  z63 := Try.sizeOf132
  v63 := Try.zeroValue132
  t64 := Try.underlying59
  a64 := Try.isAgg59
  z64 := Try.sizeOf59
  v64 := Try.zeroValue59 }
end Go.Proofs
end
section
namespace Go.Proofs
open Go.Shelf Go.RowKit Go.Lib Go.Sort Go.Abs
abbrev EdgeOk := {x : api_Edge // okE x = true}
instance : Inhabited EdgeOk := ⟨⟨⟨0, 0, 0⟩, rfl⟩⟩
def cfE (x y : EdgeOk) : Int := if x.1.From = y.1.From then x.1.Event - y.1.Event else x.1.From - y.1.From
theorem ltOf_cfE (x y : EdgeOk) : ltOf cfE x y = ltE x.1 y.1 := by
  unfold ltOf cfE ltE
  apply decide_eq_decide.2
  split <;> omega
theorem swoE : SWO (ltOf cfE) := {
  irrefl x := by rw [ltOf_cfE]; simp [ltE]
  trans x y z h1 h2 := by rw [ltOf_cfE] at *; simp only [ltE, decide_eq_true_eq] at *; omega
  ntrans x y z h1 h2 := by rw [ltOf_cfE] at *; simp only [ltE, decide_eq_false_iff_not] at *; omega }
set_option maxHeartbeats 1000000 in
theorem Try.edges77 (x y : EdgeOk) (W : World) : Calls Try.prog 77 #[.agg ((e_api_Edge x.1).map D.val).toArray, .agg ((e_api_Edge y.1).map D.val).toArray] W fun e w' => e = .returned (.int .i64 (cfE x y)) ∧ ∃ q os', w' = grow (W.drewN q) os' := by
  obtain ⟨⟨a, b, c⟩, hx0⟩ := x
  obtain ⟨⟨a', b', c'⟩, hy0⟩ := y
  have hx := hx0
  have hy := hy0
  simp only [okE, decide_eq_true_eq] at hx hy
  have w1 : IntKind.i64.wrap (a - a') = a - a' := by simp [IntKind.wrap, IntKind.bits, IntKind.signed]; omega
  have w2 : IntKind.i64.wrap (b - b') = b - b' := by simp [IntKind.wrap, IntKind.bits, IntKind.signed]; omega
  have hr : cfE ⟨⟨a, b, c⟩, hx0⟩ ⟨⟨a', b', c'⟩, hy0⟩ = if a = a' then b - b' else a - a' := rfl
  generalize cfE ⟨⟨a, b, c⟩, hx0⟩ ⟨⟨a', b', c'⟩, hy0⟩ = r at hr ⊢
  simp only [e_api_Edge, List.map_cons, List.map_nil, D.val]
  go_enter Try.func77, Try.ntmps77
  go_wp2
  · rename_i h
    have h : a ≠ a' := by simpa using h
    go_ret
    exact ⟨by rw [hr, if_neg h]; rfl, 0, _, by rw [alloc_eq_grow, alloc_eq_grow, grow_grow]; rfl⟩
  · rename_i h
    have h : a = a' := by simpa using h
    go_ret
    exact ⟨by rw [hr, if_pos h]; rfl, 0, _, by rw [alloc_eq_grow, alloc_eq_grow, grow_grow]; rfl⟩
set_option maxHeartbeats 1000000 in
theorem Try.row76 : RowFn Try.prog 76 (fun x : EdgeOk => e_api_Edge x.1) #[.func (.func 77) #[] #[]] (fun xs => (pdq (ltOf cfE) xs.toArray 0 xs.length (Lib.bitLen xs.length) true true).toList) :=
  rowFn_sortFunc Try.sortE Try.isAgg43 Try.sizeOf43 (fun x : EdgeOk => e_api_Edge x.1) (fun _ => rfl) (by decide) (fun _ => rfl) cfE swoE 77 #[] (enters_of Try.func77 (by kernel_rfl) rfl) (fun x y W => Try.edges77 x y W)
set_option maxHeartbeats 1000000 in
theorem Try.row55 : RowFn Try.prog 55 (fun x : EdgeOk => e_api_Edge x.1) #[] (fun xs => (pdq (ltOf cfE) xs.toArray 0 xs.length (Lib.bitLen xs.length) true true).toList) := by
  refine RowFn.from_caller Try.row76 fun p n cap w _ _ F hcon => ?_
  go_enter Try.func55, Try.ntmps55
  go_wp2_with (go_at_call 76; refine hcon.mono ?_; rintro e w' ⟨rfl, n, os, rfl⟩)
  go_end0
  exact ⟨rfl, n, os, rfl⟩
set_option maxHeartbeats 1000000 in
theorem Try.none55 (p : Option Addr) (cap : Nat) (w : World) : Calls Try.prog 55 (#[.slice p 0 cap] ++ #[]) w fun e' w' => e' = .returned (.tuple #[]) ∧ w' = w := by
  have hcon := fun w => AnyF.slices_SortFunc_none Try.sortE p cap (.func (.func 77) #[] #[]) w
  change ∀ w, Calls Try.prog 76 _ _ _ at hcon
  go_enter Try.func55, Try.ntmps55
  go_wp2_with (go_at_call 76; refine (hcon _).mono ?_; rintro e w' ⟨rfl, rfl⟩)
  go_end0
  exact ⟨rfl, rfl⟩
theorem Try.rowK55 : Go.Abs.RowK Try.prog 55 e_api_Edge 3 [] edgesO :=
  rowK_sort (e := e_api_Edge) (sz := 3) (N := 65536) (by decide) (fun _ => rfl) (fun _ => rfl) swoE ltOf_cfE (by kernel_rfl) (ex := #[]) (exV := []) (fun _ _ us h => h) Try.row55 Try.none55
end Go.Proofs
end
section
namespace Go.Proofs
open Go.RowKit Go.Maps Go.Sort Go.Shelf
attribute [local go_sem] Oper.semAt_some
def Try.upto {α : Type} (f : Nat → α) (k : Nat) : List α := (List.range k).map f
theorem Try.upto_succ {α : Type} (f : Nat → α) (k : Nat) : Try.upto f (k + 1) = Try.upto f k ++ [f k] := by simp [Try.upto, List.range_succ]
theorem Try.upto_length {α : Type} (f : Nat → α) (k : Nat) : (Try.upto f k).length = k := by simp [Try.upto]
theorem Try.upto_all (zs : List Int) : Try.upto (fun j => zs[j]?.getD 0) zs.length = zs := by
  apply List.ext_getElem
  · simp [Try.upto]
  · intro i h1 h2
    simp [Try.upto, h2]
theorem Try.upto_take (zs : List Int) {k : Nat} (hk : k ≤ zs.length) : Try.upto (fun j => zs[j]?.getD 0) k = zs.take k := by
  apply List.ext_getElem
  · simp [Try.upto, hk]
  · intro i h1 h2
    have : i < zs.length := by simp [Try.upto] at h1; omega
    simp [Try.upto, this]
set_option maxRecDepth 100000 in
set_option maxHeartbeats 2000000 in
theorem Try.values1_in (F : Fence) (n : Nat) (h7 : F.fn 75) (hro : F.round = none) (hn : 1 ≤ n) (l Bs n₀ b off len cap : Nat) (zs : List Int) (hreach : len * 8 ≤ 140737488351232) (hb : b < n₀) (J Jx : List Int → World → Prop)
    (hY : ∀ pre x W, J pre W → pre.length < len → YieldAt F (n - 1) Try.prog l #[.int .i64 x] W fun e W' =>
      (e = .returned (.bool true) ∧ J (pre ++ [x]) W' ∧ Below n₀ W W') ∨ (e = .returned (.bool false) ∧ Jx (pre ++ [x]) W'))
    (W : World) (hBs : W.cell? ⟨Bs, 0, none⟩ = some (.slice (some ⟨b, off, none⟩) len cap)) (hc : ∀ j, j < len → W.cell? ⟨b, off + j, none⟩ = some (.int .i64 (zs[j]?.getD 0))) (h0 : J [] W) :
    CallsIn F n Try.prog 75 #[.func (.yield l) #[] #[], .pointer (some ⟨Bs, 0, none⟩)] W fun e W' => (∃ v, e = .returned v) ∧
      ((∃ ys, ys = Try.upto (fun j => zs[j]?.getD 0) len ∧ J ys W') ∨ (∃ pre, (∃ k, k ≤ len ∧ pre = Try.upto (fun j => zs[j]?.getD 0) k) ∧ Jx pre W')) := by
  refine callsIn_of_wp Try.func75 rfl h7 ?_ hro
  simp only [Try.ntmps75, List.size_toArray, List.length_cons, List.length_nil, Nat.reduceAdd, Nat.reduceSub, Array.replicate_succ, Array.replicate_zero, List.push_toArray, List.append_toArray, List.nil_append, List.cons_append]
  gi_wp2
  gi_loopw [7] (fun i wr => ∃ k : Nat, k ≤ len ∧ i = .int .i64 k ∧ J (Try.upto (fun j => zs[j]?.getD 0) k) wr ∧ Below n₀ W wr)
    (fun i _ => len - (intOf i).toNat)
  case atStart => exact ⟨0, Nat.zero_le _, rfl, h0, Below.refl _ _⟩
  case round =>
    obtain ⟨k, hk, rfl, hJs, hnx⟩ := hrel
    have hcx : k < len → wr.cell? ⟨b, off + k, none⟩ = some (.int .i64 (zs[k]?.getD 0)) := fun h => (hnx.cell (p := ⟨b, off + k, none⟩) hb).trans (hc k h)
    by_cases hlt : k < len
    · obtain ⟨fn, tmps, assign, body, hy, hR⟩ := hY _ (zs[k]?.getD 0) wr hJs (by rw [Try.upto_length]; exact hlt)
      have hcx' := hcx hlt
      gi_wp2
      refine hR.mono ?_
      rintro e W3 (⟨rfl, hJ3, hk3⟩ | ⟨rfl, hJx3⟩)
      · gi_wp2
        go_roundw
        case rel => exact ⟨k + 1, by omega, by simp, by rw [Try.upto_succ]; exact hJ3, hnx.trans hk3⟩
        case measure => simp [intOf]; omega
      · gi_wp2
        refine bodyPost_ret (results_none rfl _ _ _) rfl ?_
        exact ⟨⟨_, rfl⟩, .inr ⟨_, ⟨k + 1, by omega, (Try.upto_succ _ _).symm⟩, hJx3⟩⟩
    · obtain rfl : k = len := by omega
      gi_wp2
      go_end0
      exact ⟨⟨_, rfl⟩, .inl ⟨_, rfl, hJs⟩⟩
set_option maxRecDepth 100000 in
set_option maxHeartbeats 1000000 in
theorem Try.values1_nil_in (F : Fence) (n : Nat) (h7 : F.fn 75) (hro : F.round = none) (l Bs : Nat) (a : Option Addr) (cap : Nat) (J : List Int → World → Prop) (W : World) (hBs : W.cell? ⟨Bs, 0, none⟩ = some (.slice a 0 cap)) (h0 : J [] W) :
    CallsIn F n Try.prog 75 #[.func (.yield l) #[] #[], .pointer (some ⟨Bs, 0, none⟩)] W fun e W' => (∃ v, e = .returned v) ∧ J [] W' := by
  refine callsIn_of_wp Try.func75 rfl h7 ?_ hro
  simp only [Try.ntmps75, List.size_toArray, List.length_cons, List.length_nil, Nat.reduceAdd, Nat.reduceSub, Array.replicate_succ, Array.replicate_zero, List.push_toArray, List.append_toArray, List.nil_append, List.cons_append]
  gi_wp2
  gi_loopw [7] (fun i wr => i = .int .i64 0 ∧ J [] wr) (fun _ _ => 0)
  case atStart => exact ⟨rfl, h0⟩
  case round =>
    obtain ⟨rfl, hJs⟩ := hrel
    gi_wp2
    go_end0
    exact ⟨⟨_, rfl⟩, hJs⟩
theorem Try.values_stops (F : Fence) (n : Nat) (h7 : F.fn 75) (hro : F.round = none) (hn : 1 ≤ n) (Bs n₀ : Nat) (sv : Value) (zs : List Int) (hreach : zs.length * 8 ≤ 140737488351232) (w : World) (hBs : Bs < w.heap.size) (hn₀ : n₀ ≤ w.heap.size)
    (hc : w.cell? ⟨Bs, 0, none⟩ = some sv) (hI : Go.Abs.Ints n₀ w sv zs) :
    SeqStopsK F n Try.prog 75 #[.pointer (some ⟨Bs, 0, none⟩)] (fun x : Int => #[Value.int .i64 x]) (Below n₀) (fun ys => ys = zs) (fun pre => pre <+: zs) zs.length w := fun l J Jx W hW _ _ hY h0 => by
  have hc' := (hW.cell (p := ⟨Bs, 0, none⟩) hBs).trans hc
  rcases hI.below (hW.mono hn₀) with ⟨a, cap, rfl, rfl⟩ | ⟨b, off, cap, rfl, hb, hcs⟩
  · exact (Try.values1_nil_in F n h7 hro l Bs a cap J W hc' h0).mono fun e W' ⟨he, hj⟩ => ⟨he, .inl ⟨_, rfl, hj⟩⟩
  · refine (Try.values1_in F n h7 hro hn l Bs n₀ b off zs.length cap zs hreach hb J Jx hY W hc' hcs h0).mono ?_
    rintro e W' ⟨he, ⟨ys, rfl, hj⟩ | ⟨pre, ⟨k, hk, rfl⟩, hj⟩⟩
    · exact ⟨he, .inl ⟨_, Try.upto_all zs, hj⟩⟩
    · exact ⟨he, .inr ⟨_, by rw [Try.upto_take zs hk]; exact List.take_prefix _ _, hj⟩⟩
theorem Try.info3 : (Try.prog.info? 3).map (fun i => (i.zero, i.size, i.bytes)) = some (some (.int .i64 0), 1, 8) := by kernel_rfl
set_option maxRecDepth 100000 in
set_option maxHeartbeats 2000000 in
theorem Try.appendSeq_in (F : Fence) (n : Nat) (h82 : F.fn 82) (h75 : F.fn 75) (hro : F.round = none) (hn : 3 ≤ n) (Bs : Nat) (sv : Value) (zs : List Int) (hlen : zs.length * 8 ≤ 140737488351232) (w : World) (hBs : Bs < w.heap.size) (hc0 : w.cell? ⟨Bs, 0, none⟩ = some sv) (hI : Go.Abs.Ints w.heap.size w sv zs) :
    CallsIn F n Try.prog 82 #[.slice none 0 0, .func (.func 75) #[] #[.pointer (some ⟨Bs, 0, none⟩)]] w fun e W' => ∃ v, e = .returned v ∧ W'.ownsRow w.heap.size 3 1 v zs.length (zs.map (Value.int .i64)) ∧ (v = .slice none 0 0 ↔ zs = []) ∧ Below w.heap.size w W' := by
  have h1 : 1 ≤ n := by omega
  obtain ⟨i0, hi, hz0, hz1, hz2⟩ := info_parts Try.info3
  refine callsIn_of_wp_marks Try.func82 rfl h82 ?_ hro
  simp only [Try.ntmps82, List.size_toArray, List.length_cons, List.length_nil, Nat.reduceAdd, Nat.reduceSub, Array.replicate_succ, Array.replicate_zero, List.push_toArray, List.append_toArray, List.nil_append, List.cons_append]
  gi_wp2
  have bO := Boxed.new w 28 (.slice none 0 0)
  have hB0 : Below w.heap.size w (w.alloc (.cells #[.slice none 0 0] 28)) := (Below.refl _ w).alloc (Nat.le_refl _) _
  refine wpIn_rangeFunc_ownG hro h1 (gf := 75) (lb := #[.pointer (some ⟨Bs, 0, none⟩)]) rfl h75 (enters_of Try.func75 (by kernel_rfl) rfl)
    (Try.values_stops F (n - 1) h75 hro (by omega) Bs w.heap.size sv zs hlen _ (by simp; omega) (by simp) ((hB0.cell (p := ⟨Bs, 0, none⟩) hBs).trans hc0) (hI.below hB0)) belowK_t (belowK_b (by simp)) (Below.refl _ _) (fun _ => rfl)
    (fun pre W => (∃ v, Boxed W w.heap.size 28 v ∧ W.ownsRow w.heap.size 3 1 v pre.length (pre.map (Value.int .i64)) ∧ (v = .slice none 0 0 ↔ pre = [])) ∧ Below w.heap.size w W)
    (fun _ _ _ => False)
    (OwnFrom.and (Own.from (holdsRow_own w.heap.size w.heap.size 28 3 1 (fun pre => pre.length) (fun pre => pre.map (Value.int .i64)) (fun pre v => v = .slice none 0 0 ↔ pre = [])) _) (ownFrom_below (Nat.le_refl _) (by simp)))
    (fun _ _ _ _ _ hs _ _ => hs)
    ⟨⟨_, bO, World.ownsRow_nil _ _ _ _, by simp⟩, hB0⟩
    (fun x => { tmps := #[.slice none 0 0, .func (.func 75) #[] #[.pointer (some ⟨Bs, 0, none⟩)], .pointer (some ⟨w.heap.size, 0, none⟩), undef, .slice none 0 0, .int .i64 x, .func (.func 75) #[] #[.pointer (some ⟨Bs, 0, none⟩)], .int .i64 x, undef, undef, undef, undef, undef], defers := [] }) ?assign ?body ?done ?stop
  case assign =>
    intro l x W K hK
    gi_wp2
    exact hK
  case body =>
    rintro l pre x W ⟨⟨v, hv, hrow, hnil⟩, hB⟩ hlt
    have hc := hv.cell
    gi_wp2_with (gi_at_builtin; refine wpListIn_append_own _ rfl _ _ 28 rfl w.heap.size 3 i0 (.int .i64 0) 1 8 Try.underlying28 hi hz0 hz1 hz2 rfl (by decide) _ _ _ rfl (hrow.alloc _) ⟨W.heap.size, 0, none⟩ 1 1 [.int .i64 x] rfl rfl (cell_one_new _ _ _) (by simp [Value.oneCell']) (by have : maxLen = 9223372036854775807 := rfl; omega) (by omega) (by have := hB.size; simp; omega) ?_; intro v' w1 hown' hgrow _; obtain ⟨g', cap', rfl⟩ := ownsRow_succ hown'; obtain ⟨hv1, hv2, hr2, hk2, hb2⟩ := hv.appended (by decide) hrow hB.size (Nat.le_refl _) hown' hgrow; have hc1 := hv1.cell; have hf1 := hv1.frozen)
    exact ⟨hk2.from _, hb2, ⟨_, hv2, by simpa using hr2, by simp⟩, hB.trans hb2⟩
  case done =>
    rintro D ys W hD rfl ⟨⟨v, hv, hrow, hnil⟩, hB⟩ hK
    have hc := hv.cell
    gi_wp2
    refine ⟨by simp, .inl ⟨_, _, rfl, run_takeDeferred hK, ?_⟩⟩
    exact ⟨_, results_tmp rfl _ _ _, v, rfl, ownsRow_putObj hrow _ hK rfl, hnil, hB.trans (belowK_b (w := w) (Nat.le_refl _) W D _ _ (by simp at hD; omega) hK rfl rfl)⟩
  case stop =>
    rintro D c pre W _ _ h _
    exact h.elim
set_option maxHeartbeats 1000000 in
theorem Try.collect_in (F : Fence) (n : Nat) (h73 : F.fn 73) (h82 : F.fn 82) (h75 : F.fn 75) (hro : F.round = none) (hn : 4 ≤ n) (Bs : Nat) (sv : Value) (zs : List Int) (hlen : zs.length * 8 ≤ 140737488351232) (w : World) (hBs : Bs < w.heap.size) (hc0 : w.cell? ⟨Bs, 0, none⟩ = some sv) (hI : Go.Abs.Ints w.heap.size w sv zs) :
    CallsIn F n Try.prog 73 #[.func (.func 75) #[] #[.pointer (some ⟨Bs, 0, none⟩)]] w fun e W' => ∃ v, e = .returned v ∧ W'.ownsRow w.heap.size 3 1 v zs.length (zs.map (Value.int .i64)) ∧ (v = .slice none 0 0 ↔ zs = []) ∧ Below w.heap.size w W' := by
  have h1 : 1 ≤ n := by omega
  refine callsIn_of_wp Try.func73 rfl h73 ?_ hro
  simp only [Try.ntmps73, List.size_toArray, List.length_cons, List.length_nil, Nat.reduceAdd, Nat.reduceSub, Array.replicate_succ, Array.replicate_zero, List.push_toArray, List.append_toArray, List.nil_append, List.cons_append]
  gi_wp2_with (gi_at_call 82; refine (Try.appendSeq_in F (n - 1) h82 h75 hro (by omega) Bs sv zs hlen _ hBs hc0 hI).mono ?_; rintro e w' ⟨v, rfl, hrow, hnil, hb⟩)
  go_ret
  exact ⟨v, rfl, hrow, hnil, hb⟩
set_option maxRecDepth 100000 in
set_option maxHeartbeats 2000000 in
theorem Try.sorted_in (F : Fence) (n : Nat) (h52 : F.fn 52) (h73 : F.fn 73) (h82 : F.fn 82) (h75 : F.fn 75) (h74 : F.fn 74) (hro : F.round = none) (hn : 5 ≤ n)
    (hs1 : ∀ (blk off cap : Nat) (ss : List Int) (W : World), Holds encZ W blk off ss.toArray → blk < W.heap.size → ss.length < 4611686018427387904 →
      CallsIn F (n - 1) Try.prog 74 #[.slice (some ⟨blk, off, none⟩) ss.length cap] W fun e w' => e = .returned (.tuple #[]) ∧ ∃ k os, w' = grow (putRow encZ (Sort.ahead W k) blk off (ss.mergeSort fun x y => decide (x ≤ y)).toArray) os)
    (hs2 : ∀ (p : Option Addr) (cap : Nat) (W : World), CallsIn F (n - 1) Try.prog 74 #[.slice p 0 cap] W fun e w' => e = .returned (.tuple #[]) ∧ w' = W)
    (Bs : Nat) (sv : Value) (zs : List Int) (hlen : zs.length * 8 ≤ 140737488351232) (w : World) (hBs : Bs < w.heap.size) (hc0 : w.cell? ⟨Bs, 0, none⟩ = some sv) (hI : Go.Abs.Ints w.heap.size w sv zs) :
    CallsIn F n Try.prog 52 #[.func (.func 75) #[] #[.pointer (some ⟨Bs, 0, none⟩)]] w fun e W' => ∃ v, e = .returned v ∧ W'.ownsRow w.heap.size 3 1 v zs.length ((zs.mergeSort fun x y => decide (x ≤ y)).map encZ) ∧ Below w.heap.size w W' := by
  have h1 : 1 ≤ n := by omega
  refine callsIn_of_wp Try.func52 rfl h52 ?_ hro
  simp only [Try.ntmps52, List.size_toArray, List.length_cons, List.length_nil, Nat.reduceAdd, Nat.reduceSub, Array.replicate_succ, Array.replicate_zero, List.push_toArray, List.append_toArray, List.nil_append, List.cons_append]
  gi_wp2_with (gi_at_call 73; refine (Try.collect_in F (n - 1) h73 h82 h75 hro (by omega) Bs sv zs hlen _ hBs hc0 hI).mono ?_; rintro e W ⟨v, rfl, hrow, hnil, hb⟩)
  rcases hrow.2 with ⟨rfl, hz⟩ | ⟨gb, cap, cur, rfl, hbase, hgb, r1, r2, r3, r4⟩
  · have hss : zs = [] := List.eq_nil_of_length_eq_zero hz
    subst hss
    gi_wp2_with (gi_at_call 74; refine (hs2 none 0 W).mono ?_; rintro e w' ⟨rfl, rfl⟩)
    go_ret
    exact ⟨_, rfl, by simpa using hrow, hb⟩
  · have hH : Holds encZ W gb 0 zs.toArray := holds_of_block_i hgb (by simpa using r4)
    have hgl : gb < W.heap.size := (Array.getElem?_eq_some_iff.1 hgb).1
    have cS := hs1 gb 0 cap zs W hH hgl (by omega)
    gi_wp2_with (gi_at_call 74; refine cS.mono ?_; rintro e w' ⟨rfl, nn, os, rfl⟩)
    go_ret
    exact ⟨_, rfl, ownsRow_sorted_i (by simp) hbase hgb r1 r2 r3, hb.grown (grownBy_sorted_i _) hb.size (fun j hj => by cases hj; exact hbase)⟩
theorem Try.sorted52 (Bs : Nat) (sv : Value) (zs : List Int) (hlen : zs.length * 8 ≤ 140737488351232) (w : World) (hBs : Bs < w.heap.size) (hc0 : w.cell? ⟨Bs, 0, none⟩ = some sv) (hI : Go.Abs.Ints w.heap.size w sv zs) :
    Calls Try.prog 52 #[.func (.func 75) #[] #[.pointer (some ⟨Bs, 0, none⟩)]] w fun e W' => ∃ v, e = .returned v ∧ W'.ownsRow w.heap.size 3 1 v zs.length ((zs.mergeSort fun x y => decide (x ≤ y)).map encZ) ∧ Below w.heap.size w W' :=
  (callsIn_wide (n := 5)).1 (Try.sorted_in Fence.wide 5 trivial trivial trivial trivial trivial rfl (by omega) (fun blk off cap ss W hH hblk hsz => callsIn_wide.2 (AnyM.slices_Sort_int Try.sortI blk off cap ss W hH hblk hsz)) (fun p cap W => callsIn_wide.2 (AnyM.slices_Sort_int_none Try.sortI p cap W)) Bs sv zs hlen w hBs hc0 hI)
end Go.Proofs
end
section
namespace Go.Proofs
open Go.Abs
theorem Try.valuesK : ValsK Try.prog 53 75 1 4 := valsK_of (by kernel_rfl)
theorem Try.overK : OverK Try.prog 52 75 (eI .i64) 1 intsO :=
  overK_of (by kernel_rfl) fun Bs sv zs w h1 h2 h3 h4 => Try.sorted52 Bs sv zs h1 w h2 h3 h4
end Go.Proofs
end
section
namespace Go.Proofs
open Go Go.Abs
set_option linter.unusedVariables false
set_option maxRecDepth 10000
set_option maxHeartbeats 4000000
theorem ok_overseerlaw03_example : K_overseerlaw03_example Try.prog 46 g_overseerlaw03_example := overseerlaw03_example_walk C_overseerlaw03_example
theorem ok_automaton_checkSet : K_automaton_checkSet Try.prog 68 g_automaton_checkSet := automaton_checkSet_walk C_automaton_checkSet fuel0
theorem ok_slices_Index_int : K_slices_Index_int Try.prog 54 g_slices_Index_int := slices_Index_int_walk C_slices_Index_int fuel0
theorem ok_slices_Contains_int : K_slices_Contains_int Try.prog 50 g_slices_Contains_int := slices_Contains_int_walk ok_slices_Index_int C_slices_Contains_int
theorem ok_automaton_checkEdges : K_automaton_checkEdges Try.prog 69 g_automaton_checkEdges := automaton_checkEdges_walk ok_slices_Contains_int C_automaton_checkEdges fuel0
theorem ok_automaton_Check : K_automaton_Check Try.prog 45 g_automaton_Check := automaton_Check_walk ok_automaton_checkSet ok_automaton_checkEdges C_automaton_Check
theorem ok_slices_Clone_int : K_slices_Clone_int Try.prog 49 g_slices_Clone_int := slices_Clone_int_walk C_slices_Clone_int
theorem ok_cmp_isNaN_int : K_cmp_isNaN_int Try.prog 106 g_cmp_isNaN_int := cmp_isNaN_int_walk C_cmp_isNaN_int
theorem ok_cmp_Less_int : K_cmp_Less_int Try.prog 86 g_cmp_Less_int := cmp_Less_int_walk ok_cmp_isNaN_int C_cmp_Less_int
theorem ok_slices_isNaN_int : K_slices_isNaN_int Try.prog 87 g_slices_isNaN_int := slices_isNaN_int_walk C_slices_isNaN_int
theorem ok_slices_BinarySearch_int : K_slices_BinarySearch_int Try.prog 78 g_slices_BinarySearch_int := slices_BinarySearch_int_walk ok_cmp_Less_int ok_slices_isNaN_int C_slices_BinarySearch_int fuel0
theorem ok_slices_BinarySearchFunc_int : K_slices_BinarySearchFunc_int Try.prog 70 g_slices_BinarySearchFunc_int := slices_BinarySearchFunc_int_walk C_slices_BinarySearchFunc_int fuel0
theorem ok_automaton_out_1 : K_automaton_out_1 Try.prog 71 g_automaton_out_1 := automaton_out_1_walk C_automaton_out_1
theorem ok_automaton_out_2 : K_automaton_out_2 Try.prog 72 g_automaton_out_2 := automaton_out_2_walk C_automaton_out_2
theorem ok_automaton_out : K_automaton_out Try.prog 48 g_automaton_out := automaton_out_walk ok_slices_BinarySearchFunc_int ok_automaton_out_1 ok_automaton_out_2 C_automaton_out
theorem ok_automaton_canonical : K_automaton_canonical Try.prog 56 g_automaton_canonical := automaton_canonical_walk ok_automaton_out ok_slices_Clone_int ok_slices_BinarySearch_int C_automaton_canonical fuel0
theorem ok_automaton_Canonical : K_automaton_Canonical Try.prog 29 g_automaton_Canonical := automaton_Canonical_walk ok_automaton_Check ok_automaton_canonical C_automaton_Canonical
theorem ok_automaton_checkState : K_automaton_checkState Try.prog 63 g_automaton_checkState := automaton_checkState_walk ok_automaton_Check C_automaton_checkState
theorem ok_automaton_Run_1 : K_automaton_Run_1 Try.prog 65 g_automaton_Run_1 := automaton_Run_1_walk ok_slices_Contains_int C_automaton_Run_1
theorem ok_slices_IndexFunc_int : K_slices_IndexFunc_int Try.prog 79 g_slices_IndexFunc_int := slices_IndexFunc_int_walk C_slices_IndexFunc_int fuel0
theorem ok_slices_ContainsFunc_int : K_slices_ContainsFunc_int Try.prog 64 g_slices_ContainsFunc_int := slices_ContainsFunc_int_walk ok_slices_IndexFunc_int C_slices_ContainsFunc_int
theorem ok_automaton_next_1 : K_automaton_next_1 Try.prog 81 g_automaton_next_1 := automaton_next_1_walk C_automaton_next_1
theorem ok_slices_IndexFunc_Edge : K_slices_IndexFunc_Edge Try.prog 80 g_slices_IndexFunc_Edge := slices_IndexFunc_Edge_walk C_slices_IndexFunc_Edge fuel0
theorem ok_automaton_next : K_automaton_next Try.prog 67 g_automaton_next := automaton_next_walk ok_automaton_out ok_slices_IndexFunc_Edge ok_automaton_next_1 C_automaton_next
theorem ok_automaton_follow : K_automaton_follow Try.prog 66 g_automaton_follow := automaton_follow_walk ok_automaton_next C_automaton_follow fuel0
theorem ok_automaton_Run : K_automaton_Run Try.prog 34 g_automaton_Run := automaton_Run_walk ok_automaton_checkState ok_slices_ContainsFunc_int ok_automaton_Run_1 ok_automaton_follow C_automaton_Run
theorem ok_automaton_Words : K_automaton_Words Try.prog 16 g_automaton_Words := automaton_Words_walk ok_automaton_Check ok_automaton_out ok_slices_Clone_int ok_slices_Contains_int C_automaton_Words fuel0
theorem ok_automaton_Relabel : K_automaton_Relabel Try.prog 20 g_automaton_Relabel := automaton_Relabel_walk ok_automaton_Check ok_slices_Contains_int Try.overK Try.valuesK ok_slices_Index_int Try.rowK55 ok_automaton_canonical C_automaton_Relabel fuel0
theorem ok_overseerref03_SameInts : K_overseerref03_SameInts Try.prog 38 g_overseerref03_SameInts := overseerref03_SameInts_walk C_overseerref03_SameInts fuel0
theorem ok_overseerref03_Same : K_overseerref03_Same Try.prog 23 g_overseerref03_Same := overseerref03_Same_walk ok_overseerref03_SameInts C_overseerref03_Same fuel0
theorem ok_overseerlaw03_known : K_overseerlaw03_known Try.prog 13 g_overseerlaw03_known := overseerlaw03_known_walk ok_automaton_Words ok_automaton_Relabel ok_overseerref03_Same ok_automaton_Canonical ok_automaton_Run ok_overseerref03_SameInts ok_overseerlaw03_example C_overseerlaw03_known
theorem ok_overseerlaw03_Set_Events : K_overseerlaw03_Set_Events Try.prog 15 g_overseerlaw03_Set_Events := overseerlaw03_Set_Events_walk C_overseerlaw03_Set_Events fuel0
theorem ok_overseerref03_Empty : K_overseerref03_Empty Try.prog 47 g_overseerref03_Empty := overseerref03_Empty_walk C_overseerref03_Empty
theorem ok_overseerref03_Step : K_overseerref03_Step Try.prog 40 g_overseerref03_Step := overseerref03_Step_walk C_overseerref03_Step fuel0
theorem ok_overseerref03_has : K_overseerref03_has Try.prog 51 g_overseerref03_has := overseerref03_has_walk C_overseerref03_has fuel0
theorem ok_overseerref03_Found : K_overseerref03_Found Try.prog 61 g_overseerref03_Found := overseerref03_Found_walk ok_overseerref03_Step ok_overseerref03_has C_overseerref03_Found fuel0
theorem ok_overseerref03_index : K_overseerref03_index Try.prog 57 g_overseerref03_index := overseerref03_index_walk C_overseerref03_index fuel0
theorem ok_overseerref03_Canonical : K_overseerref03_Canonical Try.prog 28 g_overseerref03_Canonical := overseerref03_Canonical_walk ok_overseerref03_Step ok_overseerref03_Empty ok_overseerref03_has ok_overseerref03_index ok_overseerref03_Found C_overseerref03_Canonical fuel0
theorem ok_overseerlaw03_Make : K_overseerlaw03_Make Try.prog 14 g_overseerlaw03_Make := overseerlaw03_Make_walk ok_overseerref03_Canonical ok_overseerref03_Empty C_overseerlaw03_Make fuel0
theorem ok_automaton_Complete : K_automaton_Complete Try.prog 41 g_automaton_Complete := automaton_Complete_walk ok_automaton_Check ok_automaton_canonical ok_automaton_next C_automaton_Complete fuel0
theorem ok_automaton_Closed : K_automaton_Closed Try.prog 42 g_automaton_Closed := automaton_Closed_walk ok_automaton_Check ok_automaton_canonical C_automaton_Closed fuel0
theorem ok_overseerref03_Complete : K_overseerref03_Complete Try.prog 43 g_overseerref03_Complete := overseerref03_Complete_walk ok_overseerref03_Canonical ok_overseerref03_Step C_overseerref03_Complete fuel0
theorem ok_overseerref03_Closed : K_overseerref03_Closed Try.prog 44 g_overseerref03_Closed := overseerref03_Closed_walk ok_overseerref03_Canonical C_overseerref03_Closed fuel0
theorem ok_automaton_reached : K_automaton_reached Try.prog 62 g_automaton_reached := automaton_reached_walk ok_automaton_follow C_automaton_reached
theorem ok_automaton_Generates : K_automaton_Generates Try.prog 31 g_automaton_Generates := automaton_Generates_walk ok_automaton_Check ok_automaton_reached C_automaton_Generates
theorem ok_automaton_Accepts : K_automaton_Accepts Try.prog 32 g_automaton_Accepts := automaton_Accepts_walk ok_automaton_Check ok_slices_Contains_int ok_automaton_reached C_automaton_Accepts
theorem ok_overseerlaw03_AutomatonCompletes : K_overseerlaw03_AutomatonCompletes Try.prog 11 g_overseerlaw03_AutomatonCompletes := overseerlaw03_AutomatonCompletes_walk ok_overseerlaw03_known ok_overseerlaw03_Make ok_overseerlaw03_Set_Events ok_overseerref03_Same ok_automaton_Generates ok_automaton_Accepts ok_automaton_Complete ok_automaton_Closed ok_overseerref03_Complete ok_overseerref03_Closed C_overseerlaw03_AutomatonCompletes fuel0
theorem ok_slices_Equal_int : K_slices_Equal_int Try.prog 58 g_slices_Equal_int := slices_Equal_int_walk C_slices_Equal_int fuel0
theorem ok_slices_Equal_Edge : K_slices_Equal_Edge Try.prog 59 g_slices_Equal_Edge := slices_Equal_Edge_walk C_slices_Equal_Edge fuel0
end Go.Proofs
end
section
namespace Go.Abs
open Go Go.ChangeShapes Go.WideShapes Go.ChangeAt Go.RowKit
set_option linter.unusedVariables false
set_option linter.unusedSimpArgs false
def live (w : World) : Nat → Nat → Prop := fun b o => (w.cell? ⟨b, o, none⟩).isSome = true
def RDs (w : World) : List D → List Value → Prop
  | [], vs => vs = []
  | x :: xs, vs => ∃ u us, vs = u :: us ∧ RD (live w) w x u ∧ RDs w xs us
theorem RDs_append {w : World} : ∀ {xs ys : List D} {us vs : List Value}, RDs w xs us → RDs w ys vs → RDs w (xs ++ ys) (us ++ vs)
  | [], ys, us, vs, h, k => by simp only [RDs] at h; subst h; simpa using k
  | x :: xs, ys, us, vs, ⟨u, us', e, r, h⟩, k => by subst e; exact ⟨u, us' ++ vs, by simp, r, RDs_append h k⟩
def RDat (w : World) (cs : List Value) (off : Nat) (xs : List D) : Prop := RDs w xs ((cs.drop off).take xs.length)
theorem RDat.app {w : World} {cs : List Value} {off : Nat} {xs ys : List D} (h : RDat w cs off xs) {n : Nat} (hn : n = off + xs.length) (k : RDat w cs n ys) : RDat w cs off (xs ++ ys) := by
  subst hn
  have := RDs_append h k
  unfold RDat
  rw [List.length_append, List.take_add, List.drop_drop]
  exact this
theorem RDat.nil {w : World} {cs : List Value} {off : Nat} : RDat w cs off [] := by simp [RDat, RDs]
theorem RDat.all {w : World} {cs : List Value} {xs : List D} (h : RDat w cs 0 xs) (hl : cs.length = xs.length) : RDs w xs cs := by
  unfold RDat at h
  rw [List.drop_zero, ← hl, List.take_length] at h
  exact h
theorem RDs_RDc {w : World} {b : Nat} : ∀ {xs : List D} {vs : List Value} {o : Nat}, RDs w xs vs → (∀ i v, vs[i]? = some v → w.cell? ⟨b, o + i, none⟩ = some v) → RDc (live w) w b xs o
  | [], vs, o, _, _ => by simp [RDc]
  | x :: xs, vs, o, ⟨u, us, e, r, h⟩, hc => by
    subst e
    have h0 := hc 0 u rfl
    rw [Nat.add_zero] at h0
    refine ⟨by simp [live, h0], ⟨u, h0, r⟩, RDs_RDc h fun i v hv => ?_⟩
    have := hc (i + 1) v (by simpa using hv)
    rw [show o + 1 + i = o + (i + 1) from by omega]; exact this
def Reads {α : Type} (P : Program) (t : TypeId) (e : α → List D) (wf : α → Prop) : Prop :=
  ∀ {H : Type} {enc : TypeId × Value → H} {w : World} {base : Nat} {spare : Nat → Bool} {held : Bool} {fuel : Nat} {cs : List Value} {x : DataW H × List MemPlace},
    DataW.trod enc P w base spare held fuel t cs = some x → ∃ a, wf a ∧ RDs w (e a) cs
def wfI (k : IntKind) (n : Int) : Prop := (Lit.int k n).wf = true
def wfL {α : Type} (wf : α → Prop) (l : List α) : Prop := l.length ≤ maxLen ∧ ∀ a ∈ l, wf a
variable {P : Program} {t : TypeId}
theorem reads_int {k : IntKind} (ht : P.underlying t = some (.int k)) : Reads P t (fun n : Int => [.int k n]) (wfI k) := by
  intro H enc w base spare held fuel cs x h
  obtain ⟨n, rfl, _, hw⟩ := DataW.trod_int ht h
  exact ⟨n, hw, _, _, rfl, by simp [RD], rfl⟩
theorem cells?_get {w : World} {base : Nat} {a : Addr} {n : Nat} {cs : List Value} (h : w.cells? base a n = some cs) : cs.length = n ∧ ∀ i v, cs[i]? = some v → w.cell? (a.add i) = some v := by
  obtain ⟨h1, h2, h3⟩ := World.cells?_some h
  refine ⟨h2, fun i v hv => ?_⟩
  have hi := (List.getElem?_eq_some_iff.1 hv).1
  have := h3 i (by omega)
  rw [this]; simpa using hv
theorem reads_slice {α : Type} {el : TypeId} {e : α → List D} {wf : α → Prop} {sz : Nat} (ht : P.underlying t = some (.slice el)) (he : Reads P el e wf) (hsz : P.cellsOf el = sz) (hpos : 0 < sz) (hlen : ∀ a, (e a).length = sz) :
    Reads P t (fun l : List α => [.lst sz (l.map e)]) (wfL wf) := by
  intro H enc w base spare held fuel cs x h
  rcases DataW.trod_slice ht h with ⟨rfl, _⟩ | ⟨a, len, cap, elems, rest, n, _, rfl, _, hb, hl, hm, helen, hel, _, _⟩
  · exact ⟨[], ⟨by simp, by simp⟩, _, _, rfl, by simp only [RD, List.map_nil, List.length_nil]; exact ⟨none, 0, rfl, Nat.le_refl _, .inl trivial⟩, rfl⟩
  · have key : ∀ m, m ≤ len → ∃ l : List α, l.length = m ∧ (∀ x ∈ l, wf x) ∧ ∀ i y, l[i]? = some y → ∃ vs, w.cells? base (a.add (i * sz)) sz = some vs ∧ RDs w (e y) vs := by
      intro m
      induction m with
      | zero => exact fun _ => ⟨[], rfl, by simp, by simp⟩
      | succ m ih =>
        intro hm'
        obtain ⟨l, h1, h2, h3⟩ := ih (by omega)
        have h4 := hel m (by omega)
        have h5 : elems[m]? = some elems[m] := List.getElem?_eq_getElem (by omega)
        rw [h5, hsz, Option.bind_eq_some_iff] at h4
        obtain ⟨vs, h6, h7⟩ := h4
        obtain ⟨y, h8, h9⟩ := he h7
        refine ⟨l ++ [y], by simp [h1], ?_, fun i z hz => ?_⟩
        · intro x hx
          rcases List.mem_append.1 hx with hx | hx
          · exact h2 x hx
          · simp at hx; subst hx; exact h8
        · by_cases hi : i < m
          · rw [List.getElem?_append_left (by omega)] at hz; exact h3 i z hz
          · have : i = m := by
              have := (List.getElem?_eq_some_iff.1 hz).1
              simp at this; omega
            subst this
            rw [List.getElem?_append_right (by omega), h1] at hz
            simp at hz; subst hz
            exact ⟨vs, h6, h9⟩
    obtain ⟨l, h1, h2, h3⟩ := key len (Nat.le_refl _)
    have hmax : l.length ≤ maxLen := by omega
    refine ⟨l, ⟨hmax, h2⟩, _, _, rfl, ?_, rfl⟩
    simp only [RD, List.length_map, h1]
    refine ⟨some a, cap, rfl, hl, ?_⟩
    cases l with
    | nil => exact .inl rfl
    | cons y l =>
      right
      have hspot : a.spot = none := by
        obtain ⟨vs, h4, h5⟩ := h3 0 y rfl
        obtain ⟨h6, h7⟩ := cells?_get h4
        have hv : vs[0]? = some vs[0] := List.getElem?_eq_getElem (by omega)
        have := h7 0 _ hv
        cases hs : a.spot with
        | none => rfl
        | some s =>
          unfold World.cell? at this
          split at this
          · simp [Addr.add, hs] at this
          · cases this
      obtain ⟨b, o, sp⟩ := a
      simp only at hspot
      subst hspot
      refine ⟨b, o, rfl, ?_⟩
      have row : ∀ (l : List α) (j : Nat), (∀ i y, l[i]? = some y → ∃ vs, w.cells? base ((⟨b, o, none⟩ : Addr).add ((j + i) * sz)) sz = some vs ∧ RDs w (e y) vs) → RDL (live w) w sz b (l.map e) (o + j * sz) := by
        intro l
        induction l with
        | nil => intro j _; simp [RDL]
        | cons y l ih =>
          intro j h
          obtain ⟨vs, h4, h5⟩ := h 0 y rfl
          obtain ⟨h6, h7⟩ := cells?_get h4
          refine ⟨hlen y, RDs_RDc h5 fun i v hv => ?_, ?_⟩
          · have := h7 i v hv
            rw [addr_add, addr_add] at this
            simpa [Nat.add_assoc] using this
          · have := ih (j + 1) fun i y hy => by
              have := h (i + 1) y (by simpa using hy)
              rw [show j + 1 + i = j + (i + 1) from by omega]; exact this
            rw [show o + j * sz + sz = o + (j + 1) * sz from by rw [Nat.add_mul]; omega]
            exact this
      have := row (y :: l) 0 fun i y hy => by simpa using h3 i y hy
      simpa using this
theorem reads_at {α : Type} {el : TypeId} {e : α → List D} {wf : α → Prop} {sz : Nat} (he : Reads P el e wf) (hsz : P.cellsOf el = sz) (hlen : ∀ a, (e a).length = sz)
    {H : Type} {enc : TypeId × Value → H} {w : World} {base : Nat} {spare : Nat → Bool} {held : Bool} {fuel off : Nat} {cs : List Value} {x : DataW H × List MemPlace}
    (h : DataW.trod enc P w base spare held fuel el ((cs.drop off).take (P.cellsOf el)) = some x) : ∃ a, wf a ∧ RDat w cs off (e a) := by
  obtain ⟨a, h1, h2⟩ := he h
  refine ⟨a, h1, ?_⟩
  unfold RDat
  rw [hlen, ← hsz]; exact h2
theorem struct_at {H : Type} {enc : TypeId × Value → H} {w : World} {base : Nat} {spare : Nat → Bool} {held : Bool} {fuel : Nat} {cs : List Value} {x : DataW H × List MemPlace} {fs : Array Field}
    (ht : P.underlying t = some (.struct fs)) (h : DataW.trod enc P w base spare held fuel t cs = some x) :
    cs.length = P.cellsOf t ∧ ∃ n, ∀ (i : Nat) (f : Field), fs[i]? = some f → ∃ y, DataW.trod enc P w base spare held n f.type ((cs.drop f.offset).take (P.cellsOf f.type)) = some y := by
  obtain ⟨xs, n, _, _, h1, h2, h3⟩ := DataW.trod_struct ht h
  refine ⟨h1, n, fun i f hf => ?_⟩
  have hi : i < fs.size := (Array.getElem?_eq_some_iff.1 hf).1
  exact ⟨xs[i]'(by omega), by rw [h3 i f hf]; exact List.getElem?_eq_getElem (by omega)⟩
theorem array_at {H : Type} {enc : TypeId × Value → H} {w : World} {base : Nat} {spare : Nat → Bool} {held : Bool} {fuel : Nat} {cs : List Value} {x : DataW H × List MemPlace} {n : Nat} {el : TypeId}
    (ht : P.underlying t = some (.array n el)) (h : DataW.trod enc P w base spare held fuel t cs = some x) :
    cs.length = P.cellsOf t ∧ ∃ m, ∀ i, i < n → ∃ y, DataW.trod enc P w base spare held m el ((cs.drop (i * P.cellsOf el)).take (P.cellsOf el)) = some y := by
  obtain ⟨xs, m, _, _, h1, h2, h3⟩ := DataW.trod_array ht h
  exact ⟨h1, m, fun i hi => ⟨xs[i]'(by omega), by rw [h3 i hi]; exact List.getElem?_eq_getElem (by omega)⟩⟩
def ArgReads {α : Type} (P : Program) (t : TypeId) (v : α → V) (wf : α → Prop) : Prop :=
  ∀ {H : Type} {enc : TypeId × Value → H} {w : World} {base b0 : Nat} {spare : Nat → Bool} {held : Bool} {u : Value} {d : DataW H} {ps : List MemPlace},
    Value.okWide P w .any b0 t u → DataW.Trod enc P w base spare held t u d ps → ∃ a, wf a ∧ RF ⟨fun _ => 0, live w, fun _ => .ext⟩ w (v a) u
theorem arg_one {α : Type} {e : α → D} {wf : α → Prop} (he : Reads P t (fun a => [e a]) wf) (hone : ∀ w b0 u, Value.okWide P w .any b0 t u → u.cells = #[u]) : ArgReads P t (fun a => .d (e a)) wf := by
  intro H enc w base b0 spare held u d ps hok hd
  obtain ⟨fuel, hf⟩ := hd
  rw [hone _ _ _ hok] at hf
  obtain ⟨a, h1, u', us, h2, h3, h4⟩ := he hf
  simp only [RDs] at h4; subst h4
  simp at h2; subst h2
  exact ⟨a, h1, fun ℓ => by simpa [RV] using h3⟩
theorem one_int {k : IntKind} (ht : P.underlying t = some (.int k)) : ∀ w b0 u, Value.okWide P w .any b0 t u → u.cells = #[u] := by
  intro w b0 u h
  simp only [Value.okWide, ht] at h
  cases u <;> first | rfl | (simp [Cell.okWide, Cell.ok, ht] at h)
theorem one_slice {el : TypeId} (ht : P.underlying t = some (.slice el)) : ∀ w b0 u, Value.okWide P w .any b0 t u → u.cells = #[u] := by
  intro w b0 u h
  simp only [Value.okWide, ht] at h
  cases u <;> first | rfl | (simp [Cell.okWide, Cell.ok, ht] at h)
theorem RD_one {imm : Nat → Nat → Prop} {w : World} {x : D} {u : Value} (h : RD imm w x u) : u.oneCell' = true := by
  cases x with
  | int k n => simp only [RD] at h; subst h; rfl
  | bool b => simp only [RD] at h; subst h; rfl
  | str s => simp only [RD] at h; subst h; rfl
  | lst sz l => simp only [RD] at h; obtain ⟨a, cap, rfl, _⟩ := h; cases a <;> rfl
theorem RDs_RVs {w : World} {g : G} (hg : g.imm = live w) : ∀ {xs : List D} {us : List Value} {ℓ : Owner} {i : Nat}, RDs w xs us → RVs g w (xs.map V.d) ℓ i us ∧ ∀ u ∈ us, u.oneCell' = true
  | [], us, ℓ, i, h => by simp only [RDs] at h; subst h; simp [RVs]
  | x :: xs, us, ℓ, i, ⟨u, us', e, r, h⟩ => by
    subst e
    obtain ⟨h1, h2⟩ := RDs_RVs hg (ℓ := ℓ) (i := i + 1) h
    refine ⟨⟨u, us', rfl, by simpa [RV, hg] using r, h1⟩, fun v hv => ?_⟩
    rcases List.mem_cons.1 hv with rfl | hv
    · exact RD_one r
    · exact h2 v hv
theorem arg_agg {α : Type} {e : α → List D} {wf : α → Prop} (he : Reads P t e wf) (hagg : (∃ fs, P.underlying t = some (.struct fs)) ∨ ∃ n el, P.underlying t = some (.array n el)) : ArgReads P t (fun a => .agg ((e a).map V.d)) wf := by
  intro H enc w base b0 spare held u d ps hok hd
  obtain ⟨cs, rfl⟩ : ∃ cs, u = .agg cs := by
    rcases hagg with ⟨fs, ht⟩ | ⟨n, el, ht⟩
    · simp only [Value.okWide, ht] at hok; obtain ⟨cs, rfl, _⟩ := hok; exact ⟨cs, rfl⟩
    · simp only [Value.okWide, ht] at hok; obtain ⟨cs, rfl, _⟩ := hok; exact ⟨cs, rfl⟩
  obtain ⟨fuel, hf⟩ := hd
  obtain ⟨a, h1, h2⟩ := he hf
  refine ⟨a, h1, fun ℓ => ?_⟩
  simp only [RV]
  obtain ⟨h3, h4⟩ := RDs_RVs (g := ⟨fun _ => 0, live w, fun _ => .ext⟩) rfl (ℓ := ℓ) (i := 0) h2
  exact ⟨cs.toList, by simp, h3, h4⟩
def LawOK (P : Program) (f : FuncId) (ts : List TypeId) : Prop :=
  ∀ {H : Type} {enc : TypeId × Value → H} {w : World} {b0 : Nat} {us : List Value} {ds : List (DataW H)} {ps : List MemPlace},
    (∀ (j : Nat) t u, ts[j]? = some t → us[j]? = some u → Value.okWide P w .any b0 t u) → DataW.TrodAll enc P w 0 (fun _ => true) true ts us ds ps →
    ∃ vs, RFs ⟨fun _ => 0, live w, fun _ => .ext⟩ w vs us ∧ (∀ x ∈ vs, Flat x) ∧ V.lt.go 0 vs = true ∧ ∀ M nb, ACalls P f vs M nb (.d (.bool true)) M nb
theorem trodAll_stays (hl : laidOutB P = true) {W W' : World} {sp : Nat → Bool} {H : Type} {enc : TypeId × Value → H} : ∀ {ts : List TypeId} {us : List Value} {ds : List (DataW H)} {ps : List MemPlace},
    (∀ t ∈ ts, P.readableRec t = true ∧ t < P.types.size) → DataW.TrodAll enc P W 0 (fun _ => true) true ts us ds ps → (∀ p ∈ ps, W.sameAt W' p) → (∀ p ∈ ps, sp p.block = true) → DataW.TrodAll enc P W' 0 sp true ts us ds ps
  | [], [], [], ps, _, h, _, _ => h
  | t :: ts, u :: us, d :: ds, ps, hr, ⟨p, q, h1, h2, e⟩, hs, hp => by
    subst e
    obtain ⟨r1, r2⟩ := hr t (by simp)
    exact ⟨p, q, WideElems.Trod_stays hl r1 r2 h1 (fun x hx => hs x (by simp [hx])) (fun x hx => hp x (by simp [hx])), trodAll_stays hl (fun t ht => hr t (by simp [ht])) h2 (fun x hx => hs x (by simp [hx])) (fun x hx => hp x (by simp [hx])), rfl⟩
  | [], [], _ :: _, _, _, h, _, _ => h.elim
  | [], _ :: _, _, _, _, h, _, _ => h.elim
  | _ :: _, [], _, _, _, h, _, _ => h.elim
  | _ :: _, _ :: _, [], _, _, h, _, _ => h.elim
theorem trodAll_len {W : World} {sp : Nat → Bool} {held : Bool} {base : Nat} {H : Type} {enc : TypeId × Value → H} : ∀ {ts : List TypeId} {us : List Value} {ds : List (DataW H)} {ps : List MemPlace},
    DataW.TrodAll enc P W base sp held ts us ds ps → ds.length = ts.length ∧ us.length = ts.length
  | [], [], [], ps, h => ⟨rfl, rfl⟩
  | t :: ts, u :: us, d :: ds, ps, ⟨p, q, h1, h2, e⟩ => by have := trodAll_len h2; simp [this.1, this.2]
  | [], [], _ :: _, _, h => h.elim
  | [], _ :: _, _, _, h => h.elim
  | _ :: _, [], _, _, h => h.elim
  | _ :: _, _ :: _, [], _, h => h.elim
theorem law_returns {C : Checked} {f : FuncId} {fn : Func} {s : ChangeSpec} {conds : List PathCond} {bt : TypeId} {os : Os} {H : Type} {enc : TypeId × Value → H}
    (own : ownKnob C.prog.godebug = none) (started : os.Started) (noInit : C.prog.inits.idxOf? f = none) (hfn : C.prog.funcs[f]? = some fn)
    (witness : ∃ (w : World) (tape : Tape) (i : Input), w.os = os ∧ (w.forCall tape i).Shaped C.prog ∧ i.vars = [] ∧ Input.okWide C.prog (w.forCall tape i) .any w.heap.size f i ∧
      s.pre6 enc C.prog fn conds false (w.forCall tape i).memory i.args ∧ ({} : Assume).holds C.prog (lone (Frame.enter C.prog f i.args .normal) [] (w.forCall tape i)))
    (hvars : s.vars = []) (hres : fn.resultTypes = #[bt]) (hbt : C.prog.underlying bt = some .bool)
    (hl : laidOutB C.prog = true) (hread : ∀ t ∈ fn.params.toList, C.prog.readableRec t = true ∧ t < C.prog.types.size)
    (hspec : ∀ ds : List (DataW H), ds.length = fn.params.size → s.fn H ds = { results := [.lit (.bool true)], args := ds })
    (law : LawOK C.prog f fn.params.toList) :
    ReturnsInHanded {} C os f .any (s.pre6 enc C.prog fn conds false) (s.post enc C.prog fn false true false false) := by
  refine returnsInHanded_of_change own started noInit hfn witness ?_
  intro W base args ds gs before hval hW hcnd _
  have hW' := hW
  obtain ⟨p, q, hA, hV, hps, hfz, hnd⟩ := hW
  rw [hvars] at hV
  obtain ⟨rfl, rfl⟩ : gs = [] ∧ q = [] := by
    cases gs with
    | nil => exact ⟨rfl, hV⟩
    | cons _ _ => exact hV.elim
  obtain ⟨vs, h1, h2, h3, h4⟩ := law (fun j t u ht hu => hval j t u (by simpa using ht) (by simpa using hu)) hA
  obtain ⟨hb, _, h5⟩ := h4 (fun _ => none) 0
  have hlv : ∀ b o, live W b o → b < W.heap.size := by
    intro b o h
    simp only [live] at h
    obtain ⟨v, hv⟩ := Option.isSome_iff_exists.1 h
    unfold World.cell? at hv
    split at hv
    · rename_i hh; exact (Array.getElem?_eq_some_iff.1 hh).1
    · cases hv
  have hmr : MR ⟨fun _ => 0, live W, fun _ => .ext⟩ W (fun _ => none) 0 := ⟨fun k b h => (by cases h), fun b o h => ⟨hlv b o h, fun k h => by cases h⟩⟩
  have h6 := h5 W ⟨fun _ => 0, live W, fun _ => .ext⟩ args.toList hmr (fun k cs h => by cases h) (fun b => ⟨fun t p h => (by cases h), fun p h => (by cases h)⟩) h1 h2 (ons_mono (fun k hk => absurd hk (Nat.not_lt_zero k)) _ (ons_lt vs h3))
  refine Calls.mono h6 fun e W' ⟨v, g', he, _, hr, _, _, hf⟩ => ?_
  subst he
  have hv : v = .bool true := by simpa [RV, RD] using hr
  subst hv
  have hbelow : Below W.heap.size W W' := ⟨hf.os, hf.tape, hf.output, hf.size, fun k hk => (hf.old k hk trivial).2.1⟩
  have hrl : (Value.bool true).resultList fn.resultTypes.size = [.bool true] := by rw [hres]; rfl
  have hsp : s.fn H (ds ++ []) = { results := [.lit (.bool true)], args := ds } := by
    rw [List.append_nil]
    exact hspec ds (by have := (trodAll_len hA).1; simpa using this)
  have hlt : ∀ p ∈ before, p.block < W.heap.size := fun x hx => hW'.lt x hx
  have hst : ∀ sp : Nat → Bool, (∀ p ∈ before, sp p.block = true) → DataW.TrodAll enc C.prog W' 0 sp true fn.params.toList args.toList ds before := by
    intro sp hsp'
    have e : p = before := by rw [hps, List.append_nil]
    subst e
    exact trodAll_stays hl hread hA (fun x hx => hbelow.same (hlt x hx)) hsp'
  refine ⟨_, rfl, ds, [], before, [], before, [], hW', ?_, ?_, ?_, World.keptBut_mono (fun p hp => ⟨hp, .inr (.inl hp)⟩) (hbelow.frame (· ∈ before)), fun h => by cases h⟩
  · rw [hsp, hrl, hres]
    exact ⟨[], [], ⟨1, by simp [DataW.trod, Value.cells, hbt]⟩, rfl, rfl⟩
  · rw [hsp]
    exact hst _ fun p hp => by simpa using hlt p hp
  · rw [hsp, hvars]; rfl
section
variable {α β γ δ : Type} {f : FuncId} {ta tb tc td : TypeId} {va : α → V} {vb : β → V} {vc : γ → V} {vd : δ → V} {wa : α → Prop} {wb : β → Prop} {wc : γ → Prop} {wd : δ → Prop}
theorem trodAll_two {H : Type} {enc : TypeId × Value → H} {w : World} {base : Nat} {sp : Nat → Bool} {held : Bool} {t : TypeId} {ts : List TypeId} {us : List Value} {ds : List (DataW H)} {ps : List MemPlace} (h : DataW.TrodAll enc P w base sp held (t :: ts) us ds ps) :
    ∃ u us' d ds' p q, us = u :: us' ∧ ds = d :: ds' ∧ DataW.Trod enc P w base sp held t u d p ∧ DataW.TrodAll enc P w base sp held ts us' ds' q := by
  match us, ds, h with
  | u :: us', d :: ds', ⟨p, q, h1, h2, _⟩ => exact ⟨u, us', d, ds', p, q, rfl, rfl, h1, h2⟩
  | [], [], h => exact h.elim
  | [], _ :: _, h => exact h.elim
  | _ :: _, [], h => exact h.elim
theorem trodAll_end {H : Type} {enc : TypeId × Value → H} {w : World} {base : Nat} {sp : Nat → Bool} {held : Bool} {us : List Value} {ds : List (DataW H)} {ps : List MemPlace} (h : DataW.TrodAll enc P w base sp held [] us ds ps) : us = [] := by
  match us, ds, h with
  | [], [], _ => rfl
  | [], _ :: _, h => exact h.elim
  | _ :: _, [], h => exact h.elim
  | _ :: _, _ :: _, h => exact h.elim
theorem lawOK2 (ra : ArgReads P ta va wa) (fa : ∀ a, (va a).dem = va a) (la : ∀ a, (va a).lt 0 = true) (rb : ArgReads P tb vb wb) (fb : ∀ a, (vb a).dem = vb a) (lb : ∀ a, (vb a).lt 0 = true)
    (law : ∀ a b, wa a → wb b → ∀ M nb, ACalls P f [va a, vb b] M nb (.d (.bool true)) M nb) : LawOK P f [ta, tb] := by
  intro H enc w b0 us ds ps hok hT
  obtain ⟨u, us', d, ds', p, q, rfl, rfl, h1, hT⟩ := trodAll_two hT
  obtain ⟨u2, us', d2, ds', p2, q2, rfl, rfl, h2, hT⟩ := trodAll_two hT
  obtain rfl := trodAll_end hT
  obtain ⟨a, ha, hra⟩ := ra (hok 0 _ _ rfl rfl) h1
  obtain ⟨b, hb, hrb⟩ := rb (hok 1 _ _ rfl rfl) h2
  refine ⟨[va a, vb b], ⟨u, _, rfl, hra, u2, _, rfl, hrb, rfl⟩, ?_, by simp [V.lt.go, la, lb], law a b ha hb⟩
  intro x hx
  simp only [List.mem_cons, List.not_mem_nil, or_false] at hx
  rcases hx with rfl | rfl
  · exact fa a
  · exact fb b
theorem lawOK3 (ra : ArgReads P ta va wa) (fa : ∀ a, (va a).dem = va a) (la : ∀ a, (va a).lt 0 = true) (rb : ArgReads P tb vb wb) (fb : ∀ a, (vb a).dem = vb a) (lb : ∀ a, (vb a).lt 0 = true)
    (rc : ArgReads P tc vc wc) (fc : ∀ a, (vc a).dem = vc a) (lc : ∀ a, (vc a).lt 0 = true)
    (law : ∀ a b c, wa a → wb b → wc c → ∀ M nb, ACalls P f [va a, vb b, vc c] M nb (.d (.bool true)) M nb) : LawOK P f [ta, tb, tc] := by
  intro H enc w b0 us ds ps hok hT
  obtain ⟨u, us', d, ds', p, q, rfl, rfl, h1, hT⟩ := trodAll_two hT
  obtain ⟨u2, us', d2, ds', p2, q2, rfl, rfl, h2, hT⟩ := trodAll_two hT
  obtain ⟨u3, us', d3, ds', p3, q3, rfl, rfl, h3, hT⟩ := trodAll_two hT
  obtain rfl := trodAll_end hT
  obtain ⟨a, ha, hra⟩ := ra (hok 0 _ _ rfl rfl) h1
  obtain ⟨b, hb, hrb⟩ := rb (hok 1 _ _ rfl rfl) h2
  obtain ⟨c, hc, hrc⟩ := rc (hok 2 _ _ rfl rfl) h3
  refine ⟨[va a, vb b, vc c], ⟨u, _, rfl, hra, u2, _, rfl, hrb, u3, _, rfl, hrc, rfl⟩, ?_, by simp [V.lt.go, la, lb, lc], law a b c ha hb hc⟩
  intro x hx
  simp only [List.mem_cons, List.not_mem_nil, or_false] at hx
  rcases hx with rfl | rfl | rfl
  · exact fa a
  · exact fb b
  · exact fc c
end
theorem arr_at {H : Type} {enc : TypeId × Value → H} {w : World} {base : Nat} {spare : Nat → Bool} {held : Bool} {fuel : Nat} {cs : List Value} {x : DataW H × List MemPlace} {n sz : Nat} {el : TypeId}
    (ht : P.underlying t = some (.array n el)) (hsz : P.cellsOf el = sz) (h : DataW.trod enc P w base spare held fuel t cs = some x) :
    cs.length = P.cellsOf t ∧ ∃ m, ∀ i, i < n → ∃ y, DataW.trod enc P w base spare held m el ((cs.drop (i * sz)).take (P.cellsOf el)) = some y := by
  obtain ⟨h1, m, h2⟩ := array_at ht h
  exact ⟨h1, m, fun i hi => by have := h2 i hi; rwa [show i * P.cellsOf el = i * sz from by rw [hsz]] at this⟩
end Go.Abs
end
section
namespace Go.Proofs
open Go Go.Abs
set_option linter.unusedVariables false
set_option maxRecDepth 100000
def W_22 (x : Int) : Prop := wfI .u8 x
theorem R_22 : Reads Try.prog 22 (eI .u8) W_22 := reads_int Try.underlying22
theorem A_22 : ArgReads Try.prog 22 (fun (a : Int) => .d (.int .u8 a)) W_22 := arg_one R_22 (one_int Try.underlying22)
def W_5 (x : Int) : Prop := wfI .u8 x
theorem R_5 : Reads Try.prog 5 (eI .u8) W_5 := reads_int Try.underlying5
def W_23 (x : Int × Int × Int × Int × Int) : Prop := W_5 x.1 ∧ W_5 x.2.1 ∧ W_5 x.2.2.1 ∧ W_5 x.2.2.2.1 ∧ W_5 x.2.2.2.2
theorem R_23 : Reads Try.prog 23 (fun p => [.int .u8 p.1, .int .u8 p.2.1, .int .u8 p.2.2.1, .int .u8 p.2.2.2.1, .int .u8 p.2.2.2.2]) W_23 := by
  intro H enc w base spare held fuel cs x h
  obtain ⟨hl, n, hf⟩ := arr_at (sz := 1) Try.underlying23 (by kernel_rfl) h
  obtain ⟨y0, h0⟩ := hf 0 (by decide)
  obtain ⟨a0, w0, r0⟩ := reads_at (off := 0 * 1) (sz := 1) R_5 (by kernel_rfl) (fun _ => rfl) h0
  obtain ⟨y1, h1⟩ := hf 1 (by decide)
  obtain ⟨a1, w1, r1⟩ := reads_at (off := 1 * 1) (sz := 1) R_5 (by kernel_rfl) (fun _ => rfl) h1
  obtain ⟨y2, h2⟩ := hf 2 (by decide)
  obtain ⟨a2, w2, r2⟩ := reads_at (off := 2 * 1) (sz := 1) R_5 (by kernel_rfl) (fun _ => rfl) h2
  obtain ⟨y3, h3⟩ := hf 3 (by decide)
  obtain ⟨a3, w3, r3⟩ := reads_at (off := 3 * 1) (sz := 1) R_5 (by kernel_rfl) (fun _ => rfl) h3
  obtain ⟨y4, h4⟩ := hf 4 (by decide)
  obtain ⟨a4, w4, r4⟩ := reads_at (off := 4 * 1) (sz := 1) R_5 (by kernel_rfl) (fun _ => rfl) h4
  exact ⟨(a0, a1, a2, a3, a4), ⟨w0, w1, w2, w3, w4⟩, RDat.all (xs := (fun p => [.int .u8 p.1, .int .u8 p.2.1, .int .u8 p.2.2.1, .int .u8 p.2.2.2.1, .int .u8 p.2.2.2.2]) (a0, a1, a2, a3, a4)) (RDat.app r0 rfl (RDat.app r1 rfl (RDat.app r2 rfl (RDat.app r3 rfl r4)))) (hl.trans (by kernel_rfl))⟩
def W_24 (x : (Int × Int × Int × Int × Int) × (Int × Int × Int × Int × Int) × (Int × Int × Int × Int × Int) × (Int × Int × Int × Int × Int) × (Int × Int × Int × Int × Int)) : Prop := W_23 x.1 ∧ W_23 x.2.1 ∧ W_23 x.2.2.1 ∧ W_23 x.2.2.2.1 ∧ W_23 x.2.2.2.2
theorem R_24 : Reads Try.prog 24 (fun p => [.int .u8 p.1.1, .int .u8 p.1.2.1, .int .u8 p.1.2.2.1, .int .u8 p.1.2.2.2.1, .int .u8 p.1.2.2.2.2, .int .u8 p.2.1.1, .int .u8 p.2.1.2.1, .int .u8 p.2.1.2.2.1, .int .u8 p.2.1.2.2.2.1, .int .u8 p.2.1.2.2.2.2, .int .u8 p.2.2.1.1, .int .u8 p.2.2.1.2.1, .int .u8 p.2.2.1.2.2.1, .int .u8 p.2.2.1.2.2.2.1, .int .u8 p.2.2.1.2.2.2.2, .int .u8 p.2.2.2.1.1, .int .u8 p.2.2.2.1.2.1, .int .u8 p.2.2.2.1.2.2.1, .int .u8 p.2.2.2.1.2.2.2.1, .int .u8 p.2.2.2.1.2.2.2.2, .int .u8 p.2.2.2.2.1, .int .u8 p.2.2.2.2.2.1, .int .u8 p.2.2.2.2.2.2.1, .int .u8 p.2.2.2.2.2.2.2.1, .int .u8 p.2.2.2.2.2.2.2.2]) W_24 := by
  intro H enc w base spare held fuel cs x h
  obtain ⟨hl, n, hf⟩ := arr_at (sz := 5) Try.underlying24 (by kernel_rfl) h
  obtain ⟨y0, h0⟩ := hf 0 (by decide)
  obtain ⟨a0, w0, r0⟩ := reads_at (off := 0 * 5) (sz := 5) R_23 (by kernel_rfl) (fun _ => rfl) h0
  obtain ⟨y1, h1⟩ := hf 1 (by decide)
  obtain ⟨a1, w1, r1⟩ := reads_at (off := 1 * 5) (sz := 5) R_23 (by kernel_rfl) (fun _ => rfl) h1
  obtain ⟨y2, h2⟩ := hf 2 (by decide)
  obtain ⟨a2, w2, r2⟩ := reads_at (off := 2 * 5) (sz := 5) R_23 (by kernel_rfl) (fun _ => rfl) h2
  obtain ⟨y3, h3⟩ := hf 3 (by decide)
  obtain ⟨a3, w3, r3⟩ := reads_at (off := 3 * 5) (sz := 5) R_23 (by kernel_rfl) (fun _ => rfl) h3
  obtain ⟨y4, h4⟩ := hf 4 (by decide)
  obtain ⟨a4, w4, r4⟩ := reads_at (off := 4 * 5) (sz := 5) R_23 (by kernel_rfl) (fun _ => rfl) h4
  exact ⟨(a0, a1, a2, a3, a4), ⟨w0, w1, w2, w3, w4⟩, RDat.all (xs := (fun p => [.int .u8 p.1.1, .int .u8 p.1.2.1, .int .u8 p.1.2.2.1, .int .u8 p.1.2.2.2.1, .int .u8 p.1.2.2.2.2, .int .u8 p.2.1.1, .int .u8 p.2.1.2.1, .int .u8 p.2.1.2.2.1, .int .u8 p.2.1.2.2.2.1, .int .u8 p.2.1.2.2.2.2, .int .u8 p.2.2.1.1, .int .u8 p.2.2.1.2.1, .int .u8 p.2.2.1.2.2.1, .int .u8 p.2.2.1.2.2.2.1, .int .u8 p.2.2.1.2.2.2.2, .int .u8 p.2.2.2.1.1, .int .u8 p.2.2.2.1.2.1, .int .u8 p.2.2.2.1.2.2.1, .int .u8 p.2.2.2.1.2.2.2.1, .int .u8 p.2.2.2.1.2.2.2.2, .int .u8 p.2.2.2.2.1, .int .u8 p.2.2.2.2.2.1, .int .u8 p.2.2.2.2.2.2.1, .int .u8 p.2.2.2.2.2.2.2.1, .int .u8 p.2.2.2.2.2.2.2.2]) (a0, a1, a2, a3, a4)) (RDat.app r0 rfl (RDat.app r1 rfl (RDat.app r2 rfl (RDat.app r3 rfl r4)))) (hl.trans (by kernel_rfl))⟩
def W_26 (x : overseerlaw03_Graph) : Prop := W_5 x.States ∧ W_5 x.Marks ∧ W_24 x.To
theorem R_26 : Reads Try.prog 26 e_overseerlaw03_Graph W_26 := by
  intro H enc w base spare held fuel cs x h
  obtain ⟨hl, n, hf⟩ := struct_at Try.underlying26 h
  obtain ⟨y0, h0⟩ := hf 0 _ rfl
  obtain ⟨a0, w0, r0⟩ := reads_at (off := 0) (sz := 1) R_5 (by kernel_rfl) (fun _ => rfl) h0
  obtain ⟨y1, h1⟩ := hf 1 _ rfl
  obtain ⟨a1, w1, r1⟩ := reads_at (off := 1) (sz := 1) R_5 (by kernel_rfl) (fun _ => rfl) h1
  obtain ⟨y2, h2⟩ := hf 2 _ rfl
  obtain ⟨a2, w2, r2⟩ := reads_at (off := 2) (sz := 25) R_24 (by kernel_rfl) (fun _ => rfl) h2
  exact ⟨⟨a0, a1, a2⟩, ⟨w0, w1, w2⟩, RDat.all (xs := e_overseerlaw03_Graph ⟨a0, a1, a2⟩) (RDat.app r0 rfl (RDat.app r1 rfl r2)) (hl.trans (by kernel_rfl))⟩
theorem A_26 : ArgReads Try.prog 26 (fun (a : overseerlaw03_Graph) => .agg [.d (.int .u8 a.States), .d (.int .u8 a.Marks), .d (.int .u8 a.To.1.1), .d (.int .u8 a.To.1.2.1), .d (.int .u8 a.To.1.2.2.1), .d (.int .u8 a.To.1.2.2.2.1), .d (.int .u8 a.To.1.2.2.2.2), .d (.int .u8 a.To.2.1.1), .d (.int .u8 a.To.2.1.2.1), .d (.int .u8 a.To.2.1.2.2.1), .d (.int .u8 a.To.2.1.2.2.2.1), .d (.int .u8 a.To.2.1.2.2.2.2), .d (.int .u8 a.To.2.2.1.1), .d (.int .u8 a.To.2.2.1.2.1), .d (.int .u8 a.To.2.2.1.2.2.1), .d (.int .u8 a.To.2.2.1.2.2.2.1), .d (.int .u8 a.To.2.2.1.2.2.2.2), .d (.int .u8 a.To.2.2.2.1.1), .d (.int .u8 a.To.2.2.2.1.2.1), .d (.int .u8 a.To.2.2.2.1.2.2.1), .d (.int .u8 a.To.2.2.2.1.2.2.2.1), .d (.int .u8 a.To.2.2.2.1.2.2.2.2), .d (.int .u8 a.To.2.2.2.2.1), .d (.int .u8 a.To.2.2.2.2.2.1), .d (.int .u8 a.To.2.2.2.2.2.2.1), .d (.int .u8 a.To.2.2.2.2.2.2.2.1), .d (.int .u8 a.To.2.2.2.2.2.2.2.2)]) W_26 := arg_agg R_26 (.inl ⟨_, Try.underlying26⟩)
def W_70 (x : List Int) : Prop := wfL W_5 x
theorem R_70 : Reads Try.prog 70 (eL 1 (eI .u8)) W_70 := reads_slice Try.underlying70 R_5 (by kernel_rfl) (by decide) (fun _ => rfl)
theorem A_70 : ArgReads Try.prog 70 (fun (a : List Int) => .d (.lst 1 (List.map (eI .u8) a))) W_70 := arg_one R_70 (one_slice Try.underlying70)
end Go.Proofs
end
section
namespace Go.Abs
open Go
theorem iterF_rule {X R : Type} {F : (X → Option R) → X → Option R} (I : X → Prop) (m : X → Nat) (Q : X → Option R → Prop)
    (step : ∀ (k : X → Option R) (x : X), I x → (∀ y, I y → m y < m x → Q y (k y)) → Q x (F k x)) : ∀ (fuel : Nat) (x : X), I x → m x < fuel → Q x (iterF F fuel x)
  | 0, x, _, h => absurd h (Nat.not_lt_zero _)
  | fuel + 1, x, hi, h => step _ x hi fun y hy hm => iterF_rule I m Q step fuel y hy (by omega)
theorem iterF_to {X R : Type} {F : (X → Option R) → X → Option R} {fuel : Nat} {x : X} (I : X → Prop) (m : X → Nat) (q : Option R) (hi : I x) (hm : m x < fuel)
    (step : ∀ (k : X → Option R) (x : X), I x → (∀ y, I y → m y < m x → k y = q) → F k x = q) : iterF F fuel x = q :=
  iterF_rule I m (fun _ r => r = q) step fuel x hi hm
theorem wrap_id {x : Int} (h1 : -9223372036854775808 ≤ x) (h2 : x ≤ 9223372036854775807) : IntKind.wrap .i64 x = x := by
  simp [IntKind.wrap, IntKind.bits, IntKind.signed]; omega
theorem wrap_succ {n : Nat} (h : n < 9223372036854775807) : IntKind.wrap .i64 ((n : Int) + 1) = ((n + 1 : Nat) : Int) := by
  rw [wrap_id (by omega) (by omega)]; omega
theorem getO_nat {α : Type} {l : List α} {n : Nat} (h : n < l.length) : getO l (n : Int) = some l[n] := by
  simp [getO, h]
theorem getO_some {α : Type} {l : List α} {i : Int} {x : α} : getO l i = some x ↔ 0 ≤ i ∧ l[i.toNat]? = some x := by
  unfold getO; split
  · rename_i h; simp [h]
  · rename_i h; simp only [reduceCtorEq, false_iff, not_and]; exact fun h' => absurd h' h
theorem appO_some {α : Type} {l m : List α} (h : l.length + m.length ≤ lim) : appO l m = some (l ++ m) := by
  unfold appO; rw [if_pos h]
theorem take_eq_succ {α : Type} {s t : List α} {k : Nat} (hs : k < s.length) (ht : k < t.length) (h : s.take k = t.take k) (he : s[k] = t[k]) : s.take (k + 1) = t.take (k + 1) := by
  rw [List.take_add_one, List.take_add_one, h, List.getElem?_eq_getElem hs, List.getElem?_eq_getElem ht, he]
theorem iterF_idx {R : Type} {F : (Int → Option R) → Int → Option R} {len fuel : Nat} (G : Nat → Option R) (hf : len < fuel)
    (step : ∀ (k : Int → Option R) (n : Nat), n < len → k ((n + 1 : Nat) : Int) = G (n + 1) → F k (n : Int) = G n) (last : ∀ k : Int → Option R, F k (len : Int) = G len) : iterF F fuel 0 = G 0 := by
  have := iterF_rule (F := F) (fun x => ∃ n : Nat, x = (n : Int) ∧ n ≤ len) (fun x => len - x.toNat) (fun x r => ∀ n : Nat, x = (n : Int) → r = G n) (fun k x hx ih => by
    obtain ⟨n, rfl, hn⟩ := hx
    intro m hm
    obtain rfl : n = m := by omega
    by_cases h : n < len
    · exact step k n h (ih _ ⟨n + 1, rfl, by omega⟩ (by omega) (n + 1) rfl)
    · obtain rfl : n = len := by omega
      exact last k) fuel 0 ⟨0, rfl, by omega⟩ (by simpa using hf)
  exact this 0 rfl
theorem wrap_pred {n : Nat} (h0 : 0 < n) (h : n < 9223372036854775807) : IntKind.wrap .i64 ((n : Int) - 1) = ((n - 1 : Nat) : Int) := by
  rw [wrap_id (by omega) (by omega)]; omega
theorem iterF_at {X S R : Type} {F : (X → Option R) → X → Option R} {len : Nat} (mk : Nat → S → X) (G : Nat → S → Option R)
    (step : ∀ (k : X → Option R) (n : Nat) (s : S), n < len → (∀ s', k (mk (n + 1) s') = G (n + 1) s') → F k (mk n s) = G n s) (last : ∀ (k : X → Option R) (s : S), F k (mk len s) = G len s) :
    ∀ (fuel n : Nat) (s : S), n ≤ len → len - n < fuel → iterF F fuel (mk n s) = G n s
  | 0, n, s, _, h => by omega
  | fuel + 1, n, s, hn, h => by
    show F (iterF F fuel) (mk n s) = _
    by_cases hlt : n < len
    · exact step _ n s hlt fun s' => iterF_at mk G step last fuel (n + 1) s' (by omega) (by omega)
    · obtain rfl : n = len := by omega
      exact last _ s
theorem mid_ok {i j : Nat} (hi : i < 1000000000000) (hj : j < 1000000000000) : IntKind.wrap .i64 (Int.fdiv (IntKind.wrap .u64 (IntKind.wrap .i64 ((i : Int) + j))) (2 ^ (min (Int.toNat 1) (IntKind.bits .u64)))) = (((i + j) / 2 : Nat) : Int) := by
  have h1 : IntKind.wrap .i64 ((i : Int) + j) = ((i + j : Nat) : Int) := by rw [wrap_id (by omega) (by omega)]; omega
  have h2 : IntKind.wrap .u64 ((i + j : Nat) : Int) = ((i + j : Nat) : Int) := by
    simp [IntKind.wrap, IntKind.bits, IntKind.signed]; omega
  have h3 : (2 : Int) ^ (min (Int.toNat 1) (IntKind.bits .u64)) = 2 := by decide
  rw [h1, h2, h3, Int.fdiv_eq_ediv_of_nonneg _ (by omega), show ((i + j : Nat) : Int) / 2 = (((i + j) / 2 : Nat) : Int) from by omega, wrap_id (by omega) (by omega)]
theorem slcO_nat {α : Type} {l : List α} {i j : Nat} (h : i ≤ j) (hj : j ≤ l.length) : slcO l (i : Int) (j : Int) = some ((l.take j).drop i) := by
  simp [slcO, h, hj]
theorem sorted_ext : ∀ {l m : List Int}, l.Pairwise (· < ·) → m.Pairwise (· < ·) → (∀ x, x ∈ l ↔ x ∈ m) → l = m
  | l, m, h1, h2, h => by
    have n1 : l.Nodup := h1.imp fun h => by omega
    have n2 : m.Nodup := h2.imp fun h => by omega
    have hp : l.Perm m := (List.perm_ext_iff_of_nodup n1 n2).2 h
    exact List.Perm.eq_of_pairwise (le := (· < ·)) (fun a b _ _ h1 h2 => by omega) h1 h2 hp
section
variable {α : Type} {p : α → Bool}
theorem count_mono : ∀ {l : List α}, l.Pairwise (fun a b => p b = true → p a = true) → ∀ (n : Nat) (h : n < l.length), p l[n] = true ↔ n < (l.filter p).length
  | [], _, n, h => by simp at h
  | x :: xs, hs, n, h => by
    obtain ⟨h1, h2⟩ := List.pairwise_cons.1 hs
    cases n with
    | zero =>
      cases hx : p x with
      | true => simp [hx]
      | false =>
        have : xs.filter p = [] := List.filter_eq_nil_iff.2 fun y hy hp => by have := h1 y hy hp; rw [hx] at this; cases this
        simp [hx, this]
    | succ n =>
      have ih := count_mono h2 n (by simpa using h)
      cases hx : p x with
      | true => simp [hx, ih]
      | false =>
        have : xs.filter p = [] := List.filter_eq_nil_iff.2 fun y hy hp => by have := h1 y hy hp; rw [hx] at this; cases this
        rw [this] at ih
        simp [hx, this] at ih ⊢
        exact ih
end
theorem iterF_inv {X S R : Type} {F : (X → Option R) → X → Option R} {len : Nat} (mk : Nat → S → X) (I : Nat → S → Prop) (G : Nat → S → Option R)
    (step : ∀ (k : X → Option R) (n : Nat) (s : S), n < len → I n s → (∀ s', I (n + 1) s' → k (mk (n + 1) s') = G (n + 1) s') → F k (mk n s) = G n s) (last : ∀ (k : X → Option R) (s : S), I len s → F k (mk len s) = G len s) :
    ∀ (fuel n : Nat) (s : S), n ≤ len → len - n < fuel → I n s → iterF F fuel (mk n s) = G n s
  | 0, n, s, _, h, _ => by omega
  | fuel + 1, n, s, hn, h, hi => by
    show F (iterF F fuel) (mk n s) = _
    by_cases hlt : n < len
    · exact step _ n s hlt hi fun s' hi' => iterF_inv mk I G step last fuel (n + 1) s' (by omega) (by omega) hi'
    · obtain rfl : n = len := by omega
      exact last _ s hi
theorem sorted_len : ∀ {l : List Int} {a b : Int}, l.Pairwise (· < ·) → (∀ x ∈ l, a ≤ x ∧ x < b) → l.length ≤ (b - a).toNat
  | [], _, _, _, _ => by simp
  | x :: xs, a, b, h, hr => by
    obtain ⟨h1, h2⟩ := List.pairwise_cons.1 h
    have := sorted_len (a := x + 1) (b := b) h2 fun y hy => ⟨by have := h1 y hy; omega, (hr y (by simp [hy])).2⟩
    have := hr x (by simp)
    simp only [List.length_cons]
    omega
end Go.Abs
end
section
namespace Go.Abs
abbrev big : Nat := 1000000000000
def small (a : api_Automaton) : Prop := a.Alphabet.length < big ∧ a.Marked.length < big ∧ a.Edges.length < big
end Go.Abs
end
section
namespace Go.Abs
open Go
set_option linter.unusedSimpArgs false
def listErr (n : Int) : Option Int → List Int → Int
  | _, [] => 0
  | p, x :: xs => if x < 0 ∨ x ≥ n then 2 else if ∃ y, p = some y ∧ x ≤ y then 5 else listErr n (some x) xs
def edgesErr (al : List Int) (st : Int) : Option api_Edge → List api_Edge → Int
  | _, [] => 0
  | p, x :: xs => if x.From < 0 ∨ x.From ≥ st ∨ x.To < 0 ∨ x.To ≥ st then 2 else if x.Event ∉ al then 9 else if ∃ y, p = some y ∧ (x.From < y.From ∨ x.From = y.From ∧ x.Event ≤ y.Event) then 5 else edgesErr al st (some x) xs
def checkErr (a : api_Automaton) : Int :=
  if listErr 32 none a.Alphabet ≠ 0 then listErr 32 none a.Alphabet else if a.States < 0 then 2 else if a.States > 4096 then 3 else
  if listErr a.States none a.Marked ≠ 0 then listErr a.States none a.Marked else edgesErr a.Alphabet a.States none a.Edges
def ahead {α : Type} (l : List α) (n : Nat) : Option α := if n = 0 then none else l[n - 1]?
theorem ahead_zero {α : Type} (l : List α) : ahead l 0 = none := rfl
theorem ahead_succ {α : Type} (l : List α) {n : Nat} (h : n < l.length) : ahead l (n + 1) = some l[n] := by simp [ahead, h]
theorem ahead_pos {α : Type} (l : List α) {n : Nat} (h0 : 0 < n) (h : n ≤ l.length) : ahead l n = some (l[n - 1]'(by omega)) := by
  simp [ahead, show n ≠ 0 from by omega, show n - 1 < l.length from by omega]
theorem listErr_step {n : Int} {l : List Int} {k : Nat} (h : k < l.length) : listErr n (ahead l k) (l.drop k) = if l[k] < 0 ∨ l[k] ≥ n then 2 else if ∃ y, ahead l k = some y ∧ l[k] ≤ y then 5 else listErr n (ahead l (k + 1)) (l.drop (k + 1)) := by
  rw [List.drop_eq_getElem_cons h, listErr, ahead_succ l h]
theorem edgesErr_step {al : List Int} {n : Int} {l : List api_Edge} {k : Nat} (h : k < l.length) : edgesErr al n (ahead l k) (l.drop k) = if l[k].From < 0 ∨ l[k].From ≥ n ∨ l[k].To < 0 ∨ l[k].To ≥ n then 2 else if l[k].Event ∉ al then 9 else if ∃ y, ahead l k = some y ∧ (l[k].From < y.From ∨ l[k].From = y.From ∧ l[k].Event ≤ y.Event) then 5 else edgesErr al n (ahead l (k + 1)) (l.drop (k + 1)) := by
  rw [List.drop_eq_getElem_cons h, edgesErr, ahead_succ l h]
theorem checkSet_ok {l : List Int} {n : Int} (hl : l.length < big) : g_automaton_checkSet l n = some (listErr n none l) := by
  unfold g_automaton_checkSet f_automaton_checkSet
  refine (iterF_idx (len := l.length) (fun k => some (listErr n (ahead l k) (l.drop k))) (by unfold fuel0; unfold big at hl; omega) ?_ ?_).trans (by simp [ahead_zero])
  · intro k i hi ih
    have hb : i < 1000000000000 := by unfold big at hl; omega
    rw [listErr_step hi]
    try dsimp only
    rw [if_pos (by omega), getO_nat hi, wrap_succ (by omega), ih]
    simp only [Option.bind_some]
    by_cases h1 : l[i] < 0
    · simp [h1]
    · by_cases h2 : l[i] ≥ n
      · simp [h1, h2]
      · by_cases h0 : 0 < i
        · rw [wrap_pred h0 (by omega), getO_nat (by omega : i - 1 < l.length), ahead_pos l h0 (by omega)]
          by_cases h3 : l[i] ≤ l[i - 1] <;> simp [h1, h2, h3, h0]
        · obtain rfl : i = 0 := by omega
          simp [h1, h2, ahead_zero]
  · intro k; simp [listErr]
theorem index_ok {l : List Int} {v : Int} (hl : l.length < big) : g_slices_Index_int l v = some (if v ∈ l then (l.idxOf v : Int) else -1) := by
  unfold g_slices_Index_int f_slices_Index_int
  refine (iterF_idx (len := l.length) (fun k => some (if v ∈ l.drop k then ((k + (l.drop k).idxOf v : Nat) : Int) else -1)) (by unfold fuel0; unfold big at hl; omega) ?_ ?_).trans (by simp)
  · intro k i hi ih
    have hb : i < 1000000000000 := by unfold big at hl; omega
    try dsimp only
    rw [if_pos (by omega), getO_nat hi, wrap_succ (by omega), ih, List.drop_eq_getElem_cons hi]
    simp only [Option.bind_some, List.mem_cons, List.idxOf_cons]
    by_cases h : v = l[i]
    · simp [← h]
    · have : ¬ l[i] = v := fun e => h e.symm
      have hbq : (l[i] == v) = false := by simp [this]
      by_cases h2 : v ∈ l.drop (i + 1) <;> simp [h, h2, hbq]
      omega
  · intro k; simp
theorem contains_ok {l : List Int} {v : Int} (hl : l.length < big) : g_slices_Contains_int l v = some (decide (v ∈ l)) := by
  unfold g_slices_Contains_int f_slices_Contains_int
  rw [index_ok hl]
  simp only [Option.bind_some, Option.some.injEq]
  by_cases h : v ∈ l <;> simp [h]
theorem has_ok {l : List Int} {v : Int} (hl : l.length < big) : g_overseerref03_has l v = some (decide (v ∈ l)) := by
  unfold g_overseerref03_has f_overseerref03_has
  refine (iterF_idx (len := l.length) (fun k => some (decide (v ∈ l.drop k))) (by unfold fuel0; unfold big at hl; omega) ?_ ?_).trans (by simp)
  · intro k i hi ih
    have hb : i < 1000000000000 := by unfold big at hl; omega
    try dsimp only
    rw [if_pos (by omega), getO_nat hi, wrap_succ (by omega), ih, List.drop_eq_getElem_cons hi]
    simp only [Option.bind_some, List.mem_cons]
    by_cases h : l[i] = v
    · simp [h]
    · have : ¬ v = l[i] := fun e => h e.symm
      simp [h, this]
  · intro k; simp
theorem checkEdges_ok {a : api_Automaton} (h : small a) : g_automaton_checkEdges a = some (edgesErr a.Alphabet a.States none a.Edges) := by
  obtain ⟨hal, _, hl⟩ := h
  unfold g_automaton_checkEdges f_automaton_checkEdges
  refine (iterF_idx (len := a.Edges.length) (fun k => some (edgesErr a.Alphabet a.States (ahead a.Edges k) (a.Edges.drop k))) (by unfold fuel0; unfold big at hl; omega) ?_ ?_).trans (by simp [ahead_zero])
  · intro k i hi ih
    have hb : i < 1000000000000 := by unfold big at hl; omega
    rw [edgesErr_step hi]
    unfold letJ
    try dsimp only
    rw [if_pos (by omega), getO_nat hi, wrap_succ (by omega), ih]
    simp only [Option.bind_some, contains_ok hal]
    generalize a.Edges[i] = x
    by_cases h1 : x.From < 0
    · simp [h1]
    by_cases h2 : x.From ≥ a.States
    · simp [h1, h2]
    by_cases h3 : x.To < 0
    · simp [h1, h2, h3]
    by_cases h4 : x.To ≥ a.States
    · simp [h1, h2, h3, h4]
    by_cases h5 : x.Event ∈ a.Alphabet
    · by_cases h0 : 0 < i
      · rw [wrap_pred h0 (by omega), getO_nat (by omega : i - 1 < a.Edges.length), ahead_pos a.Edges h0 (by omega)]
        generalize a.Edges[i - 1] = y
        have hi0 : i ≠ 0 := by omega
        by_cases h6 : x.From < y.From
        · simp [h1, h2, h3, h4, h5, h6, hi0]
        by_cases h7 : y.From = x.From
        · by_cases h8 : x.Event ≤ y.Event <;> simp [h1, h2, h3, h4, h5, h6, h7, h8, hi0]
        · have h7' : ¬ x.From = y.From := fun e => h7 e.symm
          simp [h1, h2, h3, h4, h5, h6, h7, hi0, h7']
      · obtain rfl : i = 0 := by omega
        simp [h1, h2, h3, h4, h5, ahead_zero]
    · simp [h1, h2, h3, h4, h5]
  · intro k; unfold letJ; simp [edgesErr]
theorem check_ok {a : api_Automaton} (h : small a) : g_automaton_Check a = some (checkErr a) := by
  unfold g_automaton_Check f_automaton_Check checkErr
  rw [checkSet_ok h.1, checkSet_ok h.2.1, checkEdges_ok h]
  simp only [Option.bind_some]
  by_cases h1 : listErr 32 none a.Alphabet = 0
  · by_cases h2 : a.States < 0
    · simp [h1, h2]
    by_cases h3 : a.States > 4096
    · simp [h1, h2, h3]
    by_cases h4 : listErr a.States none a.Marked = 0 <;> simp [h1, h2, h3, h4]
  · simp [h1]
end Go.Abs
end
section
namespace Go.Abs
open Go
set_option linter.unusedSimpArgs false
set_option linter.unusedVariables false
def keyLt (x y : api_Edge) : Prop := x.From < y.From ∨ x.From = y.From ∧ x.Event < y.Event
instance (x y : api_Edge) : Decidable (keyLt x y) := by unfold keyLt; infer_instance
structure Right (a : api_Automaton) : Prop where
  al0 : ∀ x ∈ a.Alphabet, 0 ≤ x ∧ x < 32
  al : a.Alphabet.Pairwise (· < ·)
  st : 0 ≤ a.States ∧ a.States ≤ 4096
  ma0 : ∀ x ∈ a.Marked, 0 ≤ x ∧ x < a.States
  ma : a.Marked.Pairwise (· < ·)
  ed0 : ∀ x ∈ a.Edges, 0 ≤ x.From ∧ x.From < a.States ∧ 0 ≤ x.To ∧ x.To < a.States ∧ x.Event ∈ a.Alphabet
  ed : a.Edges.Pairwise keyLt
theorem listErr_zero {n : Int} : ∀ {l : List Int} {p : Option Int}, listErr n p l = 0 ↔ (∀ x ∈ l, 0 ≤ x ∧ x < n) ∧ l.Pairwise (· < ·) ∧ ∀ y, p = some y → ∀ x ∈ l, y < x
  | [], p => by simp [listErr]
  | x :: xs, p => by
    rw [listErr]
    split
    · rename_i h
      refine ⟨fun h => by omega, fun hh => ?_⟩
      have := hh.1 x (by simp); omega
    · rename_i h
      split
      · rename_i h2
        obtain ⟨y, hy, hxy⟩ := h2
        refine ⟨fun h => by omega, fun hh => ?_⟩
        have := hh.2.2 y hy x (by simp); omega
      · rename_i h2
        rw [listErr_zero]
        constructor
        · rintro ⟨k1, k2, k3⟩
          refine ⟨fun z hz => ?_, List.pairwise_cons.2 ⟨fun z hz => k3 x rfl z hz, k2⟩, fun y hy z hz => ?_⟩
          · rcases List.mem_cons.1 hz with rfl | hz
            · omega
            · exact k1 z hz
          · have hyx : y < x := by
              rcases Int.lt_or_le y x with h | h
              · exact h
              · exact absurd ⟨y, hy, h⟩ h2
            rcases List.mem_cons.1 hz with rfl | hz
            · exact hyx
            · have := k3 x rfl z hz; omega
        · rintro ⟨k1, k2, k3⟩
          obtain ⟨k4, k5⟩ := List.pairwise_cons.1 k2
          exact ⟨fun z hz => k1 z (by simp [hz]), k5, fun y hy z hz => by cases hy; exact k4 z hz⟩
theorem edgesErr_zero {al : List Int} {n : Int} : ∀ {l : List api_Edge} {p : Option api_Edge}, edgesErr al n p l = 0 ↔ (∀ x ∈ l, 0 ≤ x.From ∧ x.From < n ∧ 0 ≤ x.To ∧ x.To < n ∧ x.Event ∈ al) ∧ l.Pairwise keyLt ∧ ∀ y, p = some y → ∀ x ∈ l, keyLt y x
  | [], p => by simp [edgesErr]
  | x :: xs, p => by
    have tr : ∀ a b c : api_Edge, keyLt a b → keyLt b c → keyLt a c := fun a b c h k => by unfold keyLt at *; omega
    rw [edgesErr]
    split
    · rename_i h
      refine ⟨fun h => by omega, fun hh => ?_⟩
      have := hh.1 x (by simp); omega
    · rename_i h
      split
      · rename_i h2
        refine ⟨fun h => by omega, fun hh => ?_⟩
        exact absurd (hh.1 x (by simp)).2.2.2.2 h2
      · rename_i hal
        split
        · rename_i h2
          obtain ⟨y, hy, hxy⟩ := h2
          refine ⟨fun h => by omega, fun hh => ?_⟩
          have := hh.2.2 y hy x (by simp)
          unfold keyLt at this; omega
        · rename_i h2
          rw [edgesErr_zero]
          constructor
          · rintro ⟨k1, k2, k3⟩
            refine ⟨fun z hz => ?_, List.pairwise_cons.2 ⟨fun z hz => k3 x rfl z hz, k2⟩, fun y hy z hz => ?_⟩
            · rcases List.mem_cons.1 hz with rfl | hz
              · exact ⟨by omega, by omega, by omega, by omega, Decidable.not_not.1 hal⟩
              · exact k1 z hz
            · have hyx : keyLt y x := by
                apply Decidable.byContradiction
                intro h
                exact h2 ⟨y, hy, by unfold keyLt at h; omega⟩
              rcases List.mem_cons.1 hz with rfl | hz
              · exact hyx
              · exact tr _ _ _ hyx (k3 x rfl z hz)
          · rintro ⟨k1, k2, k3⟩
            obtain ⟨k4, k5⟩ := List.pairwise_cons.1 k2
            exact ⟨fun z hz => k1 z (by simp [hz]), k5, fun y hy z hz => by cases hy; exact k4 z hz⟩
theorem right_iff {a : api_Automaton} : checkErr a = 0 ↔ Right a := by
  unfold checkErr
  constructor
  · intro h
    split at h
    · rename_i h1; exact absurd h h1
    rename_i h1
    split at h
    · omega
    split at h
    · omega
    split at h
    · rename_i h4; exact absurd h h4
    rename_i h4
    have q1 := listErr_zero.1 (Decidable.not_not.1 h1)
    have q2 := listErr_zero.1 (Decidable.not_not.1 h4)
    have q3 := edgesErr_zero.1 h
    exact ⟨q1.1, q1.2.1, ⟨by omega, by omega⟩, q2.1, q2.2.1, q3.1, q3.2.1⟩
  · intro h
    have q1 : listErr 32 none a.Alphabet = 0 := listErr_zero.2 ⟨h.al0, h.al, fun y hy => by cases hy⟩
    have q2 : listErr a.States none a.Marked = 0 := listErr_zero.2 ⟨h.ma0, h.ma, fun y hy => by cases hy⟩
    have q3 : edgesErr a.Alphabet a.States none a.Edges = 0 := edgesErr_zero.2 ⟨h.ed0, h.ed, fun y hy => by cases hy⟩
    have := h.st
    rw [if_neg (by simp [q1]), if_neg (by omega), if_neg (by omega), if_neg (by simp [q2]), q3]
def outP (a : api_Automaton) (s : Int) : List api_Edge := a.Edges.filter fun x => x.From == s
def stepP (a : api_Automaton) (s e : Int) : Int := match a.Edges.find? fun x => x.From == s && x.Event == e with
  | some x => x.To
  | none => -1
theorem From_mono {l : List api_Edge} (h : l.Pairwise keyLt) (s : Int) : l.Pairwise fun a b => decide (b.From < s) = true → decide (a.From < s) = true :=
  h.imp fun h => by unfold keyLt at h; simp; omega
theorem bsf_ok {l : List api_Edge} {s : Int} {cmp : api_Edge → Int → Option Int} (hcmp : ∀ x ∈ l, cmp x s = some (x.From - s)) (hs : l.Pairwise keyLt) (hl : l.length < big) :
    ∃ b, g_slices_BinarySearchFunc_int l s cmp = some (((l.filter fun x => decide (x.From < s)).length : Int), b) := by
  have hc := fun n h => count_mono (p := fun x : api_Edge => decide (x.From < s)) (From_mono hs s) n h
  have hcl : (l.filter fun x => decide (x.From < s)).length ≤ l.length := List.length_filter_le _ _
  generalize (l.filter fun x => decide (x.From < s)).length = c at hc hcl
  have hb : l.length < 1000000000000 := hl
  unfold g_slices_BinarySearchFunc_int f_slices_BinarySearchFunc_int
  have hloop := iterF_rule (F := fun (k13 : Int × Int → Option Int) ((i11, j12) : Int × Int) => (if (i11 < j12) then ((getO l (IntKind.wrap .i64 (Int.fdiv (IntKind.wrap .u64 (IntKind.wrap .i64 (i11 + j12))) (2 ^ (min (Int.toNat 1) (IntKind.bits .u64)))))).bind fun x15 => ((cmp x15 s).bind fun x18 => (if (x18 < 0) then k13 ((IntKind.wrap .i64 ((IntKind.wrap .i64 (Int.fdiv (IntKind.wrap .u64 (IntKind.wrap .i64 (i11 + j12))) (2 ^ (min (Int.toNat 1) (IntKind.bits .u64))))) + 1)), j12) else k13 (i11, (IntKind.wrap .i64 (Int.fdiv (IntKind.wrap .u64 (IntKind.wrap .i64 (i11 + j12))) (2 ^ (min (Int.toNat 1) (IntKind.bits .u64))))))))) else some i11))
    (fun x => ∃ i j : Nat, x = ((i : Int), (j : Int)) ∧ i ≤ c ∧ c ≤ j ∧ j ≤ l.length) (fun x => (x.2 - x.1).toNat) (fun _ r => r = some (c : Int)) (by
      rintro k _ ⟨i, j, rfl, h1, h2, h3⟩ ih
      dsimp only
      by_cases hij : i < j
      · rw [if_pos (by omega), mid_ok (by omega) (by omega)]
        have hm : (i + j) / 2 < l.length := by omega
        rw [getO_nat hm]
        simp only [Option.bind_some]
        rw [hcmp _ (List.getElem_mem hm)]
        simp only [Option.bind_some]
        have hcm := hc ((i + j) / 2) hm
        by_cases hlt : l[(i + j) / 2].From < s
        · rw [if_pos (by omega), wrap_succ (by omega)]
          have : (i + j) / 2 < c := hcm.1 (by simpa using hlt)
          exact ih _ ⟨_, _, rfl, by omega, h2, h3⟩ (by simp only; omega)
        · rw [if_neg (by omega)]
          have : ¬ (i + j) / 2 < c := fun h => hlt (by simpa using hcm.2 h)
          exact ih _ ⟨_, _, rfl, h1, by omega, by omega⟩ (by simp only; omega)
      · rw [if_neg (by omega)]
        have : i = c := by omega
        rw [this]) fuel0 (0, (l.length : Int)) ⟨0, l.length, rfl, by omega, hcl, Nat.le_refl _⟩ (by unfold fuel0; simp only; omega)
  rw [hloop]
  simp only [Option.bind_some]
  by_cases hlt : c < l.length
  · rw [if_pos (by omega), getO_nat hlt]
    simp only [Option.bind_some]
    rw [hcmp _ (List.getElem_mem hlt)]
    exact ⟨_, rfl⟩
  · rw [if_neg (by omega)]
    exact ⟨_, rfl⟩
theorem out_parts : ∀ {l : List api_Edge} (s : Int), l.Pairwise keyLt → (l.take (l.filter fun x => decide (x.From < s + 1)).length).drop (l.filter fun x => decide (x.From < s)).length = l.filter fun x => x.From == s
  | [], s, _ => by simp
  | x :: xs, s, h => by
    obtain ⟨h1, h2⟩ := List.pairwise_cons.1 h
    have ih := out_parts s h2
    have hge : ∀ y ∈ xs, x.From ≤ y.From := fun y hy => by have := h1 y hy; unfold keyLt at this; omega
    by_cases hx : x.From < s
    · have e1 : decide (x.From < s) = true := by simpa using hx
      have e2 : decide (x.From < s + 1) = true := by simp; omega
      have e3 : (x.From == s) = false := by simp; omega
      simp only [List.filter_cons, e1, e2, e3, if_true, List.length_cons, List.take_succ_cons, List.drop_succ_cons, Bool.false_eq_true, if_false]
      exact ih
    · have hz : xs.filter (fun x => decide (x.From < s)) = [] := List.filter_eq_nil_iff.2 fun y hy => by have := hge y hy; simp; omega
      have e1 : decide (x.From < s) = false := by simpa using hx
      by_cases hq : x.From = s
      · have e2 : decide (x.From < s + 1) = true := by simp; omega
        have e3 : (x.From == s) = true := by simp [hq]
        simp only [List.filter_cons, e1, e2, e3, if_true, List.length_cons, List.take_succ_cons, Bool.false_eq_true, if_false, hz, List.length_nil, List.drop_zero]
        rw [hz, List.length_nil, List.drop_zero] at ih
        rw [ih]
      · have e2 : decide (x.From < s + 1) = false := by simp; omega
        have e3 : (x.From == s) = false := by simp [hq]
        have hz1 : xs.filter (fun x => decide (x.From < s + 1)) = [] := List.filter_eq_nil_iff.2 fun y hy => by have := hge y hy; simp; omega
        have hz2 : xs.filter (fun x => x.From == s) = [] := List.filter_eq_nil_iff.2 fun y hy => by have := hge y hy; simp; omega
        simp only [List.filter_cons, e1, e2, e3, Bool.false_eq_true, if_false, hz, hz1, hz2, List.length_nil, List.take_zero, List.drop_zero]
section
variable {a : api_Automaton} (h : Right a) (hs : small a)
include h hs
theorem out_ok {s : Int} (h0 : -1000000000000 < s) (h1 : s < 1000000000000) : g_automaton_out a s = some (outP a s) := by
  unfold g_automaton_out f_automaton_out
  have hst := h.st
  have hw : ∀ t : Int, -1000000000002 < t → t < 1000000000002 → ∀ x ∈ a.Edges, IntKind.wrap .i64 (x.From - t) = x.From - t := fun t k1 k2 x hx => by
    have := h.ed0 x hx; exact wrap_id (by omega) (by omega)
  have e1 : IntKind.wrap .i64 (s + 1) = s + 1 := wrap_id (by omega) (by omega)
  obtain ⟨b1, k1⟩ := bsf_ok (s := s) (cmp := g_automaton_out_1) (fun x hx => by unfold g_automaton_out_1 f_automaton_out_1; rw [hw s (by omega) (by omega) x hx]) h.ed hs.2.2
  obtain ⟨b2, k2⟩ := bsf_ok (s := s + 1) (cmp := g_automaton_out_2) (fun x hx => by unfold g_automaton_out_2 f_automaton_out_2; rw [hw (s + 1) (by omega) (by omega) x hx]) h.ed hs.2.2
  rw [k1, e1]
  simp only [Option.bind_some]
  rw [k2]
  simp only [Option.bind_some]
  have hle : (a.Edges.filter fun x => decide (x.From < s)).length ≤ (a.Edges.filter fun x => decide (x.From < s + 1)).length :=
    by rw [← List.countP_eq_length_filter, ← List.countP_eq_length_filter]; exact List.countP_mono_left fun x _ hx => by simp at hx ⊢; omega
  rw [slcO_nat hle (List.length_filter_le _ _), out_parts s h.ed]
  rfl
theorem next_ok {s e : Int} (h0 : -1000000000000 < s) (h1 : s < 1000000000000) : g_automaton_next a s e = some (stepP a s e) := by
  unfold g_automaton_next f_automaton_next
  rw [out_ok h hs h0 h1]
  simp only [Option.bind_some]
  have hl : (outP a s).length < big := Nat.lt_of_le_of_lt (List.length_filter_le _ _) hs.2.2
  have hf : stepP a s e = match (outP a s).find? (fun x => x.Event == e) with | some x => x.To | none => -1 := by
    unfold stepP outP; rw [List.find?_filter]
    have : (fun x : api_Edge => decide ((x.From == s) = true ∧ (x.Event == e) = true)) = fun x => x.From == s && x.Event == e := by
      funext x; rw [Bool.eq_iff_iff]; simp
    rw [this]
  rw [hf]
  generalize outP a s = l at hl
  have hi : g_slices_IndexFunc_Edge l (fun a6 => g_automaton_next_1 a6 e) = some (if ∃ x ∈ l, x.Event = e then (l.findIdx (fun x => x.Event == e) : Int) else -1) := by
    have hb : l.length < 1000000000000 := hl
    unfold g_slices_IndexFunc_Edge f_slices_IndexFunc_Edge
    refine (iterF_idx (len := l.length) (fun k => some (if ∃ x ∈ l.drop k, x.Event = e then ((k + (l.drop k).findIdx (fun x => x.Event == e) : Nat) : Int) else -1)) (by unfold fuel0; omega) ?_ ?_).trans (by simp)
    · intro k i hi ih
      rw [if_pos (by omega), getO_nat hi, wrap_succ (by omega), ih, List.drop_eq_getElem_cons hi]
      simp only [Option.bind_some, g_automaton_next_1, f_automaton_next_1, List.findIdx_cons]
      by_cases hx : l[i].Event = e
      · have hxb : (l[i].Event == e) = true := by simp [hx]
        have hz : ∃ x ∈ l[i] :: l.drop (i + 1), x.Event = e := ⟨l[i], List.mem_cons_self, hx⟩
        simp only [hxb, if_true, if_pos hz, cond_true]; rfl
      · have hxb : (l[i].Event == e) = false := by simp [hx]
        by_cases hy : ∃ x ∈ l.drop (i + 1), x.Event = e
        · have hz : ∃ x ∈ l[i] :: l.drop (i + 1), x.Event = e := by obtain ⟨x, k1, k2⟩ := hy; exact ⟨x, List.mem_cons_of_mem _ k1, k2⟩
          simp only [hxb, Bool.false_eq_true, if_false, if_pos hy, if_pos hz, cond_false]
          have : ∀ n : Nat, i + 1 + n = i + (n + 1) := fun n => by omega
          rw [this]
        · have hz : ¬ ∃ x ∈ l[i] :: l.drop (i + 1), x.Event = e := by
            rintro ⟨x, k1, k2⟩
            rcases List.mem_cons.1 k1 with rfl | k1
            · exact hx k2
            · exact hy ⟨x, k1, k2⟩
          simp only [hxb, Bool.false_eq_true, if_false, if_neg hy, if_neg hz, cond_false]
    · intro k; simp
  rw [hi]
  simp only [Option.bind_some]
  by_cases hx : ∃ x ∈ l, x.Event = e
  · rw [if_pos hx, if_neg (by omega)]
    have hlt : l.findIdx (fun x => x.Event == e) < l.length := by
      rw [List.findIdx_lt_length]; obtain ⟨x, k1, k2⟩ := hx; exact ⟨x, k1, by simp [k2]⟩
    rw [getO_nat hlt]
    simp only [Option.bind_some]
    rw [show l.find? (fun x => x.Event == e) = some l[l.findIdx (fun x => x.Event == e)] from by
      rw [List.find?_eq_some_iff_getElem]
      refine ⟨List.findIdx_getElem (w := hlt), _, hlt, rfl, fun j hj => ?_⟩
      have := List.not_of_lt_findIdx hj
      simpa using this]
  · rw [if_neg hx, if_pos (by omega)]
    rw [show l.find? (fun x => x.Event == e) = none from List.find?_eq_none.2 fun x hx' hy => hx ⟨x, hx', by simpa using hy⟩]
omit h in
theorem refStep_ok {s e : Int} : g_overseerref03_Step a s e = some (stepP a s e) := by
  have hb : a.Edges.length < 1000000000000 := hs.2.2
  unfold g_overseerref03_Step f_overseerref03_Step
  refine (iterF_idx (len := a.Edges.length) (fun k => some (match (a.Edges.drop k).find? (fun x => x.From == s && x.Event == e) with | some x => x.To | none => -1)) (by unfold fuel0; omega) ?_ ?_).trans (by simp [stepP])
  · intro k i hi ih
    rw [if_pos (by omega), getO_nat hi, wrap_succ (by omega), ih, List.drop_eq_getElem_cons hi]
    simp only [Option.bind_some, List.find?_cons]
    cases h1 : a.Edges[i].From == s <;> cases h2 : a.Edges[i].Event == e <;> simp [h1, h2]
  · intro k; simp
end
theorem stepP_range {a : api_Automaton} (h : Right a) (s e : Int) : stepP a s e = -1 ∨ 0 ≤ stepP a s e ∧ stepP a s e < a.States ∧ 0 ≤ s ∧ s < a.States ∧ e ∈ a.Alphabet := by
  unfold stepP
  split
  · rename_i x hx
    have hm := List.mem_of_find?_eq_some hx
    have hp := List.find?_some hx
    obtain ⟨k1, k2, k3, k4, k5⟩ := h.ed0 x hm
    simp at hp
    exact .inr ⟨k3, k4, by omega, by omega, hp.2 ▸ k5⟩
  · exact .inl rfl
theorem stepP_nonneg {a : api_Automaton} (h : Right a) {s e : Int} : 0 ≤ stepP a s e ↔ ∃ x ∈ outP a s, x.Event = e := by
  unfold stepP outP
  split
  · rename_i x hx
    have hm := List.mem_of_find?_eq_some hx
    have hp := List.find?_some hx
    simp at hp
    refine ⟨fun _ => ⟨x, by simp [hm, hp.1], hp.2⟩, fun _ => (h.ed0 x hm).2.2.1⟩
  · rename_i hx
    have := List.find?_eq_none.1 hx
    refine ⟨fun h => by omega, ?_⟩
    rintro ⟨x, h1, h2⟩
    simp at h1
    exact absurd (by simp [h1.2, h2]) (this x h1.1)
theorem outP_events {a : api_Automaton} (h : Right a) (s : Int) : (outP a s).map (·.Event) = a.Alphabet.filter fun e => decide (0 ≤ stepP a s e) := by
  refine sorted_ext ?_ (h.al.filter _) fun e => ?_
  · rw [List.pairwise_map]
    have h1 : (outP a s).Pairwise keyLt := h.ed.filter _
    have h2 : ∀ x ∈ outP a s, x.From = s := fun x hx => by unfold outP at hx; simp at hx; exact hx.2
    exact List.Pairwise.imp_of_mem (fun {x y} hx hy hk => by have := h2 x hx; have := h2 y hy; unfold keyLt at hk; omega) h1
  · simp only [List.mem_map, List.mem_filter, decide_eq_true_eq, stepP_nonneg h]
    constructor
    · rintro ⟨x, hx, rfl⟩
      refine ⟨?_, x, hx, rfl⟩
      unfold outP at hx; simp at hx; exact (h.ed0 x hx.1).2.2.2.2
    · rintro ⟨_, x, hx, rfl⟩; exact ⟨x, hx, rfl⟩
theorem outP_step {a : api_Automaton} (h : Right a) {s : Int} {x : api_Edge} (hx : x ∈ outP a s) : stepP a s x.Event = x.To := by
  unfold outP at hx
  simp at hx
  unfold stepP
  split
  · rename_i y hy
    have hm := List.mem_of_find?_eq_some hy
    have hp := List.find?_some hy
    simp at hp
    have : x = y := by
      rcases Classical.em (x = y) with e | hne
      · exact e
      · exfalso
        have hk : keyLt x y ∨ keyLt y x := by
          have := List.pairwise_iff_getElem.1 h.ed
          obtain ⟨i, hi, rfl⟩ := List.getElem_of_mem hx.1
          obtain ⟨j, hj, rfl⟩ := List.getElem_of_mem hm
          rcases Nat.lt_trichotomy i j with hij | hij | hij
          · exact .inl (this i j hi hj hij)
          · subst hij; exact absurd rfl hne
          · exact .inr (this j i hj hi hij)
        unfold keyLt at hk; omega
    rw [this]
  · rename_i hn
    exact absurd (by simp [hx.2]) (List.find?_eq_none.1 hn x hx.1)
end Go.Abs
end
section
namespace Go.Abs
open Go
set_option linter.unusedSimpArgs false
set_option linter.unusedVariables false
theorem Right.small {a : api_Automaton} (h : Right a) : small a ∧ a.Alphabet.length ≤ 32 ∧ a.Marked.length ≤ 4096 ∧ a.Edges.length ≤ 131072 := by
  have h1 := sorted_len h.al h.al0
  have h2 := sorted_len h.ma h.ma0
  have h3 : (a.Edges.map fun x => x.From * 32 + x.Event).Pairwise (· < ·) := by
    rw [List.pairwise_map]
    refine List.Pairwise.imp_of_mem (fun {x y} hx hy hk => ?_) h.ed
    have := h.al0 _ (h.ed0 x hx).2.2.2.2
    have := h.al0 _ (h.ed0 y hy).2.2.2.2
    unfold keyLt at hk; omega
  have h4 := sorted_len (a := 0) (b := 131072) h3 (by
    intro z hz
    obtain ⟨x, hx, rfl⟩ := List.mem_map.1 hz
    have := h.al0 _ (h.ed0 x hx).2.2.2.2
    have := h.ed0 x hx
    have := h.st
    omega)
  rw [List.length_map] at h4
  have := h.st
  refine ⟨⟨?_, ?_, ?_⟩, ?_, ?_, ?_⟩ <;> (try unfold big) <;> omega
theorem check_right {a : api_Automaton} (h : Right a) : g_automaton_Check a = some 0 := by rw [check_ok h.small.1, right_iff.2 h]
end Go.Abs
end
section
namespace Go.Abs
open Go
set_option linter.unusedSimpArgs false
set_option linter.unusedVariables false
def ins (o : List Int) (t : Int) : List Int := if t ∈ o then o else o ++ [t]
def succP (a : api_Automaton) (s : Int) : List Int := (outP a s).map (·.To)
def bfs (a : api_Automaton) : Nat → Nat → List Int → List Int
  | 0, _, o => o
  | fuel + 1, i, o => match o[i]? with
    | some s => bfs a fuel (i + 1) ((succP a s).foldl ins o)
    | none => o
def foundP (a : api_Automaton) : List Int := bfs a (a.States.toNat + 1) 0 (if 0 < a.States then [0] else [])
structure Fnd (a : api_Automaton) (o : List Int) : Prop where
  nd : o.Nodup
  rg : ∀ s ∈ o, 0 ≤ s ∧ s < a.States
theorem Fnd.len {a : api_Automaton} {o : List Int} (h : Fnd a o) : o.length ≤ a.States.toNat := by
  have hO : Go.Sort.SWO ltInt' := ⟨fun x => by simp [ltInt'], fun x y z h1 h2 => by simp [ltInt'] at *; omega, fun x y z h1 h2 => by simp [ltInt'] at *; omega⟩
  have hp := isortB_perm ltInt' o
  have hs := isortB_sorted hO o
  have hn : (isortB ltInt' o).Nodup := (hp.nodup_iff).2 h.nd
  have hlt : (isortB ltInt' o).Pairwise (· < ·) := by
    have : (isortB ltInt' o).Pairwise fun x y => ltInt' y x = false ∧ x ≠ y := hs.and hn
    exact this.imp fun ⟨h1, h2⟩ => by simp [ltInt'] at h1; omega
  have := sorted_len hlt (a := 0) (b := a.States) fun x hx => h.rg x (hp.mem_iff.1 hx)
  rw [isortB_length] at this
  simpa using this
theorem mem_ins {o : List Int} {t x : Int} : x ∈ ins o t ↔ x ∈ o ∨ x = t := by
  unfold ins; split
  · rename_i h; constructor
    · exact .inl
    · rintro (h' | rfl)
      · exact h'
      · exact h
  · simp
theorem pre_ins (o : List Int) (t : Int) : o <+: ins o t := by
  unfold ins; split
  · exact List.prefix_refl o
  · exact List.prefix_append o [t]
theorem Fnd.ins {a : api_Automaton} {o : List Int} (h : Fnd a o) {t : Int} (ht : 0 ≤ t ∧ t < a.States) : Fnd a (ins o t) := by
  refine ⟨?_, fun s hs => ?_⟩
  · unfold Go.Abs.ins; split
    · exact h.nd
    · rename_i hn
      rw [List.nodup_append]
      exact ⟨h.nd, by simp, fun x hx y hy => by simp at hy; subst hy; exact fun e => hn (e ▸ hx)⟩
  · rcases mem_ins.1 hs with hs | rfl
    · exact h.rg s hs
    · exact ht
theorem foldl_ins {a : api_Automaton} : ∀ {ts o : List Int}, Fnd a o → (∀ t ∈ ts, 0 ≤ t ∧ t < a.States) → Fnd a (ts.foldl ins o) ∧ o <+: ts.foldl ins o ∧ (∀ t ∈ ts, t ∈ ts.foldl ins o) ∧ ∀ x ∈ ts.foldl ins o, x ∈ o ∨ x ∈ ts
  | [], o, h, _ => ⟨h, List.prefix_refl o, by simp, fun x hx => .inl hx⟩
  | t :: ts, o, h, ht => by
    obtain ⟨h1, h2, h3, h4⟩ := foldl_ins (ts := ts) (h.ins (ht t (by simp))) fun t ht' => ht t (by simp [ht'])
    refine ⟨h1, (pre_ins o t).trans h2, fun x hx => ?_, fun x hx => ?_⟩
    · rcases List.mem_cons.1 hx with rfl | hx
      · exact h2.subset (mem_ins.2 (.inr rfl))
      · exact h3 x hx
    · rcases h4 x hx with h5 | h5
      · rcases mem_ins.1 h5 with h6 | rfl
        · exact .inl h6
        · exact .inr (by simp)
      · exact .inr (by simp [h5])
theorem succP_range {a : api_Automaton} (h : Right a) (s : Int) : ∀ t ∈ succP a s, 0 ≤ t ∧ t < a.States := by
  intro t ht
  unfold succP outP at ht
  obtain ⟨x, hx, rfl⟩ := List.mem_map.1 ht
  have := h.ed0 x ((List.mem_filter.1 hx).1)
  omega
theorem prefix_get {α : Type} {l m : List α} (h : l <+: m) {i : Nat} {x : α} (hx : l[i]? = some x) : m[i]? = some x := by
  obtain ⟨t, rfl⟩ := h
  have := (List.getElem?_eq_some_iff.1 hx).1
  rw [List.getElem?_append_left this]; exact hx
theorem bfs_spec {a : api_Automaton} (h : Right a) : ∀ (fuel i : Nat) (o : List Int), Fnd a o → i ≤ o.length → a.States.toNat + 1 ≤ fuel + i → (∀ j s, j < i → o[j]? = some s → ∀ t ∈ succP a s, t ∈ o) →
    Fnd a (bfs a fuel i o) ∧ o <+: bfs a fuel i o ∧ ∀ s ∈ bfs a fuel i o, ∀ t ∈ succP a s, t ∈ bfs a fuel i o
  | 0, i, o, hf, hi, hfu, _ => by have := hf.len; omega
  | fuel + 1, i, o, hf, hi, hfu, hc => by
    unfold bfs
    cases hg : o[i]? with
    | none =>
      dsimp only
      refine ⟨hf, List.prefix_refl o, fun s hs t ht => ?_⟩
      obtain ⟨j, hj⟩ := List.getElem?_of_mem hs
      have hlt := (List.getElem?_eq_some_iff.1 hj).1
      exact hc j s (by have := List.getElem?_eq_none_iff.1 hg; omega) hj t ht
    | some s =>
      dsimp only
      obtain ⟨h1, h2, h3, _⟩ := foldl_ins hf (succP_range h s)
      have hlen : i < o.length := (List.getElem?_eq_some_iff.1 hg).1
      have hle := h2.length_le
      obtain ⟨k1, k2, k3⟩ := bfs_spec h fuel (i + 1) ((succP a s).foldl ins o) h1 (by omega) (by omega) (fun j s' hj hs' t ht => by
        by_cases hji : j < i
        · have hjl : j < o.length := by omega
          have : o[j]? = some s' := by
            have := prefix_get h2 (List.getElem?_eq_getElem hjl)
            rw [hs'] at this; rw [List.getElem?_eq_getElem hjl]; exact this.symm
          exact h2.subset (hc j s' hji this t ht)
        · obtain rfl : j = i := by omega
          have := prefix_get h2 hg
          rw [hs'] at this; cases this
          exact h3 t ht)
      exact ⟨k1, h2.trans k2, k3⟩
theorem found_spec {a : api_Automaton} (h : Right a) : Fnd a (foundP a) ∧ (if 0 < a.States then [0] else []) <+: foundP a ∧ ∀ s ∈ foundP a, ∀ t ∈ succP a s, t ∈ foundP a :=
  bfs_spec h _ 0 _ ⟨by split <;> simp, fun s hs => by split at hs <;> simp at hs; subst hs; omega⟩ (Nat.zero_le _) (by omega) fun j s hj => by omega
def marksP (m : List Int) : Nat → List Int → List Int
  | _, [] => []
  | i, s :: t => (if s ∈ m then [(i : Int)] else []) ++ marksP m (i + 1) t
def rowP (a : api_Automaton) (F : List Int) (i : Nat) (s : Int) : List api_Edge := (outP a s).map fun x => ⟨(i : Int), x.Event, (F.idxOf x.To : Int)⟩
def edgesP (a : api_Automaton) (F : List Int) : Nat → List Int → List api_Edge
  | _, [] => []
  | i, s :: t => rowP a F i s ++ edgesP a F (i + 1) t
def canonP (a : api_Automaton) : api_Automaton := ⟨a.Alphabet, ((foundP a).length : Int), marksP a.Marked 0 (foundP a), edgesP a (foundP a) 0 (foundP a)⟩
theorem marksP_range {m : List Int} : ∀ {l : List Int} {i : Nat}, ∀ x ∈ marksP m i l, (i : Int) ≤ x ∧ x < (i + l.length : Nat)
  | [], i, x, hx => by simp [marksP] at hx
  | s :: t, i, x, hx => by
    simp only [marksP, List.mem_append] at hx
    rcases hx with hx | hx
    · split at hx <;> simp at hx
      subst hx; simp only [List.length_cons]; omega
    · have := marksP_range x hx; simp only [List.length_cons]; omega
theorem marksP_sorted {m : List Int} : ∀ {l : List Int} {i : Nat}, (marksP m i l).Pairwise (· < ·)
  | [], i => .nil
  | s :: t, i => by
    simp only [marksP]
    rw [List.pairwise_append]
    refine ⟨by split <;> simp, marksP_sorted, fun x hx y hy => ?_⟩
    have := marksP_range y hy
    split at hx <;> simp at hx
    omega
theorem edgesP_from {a : api_Automaton} {F : List Int} : ∀ {l : List Int} {i : Nat}, ∀ x ∈ edgesP a F i l, (i : Int) ≤ x.From ∧ x.From < (i + l.length : Nat) ∧ ∃ s ∈ l, ∃ y ∈ outP a s, x.Event = y.Event ∧ x.To = (F.idxOf y.To : Int)
  | [], i, x, hx => by simp [edgesP] at hx
  | s :: t, i, x, hx => by
    simp only [edgesP, List.mem_append] at hx
    rcases hx with hx | hx
    · obtain ⟨y, hy, rfl⟩ := List.mem_map.1 hx
      simp only [List.length_cons]
      exact ⟨by omega, by omega, s, by simp, y, hy, rfl, rfl⟩
    · obtain ⟨h1, h2, s', h3, h4⟩ := edgesP_from x hx
      simp only [List.length_cons]
      exact ⟨by omega, by omega, s', by simp [h3], h4⟩
theorem edgesP_sorted {a : api_Automaton} (h : Right a) {F : List Int} : ∀ {l : List Int} {i : Nat}, (edgesP a F i l).Pairwise keyLt
  | [], i => .nil
  | s :: t, i => by
    simp only [edgesP]
    rw [List.pairwise_append]
    refine ⟨?_, edgesP_sorted h, fun x hx y hy => ?_⟩
    · unfold rowP
      rw [List.pairwise_map]
      have h1 : (outP a s).Pairwise keyLt := h.ed.filter _
      have h2 : ∀ x ∈ outP a s, x.From = s := fun x hx => by unfold outP at hx; simp at hx; exact hx.2
      exact List.Pairwise.imp_of_mem (fun {x y} hx hy hk => by have := h2 x hx; have := h2 y hy; unfold keyLt at hk; exact .inr ⟨rfl, by show x.Event < y.Event; omega⟩) h1
    · obtain ⟨z, _, rfl⟩ := List.mem_map.1 hx
      have := (edgesP_from y hy).1
      unfold keyLt; simp only; omega
theorem canonP_right {a : api_Automaton} (h : Right a) : Right (canonP a) := by
  obtain ⟨h1, h2, h3⟩ := found_spec h
  have hl := h1.len
  have hst := h.st
  refine ⟨h.al0, h.al, ⟨by simp only [canonP]; omega, by simp only [canonP]; omega⟩, fun x hx => ?_, marksP_sorted, fun x hx => ?_, edgesP_sorted h⟩
  · have := marksP_range x hx; simp only [canonP]; omega
  · obtain ⟨k1, k2, s, hs, y, hy, k3, k4⟩ := edgesP_from x hx
    have hy' : y.To ∈ foundP a := h3 s hs y.To (List.mem_map.2 ⟨y, hy, rfl⟩)
    have := List.idxOf_lt_length_iff.2 hy'
    simp only [canonP]
    refine ⟨by omega, by omega, by omega, by omega, ?_⟩
    rw [k3]
    unfold outP at hy
    exact (h.ed0 y ((List.mem_filter.1 hy).1)).2.2.2.2
end Go.Abs
end
section
namespace Go.Abs
open Go
set_option linter.unusedSimpArgs false
set_option linter.unusedVariables false
theorem empty_ok {l : List Int} (hl : l.length ≤ lim) : g_overseerref03_Empty l = some ⟨l, 0, [], []⟩ := by
  unfold g_overseerref03_Empty f_overseerref03_Empty
  rw [appO_some (by simpa using hl)]; rfl
theorem refIndex_ok {l : List Int} {v : Int} (hl : l.length < big) : g_overseerref03_index l v = some (if v ∈ l then (l.idxOf v : Int) else -1) := by
  have hb : l.length < 1000000000000 := hl
  unfold g_overseerref03_index f_overseerref03_index
  refine (iterF_idx (len := l.length) (fun k => some (if v ∈ l.drop k then ((k + (l.drop k).idxOf v : Nat) : Int) else -1)) (by unfold fuel0; omega) ?_ ?_).trans (by simp)
  · intro k i hi ih
    rw [if_pos (by omega), getO_nat hi, wrap_succ (by omega), ih, List.drop_eq_getElem_cons hi]
    simp only [Option.bind_some, List.mem_cons, List.idxOf_cons]
    by_cases h : v = l[i]
    · simp [← h]
    · have h' : ¬ l[i] = v := fun e => h e.symm
      have hbq : (l[i] == v) = false := by simp [h']
      by_cases h2 : v ∈ l.drop (i + 1) <;> simp [h, h2, hbq]
      omega
  · intro k; simp
theorem succP_events {a : api_Automaton} (h : Right a) (s : Int) : succP a s = (a.Alphabet.filter fun e => decide (0 ≤ stepP a s e)).map (stepP a s) := by
  rw [← outP_events h, List.map_map]
  unfold succP
  exact List.map_congr_left fun x hx => (outP_step h hx).symm
theorem foldl_skip {a : api_Automaton} (s : Int) : ∀ (al o : List Int), al.foldl (fun o e => if 0 ≤ stepP a s e then ins o (stepP a s e) else o) o = ((al.filter fun e => decide (0 ≤ stepP a s e)).map (stepP a s)).foldl ins o
  | [], o => rfl
  | e :: al, o => by
    by_cases hx : 0 ≤ stepP a s e <;> simp [List.filter_cons, hx, foldl_skip s al]
theorem bfs_succ {a : api_Automaton} {fuel i : Nat} {o : List Int} (hi : i < o.length) : bfs a (fuel + 1) i o = bfs a fuel (i + 1) ((succP a o[i]).foldl ins o) := by
  conv => lhs; unfold bfs
  rw [List.getElem?_eq_getElem hi]
theorem bfs_end {a : api_Automaton} {fuel : Nat} {o : List Int} : bfs a fuel o.length o = o := by
  cases fuel with
  | zero => rfl
  | succ n => unfold bfs; simp
section
variable {a : api_Automaton} (h : Right a)
include h
theorem found_loop (fuel : Nat) (hfu : 1099511627776 ≤ fuel) {s : Int} {o : List Int} {i : Nat} (hf : Fnd a o) (hi : o[i]? = some s) :
    iterF (fun k12 ((out10, k11) : (List Int) × Int) => (if (k11 < (a.Alphabet.length : Int)) then ((((getO out10 (i : Int)).bind fun x14 => ((getO a.Alphabet k11).bind fun x16 => ((g_overseerref03_Step a x14 x16).bind fun x19 => (((if (x19 ≥ 0) then ((g_overseerref03_has out10 x19).bind fun x22 => some (!x22)) else some false)).bind fun (x23 : Bool) => (if x23 then ((appO out10 [x19]).bind fun x25 => some x25) else some out10)))))).bind fun (out27 : List Int) => k12 (out27, (IntKind.wrap .i64 (k11 + 1)))) else some out10)) fuel (o, 0) = some ((succP a s).foldl ins o) := by
  have hs := h.small.1
  have hst := h.st
  have hb : a.Alphabet.length < 1000000000000 := hs.1
  rw [succP_events h, ← foldl_skip]
  refine (iterF_inv (len := a.Alphabet.length) (fun n (acc : List Int) => (acc, (n : Int))) (fun n acc => Fnd a acc ∧ acc[i]? = some s) (fun n acc => some ((a.Alphabet.drop n).foldl (fun o e => if 0 ≤ stepP a s e then ins o (stepP a s e) else o) acc)) ?_ ?_ fuel 0 o (Nat.zero_le _) (by omega) ⟨hf, hi⟩).trans (by simp)
  · intro k n acc hn ⟨k1, k2⟩ ih
    have hlen := k1.len
    have hg : getO acc (i : Int) = some s := by rw [getO_some]; exact ⟨by omega, by simpa using k2⟩
    dsimp only
    rw [if_pos (by omega), hg, getO_nat hn]
    simp only [Option.bind_some]
    rw [refStep_ok hs, wrap_succ (by omega)]
    simp only [Option.bind_some]
    rw [has_ok (by unfold big; omega), List.drop_eq_getElem_cons hn, List.foldl_cons]
    rcases stepP_range h s a.Alphabet[n] with hr | hr
    · rw [hr]; simp only [show ¬ ((-1 : Int) ≥ 0) from by omega, show ¬ ((0 : Int) ≤ -1) from by omega, if_false, Option.bind_some, Bool.false_eq_true]
      exact ih _ ⟨k1, k2⟩
    · have hge : stepP a s a.Alphabet[n] ≥ 0 := hr.1
      by_cases hm : stepP a s a.Alphabet[n] ∈ acc
      · simp only [hge, hm, decide_true, Bool.not_true, if_true, Option.bind_some, Bool.false_eq_true, if_false, hr.1, ins]
        exact ih _ ⟨k1, k2⟩
      · simp only [hge, hm, decide_false, Bool.not_false, if_true, Option.bind_some, hr.1, ins, if_false]
        rw [appO_some (by simp only [List.length_cons, List.length_nil]; unfold lim; omega)]
        simp only [Option.bind_some]
        have hi' := k1.ins (t := stepP a s a.Alphabet[n]) ⟨hr.1, hr.2.1⟩
        unfold ins at hi'
        rw [if_neg hm] at hi'
        exact ih _ ⟨hi', prefix_get (List.prefix_append acc _) k2⟩
  · intro k acc _
    dsimp only
    rw [if_neg (by omega)]; simp
theorem refFound_ok : g_overseerref03_Found a = some (foundP a) := by
  have hs := h.small.1
  have hst := h.st
  unfold g_overseerref03_Found f_overseerref03_Found
  obtain ⟨fuel, hfu, hge⟩ : ∃ f, fuel0 = f ∧ 1099511627776 ≤ f := ⟨_, rfl, Nat.le_refl _⟩
  rw [hfu]
  have hloop : ∀ o : List Int, Fnd a o → iterF (fun (k8 : List Int × Int → Option (List Int)) ((out6, i7) : (List Int) × Int) => (if (i7 < (out6.length : Int)) then ((iterF (fun k12 ((out10, k11) : (List Int) × Int) => (if (k11 < (a.Alphabet.length : Int)) then ((((getO out10 i7).bind fun x14 => ((getO a.Alphabet k11).bind fun x16 => ((g_overseerref03_Step a x14 x16).bind fun x19 => (((if (x19 ≥ 0) then ((g_overseerref03_has out10 x19).bind fun x22 => some (!x22)) else some false)).bind fun (x23 : Bool) => (if x23 then ((appO out10 [x19]).bind fun x25 => some x25) else some out10)))))).bind fun (out27 : List Int) => k12 (out27, (IntKind.wrap .i64 (k11 + 1)))) else some out10)) fuel (out6, 0)).bind fun (out28 : List Int) => k8 (out28, (IntKind.wrap .i64 (i7 + 1)))) else some out6)) fuel (o, 0) = some (bfs a (a.States.toNat + 1) 0 o) := by
    intro o ho
    have := iterF_rule (F := fun (k8 : List Int × Int → Option (List Int)) ((out6, i7) : (List Int) × Int) => (if (i7 < (out6.length : Int)) then ((iterF (fun k12 ((out10, k11) : (List Int) × Int) => (if (k11 < (a.Alphabet.length : Int)) then ((((getO out10 i7).bind fun x14 => ((getO a.Alphabet k11).bind fun x16 => ((g_overseerref03_Step a x14 x16).bind fun x19 => (((if (x19 ≥ 0) then ((g_overseerref03_has out10 x19).bind fun x22 => some (!x22)) else some false)).bind fun (x23 : Bool) => (if x23 then ((appO out10 [x19]).bind fun x25 => some x25) else some out10)))))).bind fun (out27 : List Int) => k12 (out27, (IntKind.wrap .i64 (k11 + 1)))) else some out10)) fuel (out6, 0)).bind fun (out28 : List Int) => k8 (out28, (IntKind.wrap .i64 (i7 + 1)))) else some out6))
      (fun x => ∃ i : Nat, x.2 = (i : Int) ∧ i ≤ x.1.length ∧ Fnd a x.1) (fun x => a.States.toNat + 1 - x.2.toNat) (fun x r => r = some (bfs a (a.States.toNat + 1 - x.2.toNat) x.2.toNat x.1)) (by
        rintro k ⟨o, i⟩ ⟨i, rfl, hi, hf⟩ ih
        replace hi : i ≤ o.length := hi
        replace hf : Fnd a o := hf
        have hl := hf.len
        dsimp only
        by_cases hlt : i < o.length
        · rw [if_pos (by omega), found_loop h fuel hge hf (List.getElem?_eq_getElem hlt), Option.bind_some, wrap_succ (by omega)]
          obtain ⟨q1, q2, _, _⟩ := foldl_ins hf (succP_range h o[i])
          have hle := q2.length_le
          rw [ih _ ⟨i + 1, rfl, by simp only; omega, q1⟩ (by simp only; omega)]
          simp only [Int.toNat_natCast]
          rw [show a.States.toNat + 1 - i = (a.States.toNat + 1 - (i + 1)) + 1 from by omega, bfs_succ hlt]
        · rw [if_neg (by omega)]
          obtain rfl : i = o.length := by omega
          simp only [Int.toNat_natCast, bfs_end]) fuel (o, 0) ⟨0, rfl, Nat.zero_le _, ho⟩ (by simp only; omega)
    simpa using this
  by_cases h0 : 0 < a.States
  · rw [if_pos (by omega), appO_some (by simp only [List.length_cons, List.length_nil]; unfold lim; omega)]
    simp only [Option.bind_some]
    rw [show ([] ++ [0] : List Int) = [0] from rfl, hloop [0] ⟨by simp, fun s hs => by simp at hs; subst hs; omega⟩]
    simp only [Option.bind_some, foundP, if_pos h0]
  · rw [if_neg (by omega)]
    simp only [Option.bind_some]
    rw [hloop [] ⟨by simp, fun s hs => by simp at hs⟩]
    simp only [Option.bind_some, foundP, if_neg h0]
theorem edges_loop (fuel : Nat) (hfu : 1099511627776 ≤ fuel) {F : List Int} (hF : Fnd a F) (hcl : ∀ s ∈ F, ∀ t ∈ succP a s, t ∈ F) {s : Int} {i : Nat} (hi : F[i]? = some s) (ms : List Int) (es : List api_Edge) (hes : es.length ≤ 200000) :
    iterF (fun (k24 : Int × List api_Edge → Option (List Int × List api_Edge)) ((k22, out23) : Int × (List api_Edge)) => (if (k22 < (a.Alphabet.length : Int)) then ((((getO F (i : Int)).bind fun x26 => ((getO a.Alphabet k22).bind fun x28 => ((g_overseerref03_Step a x26 x28).bind fun x31 => (if (x31 ≥ 0) then ((getO a.Alphabet k22).bind fun x33 => ((g_overseerref03_index F x31).bind fun x36 => ((appO out23 [(api_Edge.mk (i : Int) x33 x36)]).bind fun x37 => some x37))) else some out23))))).bind fun (out39 : List api_Edge) => k24 ((IntKind.wrap .i64 (k22 + 1)), out39)) else some (ms, out23))) fuel (0, es) = some (ms, es ++ rowP a F i s) := by
  have hs := h.small.1
  have hst := h.st
  have hal := h.small.2.1
  have hb : a.Alphabet.length < 1000000000000 := hs.1
  have hFl := hF.len
  have hrow : rowP a F i s = (a.Alphabet.filter fun e => decide (0 ≤ stepP a s e)).map fun e => ⟨(i : Int), e, (F.idxOf (stepP a s e) : Int)⟩ := by
    rw [← outP_events h, List.map_map]
    unfold rowP
    exact List.map_congr_left fun x hx => by simp only [Function.comp]; rw [outP_step h hx]
  rw [hrow]
  refine (iterF_inv (len := a.Alphabet.length) (fun n (acc : List api_Edge) => ((n : Int), acc)) (fun n acc => acc.length ≤ 200000 + n) (fun n acc => some (ms, acc ++ ((a.Alphabet.drop n).filter fun e => decide (0 ≤ stepP a s e)).map fun e => ⟨(i : Int), e, (F.idxOf (stepP a s e) : Int)⟩)) ?_ ?_ fuel 0 es (Nat.zero_le _) (by omega) (by omega)).trans (by simp)
  · intro k n acc hn k1 ih
    have hg : getO F (i : Int) = some s := by rw [getO_some]; exact ⟨by omega, by simpa using hi⟩
    dsimp only
    rw [if_pos (by omega), hg, getO_nat hn]
    simp only [Option.bind_some]
    rw [refStep_ok hs, wrap_succ (by omega)]
    simp only [Option.bind_some]
    rw [List.drop_eq_getElem_cons hn, List.filter_cons]
    by_cases hr : 0 ≤ stepP a s a.Alphabet[n]
    · have hm : stepP a s a.Alphabet[n] ∈ F := hcl s (List.mem_of_getElem? hi) _ (by rw [succP_events h]; exact List.mem_map.2 ⟨_, List.mem_filter.2 ⟨List.getElem_mem hn, by simpa using hr⟩, rfl⟩)
      rw [if_pos hr, refIndex_ok (by unfold big; omega), if_pos hm]
      simp only [Option.bind_some]
      rw [appO_some (by simp only [List.length_cons, List.length_nil]; unfold lim; omega)]
      simp only [Option.bind_some]
      rw [ih _ (by simp only [List.length_append, List.length_cons, List.length_nil]; omega)]
      simp only [hr, decide_true, if_true, List.map_cons, List.append_assoc, List.cons_append, List.nil_append]
    · rw [if_neg (by omega)]
      simp only [Option.bind_some]
      rw [ih _ (by omega)]
      simp only [hr, decide_false, Bool.false_eq_true, if_false]
  · intro k acc _
    dsimp only
    rw [if_neg (by omega)]; simp
theorem rowP_len {F : List Int} {i : Nat} {s : Int} : (rowP a F i s).length ≤ 32 := by
  have := h.small.2.1
  have h1 : (rowP a F i s).length = ((outP a s).map (·.Event)).length := by simp [rowP]
  rw [h1, outP_events h]
  exact Nat.le_trans (List.length_filter_le _ _) this
theorem refCanonical_ok : g_overseerref03_Canonical a = some (canonP a) := by
  have hs := h.small.1
  have hst := h.st
  have hal := h.small.2.1
  have hb : a.Alphabet.length < 1000000000000 := hs.1
  obtain ⟨hF, _, hcl⟩ := found_spec h
  have hFl := hF.len
  unfold g_overseerref03_Canonical f_overseerref03_Canonical
  obtain ⟨fuel, hfu, hge⟩ : ∃ f, fuel0 = f ∧ 1099511627776 ≤ f := ⟨_, rfl, Nat.le_refl _⟩
  rw [hfu, refFound_ok h, Option.bind_some, empty_ok (by unfold lim; omega), Option.bind_some]
  unfold canonP
  generalize foundP a = F at hF hcl hFl
  show Option.bind (iterF _ fuel (((0 : Nat) : Int), [], [], [], [], [])) _ = _
  rw [iterF_inv (len := F.length) (R := List Int × List Int × List api_Edge × List Int × List api_Edge) (fun n (acc : List Int × List api_Edge) => ((n : Int), ([] : List Int), ([] : List Int), ([] : List api_Edge), acc.1, acc.2)) (fun n acc => acc.1.length ≤ n ∧ acc.2.length ≤ 32 * n)
    (fun n acc => some (([] : List Int), ([] : List Int), ([] : List api_Edge), acc.1 ++ marksP a.Marked n (F.drop n), acc.2 ++ edgesP a F n (F.drop n))) ?_ ?_ fuel 0 ([], []) (Nat.zero_le _) (by omega) ⟨Nat.zero_le _, Nat.zero_le _⟩]
  · simp
  · rintro k n ⟨ms, es⟩ hn ⟨k1, k2⟩ ih
    replace k1 : ms.length ≤ n := k1
    replace k2 : es.length ≤ 32 * n := k2
    have hg := List.getElem?_eq_getElem hn
    dsimp only
    rw [if_pos (by omega), getO_nat hn]
    simp only [Option.bind_some]
    rw [has_ok hs.2.1]
    simp only [Option.bind_some]
    have hrl := rowP_len h (F := F) (i := n) (s := F[n])
    rw [List.drop_eq_getElem_cons hn]
    simp only [marksP, edgesP]
    by_cases hm : F[n] ∈ a.Marked
    · simp only [hm, decide_true, if_true]
      rw [appO_some (by simp only [List.length_cons, List.length_nil]; unfold lim; omega)]
      simp only [Option.bind_some]
      have := edges_loop h fuel hge hF hcl hg (ms ++ [(n : Int)]) es (by omega)
      rw [getO_nat hn] at this
      simp only [Option.bind_some] at this
      rw [this]
      simp only [Option.bind_some]
      rw [wrap_succ (by omega), ih (ms ++ [(n : Int)], es ++ rowP a F n F[n]) ⟨by simp only [List.length_append, List.length_cons, List.length_nil]; omega, by simp only [List.length_append]; omega⟩]
      simp only [List.append_assoc]
    · simp only [hm, decide_false, Bool.false_eq_true, if_false, Option.bind_some]
      have := edges_loop h fuel hge hF hcl hg ms es (by omega)
      rw [getO_nat hn] at this
      simp only [Option.bind_some] at this
      rw [this]
      simp only [Option.bind_some]
      rw [wrap_succ (by omega), ih (ms, es ++ rowP a F n F[n]) ⟨by simp only; omega, by simp only [List.length_append]; omega⟩]
      simp only [List.append_assoc, List.nil_append]
  · rintro k ⟨ms, es⟩ _
    dsimp only
    rw [if_neg (by omega)]
    simp [marksP, edgesP]
end
end Go.Abs
end
section
namespace Go.Abs
open Go
set_option linter.unusedSimpArgs false
set_option linter.unusedVariables false
structure Evs (l : List Int) : Prop where
  rg : ∀ x ∈ l, 0 ≤ x ∧ x < 5
  so : l.Pairwise (· < ·)
theorem Evs.len {l : List Int} (h : Evs l) : l.length ≤ 5 := by have := sorted_len h.so h.rg; simpa using this
def riseB : List Int → Bool
  | [] => true
  | x :: xs => xs.all (fun y => decide (x < y)) && riseB xs
theorem riseB_iff : ∀ {l : List Int}, riseB l = true → l.Pairwise (· < ·)
  | [], _ => .nil
  | x :: xs, h => by
    simp only [riseB, Bool.and_eq_true, List.all_eq_true, decide_eq_true_eq] at h
    exact List.pairwise_cons.2 ⟨h.1, riseB_iff h.2⟩
def evB (s : Nat) : Bool := match g_overseerlaw03_Set_Events (s : Int) with
  | some l => riseB l && l.all fun x => decide (0 ≤ x) && decide (x < 5)
  | none => false
theorem evB_all : (List.range 256).all evB = true := by kernel_rfl
theorem events_ok {s : Int} (h0 : 0 ≤ s) (h1 : s < 256) : ∃ l, g_overseerlaw03_Set_Events s = some l ∧ Evs l := by
  have := List.all_eq_true.1 evB_all s.toNat (List.mem_range.2 (by omega))
  unfold evB at this
  rw [show ((s.toNat : Nat) : Int) = s from by omega] at this
  split at this
  · rename_i l hl
    simp only [Bool.and_eq_true, List.all_eq_true, decide_eq_true_eq] at this
    exact ⟨l, hl, fun x hx => this.2 x hx, riseB_iff this.1⟩
  · cases this
structure Mks (n : Nat) (ms : List Int) : Prop where
  rg : ∀ x ∈ ms, 0 ≤ x ∧ x < n
  so : ms.Pairwise (· < ·)
structure Eds (al : List Int) (N : Int) (i k : Nat) (es : List api_Edge) : Prop where
  rg : ∀ x ∈ es, 0 ≤ x.From ∧ 0 ≤ x.To ∧ x.To < N ∧ x.Event ∈ al ∧ (x.From < i ∨ x.From = i ∧ ∃ j : Nat, j < k ∧ al[j]? = some x.Event)
  so : es.Pairwise keyLt
  ln : es.length ≤ 5 * i + k
theorem Mks.up {n : Nat} {ms : List Int} (h : Mks n ms) : Mks (n + 1) ms := ⟨fun x hx => by have := h.rg x hx; omega, h.so⟩
theorem Mks.add {n : Nat} {ms : List Int} (h : Mks n ms) : Mks (n + 1) (ms ++ [(n : Int)]) := by
  refine ⟨fun x hx => ?_, ?_⟩
  · rcases List.mem_append.1 hx with hx | hx
    · have := h.rg x hx; omega
    · simp at hx; omega
  · rw [List.pairwise_append]
    exact ⟨h.so, by simp, fun x hx y hy => by simp at hy; have := h.rg x hx; omega⟩
theorem Mks.len {n : Nat} {ms : List Int} (h : Mks n ms) : ms.length ≤ n := by have := sorted_len h.so h.rg; simpa using this
section
variable {al : List Int} (hal : Evs al) {N : Int} {i k : Nat} {es : List api_Edge}
theorem Eds.up (h : Eds al N i k es) : Eds al N i (k + 1) es := ⟨fun x hx => by
  obtain ⟨h1, h2, h3, h4, h5⟩ := h.rg x hx
  refine ⟨h1, h2, h3, h4, ?_⟩
  rcases h5 with h5 | ⟨h5, j, h6, h7⟩
  · exact .inl h5
  · exact .inr ⟨h5, j, by omega, h7⟩, h.so, by have := h.ln; omega⟩
theorem Eds.next (h : Eds al N i k es) (hk : k ≤ 5) : Eds al N (i + 1) 0 es := ⟨fun x hx => by
  obtain ⟨h1, h2, h3, h4, h5⟩ := h.rg x hx
  exact ⟨h1, h2, h3, h4, .inl (by rcases h5 with h5 | ⟨h5, _⟩ <;> omega)⟩, h.so, by have := h.ln; omega⟩
include hal in
theorem Eds.add (h : Eds al N i k es) (hk : k < al.length) {t : Int} (ht : 0 ≤ t ∧ t < N) : Eds al N i (k + 1) (es ++ [⟨(i : Int), al[k], t⟩]) := by
  refine ⟨fun x hx => ?_, ?_, by have := h.ln; simp only [List.length_append, List.length_cons, List.length_nil]; omega⟩
  · rcases List.mem_append.1 hx with hx | hx
    · exact h.up.rg x hx
    · simp at hx; subst hx
      exact ⟨by simp only; omega, ht.1, ht.2, List.getElem_mem hk, .inr ⟨rfl, k, by omega, List.getElem?_eq_getElem hk⟩⟩
  · rw [List.pairwise_append]
    refine ⟨h.so, by simp, fun x hx y hy => ?_⟩
    simp at hy; subst hy
    obtain ⟨_, _, _, _, h5⟩ := h.rg x hx
    rcases h5 with h5 | ⟨h5, j, h6, h7⟩
    · exact .inl h5
    · refine .inr ⟨h5, ?_⟩
      obtain ⟨h8, h9⟩ := List.getElem?_eq_some_iff.1 h7
      rw [← h9]
      exact List.pairwise_iff_getElem.1 hal.so j k h8 hk h6
end
structure GraphW (g : overseerlaw03_Graph) : Prop where
  st : 0 ≤ g.States ∧ g.States < 256
  to : ∀ x ∈ [g.To.1.1, g.To.1.2.1, g.To.1.2.2.1, g.To.1.2.2.2.1, g.To.1.2.2.2.2, g.To.2.1.1, g.To.2.1.2.1, g.To.2.1.2.2.1, g.To.2.1.2.2.2.1, g.To.2.1.2.2.2.2, g.To.2.2.1.1, g.To.2.2.1.2.1, g.To.2.2.1.2.2.1, g.To.2.2.1.2.2.2.1, g.To.2.2.1.2.2.2.2, g.To.2.2.2.1.1, g.To.2.2.2.1.2.1, g.To.2.2.2.1.2.2.1, g.To.2.2.2.1.2.2.2.1, g.To.2.2.2.1.2.2.2.2, g.To.2.2.2.2.1, g.To.2.2.2.2.2.1, g.To.2.2.2.2.2.2.1, g.To.2.2.2.2.2.2.2.1, g.To.2.2.2.2.2.2.2.2], 0 ≤ x ∧ x < 256
theorem make_row {al : List Int} (hal : Evs al) (fuel : Nat) (hfu : 1099511627776 ≤ fuel) {L : List Int} (hL : L.length = 25) (hL2 : ∀ x ∈ L, 0 ≤ x ∧ x < 256) {N : Int} (hN : 1 ≤ N ∧ N ≤ 5) {i : Nat} (hi : (i : Int) < N) {ms : List Int} {es : List api_Edge} (hes : Eds al N i 0 es) :
    ∃ es', Eds al N (i + 1) 0 es' ∧ iterF (fun (k25 : Int × List api_Edge → Option (List Int × List api_Edge)) ((k23, a24) : Int × (List api_Edge)) => (((if (k23 < (al.length : Int)) then some (decide (k23 < 5)) else some false)).bind fun (x27 : Bool) => (if x27 then ((((inO 5 (i : Int)).bind fun _ => ((inO 5 k23).bind fun _ => ((rowO L (Int.toNat (i : Int) * 5 + Int.toNat k23 * 1)).bind fun x31 => ((remO .i64 (IntKind.wrap .i64 x31) (IntKind.wrap .i64 (N + 2))).bind fun s33 => (if (s33 < N) then ((getO al k23).bind fun x36 => ((appO a24 [(api_Edge.mk (i : Int) x36 s33)]).bind fun x38 => some x38)) else some a24)))))).bind fun (a40 : List api_Edge) => k25 ((IntKind.wrap .i64 (k23 + 1)), a40)) else some (ms, a24)))) fuel (0, es) = some (ms, es') := by
  have hl := hal.len
  have := iterF_rule (F := fun (k25 : Int × List api_Edge → Option (List Int × List api_Edge)) ((k23, a24) : Int × (List api_Edge)) => (((if (k23 < (al.length : Int)) then some (decide (k23 < 5)) else some false)).bind fun (x27 : Bool) => (if x27 then ((((inO 5 (i : Int)).bind fun _ => ((inO 5 k23).bind fun _ => ((rowO L (Int.toNat (i : Int) * 5 + Int.toNat k23 * 1)).bind fun x31 => ((remO .i64 (IntKind.wrap .i64 x31) (IntKind.wrap .i64 (N + 2))).bind fun s33 => (if (s33 < N) then ((getO al k23).bind fun x36 => ((appO a24 [(api_Edge.mk (i : Int) x36 s33)]).bind fun x38 => some x38)) else some a24)))))).bind fun (a40 : List api_Edge) => k25 ((IntKind.wrap .i64 (k23 + 1)), a40)) else some (ms, a24))))
    (fun x => ∃ k : Nat, x.1 = (k : Int) ∧ k ≤ al.length ∧ Eds al N i k x.2) (fun x => al.length - x.1.toNat) (fun _ r => ∃ es', r = some (ms, es') ∧ Eds al N (i + 1) 0 es') (by
      rintro kk ⟨k, es⟩ ⟨k, rfl, hk, he⟩ ih
      replace he : Eds al N i k es := he
      replace hk : k ≤ al.length := hk
      dsimp only
      by_cases hlt : k < al.length
      · rw [if_pos (by omega)]
        simp only [Option.bind_some, show decide ((k : Int) < 5) = true from by simp; omega, if_true]
        rw [show inO 5 (i : Int) = some () from by unfold inO; rw [if_pos (by omega)], show inO 5 (k : Int) = some () from by unfold inO; rw [if_pos (by omega)]]
        simp only [Option.bind_some, Int.toNat_natCast]
        have hidx : i * 5 + k * 1 < L.length := by omega
        have hx := hL2 _ (List.getElem_mem hidx)
        rw [show rowO L (i * 5 + k * 1) = some L[i * 5 + k * 1] from by unfold rowO; exact List.getElem?_eq_getElem hidx]
        simp only [Option.bind_some]
        rw [wrap_id (x := L[i * 5 + k * 1]) (by omega) (by omega), wrap_id (x := N + 2) (by omega) (by omega), show remO .i64 L[i * 5 + k * 1] (N + 2) = some (L[i * 5 + k * 1].tmod (N + 2)) from by unfold remO; rw [if_neg (by omega)]]
        simp only [Option.bind_some]
        have hmod : 0 ≤ L[i * 5 + k * 1].tmod (N + 2) := Int.tmod_nonneg _ hx.1
        have hln := he.ln
        by_cases hm : L[i * 5 + k * 1].tmod (N + 2) < N
        · rw [if_pos hm, getO_nat hlt]
          simp only [Option.bind_some]
          rw [appO_some (by simp only [List.length_cons, List.length_nil]; unfold lim; omega)]
          simp only [Option.bind_some]
          rw [wrap_succ (by omega)]
          exact ih _ ⟨k + 1, rfl, hlt, he.add hal hlt ⟨hmod, hm⟩⟩ (by simp only; omega)
        · rw [if_neg hm]
          simp only [Option.bind_some]
          rw [wrap_succ (by omega)]
          exact ih _ ⟨k + 1, rfl, hlt, he.up⟩ (by simp only; omega)
      · rw [if_neg (by omega)]
        exact ⟨es, rfl, he.next (by omega)⟩) fuel (0, es) ⟨0, rfl, Nat.zero_le _, hes⟩ (by simp only; omega)
  obtain ⟨es', h1, h2⟩ := this
  exact ⟨es', h2, h1⟩
theorem empty_right {al : List Int} (hal : Evs al) : Right ⟨al, 0, [], []⟩ :=
  ⟨fun x hx => by have := hal.rg x hx; omega, hal.so, ⟨by simp, by simp⟩, by simp, .nil, by simp, .nil⟩
theorem make_ok {al : List Int} (hal : Evs al) {g : overseerlaw03_Graph} (hg : GraphW g) : ∃ m, Right m ∧ m.Alphabet = al ∧ g_overseerlaw03_Make al g = some (canonP m) ∧ m.States ≤ 5 := by
  have hl := hal.len
  obtain ⟨hst, hto⟩ := hg
  unfold g_overseerlaw03_Make f_overseerlaw03_Make
  obtain ⟨fuel, hfu, hge⟩ : ∃ f, fuel0 = f ∧ 1099511627776 ≤ f := ⟨_, rfl, Nat.le_refl _⟩
  rw [hfu, empty_ok (by unfold lim; omega)]
  simp only [Option.bind_some]
  by_cases h250 : g.States ≥ 250
  · rw [if_pos h250]
    exact ⟨⟨al, 0, [], []⟩, empty_right hal, rfl, rfl, by simp⟩
  rw [if_neg h250]
  have hL : [g.To.1.1, g.To.1.2.1, g.To.1.2.2.1, g.To.1.2.2.2.1, g.To.1.2.2.2.2, g.To.2.1.1, g.To.2.1.2.1, g.To.2.1.2.2.1, g.To.2.1.2.2.2.1, g.To.2.1.2.2.2.2, g.To.2.2.1.1, g.To.2.2.1.2.1, g.To.2.2.1.2.2.1, g.To.2.2.1.2.2.2.1, g.To.2.2.1.2.2.2.2, g.To.2.2.2.1.1, g.To.2.2.2.1.2.1, g.To.2.2.2.1.2.2.1, g.To.2.2.2.1.2.2.2.1, g.To.2.2.2.1.2.2.2.2, g.To.2.2.2.2.1, g.To.2.2.2.2.2.1, g.To.2.2.2.2.2.2.1, g.To.2.2.2.2.2.2.2.1, g.To.2.2.2.2.2.2.2.2].length = 25 := rfl
  generalize [g.To.1.1, g.To.1.2.1, g.To.1.2.2.1, g.To.1.2.2.2.1, g.To.1.2.2.2.2, g.To.2.1.1, g.To.2.1.2.1, g.To.2.1.2.2.1, g.To.2.1.2.2.2.1, g.To.2.1.2.2.2.2, g.To.2.2.1.1, g.To.2.2.1.2.1, g.To.2.2.1.2.2.1, g.To.2.2.1.2.2.2.1, g.To.2.2.1.2.2.2.2, g.To.2.2.2.1.1, g.To.2.2.2.1.2.1, g.To.2.2.2.1.2.2.1, g.To.2.2.2.1.2.2.2.1, g.To.2.2.2.1.2.2.2.2, g.To.2.2.2.2.1, g.To.2.2.2.2.2.1, g.To.2.2.2.2.2.2.1, g.To.2.2.2.2.2.2.2.1, g.To.2.2.2.2.2.2.2.2] = L at hto hL ⊢
  have hmod : 0 ≤ g.States.tmod 5 ∧ g.States.tmod 5 < 5 := ⟨Int.tmod_nonneg _ hst.1, Int.tmod_lt_of_pos _ (by omega)⟩
  have hN : 1 ≤ IntKind.wrap .i64 (1 + (IntKind.wrap .i64 (Int.tmod g.States 5))) ∧ IntKind.wrap .i64 (1 + (IntKind.wrap .i64 (Int.tmod g.States 5))) ≤ 5 := by
    rw [wrap_id (x := g.States.tmod 5) (by omega) (by omega), wrap_id (by omega) (by omega)]; omega
  generalize IntKind.wrap .i64 (1 + (IntKind.wrap .i64 (Int.tmod g.States 5))) = N at hN ⊢
  have hloop := iterF_rule (F := (fun (k15 : Int × List Int × List Int × List api_Edge × Int × List Int × List api_Edge → Option (List Int × List Int × List api_Edge × Int × List Int × List api_Edge)) ((i8, c9, c10, c11, a12, a13, a14) : Int × (List Int) × (List Int) × (List api_Edge) × Int × (List Int) × (List api_Edge)) => (if (i8 < a12) then ((((((shrO .u8 g.Marks i8).bind fun s17 => (if ((andI .u8 s17 1) == 1) then ((appO a13 [i8]).bind fun x20 => some x20) else some a13))).bind fun (a22 : List Int) => iterF (fun k25 ((k23, a24) : Int × (List api_Edge)) => (((if (k23 < (al.length : Int)) then some (decide (k23 < 5)) else some false)).bind fun (x27 : Bool) => (if x27 then ((((inO 5 i8).bind fun _ => ((inO 5 k23).bind fun _ => ((rowO L (Int.toNat i8 * 5 + Int.toNat k23 * 1)).bind fun x31 => ((remO .i64 (IntKind.wrap .i64 x31) (IntKind.wrap .i64 (a12 + 2))).bind fun s33 => (if (s33 < a12) then ((getO al k23).bind fun x36 => ((appO a24 [(api_Edge.mk i8 x36 s33)]).bind fun x38 => some x38)) else some a24)))))).bind fun (a40 : List api_Edge) => k25 ((IntKind.wrap .i64 (k23 + 1)), a40)) else some (a22, a24)))) fuel (0, a14))).bind fun ((a41, a42) : (List Int) × (List api_Edge)) => k15 ((IntKind.wrap .i64 (i8 + 1)), c9, c10, c11, a12, a41, a42)) else some (c9, c10, c11, a12, a13, a14))))
    (fun x => ∃ (i : Nat) (ms : List Int) (es : List api_Edge), x = ((i : Int), [], [], [], N, ms, es) ∧ (i : Int) ≤ N ∧ Mks i ms ∧ Eds al N i 0 es) (fun x => (N - x.1).toNat)
    (fun _ r => ∃ (i : Nat) (ms : List Int) (es : List api_Edge), r = some ([], [], [], N, ms, es) ∧ (i : Int) = N ∧ Mks i ms ∧ Eds al N i 0 es) (by
      rintro k _ ⟨i, ms, es, rfl, hi, hm, he⟩ ih
      dsimp only
      by_cases hlt : (i : Int) < N
      · rw [if_pos hlt, show shrO .u8 g.Marks (i : Int) = some (g.Marks.fdiv (2 ^ (min (Int.toNat (i : Int)) (IntKind.bits .u8)))) from by unfold shrO; rw [if_neg (by omega)]]
        simp only [Option.bind_some]
        have hml := hm.len
        by_cases hb : (andI .u8 (g.Marks.fdiv (2 ^ (min (Int.toNat (i : Int)) (IntKind.bits .u8)))) 1 == 1) = true
        · rw [if_pos hb, appO_some (by simp only [List.length_cons, List.length_nil]; unfold lim; omega)]
          simp only [Option.bind_some]
          obtain ⟨es', h1, h2⟩ := make_row hal fuel hge hL hto hN hlt (ms := ms ++ [(i : Int)]) he
          rw [h2]
          simp only [Option.bind_some]
          rw [wrap_succ (by omega)]
          exact ih _ ⟨i + 1, _, _, rfl, by omega, hm.add, h1⟩ (by simp only; omega)
        · rw [if_neg hb]
          simp only [Option.bind_some]
          obtain ⟨es', h1, h2⟩ := make_row hal fuel hge hL hto hN hlt (ms := ms) he
          rw [h2]
          simp only [Option.bind_some]
          rw [wrap_succ (by omega)]
          exact ih _ ⟨i + 1, _, _, rfl, by omega, hm.up, h1⟩ (by simp only; omega)
      · rw [if_neg hlt]
        exact ⟨i, ms, es, rfl, by omega, hm, he⟩) fuel (0, [], [], [], N, [], []) ⟨0, [], [], rfl, by omega, ⟨by simp, .nil⟩, ⟨by simp, .nil, by simp⟩⟩ (by simp only; omega)
  obtain ⟨i, ms, es, h1, h2, h3, h4⟩ := hloop
  rw [h1]
  simp only [Option.bind_some]
  have hr : Right ⟨al, N, ms, es⟩ := ⟨fun x hx => by have := hal.rg x hx; omega, hal.so, ⟨by simp only; omega, by simp only; omega⟩, fun x hx => by have := h3.rg x hx; simp only; omega, h3.so, fun x hx => by
    obtain ⟨k1, k2, k3, k4, k5⟩ := h4.rg x hx
    refine ⟨k1, ?_, k2, k3, k4⟩
    rcases k5 with k5 | ⟨_, j, k6, _⟩
    · simp only; omega
    · omega, h4.so⟩
  rw [refCanonical_ok hr]
  exact ⟨_, hr, rfl, rfl, by simp only; omega⟩
end Go.Abs
end
section
namespace Go.Proofs
open Go Go.Abs
theorem wf_u8 {x : Int} (h : wfI .u8 x) : 0 ≤ x ∧ x < 256 := by
  unfold wfI at h
  simp [Lit.wf, IntKind.min, IntKind.max, IntKind.bits, IntKind.signed] at h
  omega
theorem graph_wf {g : overseerlaw03_Graph} (h : W_26 g) : GraphW g := by
  unfold W_26 W_24 W_23 W_5 at h
  obtain ⟨h1, h2, ⟨a1, a2, a3, a4, a5⟩, ⟨b1, b2, b3, b4, b5⟩, ⟨c1, c2, c3, c4, c5⟩, ⟨d1, d2, d3, d4, d5⟩, ⟨e1, e2, e3, e4, e5⟩⟩ := h
  refine ⟨wf_u8 h1, fun x hx => ?_⟩
  simp only [List.mem_cons, List.not_mem_nil, or_false] at hx
  rcases hx with rfl | rfl | rfl | rfl | rfl | rfl | rfl | rfl | rfl | rfl | rfl | rfl | rfl | rfl | rfl | rfl | rfl | rfl | rfl | rfl | rfl | rfl | rfl | rfl | rfl <;> exact wf_u8 (by assumption)
end Go.Proofs
end
section
namespace Go.Abs
open Go
set_option linter.unusedSimpArgs false
set_option linter.unusedVariables false
theorem foldl_all {P : Int → Prop} : ∀ (ts o : List Int), (∀ s ∈ o, P s) → (∀ t ∈ ts, P t) → ∀ s ∈ ts.foldl ins o, P s
  | [], o, h, _ => h
  | t :: ts, o, h, ht => foldl_all ts (ins o t) (fun s hs => by
      rcases mem_ins.1 hs with hs | rfl
      · exact h s hs
      · exact ht _ (by simp)) fun u hu => ht u (by simp [hu])
theorem bfs_least {a : api_Automaton} {P : Int → Prop} (hP : ∀ s, P s → ∀ t ∈ succP a s, P t) : ∀ (fuel i : Nat) (o : List Int), (∀ s ∈ o, P s) → ∀ s ∈ bfs a fuel i o, P s
  | 0, i, o, h => h
  | fuel + 1, i, o, h => by
    unfold bfs
    cases hg : o[i]? with
    | none => exact h
    | some s => exact bfs_least hP fuel (i + 1) _ (foldl_all _ _ h (hP s (h s (List.mem_of_getElem? hg))))
structure Like (a b : api_Automaton) (φ : Int → Int) : Prop where
  al : b.Alphabet = a.Alphabet
  st : 0 < b.States ↔ 0 < a.States
  zero : 0 < a.States → φ 0 = 0
  inj : ∀ s ∈ foundP a, ∀ t ∈ foundP a, φ s = φ t → s = t
  out : ∀ s ∈ foundP a, outP b (φ s) = (outP a s).map fun x => ⟨φ s, x.Event, φ x.To⟩
  ma : ∀ s ∈ foundP a, (φ s ∈ b.Marked ↔ s ∈ a.Marked)
section
variable {F : List Int} {φ : Int → Int} (inj : ∀ s ∈ F, ∀ t ∈ F, φ s = φ t → s = t)
include inj
end
section
variable {a b : api_Automaton} {φ : Int → Int} (ha : Right a) (hb : Right b) (h : Like a b φ)
include ha h
theorem found_succ {s : Int} (hs : s ∈ foundP a) : ∀ t ∈ succP a s, t ∈ foundP a := (found_spec ha).2.2 s hs
theorem start_found : ∀ s ∈ (if 0 < a.States then [0] else ([] : List Int)), s ∈ foundP a := fun s hs => (found_spec ha).2.1.subset hs
include hb
theorem alike_range : ∀ s ∈ foundP a, 0 ≤ φ s ∧ φ s < b.States := by
  have : ∀ s ∈ foundP a, s ∈ foundP a ∧ 0 ≤ φ s ∧ φ s < b.States := by
    refine bfs_least (P := fun s => s ∈ foundP a ∧ 0 ≤ φ s ∧ φ s < b.States) ?_ _ _ _ ?_
    · rintro s ⟨h1, h2⟩ t ht
      refine ⟨found_succ ha h h1 t ht, ?_⟩
      obtain ⟨x, hx, rfl⟩ := List.mem_map.1 ht
      have : (⟨φ s, x.Event, φ x.To⟩ : api_Edge) ∈ outP b (φ s) := by rw [h.out s h1]; exact List.mem_map.2 ⟨x, hx, rfl⟩
      have := hb.ed0 _ (List.mem_filter.1 this).1
      simp only at this; omega
    · intro s hs
      refine ⟨start_found ha h s hs, ?_⟩
      split at hs
      · rename_i h0
        simp at hs; subst hs
        have := h.st.2 h0
        rw [h.zero h0]; omega
      · simp at hs
  exact fun s hs => (this s hs).2
end
theorem edgesP_out {a : api_Automaton} {F : List Int} : ∀ (l : List Int) (k j : Nat) (s : Int), l[j]? = some s → (edgesP a F k l).filter (fun x => x.From == ((k + j : Nat) : Int)) = rowP a F (k + j) s
  | [], k, j, s, h => by simp at h
  | s' :: l, k, j, s, h => by
    simp only [edgesP, List.filter_append]
    cases j with
    | zero =>
      simp at h; subst h
      have e1 : (rowP a F k s').filter (fun x => x.From == ((k + 0 : Nat) : Int)) = rowP a F k s' := List.filter_eq_self.2 fun x hx => by
        obtain ⟨y, _, rfl⟩ := List.mem_map.1 hx; simp
      have e2 : (edgesP a F (k + 1) l).filter (fun x => x.From == ((k + 0 : Nat) : Int)) = [] := List.filter_eq_nil_iff.2 fun x hx => by
        have := (edgesP_from x hx).1; simp; omega
      rw [e1, e2]; simp
    | succ j =>
      simp at h
      have e1 : (rowP a F k s').filter (fun x => x.From == ((k + (j + 1) : Nat) : Int)) = [] := List.filter_eq_nil_iff.2 fun x hx => by
        obtain ⟨y, _, rfl⟩ := List.mem_map.1 hx; simp; omega
      have := edgesP_out (a := a) (F := F) l (k + 1) j s h
      rw [e1, List.nil_append, show k + (j + 1) = k + 1 + j from by omega, this]
theorem mem_marksP {m : List Int} : ∀ (l : List Int) (k : Nat) (x : Int), x ∈ marksP m k l ↔ ∃ j s, l[j]? = some s ∧ s ∈ m ∧ x = ((k + j : Nat) : Int)
  | [], k, x => by simp [marksP]
  | s' :: l, k, x => by
    simp only [marksP, List.mem_append]
    rw [mem_marksP l (k + 1) x]
    constructor
    · rintro (h | ⟨j, s, h1, h2, h3⟩)
      · split at h
        · rename_i hm; simp at h; exact ⟨0, s', by simp, hm, by simpa using h⟩
        · simp at h
      · exact ⟨j + 1, s, by simpa using h1, h2, by rw [h3]; congr 1; omega⟩
    · rintro ⟨j, s, h1, h2, h3⟩
      cases j with
      | zero => simp at h1; subst h1; left; rw [if_pos h2]; simpa using h3
      | succ j => right; exact ⟨j, s, by simpa using h1, h2, by rw [h3]; congr 1; omega⟩
theorem idxOf_get {l : List Int} {s : Int} (h : s ∈ l) : l[l.idxOf s]? = some s := by
  have hlt := List.idxOf_lt_length_iff.2 h
  rw [List.getElem?_eq_getElem hlt, List.getElem_idxOf hlt]
theorem idxOf_inj {l : List Int} {s t : Int} (hs : s ∈ l) (ht : t ∈ l) (h : l.idxOf s = l.idxOf t) : s = t := by
  have h1 := idxOf_get hs
  rw [h, idxOf_get ht] at h1
  exact (Option.some.inj h1).symm
theorem canon_alike {a : api_Automaton} (ha : Right a) : Like a (canonP a) (fun s => ((foundP a).idxOf s : Int)) := by
  obtain ⟨hF, hpre, hcl⟩ := found_spec ha
  refine ⟨rfl, ?_, ?_, ?_, ?_, ?_⟩
  · simp only [canonP]
    constructor
    · intro h
      have := hF.len; omega
    · intro h
      rw [if_pos h] at hpre
      have := hpre.length_le; simp at this; omega
  · intro h
    rw [if_pos h] at hpre
    obtain ⟨r, hr⟩ := hpre
    rw [← hr]; simp
  · intro s hs t ht h
    exact idxOf_inj hs ht (by omega)
  · intro s hs
    have := edgesP_out (a := a) (F := foundP a) (foundP a) 0 ((foundP a).idxOf s) s (idxOf_get hs)
    unfold outP canonP
    simp only [Nat.zero_add] at this
    simp only
    rw [this]; rfl
  · intro s hs
    show _ ∈ marksP a.Marked 0 (foundP a) ↔ _
    rw [mem_marksP]
    constructor
    · rintro ⟨j, t, h1, h2, h3⟩
      have h4 : (foundP a).idxOf s = j := by omega
      rw [← h4, idxOf_get hs] at h1
      cases h1; exact h2
    · exact fun h => ⟨_, s, idxOf_get hs, h, by simp⟩
theorem stepP_out (a : api_Automaton) (s e : Int) : stepP a s e = match (outP a s).find? (fun x => x.Event == e) with | some x => x.To | none => -1 := by
  unfold stepP outP; rw [List.find?_filter]
  have : (fun x : api_Edge => decide ((x.From == s) = true ∧ (x.Event == e) = true)) = fun x => x.From == s && x.Event == e := by
    funext x; rw [Bool.eq_iff_iff]; simp
  first | (rw [this]; done) | (rw [this]; rfl)
section
variable {a b : api_Automaton} {φ : Int → Int} (ha : Right a) (hb : Right b) (h : Like a b φ)
include ha h
theorem alike_step {s : Int} (hs : s ∈ foundP a) (e : Int) : stepP b (φ s) e = if 0 ≤ stepP a s e then φ (stepP a s e) else -1 := by
  rw [stepP_out b, h.out s hs, List.find?_map]
  have hr := stepP_range ha s e
  rw [stepP_out a] at hr ⊢
  have e1 : ((fun x : api_Edge => x.Event == e) ∘ fun x : api_Edge => (⟨φ s, x.Event, φ x.To⟩ : api_Edge)) = fun x => x.Event == e := rfl
  rw [e1]
  cases hf : (outP a s).find? (fun x => x.Event == e) with
  | none => simp
  | some x =>
    rw [hf] at hr
    simp only [Option.map_some]
    have hx := List.mem_of_find?_eq_some hf
    unfold outP at hx
    have := (ha.ed0 x (List.mem_filter.1 hx).1).2.2.1
    rw [if_pos this]
omit h in
theorem step_found {s e : Int} (hs : s ∈ foundP a) (h0 : 0 ≤ stepP a s e) : stepP a s e ∈ foundP a := by
  rw [stepP_out] at h0 ⊢
  cases hf : (outP a s).find? (fun x => x.Event == e) with
  | none => rw [hf] at h0; simp at h0
  | some x => exact (found_spec ha).2.2 s hs x.To (List.mem_map.2 ⟨x, List.mem_of_find?_eq_some hf, rfl⟩)
end
end Go.Abs
end
section
namespace Go.Abs
open Go
set_option linter.unusedSimpArgs false
set_option linter.unusedVariables false
def runP (a : api_Automaton) : Int → Nat → List Int → Int × Int
  | s, n, [] => (s, n)
  | s, n, e :: w => if 0 ≤ stepP a s e then runP a (stepP a s e) (n + 1) w else (s, n)
section
variable {a : api_Automaton} (h : Right a)
include h
theorem follow_ok {s : Int} {w : List Int} (h0 : -1000000 < s) (h1 : s < 1000000) (hw : w.length < big) : g_automaton_follow a s w = some (runP a s 0 w) := by
  have hs := h.small.1
  have hst := h.st
  have hb : w.length < 1000000000000 := hw
  unfold g_automaton_follow f_automaton_follow
  obtain ⟨fuel, hfu, hge⟩ : ∃ f, fuel0 = f ∧ 1099511627776 ≤ f := ⟨_, rfl, Nat.le_refl _⟩
  rw [hfu]
  refine (iterF_inv (len := w.length) (fun n (s : Int) => (s, (n : Int))) (fun n s => -1000000 < s ∧ s < 1000000) (fun n s => some (runP a s n (w.drop n))) ?_ ?_ fuel 0 s (Nat.zero_le _) (by omega) ⟨h0, h1⟩).trans (by simp)
  · intro k n s hn ⟨k1, k2⟩ ih
    dsimp only
    rw [if_pos (by omega), getO_nat hn]
    simp only [Option.bind_some]
    rw [next_ok h hs (by omega) (by omega)]
    simp only [Option.bind_some]
    rw [List.drop_eq_getElem_cons hn, runP]
    rcases stepP_range h s w[n] with hr | hr
    · rw [if_pos (by omega), if_neg (by omega)]
    · rw [if_neg (by omega), if_pos hr.1, wrap_succ (by omega)]
      exact ih _ ⟨by omega, by omega⟩
  · intro k s _
    dsimp only
    rw [if_neg (by omega)]; simp [runP]
def genP (a : api_Automaton) (w : List Int) : Bool := decide (0 < a.States) && (runP a 0 0 w).2 == (w.length : Int)
def accP (a : api_Automaton) (w : List Int) : Bool := genP a w && decide ((runP a 0 0 w).1 ∈ a.Marked)
theorem generates_ok {w : List Int} (hw : w.length < big) : g_automaton_Generates a w = some (genP a w, 0) := by
  have hst := h.st
  unfold g_automaton_Generates f_automaton_Generates g_automaton_reached f_automaton_reached
  rw [check_right h, follow_ok h (by omega) (by omega) hw]
  unfold genP
  by_cases h0 : a.States = 0
  · simp [h0]
  · have : 0 < a.States := by omega
    simp [h0, this]
theorem accepts_ok {w : List Int} (hw : w.length < big) : g_automaton_Accepts a w = some (accP a w, 0) := by
  have hst := h.st
  unfold g_automaton_Accepts f_automaton_Accepts g_automaton_reached f_automaton_reached
  rw [check_right h, follow_ok h (by omega) (by omega) hw]
  unfold accP genP
  by_cases h0 : a.States = 0
  · simp [h0]
  · have hp : 0 < a.States := by omega
    simp only [Option.bind_some, h0, beq_iff_eq, if_false, bne_self_eq_false, Bool.false_eq_true, hp, decide_true, Bool.true_and]
    rw [contains_ok h.small.1.2.1]
    by_cases hq : (runP a 0 0 w).2 = (w.length : Int) <;> simp [hq]
end
end Go.Abs
end
section
namespace Go.Abs
open Go
set_option linter.unusedSimpArgs false
set_option linter.unusedVariables false
section
variable {a b : api_Automaton} {φ : Int → Int} (ha : Right a) (hb : Right b) (h : Like a b φ)
include ha hb h
theorem alike_run : ∀ (w : List Int) (s : Int) (n : Nat), s ∈ foundP a → runP b (φ s) n w = (φ (runP a s n w).1, (runP a s n w).2) ∧ (runP a s n w).1 ∈ foundP a
  | [], s, n, hs => ⟨rfl, hs⟩
  | e :: w, s, n, hs => by
    simp only [runP]
    rw [alike_step ha h hs]
    by_cases h0 : 0 ≤ stepP a s e
    · have hm := step_found ha hs h0
      have hr := (alike_range ha hb h _ hm).1
      rw [if_pos h0, if_pos h0, if_pos hr]
      exact alike_run w _ (n + 1) hm
    · rw [if_neg h0, if_neg h0, if_neg (by omega)]
      exact ⟨rfl, hs⟩
theorem zero_found (h0 : 0 < a.States) : 0 ∈ foundP a := by
  have := (found_spec ha).2.1
  rw [if_pos h0] at this
  exact this.subset (by simp)
theorem alike_gen (w : List Int) : genP b w = genP a w := by
  unfold genP
  by_cases h0 : 0 < a.States
  · have h1 := h.st.2 h0
    have := (alike_run ha hb h w 0 0 (zero_found ha hb h h0)).1
    rw [h.zero h0] at this
    simp [h0, h1, this]
  · have h1 : ¬ 0 < b.States := fun hh => h0 (h.st.1 hh)
    simp [h0, h1]
theorem alike_acc (w : List Int) : accP b w = accP a w := by
  unfold accP
  rw [alike_gen ha hb h]
  by_cases h0 : 0 < a.States
  · have h1 := h.st.2 h0
    obtain ⟨k1, k2⟩ := alike_run ha hb h w 0 0 (zero_found ha hb h h0)
    rw [h.zero h0] at k1
    rw [k1]
    simp only
    have := h.ma _ k2
    rw [decide_eq_decide.2 this]
  · unfold genP; simp [h0]
end
theorem canon_gen {a : api_Automaton} (ha : Right a) (w : List Int) : genP (canonP a) w = genP a w := alike_gen ha (canonP_right ha) (canon_alike ha) w
theorem canon_acc {a : api_Automaton} (ha : Right a) (w : List Int) : accP (canonP a) w = accP a w := alike_acc ha (canonP_right ha) (canon_alike ha) w
theorem edges_len {a : api_Automaton} {F : List Int} : ∀ (l : List Int) (i : Nat), l.Nodup → (edgesP a F i l).length ≤ (a.Edges.filter fun x => decide (x.From ∈ l)).length
  | [], i, _ => by simp [edgesP]
  | s :: l, i, hn => by
    have hn := List.nodup_cons.1 hn
    simp only [edgesP, List.length_append]
    have ih := edges_len (a := a) (F := F) l (i + 1) hn.2
    have h1 : (rowP a F i s).length = (a.Edges.filter fun x => x.From == s).length := by simp [rowP, outP]
    have h2 : a.Edges.filter (fun x => decide (x.From ∈ s :: l)) = a.Edges.filter (fun x => x.From == s || decide (x.From ∈ l)) := by
      congr 1; funext x; rw [Bool.eq_iff_iff]; simp
    rw [h1, h2]
    have h3 : ∀ L : List api_Edge, (L.filter (fun x => x.From == s)).length + (L.filter fun x => decide (x.From ∈ l)).length = (L.filter (fun x => x.From == s || decide (x.From ∈ l))).length := by
      intro L
      induction L with
      | nil => simp
      | cons x L ih =>
        by_cases hx : x.From = s
        · have : ¬ x.From ∈ l := by rw [hx]; exact hn.1
          simp [hx, hn.1] at ih ⊢; omega
        · by_cases hm : x.From ∈ l <;> simp [hx, hm] at ih ⊢ <;> omega
    have := h3 a.Edges
    omega
theorem canon_size {a : api_Automaton} (ha : Right a) : (canonP a).States ≤ a.States ∧ (canonP a).Edges.length ≤ a.Edges.length := by
  have hF := (found_spec ha).1
  have := hF.len
  have hst := ha.st
  refine ⟨by simp only [canonP]; omega, ?_⟩
  exact Nat.le_trans (edges_len _ _ hF.nd) (List.length_filter_le _ _)
end Go.Abs
end
section
namespace Go.Abs
open Go
set_option linter.unusedSimpArgs false
set_option linter.unusedVariables false
theorem less_ok (x y : Int) : g_cmp_Less_int x y = some (decide (x < y)) := by
  unfold g_cmp_Less_int f_cmp_Less_int g_cmp_isNaN_int f_cmp_isNaN_int
  simp
theorem isNaN_ok (x : Int) : g_slices_isNaN_int x = some false := by
  unfold g_slices_isNaN_int f_slices_isNaN_int
  simp
theorem rise_mono {l : List Int} (h : l.Pairwise (· < ·)) (v : Int) : l.Pairwise fun a b => decide (b < v) = true → decide (a < v) = true :=
  h.imp fun h => by simp; omega
theorem search_ok {l : List Int} {v : Int} (hs : l.Pairwise (· < ·)) (hl : l.length < big) : ∃ n, g_slices_BinarySearch_int l v = some (n, decide (v ∈ l)) := by
  have hc := fun n h => count_mono (p := fun x : Int => decide (x < v)) (rise_mono hs v) n h
  have hcl : (l.filter fun x => decide (x < v)).length ≤ l.length := List.length_filter_le _ _
  generalize (l.filter fun x => decide (x < v)).length = c at hc hcl
  have hb : l.length < 1000000000000 := hl
  unfold g_slices_BinarySearch_int f_slices_BinarySearch_int
  obtain ⟨fuel, hfu, hge⟩ : ∃ f, fuel0 = f ∧ 1099511627776 ≤ f := ⟨_, rfl, Nat.le_refl _⟩
  rw [hfu]
  have hloop := iterF_rule (F := fun (k5 : Int × Int → Option Int) ((i3, j4) : Int × Int) => (if (i3 < j4) then ((getO l (IntKind.wrap .i64 (Int.fdiv (IntKind.wrap .u64 (IntKind.wrap .i64 (i3 + j4))) (2 ^ (min (Int.toNat 1) (IntKind.bits .u64)))))).bind fun x7 => ((g_cmp_Less_int x7 v).bind fun x10 => (if x10 then k5 ((IntKind.wrap .i64 ((IntKind.wrap .i64 (Int.fdiv (IntKind.wrap .u64 (IntKind.wrap .i64 (i3 + j4))) (2 ^ (min (Int.toNat 1) (IntKind.bits .u64))))) + 1)), j4) else k5 (i3, (IntKind.wrap .i64 (Int.fdiv (IntKind.wrap .u64 (IntKind.wrap .i64 (i3 + j4))) (2 ^ (min (Int.toNat 1) (IntKind.bits .u64))))))))) else some i3))
    (fun x => ∃ i j : Nat, x = ((i : Int), (j : Int)) ∧ i ≤ c ∧ c ≤ j ∧ j ≤ l.length) (fun x => (x.2 - x.1).toNat) (fun _ r => r = some (c : Int)) (by
      rintro k _ ⟨i, j, rfl, h1, h2, h3⟩ ih
      dsimp only
      by_cases hij : i < j
      · rw [if_pos (by omega), mid_ok (by omega) (by omega)]
        have hm : (i + j) / 2 < l.length := by omega
        rw [getO_nat hm]
        simp only [Option.bind_some]
        rw [less_ok]
        simp only [Option.bind_some]
        have hcm := hc ((i + j) / 2) hm
        by_cases hlt : l[(i + j) / 2] < v
        · rw [if_pos (by simpa using hlt), wrap_succ (by omega)]
          have : (i + j) / 2 < c := hcm.1 (by simpa using hlt)
          exact ih _ ⟨_, _, rfl, by omega, h2, h3⟩ (by simp only; omega)
        · rw [if_neg (by simpa using hlt)]
          have : ¬ (i + j) / 2 < c := fun h => hlt (by simpa using hcm.2 h)
          exact ih _ ⟨_, _, rfl, h1, by omega, by omega⟩ (by simp only; omega)
      · rw [if_neg (by omega)]
        have : i = c := by omega
        rw [this]) fuel (0, (l.length : Int)) ⟨0, l.length, rfl, by omega, hcl, Nat.le_refl _⟩ (by simp only; omega)
  rw [hloop]
  simp only [Option.bind_some]
  have hmem : v ∈ l ↔ ∃ h : c < l.length, l[c] = v := by
    constructor
    · intro hv
      obtain ⟨j, hj, rfl⟩ := List.getElem_of_mem hv
      have h1 : ¬ j < c := fun h => by have := (hc j hj).2 h; simp at this
      have h2 : c < l.length := by omega
      refine ⟨h2, ?_⟩
      have h3 : ¬ l[c] < l[j] := fun h => by have := (hc c h2).1 (by simpa using h); omega
      rcases Nat.lt_or_ge c j with h | h
      · have := List.pairwise_iff_getElem.1 hs c j h2 hj h; omega
      · have : c = j := by omega
        subst this; rfl
    · rintro ⟨h, rfl⟩; exact List.getElem_mem h
  by_cases hlt : c < l.length
  · rw [if_pos (by omega), getO_nat hlt]
    simp only [Option.bind_some]
    by_cases he : l[c] = v
    · rw [if_pos (by simpa using he)]
      exact ⟨_, by rw [decide_eq_true (hmem.2 ⟨hlt, he⟩)]⟩
    · rw [if_neg (by simpa using he), isNaN_ok]
      exact ⟨_, by rw [decide_eq_false (fun h => he (hmem.1 h).2)]; rfl⟩
  · rw [if_neg (by omega)]
    exact ⟨_, by rw [decide_eq_false (fun h => hlt (hmem.1 h).1)]⟩
theorem clone_ok {l : List Int} (hl : l.length ≤ lim) : g_slices_Clone_int l = some l := by
  unfold g_slices_Clone_int f_slices_Clone_int
  rw [appO_some (by simpa using hl)]
  cases l <;> simp [nilO]
structure Num (a : api_Automaton) (o num : List Int) : Prop where
  len : num.length = a.States.toNat
  at1 : ∀ s : Nat, s < a.States.toNat → num[s]? = some (if (s : Int) ∈ o then (o.idxOf (s : Int) : Int) else -1)
theorem idxOf_pre {o F : List Int} (h : o <+: F) {t : Int} (ht : t ∈ o) : F.idxOf t = o.idxOf t := by
  obtain ⟨r, rfl⟩ := h
  rw [List.idxOf_append, if_pos ht]
theorem Num.get {a : api_Automaton} {o num : List Int} (h : Num a o num) {t : Int} (ht : 0 ≤ t ∧ t < a.States) : getO num t = some (if t ∈ o then (o.idxOf t : Int) else -1) := by
  rw [getO_some]
  refine ⟨ht.1, ?_⟩
  have := h.at1 t.toNat (by omega)
  rwa [show ((t.toNat : Nat) : Int) = t from by omega] at this
theorem Num.set {a : api_Automaton} {o num : List Int} (h : Num a o num) {t : Int} (ht : 0 ≤ t ∧ t < a.States) (hn : t ∉ o) : ∃ num', setO num t (o.length : Int) = some num' ∧ Num a (o ++ [t]) num' := by
  refine ⟨num.set t.toNat (o.length : Int), by unfold setO; rw [if_pos ⟨ht.1, by rw [h.len]; omega⟩], by rw [List.length_set]; exact h.len, fun s hs => ?_⟩
  rw [List.getElem?_set]
  by_cases he : t.toNat = s
  · subst he
    rw [if_pos rfl, if_pos (by rw [h.len]; omega), show ((t.toNat : Nat) : Int) = t from by omega, if_pos (by simp), List.idxOf_append, if_neg hn]
    simp
  · rw [if_neg he, h.at1 s hs]
    have hne : (s : Int) ≠ t := by omega
    by_cases hm : (s : Int) ∈ o
    · rw [if_pos hm, if_pos (by simp [hm]), List.idxOf_append, if_pos hm]
    · rw [if_neg hm, if_neg (by simp [hm, hne])]
section
variable {a : api_Automaton} (h : Right a)
include h
theorem canon_row (fuel : Nat) (hfu : 1099511627776 ≤ fuel) {l : List api_Edge} (hl : l.length ≤ 200000) (hto : ∀ x ∈ l, 0 ≤ x.To ∧ x.To < a.States) {i : Nat} {ms o : List Int} {es : List api_Edge} {num : List Int} (ho : Fnd a o) (hn : Num a o num) (hes : es.length ≤ 200000) :
    ∃ num', Num a ((l.map (·.To)).foldl ins o) num' ∧ iterF (fun (k47 : List Int × Int × List api_Edge × List Int → Option (List Int × List Int × List api_Edge × List Int)) ((order43, x44, r45, c46) : (List Int) × Int × (List api_Edge) × (List Int)) => (if (x44 < (l.length : Int)) then ((getO l x44).bind fun x49 => ((((inO (Int.toNat a.States) x49.To).bind fun u51 => ((getO c46 x49.To).bind fun x53 => (if (x53 < 0) then ((inO (Int.toNat a.States) x49.To).bind fun u56 => ((setO c46 x49.To (order43.length : Int)).bind fun x58 => ((appO order43 [x49.To]).bind fun x60 => some (x60, x58)))) else some (order43, c46))))).bind fun ((order62, c63) : (List Int) × (List Int)) => ((inO (Int.toNat a.States) x49.To).bind fun u64 => ((getO c63 x49.To).bind fun x66 => ((appO r45 [(api_Edge.mk (i : Int) x49.Event x66)]).bind fun x68 => k47 (order62, (IntKind.wrap .i64 (x44 + 1)), x68, c63)))))) else some (order43, ms, r45, c46))) fuel (o, 0, es, num) = some ((l.map (·.To)).foldl ins o, ms, es ++ l.map (fun x => ⟨(i : Int), x.Event, (((l.map (·.To)).foldl ins o).idxOf x.To : Int)⟩), num') := by
  have hst := h.st
  have key := iterF_rule (F := (fun (k47 : List Int × Int × List api_Edge × List Int → Option (List Int × List Int × List api_Edge × List Int)) ((order43, x44, r45, c46) : (List Int) × Int × (List api_Edge) × (List Int)) => (if (x44 < (l.length : Int)) then ((getO l x44).bind fun x49 => ((((inO (Int.toNat a.States) x49.To).bind fun u51 => ((getO c46 x49.To).bind fun x53 => (if (x53 < 0) then ((inO (Int.toNat a.States) x49.To).bind fun u56 => ((setO c46 x49.To (order43.length : Int)).bind fun x58 => ((appO order43 [x49.To]).bind fun x60 => some (x60, x58)))) else some (order43, c46))))).bind fun ((order62, c63) : (List Int) × (List Int)) => ((inO (Int.toNat a.States) x49.To).bind fun u64 => ((getO c63 x49.To).bind fun x66 => ((appO r45 [(api_Edge.mk (i : Int) x49.Event x66)]).bind fun x68 => k47 (order62, (IntKind.wrap .i64 (x44 + 1)), x68, c63)))))) else some (order43, ms, r45, c46))))
    (fun x => ∃ (j : Nat) (o : List Int) (es : List api_Edge) (num : List Int), x = (o, (j : Int), es, num) ∧ j ≤ l.length ∧ Fnd a o ∧ Num a o num ∧ es.length ≤ 200000 + j) (fun x => l.length - x.2.1.toNat)
    (fun x r => ∀ (j : Nat) (o : List Int) (es : List api_Edge) (num : List Int), x = (o, (j : Int), es, num) → ∃ num', Num a (((l.drop j).map (·.To)).foldl ins o) num' ∧ r = some (((l.drop j).map (·.To)).foldl ins o, ms, es ++ (l.drop j).map (fun x => ⟨(i : Int), x.Event, ((((l.drop j).map (·.To)).foldl ins o).idxOf x.To : Int)⟩), num')) (by
      rintro k _ ⟨j, o, es, num, rfl, hj, hf, hnm, hel⟩ ih j' o' es' num' he
      obtain ⟨rfl, he2⟩ := Prod.mk.inj he
      obtain ⟨hjj, he3⟩ := Prod.mk.inj he2
      obtain ⟨rfl, rfl⟩ := Prod.mk.inj he3
      obtain rfl : j = j' := by omega
      have hfl := hf.len
      dsimp only
      by_cases hlt : j < l.length
      · have ht := hto _ (List.getElem_mem hlt)
        rw [if_pos (by omega), getO_nat hlt]
        simp only [Option.bind_some]
        rw [show inO (Int.toNat a.States) l[j].To = some () from by unfold inO; rw [if_pos (by omega)]]
        simp only [Option.bind_some]
        rw [hnm.get ht]
        simp only [Option.bind_some]
        have hfi := hf.ins ht
        have hmem : l[j].To ∈ ins o l[j].To := mem_ins.2 (.inr rfl)
        have hpre : ins o l[j].To <+: ((l.drop (j + 1)).map (·.To)).foldl ins (ins o l[j].To) :=
          (foldl_ins hfi fun t ht' => by obtain ⟨x, hx, rfl⟩ := List.mem_map.1 ht'; exact hto x (List.mem_of_mem_drop hx)).2.1
        rw [List.drop_eq_getElem_cons hlt]
        simp only [List.map_cons, List.foldl_cons]
        by_cases hm : l[j].To ∈ o
        · have e1 : ins o l[j].To = o := by unfold ins; rw [if_pos hm]
          rw [if_pos hm, if_neg (by omega)]
          simp only [Option.bind_some]
          rw [hnm.get ht, if_pos hm]
          simp only [Option.bind_some]
          rw [appO_some (by simp only [List.length_cons, List.length_nil]; unfold lim; omega)]
          simp only [Option.bind_some]
          rw [wrap_succ (by omega)]
          rw [e1] at hpre ⊢
          obtain ⟨num', q1, q2⟩ := ih _ ⟨j + 1, o, es ++ [⟨(i : Int), l[j].Event, (o.idxOf l[j].To : Int)⟩], num, rfl, by omega, hf, hnm, by simp only [List.length_append, List.length_cons, List.length_nil]; omega⟩ (by simp only; omega) (j + 1) _ _ _ rfl
          refine ⟨num', q1, ?_⟩
          rw [q2, idxOf_pre hpre hm]
          simp only [List.append_assoc, List.cons_append, List.nil_append]
        · have e1 : ins o l[j].To = o ++ [l[j].To] := by unfold ins; rw [if_neg hm]
          rw [if_neg hm, if_pos (by omega)]
          obtain ⟨num1, w1, w2⟩ := hnm.set ht hm
          rw [w1]
          simp only [Option.bind_some]
          rw [appO_some (by simp only [List.length_cons, List.length_nil]; unfold lim; omega)]
          simp only [Option.bind_some]
          rw [w2.get ht, if_pos (by simp)]
          simp only [Option.bind_some]
          rw [appO_some (by simp only [List.length_cons, List.length_nil]; unfold lim; omega)]
          simp only [Option.bind_some]
          rw [wrap_succ (by omega)]
          rw [e1] at hpre hfi hmem ⊢
          obtain ⟨num', q1, q2⟩ := ih _ ⟨j + 1, o ++ [l[j].To], es ++ [⟨(i : Int), l[j].Event, ((o ++ [l[j].To]).idxOf l[j].To : Int)⟩], num1, rfl, by omega, hfi, w2, by simp only [List.length_append, List.length_cons, List.length_nil]; omega⟩ (by simp only; omega) (j + 1) _ _ _ rfl
          refine ⟨num', q1, ?_⟩
          rw [q2, idxOf_pre hpre hmem]
          simp only [List.append_assoc, List.cons_append, List.nil_append]
      · rw [if_neg (by omega)]
        obtain rfl : j = l.length := by omega
        exact ⟨num, by simpa using hnm, by simp⟩) fuel (o, 0, es, num) ⟨0, o, es, num, rfl, Nat.zero_le _, ho, hn, by omega⟩ (by simp only; omega) 0 o es num rfl
  obtain ⟨num', q1, q2⟩ := key
  exact ⟨num', by simpa using q1, by simpa using q2⟩
theorem canon_loop (fuel : Nat) (hfu : 1099511627776 ≤ fuel) {num : List Int} (h0 : 0 < a.States) (hn : Num a [0] num) :
    ∃ num', iterF (fun (k28 : List Int × Int × List Int × List Int × List api_Edge × List Int × List api_Edge × List Int → Option (List Int × List Int × List Int × List api_Edge × List Int × List api_Edge × List Int)) ((order20, i21, c22, c23, c24, r25, r26, c27) : (List Int) × Int × (List Int) × (List Int) × (List api_Edge) × (List Int) × (List api_Edge) × (List Int)) => (if (i21 < (order20.length : Int)) then ((((((getO order20 i21).bind fun x30 => ((g_slices_BinarySearch_int a.Marked x30).bind fun (r33, r34) => (if r34 then ((appO r25 [i21]).bind fun x36 => some x36) else some r25)))).bind fun (r38 : List Int) => ((getO order20 i21).bind fun x39 => ((g_automaton_out a x39).bind fun x42 => iterF (fun k47 ((order43, x44, r45, c46) : (List Int) × Int × (List api_Edge) × (List Int)) => (if (x44 < (x42.length : Int)) then ((getO x42 x44).bind fun x49 => ((((inO (Int.toNat a.States) x49.To).bind fun u51 => ((getO c46 x49.To).bind fun x53 => (if (x53 < 0) then ((inO (Int.toNat a.States) x49.To).bind fun u56 => ((setO c46 x49.To (order43.length : Int)).bind fun x58 => ((appO order43 [x49.To]).bind fun x60 => some (x60, x58)))) else some (order43, c46))))).bind fun ((order62, c63) : (List Int) × (List Int)) => ((inO (Int.toNat a.States) x49.To).bind fun u64 => ((getO c63 x49.To).bind fun x66 => ((appO r45 [(api_Edge.mk i21 x49.Event x66)]).bind fun x68 => k47 (order62, (IntKind.wrap .i64 (x44 + 1)), x68, c63)))))) else some (order43, r38, r45, c46))) fuel (order20, 0, r26, c27))))).bind fun ((order70, r71, r72, c73) : (List Int) × (List Int) × (List api_Edge) × (List Int)) => k28 (order70, (IntKind.wrap .i64 (i21 + 1)), c22, c23, c24, r71, r72, c73)) else some (order20, c22, c23, c24, r25, r26, c27))) fuel ([0], 0, [], [], [], [], [], num) = some (foundP a, [], [], [], marksP a.Marked 0 (foundP a), edgesP a (foundP a) 0 (foundP a), num') := by
  have hst := h.st
  have hs := h.small.1
  have hsb := h.small.2
  have key := iterF_rule (F := (fun (k28 : List Int × Int × List Int × List Int × List api_Edge × List Int × List api_Edge × List Int → Option (List Int × List Int × List Int × List api_Edge × List Int × List api_Edge × List Int)) ((order20, i21, c22, c23, c24, r25, r26, c27) : (List Int) × Int × (List Int) × (List Int) × (List api_Edge) × (List Int) × (List api_Edge) × (List Int)) => (if (i21 < (order20.length : Int)) then ((((((getO order20 i21).bind fun x30 => ((g_slices_BinarySearch_int a.Marked x30).bind fun (r33, r34) => (if r34 then ((appO r25 [i21]).bind fun x36 => some x36) else some r25)))).bind fun (r38 : List Int) => ((getO order20 i21).bind fun x39 => ((g_automaton_out a x39).bind fun x42 => iterF (fun k47 ((order43, x44, r45, c46) : (List Int) × Int × (List api_Edge) × (List Int)) => (if (x44 < (x42.length : Int)) then ((getO x42 x44).bind fun x49 => ((((inO (Int.toNat a.States) x49.To).bind fun u51 => ((getO c46 x49.To).bind fun x53 => (if (x53 < 0) then ((inO (Int.toNat a.States) x49.To).bind fun u56 => ((setO c46 x49.To (order43.length : Int)).bind fun x58 => ((appO order43 [x49.To]).bind fun x60 => some (x60, x58)))) else some (order43, c46))))).bind fun ((order62, c63) : (List Int) × (List Int)) => ((inO (Int.toNat a.States) x49.To).bind fun u64 => ((getO c63 x49.To).bind fun x66 => ((appO r45 [(api_Edge.mk i21 x49.Event x66)]).bind fun x68 => k47 (order62, (IntKind.wrap .i64 (x44 + 1)), x68, c63)))))) else some (order43, r38, r45, c46))) fuel (order20, 0, r26, c27))))).bind fun ((order70, r71, r72, c73) : (List Int) × (List Int) × (List api_Edge) × (List Int)) => k28 (order70, (IntKind.wrap .i64 (i21 + 1)), c22, c23, c24, r71, r72, c73)) else some (order20, c22, c23, c24, r25, r26, c27))))
    (fun x => ∃ (i : Nat) (o ms : List Int) (es : List api_Edge) (num : List Int), x = (o, (i : Int), [], [], [], ms, es, num) ∧ i ≤ o.length ∧ Fnd a o ∧ Num a o num ∧ ms.length ≤ i ∧ es.length ≤ 32 * i ∧ (∀ j s, j < i → o[j]? = some s → ∀ t ∈ succP a s, t ∈ o)) (fun x => a.States.toNat + 1 - x.2.1.toNat)
    (fun x r => ∀ (i : Nat) (o ms : List Int) (es : List api_Edge) (num : List Int), x = (o, (i : Int), [], [], [], ms, es, num) → ∃ num', r = some (bfs a (a.States.toNat + 1 - i) i o, [], [], [], ms ++ marksP a.Marked i ((bfs a (a.States.toNat + 1 - i) i o).drop i), es ++ edgesP a (bfs a (a.States.toNat + 1 - i) i o) i ((bfs a (a.States.toNat + 1 - i) i o).drop i), num')) (by
      rintro k _ ⟨i, o, ms, es, num, rfl, hi, hf, hnm, hml, hel, hcl⟩ ih i' o' ms' es' num' he
      obtain ⟨rfl, he2⟩ := Prod.mk.inj he
      obtain ⟨hii, he3⟩ := Prod.mk.inj he2
      obtain ⟨_, he4⟩ := Prod.mk.inj he3
      obtain ⟨_, he5⟩ := Prod.mk.inj he4
      obtain ⟨_, he6⟩ := Prod.mk.inj he5
      obtain ⟨rfl, he7⟩ := Prod.mk.inj he6
      obtain ⟨rfl, rfl⟩ := Prod.mk.inj he7
      obtain rfl : i = i' := by omega
      have hfl := hf.len
      dsimp only
      by_cases hlt : i < o.length
      · have hrg := hf.rg _ (List.getElem_mem hlt)
        rw [if_pos (by omega), getO_nat hlt]
        simp only [Option.bind_some]
        obtain ⟨n, hsr⟩ := search_ok (v := o[i]) h.ma hs.2.1
        rw [hsr]
        simp only [Option.bind_some]
        rw [out_ok h hs (by omega) (by omega)]
        have hto : ∀ x ∈ outP a o[i], 0 ≤ x.To ∧ x.To < a.States := fun x hx => by
          unfold outP at hx
          have := h.ed0 x (List.mem_filter.1 hx).1; omega
        have hol : (outP a o[i]).length ≤ 200000 := Nat.le_trans (List.length_filter_le _ _) (by omega)
        have hrow := rowP_len h (F := o) (i := i) (s := o[i])
        have hrl : (outP a o[i]).length ≤ 32 := by simpa [rowP] using hrow
        obtain ⟨q1, q2, q3, _⟩ := foldl_ins hf (succP_range h o[i])
        have hle := q2.length_le
        have hcl' : ∀ j s, j < i + 1 → ((succP a o[i]).foldl ins o)[j]? = some s → ∀ t ∈ succP a s, t ∈ (succP a o[i]).foldl ins o := by
          intro j s hj hs' t ht
          by_cases hji : j < i
          · have hjl : j < o.length := by omega
            have : o[j]? = some s := by
              have := prefix_get q2 (List.getElem?_eq_getElem hjl)
              rw [hs'] at this; rw [List.getElem?_eq_getElem hjl]; exact this.symm
            exact q2.subset (hcl j s hji this t ht)
          · obtain rfl : j = i := by omega
            have := prefix_get q2 (List.getElem?_eq_getElem hlt)
            rw [hs'] at this; cases this
            exact q3 t ht
        have hF := bfs_spec h (a.States.toNat + 1 - (i + 1)) (i + 1) ((succP a o[i]).foldl ins o) q1 (by omega) (by omega) hcl'
        have hget : (bfs a (a.States.toNat + 1 - (i + 1)) (i + 1) ((succP a o[i]).foldl ins o))[i]? = some o[i] := prefix_get (q2.trans hF.2.1) (List.getElem?_eq_getElem hlt)
        rw [show a.States.toNat + 1 - i = (a.States.toNat + 1 - (i + 1)) + 1 from by omega, bfs_succ hlt]
        have hdrop : (bfs a (a.States.toNat + 1 - (i + 1)) (i + 1) ((succP a o[i]).foldl ins o)).drop i = o[i] :: (bfs a (a.States.toNat + 1 - (i + 1)) (i + 1) ((succP a o[i]).foldl ins o)).drop (i + 1) := by
          obtain ⟨w1, w2⟩ := List.getElem?_eq_some_iff.1 hget
          rw [List.drop_eq_getElem_cons w1, w2]
        rw [hdrop]
        simp only [marksP, edgesP]
        have hidx : ∀ x ∈ outP a o[i], (bfs a (a.States.toNat + 1 - (i + 1)) (i + 1) ((succP a o[i]).foldl ins o)).idxOf x.To = ((succP a o[i]).foldl ins o).idxOf x.To := fun x hx =>
          idxOf_pre hF.2.1 (q3 x.To (List.mem_map.2 ⟨x, hx, rfl⟩))
        have hrow2 : rowP a (bfs a (a.States.toNat + 1 - (i + 1)) (i + 1) ((succP a o[i]).foldl ins o)) i o[i] = (outP a o[i]).map fun x => ⟨(i : Int), x.Event, (((succP a o[i]).foldl ins o).idxOf x.To : Int)⟩ :=
          List.map_congr_left fun x hx => by rw [hidx x hx]
        rw [hrow2]
        generalize hFe : bfs a (a.States.toNat + 1 - (i + 1)) (i + 1) ((succP a o[i]).foldl ins o) = F at *
        have hstep : ∀ ms1 : List Int, ms1.length ≤ i + 1 → ∃ num', (Option.bind (iterF (fun (k47 : List Int × Int × List api_Edge × List Int → Option (List Int × List Int × List api_Edge × List Int)) ((order43, x44, r45, c46) : (List Int) × Int × (List api_Edge) × (List Int)) => (if (x44 < ((outP a o[i]).length : Int)) then ((getO (outP a o[i]) x44).bind fun x49 => ((((inO (Int.toNat a.States) x49.To).bind fun u51 => ((getO c46 x49.To).bind fun x53 => (if (x53 < 0) then ((inO (Int.toNat a.States) x49.To).bind fun u56 => ((setO c46 x49.To (order43.length : Int)).bind fun x58 => ((appO order43 [x49.To]).bind fun x60 => some (x60, x58)))) else some (order43, c46))))).bind fun ((order62, c63) : (List Int) × (List Int)) => ((inO (Int.toNat a.States) x49.To).bind fun u64 => ((getO c63 x49.To).bind fun x66 => ((appO r45 [(api_Edge.mk (i : Int) x49.Event x66)]).bind fun x68 => k47 (order62, (IntKind.wrap .i64 (x44 + 1)), x68, c63)))))) else some (order43, ms1, r45, c46))) fuel (o, 0, es, num)) fun x => k (x.1, IntKind.wrap .i64 ((i : Int) + 1), [], [], [], x.2.1, x.2.2.1, x.2.2.2)) = some (F, [], [], [], ms1 ++ marksP a.Marked (i + 1) (F.drop (i + 1)), (es ++ (outP a o[i]).map (fun x => ⟨(i : Int), x.Event, (((succP a o[i]).foldl ins o).idxOf x.To : Int)⟩)) ++ edgesP a F (i + 1) (F.drop (i + 1)), num') := by
          intro ms1 hms1
          obtain ⟨num1, n1, n2⟩ := canon_row h fuel hfu hol hto (ms := ms1) (i := i) hf hnm (es := es) (by omega)
          rw [n2]
          simp only [Option.bind_some]
          rw [wrap_succ (by omega)]
          have hel2 : (es ++ (outP a o[i]).map (fun x => (⟨(i : Int), x.Event, (((succP a o[i]).foldl ins o).idxOf x.To : Int)⟩ : api_Edge))).length ≤ 32 * (i + 1) := by simp only [List.length_append, List.length_map]; omega
          have hfin := ih _ ⟨i + 1, (succP a o[i]).foldl ins o, ms1, _, num1, rfl, by omega, q1, n1, hms1, hel2, hcl'⟩ (by simp only; omega) (i + 1) _ ms1 _ num1 rfl
          rw [hFe] at hfin
          exact hfin
        by_cases hm : o[i] ∈ a.Marked
        · simp only [hm, decide_true, if_true]
          rw [appO_some (by simp only [List.length_cons, List.length_nil]; unfold lim; omega)]
          simp only [Option.bind_some]
          obtain ⟨num1, n1⟩ := hstep (ms ++ [(i : Int)]) (by simp only [List.length_append, List.length_cons, List.length_nil]; omega)
          refine ⟨num1, Eq.trans ?_ (n1.trans ?_)⟩
          · rfl
          · simp only [List.append_assoc]
        · simp only [hm, decide_false, Bool.false_eq_true, if_false, Option.bind_some]
          obtain ⟨num1, n1⟩ := hstep ms (by omega)
          refine ⟨num1, Eq.trans ?_ (n1.trans ?_)⟩
          · rfl
          · simp only [List.append_assoc, List.nil_append]
      · rw [if_neg (by omega)]
        obtain rfl : i = o.length := by omega
        rw [bfs_end]
        exact ⟨num, by simp [marksP, edgesP]⟩) fuel ([0], 0, [], [], [], [], [], num) ⟨0, [0], [], [], num, rfl, by simp, ⟨by simp, fun s hs => by simp at hs; omega⟩, hn, by simp, by simp, fun j s hj => by omega⟩ (by simp only; omega) 0 [0] [] [] num rfl
  obtain ⟨num', hk⟩ := key
  refine ⟨num', ?_⟩
  rw [hk]
  simp [foundP, h0]
theorem canonical_form : g_automaton_canonical a = some (canonP a) := by
  have hst := h.st
  have hsb := h.small.2
  unfold g_automaton_canonical f_automaton_canonical
  obtain ⟨fuel, hfu, hge⟩ : ∃ f, fuel0 = f ∧ 1099511627776 ≤ f := ⟨_, rfl, Nat.le_refl _⟩
  rw [hfu, clone_ok (by unfold lim; omega), Option.bind_some]
  by_cases h0 : a.States = 0
  · rw [if_pos (by simpa using h0)]
    unfold canonP foundP
    rw [if_neg (by omega)]
    rw [h0]; rfl
  · rw [if_neg (by simpa using h0), show mkO a.States (0 : Int) = some (List.replicate a.States.toNat 0) from by unfold mkO; rw [if_pos ⟨by omega, by unfold lim; omega⟩], Option.bind_some]
    have hfill := iterF_inv (len := a.States.toNat) (F := fun (k9 : Int × List Int → Option (List Int)) ((x7, c8) : Int × (List Int)) => (if (x7 < ((Int.toNat a.States) : Int)) then ((inO (Int.toNat a.States) x7).bind fun u11 => ((setO c8 x7 (-1)).bind fun x13 => k9 ((IntKind.wrap .i64 (x7 + 1)), x13))) else some c8))
      (fun n (c : List Int) => ((n : Int), c)) (fun n c => c.length = a.States.toNat ∧ c.take n = List.replicate n (-1)) (fun _ _ => some (List.replicate a.States.toNat (-1))) (by
        rintro k n c hn ⟨k1, k2⟩ ih
        dsimp only
        rw [if_pos (by omega), show inO (Int.toNat a.States) (n : Int) = some () from by unfold inO; rw [if_pos (by omega)], Option.bind_some, show setO c (n : Int) (-1) = some (c.set n (-1)) from by unfold setO; rw [if_pos ⟨by omega, by rw [k1]; simpa using hn⟩]; rfl, Option.bind_some, wrap_succ (by omega)]
        refine ih _ ⟨by rw [List.length_set]; exact k1, ?_⟩
        rw [List.take_add_one, List.take_set_of_le (Nat.le_refl _), k2, List.getElem?_set_self (by omega)]
        rw [List.replicate_succ']; rfl) (by
        rintro k c ⟨k1, k2⟩
        dsimp only
        rw [if_neg (by omega)]
        rw [← k1, List.take_length, k1] at k2
        rw [k2]) fuel 0 (List.replicate a.States.toNat 0) (Nat.zero_le _) (by omega) ⟨by simp, by simp⟩
    refine (congrArg (fun w => Option.bind w _) hfill).trans ?_
    rw [Option.bind_some, show inO (Int.toNat a.States) 0 = some () from by unfold inO; rw [if_pos (by omega)], Option.bind_some]
    have hn : Num a [0] ((List.replicate a.States.toNat (-1)).set 0 0) := ⟨by simp, fun s hs => by
      rw [List.getElem?_set]
      cases s with
      | zero => simp; omega
      | succ s => simp [hs]; omega⟩
    rw [show setO (List.replicate a.States.toNat (-1 : Int)) 0 0 = some ((List.replicate a.States.toNat (-1)).set 0 0) from by unfold setO; rw [if_pos ⟨by omega, by simp; omega⟩]; rfl, Option.bind_some]
    obtain ⟨num', hk⟩ := canon_loop h fuel hge (by omega) hn
    rw [hk]
    rfl
end
end Go.Abs
end
section
namespace Go.Abs
open Go
set_option linter.unusedSimpArgs false
set_option linter.unusedVariables false
def compRow (a : api_Automaton) (s : Int) : List api_Edge := a.Alphabet.map fun e => ⟨s, e, if 0 ≤ stepP a s e then stepP a s e else a.States⟩
def compE (a : api_Automaton) : Nat → List api_Edge
  | 0 => []
  | n + 1 => compE a n ++ compRow a (n : Int)
def compP (a : api_Automaton) : api_Automaton := ⟨a.Alphabet, a.States + 1, a.Marked, compE a (a.States + 1).toNat⟩
theorem compE_len {a : api_Automaton} : ∀ n, (compE a n).length = n * a.Alphabet.length
  | 0 => by simp [compE]
  | n + 1 => by simp [compE, compE_len n, compRow, Nat.succ_mul]
theorem mem_compE {a : api_Automaton} : ∀ n (x : api_Edge), x ∈ compE a n ↔ ∃ i : Nat, i < n ∧ x ∈ compRow a i
  | 0, x => by simp [compE]
  | n + 1, x => by
    simp only [compE, List.mem_append, mem_compE n x]
    constructor
    · rintro (⟨i, h1, h2⟩ | h)
      · exact ⟨i, by omega, h2⟩
      · exact ⟨n, by omega, h⟩
    · rintro ⟨i, h1, h2⟩
      by_cases h : i < n
      · exact .inl ⟨i, h, h2⟩
      · obtain rfl : i = n := by omega
        exact .inr h2
theorem mem_compRow {a : api_Automaton} {s : Int} {x : api_Edge} : x ∈ compRow a s ↔ x.From = s ∧ x.Event ∈ a.Alphabet ∧ x.To = if 0 ≤ stepP a s x.Event then stepP a s x.Event else a.States := by
  unfold compRow
  simp only [List.mem_map]
  constructor
  · rintro ⟨e, he, rfl⟩; exact ⟨rfl, he, rfl⟩
  · rintro ⟨h1, h2, h3⟩; exact ⟨x.Event, h2, by cases x; simp_all⟩
section
variable {a : api_Automaton} (h : Right a)
include h
theorem compE_sorted : ∀ n, (compE a n).Pairwise keyLt
  | 0 => .nil
  | n + 1 => by
    simp only [compE]
    rw [List.pairwise_append]
    refine ⟨compE_sorted n, ?_, fun x hx y hy => ?_⟩
    · unfold compRow
      rw [List.pairwise_map]
      exact h.al.imp fun hk => .inr ⟨rfl, hk⟩
    · obtain ⟨i, h1, h2⟩ := (mem_compE n x).1 hx
      have := (mem_compRow.1 h2).1
      have := (mem_compRow.1 hy).1
      exact .inl (by omega)
theorem compP_right (hst : a.States < 4096) : Right (compP a) := by
  have h0 := h.st
  refine ⟨h.al0, h.al, ⟨by simp only [compP]; omega, by simp only [compP]; omega⟩, fun x hx => ?_, h.ma, fun x hx => ?_, compE_sorted h _⟩
  · have := h.ma0 x hx; simp only [compP]; omega
  · obtain ⟨i, h1, h2⟩ := (mem_compE _ x).1 hx
    obtain ⟨k1, k2, k3⟩ := mem_compRow.1 h2
    have := stepP_range h i x.Event
    simp only [compP]
    refine ⟨by omega, by omega, ?_, ?_, k2⟩
    · rw [k3]; split <;> omega
    · rw [k3]; split <;> omega
theorem comp_row (fuel : Nat) (hfu : 1099511627776 ≤ fuel) {s : Nat} (hs : (s : Int) ≤ a.States) {es : List api_Edge} (hes : es.length ≤ 400000) :
    iterF (fun k16 ((x14, r15) : Int × (List api_Edge)) => (if (x14 < (a.Alphabet.length : Int)) then ((getO a.Alphabet x14).bind fun x18 => (((if ((s : Int) < a.States) then ((g_automaton_next a (s : Int) x18).bind fun x22 => (if (x22 ≥ 0) then some x22 else some a.States)) else some a.States)).bind fun (to24 : Int) => ((appO r15 [(api_Edge.mk (s : Int) x18 to24)]).bind fun x25 => k16 ((IntKind.wrap .i64 (x14 + 1)), x25)))) else some r15)) fuel (0, es) = some (es ++ compRow a s) := by
  have hst := h.st
  have hsm := h.small
  have hb : a.Alphabet.length < 1000000000000 := hsm.1.1
  refine (iterF_inv (len := a.Alphabet.length) (fun n (acc : List api_Edge) => ((n : Int), acc)) (fun n acc => acc.length ≤ 400000 + n) (fun n acc => some (acc ++ (a.Alphabet.drop n).map fun e => ⟨(s : Int), e, if 0 ≤ stepP a s e then stepP a s e else a.States⟩)) ?_ ?_ fuel 0 es (Nat.zero_le _) (by omega) (by omega)).trans (by simp [compRow])
  · intro k n acc hn hi ih
    dsimp only
    rw [if_pos (by omega), getO_nat hn, wrap_succ (by omega), List.drop_eq_getElem_cons hn]
    simp only [Option.bind_some]
    have hto : (if ((s : Int) < a.States) then ((g_automaton_next a (s : Int) a.Alphabet[n]).bind fun x22 => (if (x22 ≥ 0) then some x22 else some a.States)) else some a.States) = some (if 0 ≤ stepP a s a.Alphabet[n] then stepP a s a.Alphabet[n] else a.States) := by
      by_cases h1 : (s : Int) < a.States
      · rw [if_pos h1, next_ok h hsm.1 (by omega) (by omega), Option.bind_some]
        by_cases h2 : 0 ≤ stepP a s a.Alphabet[n]
        · rw [if_pos h2, if_pos h2]
        · rw [if_neg h2, if_neg h2]
      · have := stepP_range h s a.Alphabet[n]
        rw [if_neg h1, if_neg (by omega)]
    rw [hto]
    simp only [Option.bind_some]
    rw [appO_some (by simp only [List.length_cons, List.length_nil]; unfold lim; omega)]
    simp only [Option.bind_some]
    rw [ih _ (by simp only [List.length_append, List.length_cons, List.length_nil]; omega)]
    simp only [List.map_cons, List.append_assoc, List.cons_append, List.nil_append]
  · intro k acc _
    dsimp only
    rw [if_neg (by omega)]; simp
theorem complete_ok (hst : a.States < 4096) : g_automaton_Complete a = some (canonP (compP a), 0) := by
  have h0 := h.st
  have hsm := h.small
  have hr := compP_right h hst
  unfold g_automaton_Complete f_automaton_Complete
  obtain ⟨fuel, hfu, hge⟩ : ∃ f, fuel0 = f ∧ 1099511627776 ≤ f := ⟨_, rfl, Nat.le_refl _⟩
  rw [hfu, check_right h, Option.bind_some, if_neg (by simp), wrap_id (x := a.States + 1) (by omega) (by omega)]
  have hloop := iterF_inv (len := (a.States + 1).toNat) (F := (fun (k12 : Int × Int × List Int × List Int × List api_Edge × Int × List api_Edge → Option (List Int × List Int × List api_Edge × Int × List api_Edge)) ((x5, x6, c7, c8, c9, r10, r11) : Int × Int × (List Int) × (List Int) × (List api_Edge) × Int × (List api_Edge)) => (if (x6 < x5) then ((iterF (fun k16 ((x14, r15) : Int × (List api_Edge)) => (if (x14 < (a.Alphabet.length : Int)) then ((getO a.Alphabet x14).bind fun x18 => (((if (x6 < a.States) then ((g_automaton_next a x6 x18).bind fun x22 => (if (x22 ≥ 0) then some x22 else some a.States)) else some a.States)).bind fun (to24 : Int) => ((appO r15 [(api_Edge.mk x6 x18 to24)]).bind fun x25 => k16 ((IntKind.wrap .i64 (x14 + 1)), x25)))) else some r15)) fuel (0, r11)).bind fun (r27 : List api_Edge) => k12 (x5, (IntKind.wrap .i64 (x6 + 1)), c7, c8, c9, r10, r27)) else some (c7, c8, c9, r10, r11))))
    (fun n (acc : List api_Edge) => (a.States + 1, (n : Int), ([] : List Int), ([] : List Int), ([] : List api_Edge), a.States + 1, acc)) (fun n acc => acc = compE a n) (fun n acc => some ([], [], [], a.States + 1, compE a (a.States + 1).toNat)) (by
      intro k n acc hn hi ih
      subst hi
      dsimp only
      have hle : (compE a n).length ≤ 400000 := by
        rw [compE_len]
        have : n * a.Alphabet.length ≤ 4096 * 32 := Nat.mul_le_mul (by omega) hsm.2.1
        omega
      rw [if_pos (by omega), comp_row h fuel hge (by omega) hle, Option.bind_some, wrap_succ (by omega)]
      exact ih _ rfl) (by
      intro k acc hi
      subst hi
      dsimp only
      rw [if_neg (by omega)]) fuel 0 [] (Nat.zero_le _) (by omega) rfl
  refine (congrArg (fun w => Option.bind w _) hloop).trans ?_
  rw [Option.bind_some]
  show Option.bind (g_automaton_canonical (compP a)) _ = _
  rw [canonical_form hr, Option.bind_some]
  have := (canonP_right hr).st
  rw [if_neg (by omega)]
theorem outP_comp {s : Int} (h0 : 0 ≤ s) (h1 : s ≤ a.States) : outP (compP a) s = compRow a s := by
  have hst := h.st
  have key : ∀ n : Nat, (compE a n).filter (fun x => x.From == s) = if s < n then compRow a s else [] := by
    intro n
    induction n with
    | zero => simp [compE]; omega
    | succ n ih =>
      simp only [compE, List.filter_append, ih]
      by_cases hq : s = (n : Int)
      · have : (compRow a (n : Int)).filter (fun x => x.From == s) = compRow a (n : Int) := List.filter_eq_self.2 fun x hx => by have := (mem_compRow.1 hx).1; simp [hq, this]
        rw [this, if_neg (by omega), if_pos (by omega), hq]; rfl
      · have : (compRow a (n : Int)).filter (fun x => x.From == s) = [] := List.filter_eq_nil_iff.2 fun x hx => by have := (mem_compRow.1 hx).1; simp; omega
        rw [this, List.append_nil]
        by_cases hlt : s < n
        · rw [if_pos hlt, if_pos (by omega)]
        · rw [if_neg hlt, if_neg (by omega)]
  unfold outP compP
  simp only
  rw [key, if_pos (by omega)]
theorem step_comp {s e : Int} (h0 : 0 ≤ s) (h1 : s ≤ a.States) (he : e ∈ a.Alphabet) : stepP (compP a) s e = if 0 ≤ stepP a s e then stepP a s e else a.States := by
  rw [stepP_out, outP_comp h h0 h1]
  have : ∀ al : List Int, e ∈ al → ((al.map fun e => (⟨s, e, if 0 ≤ stepP a s e then stepP a s e else a.States⟩ : api_Edge)).find? fun x => x.Event == e) = some ⟨s, e, if 0 ≤ stepP a s e then stepP a s e else a.States⟩ := by
    intro al
    induction al with
    | nil => simp
    | cons x al ih =>
      intro hm
      rw [List.map_cons, List.find?_cons]
      by_cases hx : x = e
      · subst hx; simp
      · have hb : ((⟨s, x, if 0 ≤ stepP a s x then stepP a s x else a.States⟩ : api_Edge).Event == e) = false := by simp [hx]
        rw [hb]
        rcases List.mem_cons.1 hm with rfl | hm
        · exact absurd rfl hx
        · exact ih hm
  unfold compRow
  rw [this _ he]
theorem run_sink : ∀ (w : List Int) (n : Nat), (∀ e ∈ w, e ∈ a.Alphabet) → runP (compP a) a.States n w = (a.States, ((n + w.length : Nat) : Int))
  | [], n, _ => by simp [runP]
  | e :: w, n, hw => by
    have h0 := h.st
    have := stepP_range h a.States e
    simp only [runP]
    rw [step_comp h h0.1 (Int.le_refl _) (hw e (by simp)), if_neg (show ¬ 0 ≤ stepP a a.States e from by omega), if_pos h0.1, run_sink w (n + 1) fun e he => hw e (by simp [he])]
    simp only [List.length_cons]
    congr 2; omega
theorem run_comp : ∀ (w : List Int) (s : Int) (n : Nat), 0 ≤ s → s < a.States → (∀ e ∈ w, e ∈ a.Alphabet) →
    (runP (compP a) s n w).2 = ((n + w.length : Nat) : Int) ∧ ((runP (compP a) s n w).1 ∈ a.Marked ↔ (runP a s n w).2 = ((n + w.length : Nat) : Int) ∧ (runP a s n w).1 ∈ a.Marked)
  | [], s, n, h0, h1, _ => by simp [runP]
  | e :: w, s, n, h0, h1, hw => by
    have hr := stepP_range h s e
    have hst := h.st
    simp only [runP]
    rw [step_comp h h0 (by omega) (hw e (by simp))]
    by_cases hp : 0 ≤ stepP a s e
    · rw [if_pos hp, if_pos hp, if_pos hp]
      have := run_comp w (stepP a s e) (n + 1) hp (by omega) fun e he => hw e (by simp [he])
      rw [show n + (e :: w).length = n + 1 + w.length from by simp only [List.length_cons]; omega]
      exact this
    · rw [if_neg hp, if_pos hst.1, if_neg hp, run_sink h w (n + 1) fun e he => hw e (by simp [he])]
      simp only [List.length_cons]
      refine ⟨by omega, ?_⟩
      constructor
      · intro hm; have := h.ma0 _ hm; omega
      · rintro ⟨hq, _⟩; omega
theorem comp_gen {w : List Int} (hw : ∀ e ∈ w, e ∈ a.Alphabet) : genP (compP a) w = true := by
  have hst := h.st
  unfold genP
  by_cases h0 : 0 < a.States
  · have := (run_comp h w 0 0 (by omega) h0 hw).1
    rw [this]
    simp only [Nat.zero_add, beq_self_eq_true, Bool.and_true, decide_eq_true_eq]
    show 0 < a.States + 1
    omega
  · have hz : a.States = 0 := by omega
    have := run_sink h w 0 hw
    rw [hz] at this
    rw [this]; simp [compP, hz]
theorem comp_acc {w : List Int} (hw : ∀ e ∈ w, e ∈ a.Alphabet) : accP (compP a) w = accP a w := by
  have hst := h.st
  unfold accP
  rw [comp_gen h hw]
  by_cases h0 : 0 < a.States
  · have := (run_comp h w 0 0 (by omega) h0 hw).2
    unfold genP
    rw [Bool.eq_iff_iff]
    simp only [Bool.true_and, decide_eq_true_eq, Bool.and_eq_true, beq_iff_eq]
    simp only [Nat.zero_add] at this
    show _ ∈ a.Marked ↔ _
    rw [this]
    constructor
    · rintro ⟨h1, h2⟩; exact ⟨⟨h0, h1⟩, h2⟩
    · rintro ⟨⟨_, h1⟩, h2⟩; exact ⟨h1, h2⟩
  · have hz : a.Marked = [] := by
      cases hm : a.Marked with
      | nil => rfl
      | cons x l => have := h.ma0 x (by rw [hm]; simp); omega
    unfold genP
    have e1 : (compP a).Marked = [] := hz
    rw [e1, hz]; simp
end
def countP (n : Nat) : List Int := (List.range n).map fun i : Nat => (i : Int)
theorem countP_succ (n : Nat) : countP (n + 1) = countP n ++ [(n : Int)] := by simp [countP, List.range_succ]
theorem countP_len (n : Nat) : (countP n).length = n := by simp [countP]
theorem mem_countP {n : Nat} {x : Int} : x ∈ countP n ↔ 0 ≤ x ∧ x < n := by
  unfold countP
  simp only [List.mem_map, List.mem_range]
  constructor
  · rintro ⟨i, h, rfl⟩; omega
  · rintro ⟨h1, h2⟩; exact ⟨x.toNat, by omega, by omega⟩
theorem countP_sorted : ∀ n, (countP n).Pairwise (· < ·)
  | 0 => .nil
  | n + 1 => by
    rw [countP_succ, List.pairwise_append]
    refine ⟨countP_sorted n, by simp, fun x hx y hy => ?_⟩
    have := mem_countP.1 hx
    simp at hy; omega
def closedP (a : api_Automaton) : api_Automaton := ⟨a.Alphabet, a.States, countP a.States.toNat, a.Edges⟩
theorem closedP_right {a : api_Automaton} (h : Right a) : Right (closedP a) :=
  ⟨h.al0, h.al, h.st, fun x hx => by have := mem_countP.1 hx; simp only [closedP]; omega, countP_sorted _, h.ed0, h.ed⟩
theorem run_closed {a : api_Automaton} (w : List Int) (s : Int) (n : Nat) : runP (closedP a) s n w = runP a s n w := by
  induction w generalizing s n with
  | nil => rfl
  | cons e w ih =>
    simp only [runP, ih]; rfl
theorem run_range {a : api_Automaton} (h : Right a) : ∀ (w : List Int) (s : Int) (n : Nat), 0 ≤ s → s < a.States → 0 ≤ (runP a s n w).1 ∧ (runP a s n w).1 < a.States
  | [], s, n, h0, h1 => ⟨h0, h1⟩
  | e :: w, s, n, h0, h1 => by
    have hr := stepP_range h s e
    simp only [runP]
    by_cases hp : 0 ≤ stepP a s e
    · rw [if_pos hp]; exact run_range h w _ _ hp (by omega)
    · rw [if_neg hp]; exact ⟨h0, h1⟩
theorem closed_acc {a : api_Automaton} (h : Right a) (w : List Int) : accP (closedP a) w = genP a w := by
  unfold accP genP
  rw [run_closed]
  by_cases h0 : 0 < a.States
  · have := run_range h w 0 0 (by omega) h0
    have hm : (runP a 0 0 w).1 ∈ (closedP a).Marked := mem_countP.2 (by omega)
    simp only [hm, decide_true, Bool.and_true]; rfl
  · simp [closedP, h0]
theorem closed_ok {a : api_Automaton} (h : Right a) : g_automaton_Closed a = some (closedP (canonP a), 0) := by
  have hr := canonP_right h
  have hst := hr.st
  unfold g_automaton_Closed f_automaton_Closed
  obtain ⟨fuel, hfu, hge⟩ : ∃ f, fuel0 = f ∧ 1099511627776 ≤ f := ⟨_, rfl, Nat.le_refl _⟩
  rw [hfu, check_right h, Option.bind_some, if_neg (by simp), canonical_form h, Option.bind_some]
  generalize canonP a = c at hr hst
  have hloop := iterF_inv (len := c.States.toNat) (F := (fun (k12 : Int × List Int × List Int × List api_Edge × List Int → Option (List Int × List Int × List api_Edge × List Int)) ((x7, c8, c9, c10, r11) : Int × (List Int) × (List Int) × (List api_Edge) × (List Int)) => (if (x7 < c.States) then ((appO r11 [x7]).bind fun x14 => k12 ((IntKind.wrap .i64 (x7 + 1)), c8, c9, c10, x14)) else some (c8, c9, c10, r11))))
    (fun n (acc : List Int) => ((n : Int), ([] : List Int), ([] : List Int), ([] : List api_Edge), acc)) (fun n acc => acc = countP n) (fun n acc => some ([], [], [], countP c.States.toNat)) (by
      intro k n acc hn hi ih
      subst hi
      dsimp only
      rw [if_pos (by omega), appO_some (by simp only [List.length_cons, List.length_nil, countP_len]; unfold lim; omega), Option.bind_some, wrap_succ (by omega)]
      exact ih _ (countP_succ n).symm) (by
      intro k acc hi
      subst hi
      dsimp only
      rw [if_neg (by omega)]) fuel 0 [] (Nat.zero_le _) (by omega) rfl
  refine (congrArg (fun w => Option.bind w _) hloop).trans ?_
  rfl
end Go.Abs
end
section
namespace Go.Abs
open Go
theorem known_ok : g_overseerlaw03_known = some true := by kernel_rfl
theorem same_loop {α : Type} [DecidableEq α] {s t : List α} {ne : α → α → Bool} (hne : ∀ x y, ne x y = decide (x ≠ y)) (hl : s.length = t.length) (h : s.length < 1000000000000) :
    iterF (fun k5 (i4 : Int) => (if (i4 < (s.length : Int)) then ((getO s i4).bind fun x7 => ((getO t i4).bind fun x9 => (if ne x7 x9 then some false else k5 (IntKind.wrap .i64 (i4 + 1))))) else some true)) fuel0 0 = some (decide (s = t)) := by
  refine iterF_to (fun i : Int => ∃ n : Nat, i = n ∧ n ≤ s.length ∧ s.take n = t.take n) (fun i => s.length - i.toNat) _ ⟨0, rfl, by omega, by simp⟩ (by unfold fuel0; omega) ?_
  rintro k _ ⟨n, rfl, hn, he⟩ ih
  by_cases hlt : n < s.length
  · rw [if_pos (by omega), getO_nat hlt, getO_nat (by omega : n < t.length)]
    simp only [Option.bind_some, hne]
    by_cases hx : s[n] = t[n]
    · rw [if_neg (by simp [hx]), wrap_succ (by omega)]
      exact ih _ ⟨n + 1, rfl, by omega, take_eq_succ hlt (by omega) he hx⟩ (by omega)
    · rw [if_pos (by simp [hx])]
      have : s ≠ t := fun e => hx (by subst e; rfl)
      simp [this]
  · rw [if_neg (by omega)]
    have e : n = s.length := by omega
    have : s = t := by
      rw [e, List.take_length, hl, List.take_length] at he; exact he
    simp [this]
theorem edge_ne (x y : api_Edge) : (!((x.From == y.From) && ((x.Event == y.Event) && ((x.To == y.To) && true)))) = decide (x ≠ y) := by
  cases x; cases y
  simp only [api_Edge.mk.injEq, Bool.and_true, ne_eq, decide_not]
  congr 1
  rw [Bool.eq_iff_iff]; simp
theorem equal_int {s t : List Int} (h : s.length < 1000000000000) : g_slices_Equal_int s t = some (decide (s = t)) := by
  unfold g_slices_Equal_int f_slices_Equal_int
  by_cases hl : s.length = t.length
  · rw [if_neg (by simp [hl])]
    exact same_loop (ne := fun x y => x != y) (fun x y => by rw [Bool.eq_iff_iff]; simp) hl h
  · rw [if_pos (by simp; omega)]
    have : s ≠ t := fun e => hl (by rw [e])
    simp [this]
theorem sameInts {s t : List Int} (h : s.length < 1000000000000) : g_overseerref03_SameInts s t = some (decide (s = t)) := equal_int h
theorem if_not {R : Type} (b : Bool) (A B : R) : (if b then A else B) = if (!b) then B else A := by cases b <;> rfl
theorem equal_edge {s t : List api_Edge} (h : s.length < 1000000000000) : g_slices_Equal_Edge s t = some (decide (s = t)) := by
  unfold g_slices_Equal_Edge f_slices_Equal_Edge
  by_cases hl : s.length = t.length
  · rw [if_neg (by simp [hl])]
    have := same_loop (ne := fun x y => !((x.From == y.From) && ((x.Event == y.Event) && ((x.To == y.To) && true)))) edge_ne hl h
    simp only [← if_not] at this
    exact this
  · rw [if_pos (by simp; omega)]
    have : s ≠ t := fun e => hl (by rw [e])
    simp [this]
theorem same_ok {a b : api_Automaton} (h : small a) : g_overseerref03_Same a b = some (decide (a = b)) := by
  unfold g_overseerref03_Same f_overseerref03_Same
  rw [sameInts h.1, sameInts h.2.1]
  obtain ⟨al, s, m, e⟩ := a
  obtain ⟨al', s', m', e'⟩ := b
  have hlen : e.length ≠ e'.length → ¬ e = e' := fun h k => h (by rw [k])
  have hlen2 : ((e.length : Int) != (e'.length : Int)) = decide (e.length ≠ e'.length) := by
    rw [Bool.eq_iff_iff]; simp; omega
  by_cases hl : e.length = e'.length
  · have := same_loop (ne := fun x y => !((x.From == y.From) && ((x.Event == y.Event) && ((x.To == y.To) && true)))) edge_ne hl h.2.2
    simp only [← if_not] at this
    rw [this]
    simp only [Option.bind_some, api_Automaton.mk.injEq, hlen2]
    by_cases h1 : s = s' <;> by_cases h2 : al = al' <;> by_cases h3 : m = m' <;> simp [h1, h2, h3, hl]
  · generalize iterF _ fuel0 0 = L
    simp only [Option.bind_some, api_Automaton.mk.injEq, hlen2]
    by_cases h1 : s = s' <;> by_cases h2 : al = al' <;> by_cases h3 : m = m' <;> simp [h1, h2, h3, hl, hlen hl]
end Go.Abs
end
section
namespace Go.Abs
open Go
set_option linter.unusedSimpArgs false
set_option linter.unusedVariables false
section
variable {a : api_Automaton} (h : Right a)
include h
theorem refComp_loop (fuel : Nat) (hfu : 1099511627776 ≤ fuel) {s : Nat} {es : List api_Edge} (hes : es.length ≤ 400000) :
    iterF (fun k12 ((k10, out11) : Int × (List api_Edge)) => (if (k10 < (a.Alphabet.length : Int)) then ((getO a.Alphabet k10).bind fun x14 => ((g_overseerref03_Step a (s : Int) x14).bind fun x17 => (((if (x17 < 0) then some a.States else some x17)).bind fun (to19 : Int) => ((getO a.Alphabet k10).bind fun x20 => ((appO out11 [(api_Edge.mk (s : Int) x20 to19)]).bind fun x22 => k12 ((IntKind.wrap .i64 (k10 + 1)), x22)))))) else some out11)) fuel (0, es) = some (es ++ compRow a s) := by
  have hsm := h.small
  have hb : a.Alphabet.length < 1000000000000 := hsm.1.1
  refine (iterF_inv (len := a.Alphabet.length) (fun n (acc : List api_Edge) => ((n : Int), acc)) (fun n acc => acc.length ≤ 400000 + n) (fun n acc => some (acc ++ (a.Alphabet.drop n).map fun e => ⟨(s : Int), e, if 0 ≤ stepP a s e then stepP a s e else a.States⟩)) ?_ ?_ fuel 0 es (Nat.zero_le _) (by omega) (by omega)).trans (by simp [compRow])
  · intro k n acc hn hi ih
    dsimp only
    rw [if_pos (by omega), getO_nat hn, wrap_succ (by omega), List.drop_eq_getElem_cons hn]
    simp only [Option.bind_some]
    rw [refStep_ok hsm.1]
    simp only [Option.bind_some]
    have hto : (if stepP a s a.Alphabet[n] < 0 then some a.States else some (stepP a s a.Alphabet[n])) = some (if 0 ≤ stepP a s a.Alphabet[n] then stepP a s a.Alphabet[n] else a.States) := by
      by_cases h2 : 0 ≤ stepP a s a.Alphabet[n]
      · rw [if_neg (by omega), if_pos h2]
      · rw [if_pos (by omega), if_neg h2]
    rw [hto]
    simp only [Option.bind_some]
    rw [appO_some (by simp only [List.length_cons, List.length_nil]; unfold lim; omega)]
    simp only [Option.bind_some]
    rw [ih _ (by simp only [List.length_append, List.length_cons, List.length_nil]; omega)]
    simp only [List.map_cons, List.append_assoc, List.cons_append, List.nil_append]
  · intro k acc _
    dsimp only
    rw [if_neg (by omega)]; simp
theorem refComplete_ok (hst : a.States < 4096) : g_overseerref03_Complete a = some (canonP (compP a)) := by
  have h0 := h.st
  have hsm := h.small
  have hr := compP_right h hst
  unfold g_overseerref03_Complete f_overseerref03_Complete
  obtain ⟨fuel, hfu, hge⟩ : ∃ f, fuel0 = f ∧ 1099511627776 ≤ f := ⟨_, rfl, Nat.le_refl _⟩
  rw [hfu, wrap_id (x := a.States + 1) (by omega) (by omega)]
  have hloop := iterF_inv (len := (a.States + 1).toNat) (F := (fun (k8 : Int × List Int × List Int × List api_Edge × Int × List api_Edge → Option (List Int × List Int × List api_Edge × Int × List api_Edge)) ((state2, c3, c4, c5, out6, out7) : Int × (List Int) × (List Int) × (List api_Edge) × Int × (List api_Edge)) => (if (state2 ≤ a.States) then ((iterF (fun k12 ((k10, out11) : Int × (List api_Edge)) => (if (k10 < (a.Alphabet.length : Int)) then ((getO a.Alphabet k10).bind fun x14 => ((g_overseerref03_Step a state2 x14).bind fun x17 => (((if (x17 < 0) then some a.States else some x17)).bind fun (to19 : Int) => ((getO a.Alphabet k10).bind fun x20 => ((appO out11 [(api_Edge.mk state2 x20 to19)]).bind fun x22 => k12 ((IntKind.wrap .i64 (k10 + 1)), x22)))))) else some out11)) fuel (0, out7)).bind fun (out24 : List api_Edge) => k8 ((IntKind.wrap .i64 (state2 + 1)), c3, c4, c5, out6, out24)) else some (c3, c4, c5, out6, out7))))
    (fun n (acc : List api_Edge) => ((n : Int), ([] : List Int), ([] : List Int), ([] : List api_Edge), a.States + 1, acc)) (fun n acc => acc = compE a n) (fun n acc => some ([], [], [], a.States + 1, compE a (a.States + 1).toNat)) (by
      intro k n acc hn hi ih
      subst hi
      dsimp only
      have hle : (compE a n).length ≤ 400000 := by
        rw [compE_len]
        have : n * a.Alphabet.length ≤ 4096 * 32 := Nat.mul_le_mul (by omega) hsm.2.1
        omega
      rw [if_pos (by omega), refComp_loop h fuel hge hle, Option.bind_some, wrap_succ (by omega)]
      exact ih _ rfl) (by
      intro k acc hi
      subst hi
      dsimp only
      rw [if_neg (by omega)]) fuel 0 [] (Nat.zero_le _) (by omega) rfl
  refine (congrArg (fun w => Option.bind w _) hloop).trans ?_
  rw [Option.bind_some]
  show Option.bind (g_overseerref03_Canonical (compP a)) _ = _
  rw [refCanonical_ok hr, Option.bind_some]
theorem refClosed_ok : g_overseerref03_Closed a = some (closedP (canonP a)) := by
  have hr := canonP_right h
  have hst := hr.st
  unfold g_overseerref03_Closed f_overseerref03_Closed
  obtain ⟨fuel, hfu, hge⟩ : ∃ f, fuel0 = f ∧ 1099511627776 ≤ f := ⟨_, rfl, Nat.le_refl _⟩
  rw [hfu, refCanonical_ok h, Option.bind_some]
  generalize canonP a = c at hr hst
  have hloop := iterF_inv (len := c.States.toNat) (F := (fun (k12 : Int × List Int × List Int × List api_Edge × List Int → Option (List Int × List Int × List api_Edge × List Int)) ((x7, c8, c9, c10, r11) : Int × (List Int) × (List Int) × (List api_Edge) × (List Int)) => (if (x7 < c.States) then ((appO r11 [x7]).bind fun x14 => k12 ((IntKind.wrap .i64 (x7 + 1)), c8, c9, c10, x14)) else some (c8, c9, c10, r11))))
    (fun n (acc : List Int) => ((n : Int), ([] : List Int), ([] : List Int), ([] : List api_Edge), acc)) (fun n acc => acc = countP n) (fun n acc => some ([], [], [], countP c.States.toNat)) (by
      intro k n acc hn hi ih
      subst hi
      dsimp only
      rw [if_pos (by omega), appO_some (by simp only [List.length_cons, List.length_nil, countP_len]; unfold lim; omega), Option.bind_some, wrap_succ (by omega)]
      exact ih _ (countP_succ n).symm) (by
      intro k acc hi
      subst hi
      dsimp only
      rw [if_neg (by omega)]) fuel 0 [] (Nat.zero_le _) (by omega) rfl
  refine (congrArg (fun w => Option.bind w _) hloop).trans ?_
  rfl
end
theorem word_loop {a : api_Automaton} (h : Right a) (fuel : Nat) (hfu : 1099511627776 ≤ fuel) {w : List Int} (hw : w.length ≤ 8) (hu : ∀ x ∈ w, 0 ≤ x ∧ x < 256) :
    ∃ v : List Int, v.length ≤ 8 ∧ (∀ e ∈ v, e ∈ a.Alphabet) ∧ iterF (fun k36 ((w34, i35) : (List Int) × Int) => (((if (i35 < (w.length : Int)) then some (decide ((a.Alphabet.length : Int) > 0)) else some false)).bind fun (x38 : Bool) => (if x38 then ((getO w i35).bind fun x40 => ((remO .i64 (IntKind.wrap .i64 x40) (a.Alphabet.length : Int)).bind fun s42 => ((getO a.Alphabet s42).bind fun x44 => ((appO w34 [x44]).bind fun x46 => k36 (x46, (IntKind.wrap .i64 (i35 + 1))))))) else some w34))) fuel ([], 0) = some v := by
  have key := iterF_rule (F := (fun (k36 : List Int × Int → Option (List Int)) ((w34, i35) : (List Int) × Int) => (((if (i35 < (w.length : Int)) then some (decide ((a.Alphabet.length : Int) > 0)) else some false)).bind fun (x38 : Bool) => (if x38 then ((getO w i35).bind fun x40 => ((remO .i64 (IntKind.wrap .i64 x40) (a.Alphabet.length : Int)).bind fun s42 => ((getO a.Alphabet s42).bind fun x44 => ((appO w34 [x44]).bind fun x46 => k36 (x46, (IntKind.wrap .i64 (i35 + 1))))))) else some w34))))
    (fun x => ∃ n : Nat, x.2 = (n : Int) ∧ n ≤ w.length ∧ x.1.length ≤ n ∧ ∀ e ∈ x.1, e ∈ a.Alphabet) (fun x => w.length - x.2.toNat) (fun _ r => ∃ v : List Int, v.length ≤ 8 ∧ (∀ e ∈ v, e ∈ a.Alphabet) ∧ r = some v) (by
      rintro k ⟨v, i⟩ ⟨n, rfl, hn, hv, he⟩ ih
      replace hv : v.length ≤ n := hv
      replace he : ∀ e ∈ v, e ∈ a.Alphabet := he
      dsimp only
      by_cases hlt : n < w.length
      · rw [if_pos (by omega)]
        simp only [Option.bind_some]
        by_cases ha : a.Alphabet.length > 0
        · rw [if_pos (by simp; omega), getO_nat hlt]
          simp only [Option.bind_some]
          have hx := hu _ (List.getElem_mem hlt)
          rw [wrap_id (x := w[n]) (by omega) (by omega), show remO .i64 w[n] (a.Alphabet.length : Int) = some (w[n].tmod (a.Alphabet.length : Int)) from by unfold remO; rw [if_neg (by omega)]]
          simp only [Option.bind_some]
          have hm0 : 0 ≤ w[n].tmod (a.Alphabet.length : Int) := Int.tmod_nonneg _ hx.1
          have hm1 : w[n].tmod (a.Alphabet.length : Int) < (a.Alphabet.length : Int) := Int.tmod_lt_of_pos _ (by omega)
          obtain ⟨m, hm⟩ := Int.eq_ofNat_of_zero_le hm0
          rw [hm] at hm1 ⊢
          have hmn : m < a.Alphabet.length := by omega
          rw [getO_nat hmn]
          simp only [Option.bind_some]
          rw [appO_some (by simp only [List.length_cons, List.length_nil]; unfold lim; omega)]
          simp only [Option.bind_some]
          rw [wrap_succ (by omega)]
          refine ih _ ⟨n + 1, rfl, by omega, by simp only [List.length_append, List.length_cons, List.length_nil]; omega, fun e he' => ?_⟩ (by simp only; omega)
          rcases List.mem_append.1 he' with h1 | h1
          · exact he e h1
          · simp at h1; subst h1; exact List.getElem_mem hmn
        · rw [if_neg (by simpa using ha)]
          exact ⟨v, by omega, he, rfl⟩
      · rw [if_neg (by omega)]
        exact ⟨v, by omega, he, rfl⟩) fuel ([], 0) ⟨0, rfl, Nat.zero_le _, by simp, by simp⟩ (by simp only; omega)
  exact key
theorem automatonCompletes_ok (s : Int) (g : overseerlaw03_Graph) (word : List Int) (hs : 0 ≤ s ∧ s < 256) (hg : GraphW g) (hu : ∀ x ∈ word, 0 ≤ x ∧ x < 256) : g_overseerlaw03_AutomatonCompletes s g word = some true := by
  unfold g_overseerlaw03_AutomatonCompletes f_overseerlaw03_AutomatonCompletes
  obtain ⟨fuel, hfu, hge⟩ : ∃ f, fuel0 = f ∧ 1099511627776 ≤ f := ⟨_, rfl, Nat.le_refl _⟩
  obtain ⟨al, hE, hal⟩ := events_ok hs.1 hs.2
  obtain ⟨m, hm, _, hM, hm5⟩ := make_ok hal hg
  have ha := canonP_right hm
  have hsz := canon_size hm
  rw [hfu, known_ok]
  simp only [Option.bind_some, if_true]
  by_cases h8 : (word.length : Int) > 8
  · simp [h8]
  rw [hE]
  simp only [h8, decide_false, Bool.false_eq_true, if_false, Option.bind_some]
  rw [show (overseerlaw03_Graph.mk g.States g.Marks ((g.To.1.1, g.To.1.2.1, g.To.1.2.2.1, g.To.1.2.2.2.1, g.To.1.2.2.2.2), (g.To.2.1.1, g.To.2.1.2.1, g.To.2.1.2.2.1, g.To.2.1.2.2.2.1, g.To.2.1.2.2.2.2), (g.To.2.2.1.1, g.To.2.2.1.2.1, g.To.2.2.1.2.2.1, g.To.2.2.1.2.2.2.1, g.To.2.2.1.2.2.2.2), (g.To.2.2.2.1.1, g.To.2.2.2.1.2.1, g.To.2.2.2.1.2.2.1, g.To.2.2.2.1.2.2.2.1, g.To.2.2.2.1.2.2.2.2), (g.To.2.2.2.2.1, g.To.2.2.2.2.2.1, g.To.2.2.2.2.2.2.1, g.To.2.2.2.2.2.2.2.1, g.To.2.2.2.2.2.2.2.2))) = g from rfl, hM]
  simp only [Option.bind_some]
  have hst : (canonP m).States < 4096 := by omega
  generalize canonP m = a at ha hst
  have hc := compP_right ha hst
  have hcc := canonP_right hc
  have hd := closedP_right (canonP_right ha)
  obtain ⟨w, hw, hwa, hwl⟩ := word_loop ha fuel hge (w := word) (by omega) hu
  have hwb : w.length < big := by unfold big; omega
  rw [complete_ok ha hst, closed_ok ha, refComplete_ok ha hst, refClosed_ok ha]
  simp only [Option.bind_some]
  rw [same_ok hcc.small.1, same_ok hd.small.1, hwl]
  simp only [Option.bind_some, decide_true, if_true, bne_self_eq_false, Bool.false_eq_true, if_false]
  rw [generates_ok hcc hwb, accepts_ok hcc hwb, accepts_ok hd hwb, accepts_ok ha hwb, generates_ok ha hwb, canon_gen hc, canon_acc hc, comp_gen ha hwa, comp_acc ha hwa, closed_acc (canonP_right ha), canon_gen ha]
  simp
end Go.Abs
end
