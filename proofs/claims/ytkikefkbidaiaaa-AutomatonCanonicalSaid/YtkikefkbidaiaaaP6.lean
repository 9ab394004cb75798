/-
  Part 6 of the proof: see the last text.
-/
import Derived.Test.YtkikefkbidaiaaaP5
import Derived.KernelRfl
set_option linter.unusedVariables false
set_option linter.unusedSimpArgs false
set_option linter.unusedSectionVars false
section
namespace Go.Abs
open Go
set_option linter.unusedSimpArgs false
def listErr (n : Int) : Option Int → List Int → Int
  | _, [] => 0
  | p, x :: xs => if x < 0 ∨ x ≥ n then 2 else if ∃ y, p = some y ∧ x ≤ y then 5 else listErr n (some x) xs
def edgesErr (al : List Int) (st : Int) : Option api_Edge → List api_Edge → Int
  | _, [] => 0
  | p, x :: xs => if x.From < 0 ∨ x.From ≥ st ∨ x.To < 0 ∨ x.To ≥ st then 2 else if x.Event ∉ al then 9 else if ∃ y, p = some y ∧ (x.From < y.From ∨ x.From = y.From ∧ x.Event ≤ y.Event) then 5 else edgesErr al st (some x) xs
def checkErr (a : api_Automaton) : Int :=
  if listErr 32 none a.Alphabet ≠ 0 then listErr 32 none a.Alphabet else if a.States < 0 then 2 else if a.States > 4096 then 3 else
  if listErr a.States none a.Marked ≠ 0 then listErr a.States none a.Marked else edgesErr a.Alphabet a.States none a.Edges
def ahead {α : Type} (l : List α) (n : Nat) : Option α := if n = 0 then none else l[n - 1]?
theorem ahead_zero {α : Type} (l : List α) : ahead l 0 = none := rfl
theorem ahead_succ {α : Type} (l : List α) {n : Nat} (h : n < l.length) : ahead l (n + 1) = some l[n] := by simp [ahead, h]
theorem ahead_pos {α : Type} (l : List α) {n : Nat} (h0 : 0 < n) (h : n ≤ l.length) : ahead l n = some (l[n - 1]'(by omega)) := by
  simp [ahead, show n ≠ 0 from by omega, show n - 1 < l.length from by omega]
theorem listErr_step {n : Int} {l : List Int} {k : Nat} (h : k < l.length) : listErr n (ahead l k) (l.drop k) = if l[k] < 0 ∨ l[k] ≥ n then 2 else if ∃ y, ahead l k = some y ∧ l[k] ≤ y then 5 else listErr n (ahead l (k + 1)) (l.drop (k + 1)) := by
  rw [List.drop_eq_getElem_cons h, listErr, ahead_succ l h]
theorem edgesErr_step {al : List Int} {n : Int} {l : List api_Edge} {k : Nat} (h : k < l.length) : edgesErr al n (ahead l k) (l.drop k) = if l[k].From < 0 ∨ l[k].From ≥ n ∨ l[k].To < 0 ∨ l[k].To ≥ n then 2 else if l[k].Event ∉ al then 9 else if ∃ y, ahead l k = some y ∧ (l[k].From < y.From ∨ l[k].From = y.From ∧ l[k].Event ≤ y.Event) then 5 else edgesErr al n (ahead l (k + 1)) (l.drop (k + 1)) := by
  rw [List.drop_eq_getElem_cons h, edgesErr, ahead_succ l h]
theorem checkSet_ok {l : List Int} {n : Int} (hl : l.length < big) : g_automaton_checkSet l n = some (listErr n none l) := by
  unfold g_automaton_checkSet f_automaton_checkSet
  refine (iterF_idx (len := l.length) (fun k => some (listErr n (ahead l k) (l.drop k))) (by unfold fuel0; unfold big at hl; omega) ?_ ?_).trans (by simp [ahead_zero])
  · intro k i hi ih
    have hb : i < 1000000000000 := by unfold big at hl; omega
    rw [listErr_step hi]
    try dsimp only
    rw [if_pos (by omega), getO_nat hi, wrap_succ (by omega), ih]
    simp only [Option.bind_some]
    by_cases h1 : l[i] < 0
    · simp [h1]
    · by_cases h2 : l[i] ≥ n
      · simp [h1, h2]
      · by_cases h0 : 0 < i
        · rw [wrap_pred h0 (by omega), getO_nat (by omega : i - 1 < l.length), ahead_pos l h0 (by omega)]
          by_cases h3 : l[i] ≤ l[i - 1] <;> simp [h1, h2, h3, h0]
        · obtain rfl : i = 0 := by omega
          simp [h1, h2, ahead_zero]
  · intro k; simp [listErr]
theorem refList_ok {l : List Int} {n : Int} (hl : l.length < big) : g_overseerref03_List l n = some (listErr n none l) := by
  unfold g_overseerref03_List f_overseerref03_List
  refine (iterF_idx (len := l.length) (fun k => some (listErr n (ahead l k) (l.drop k))) (by unfold fuel0; unfold big at hl; omega) ?_ ?_).trans (by simp [ahead_zero])
  · intro k i hi ih
    have hb : i < 1000000000000 := by unfold big at hl; omega
    rw [listErr_step hi]
    try dsimp only
    rw [if_pos (by omega), getO_nat hi, wrap_succ (by omega), ih]
    simp only [Option.bind_some]
    by_cases h1 : l[i] < 0
    · simp [h1]
    · by_cases h2 : l[i] ≥ n
      · simp [h1, h2]
      · by_cases h0 : 0 < i
        · rw [wrap_pred h0 (by omega), getO_nat (by omega : i - 1 < l.length), ahead_pos l h0 (by omega)]
          by_cases h3 : l[i] ≤ l[i - 1] <;> simp [h1, h2, h3, h0]
        · obtain rfl : i = 0 := by omega
          simp [h1, h2, ahead_zero]
  · intro k; simp [listErr]
theorem index_ok {l : List Int} {v : Int} (hl : l.length < big) : g_slices_Index_int l v = some (if v ∈ l then (l.idxOf v : Int) else -1) := by
  unfold g_slices_Index_int f_slices_Index_int
  refine (iterF_idx (len := l.length) (fun k => some (if v ∈ l.drop k then ((k + (l.drop k).idxOf v : Nat) : Int) else -1)) (by unfold fuel0; unfold big at hl; omega) ?_ ?_).trans (by simp)
  · intro k i hi ih
    have hb : i < 1000000000000 := by unfold big at hl; omega
    try dsimp only
    rw [if_pos (by omega), getO_nat hi, wrap_succ (by omega), ih, List.drop_eq_getElem_cons hi]
    simp only [Option.bind_some, List.mem_cons, List.idxOf_cons]
    by_cases h : v = l[i]
    · simp [← h]
    · have : ¬ l[i] = v := fun e => h e.symm
      have hbq : (l[i] == v) = false := by simp [this]
      by_cases h2 : v ∈ l.drop (i + 1) <;> simp [h, h2, hbq]
      omega
  · intro k; simp
theorem contains_ok {l : List Int} {v : Int} (hl : l.length < big) : g_slices_Contains_int l v = some (decide (v ∈ l)) := by
  unfold g_slices_Contains_int f_slices_Contains_int
  rw [index_ok hl]
  simp only [Option.bind_some, Option.some.injEq]
  by_cases h : v ∈ l <;> simp [h]
theorem has_ok {l : List Int} {v : Int} (hl : l.length < big) : g_overseerref03_has l v = some (decide (v ∈ l)) := by
  unfold g_overseerref03_has f_overseerref03_has
  refine (iterF_idx (len := l.length) (fun k => some (decide (v ∈ l.drop k))) (by unfold fuel0; unfold big at hl; omega) ?_ ?_).trans (by simp)
  · intro k i hi ih
    have hb : i < 1000000000000 := by unfold big at hl; omega
    try dsimp only
    rw [if_pos (by omega), getO_nat hi, wrap_succ (by omega), ih, List.drop_eq_getElem_cons hi]
    simp only [Option.bind_some, List.mem_cons]
    by_cases h : l[i] = v
    · simp [h]
    · have : ¬ v = l[i] := fun e => h e.symm
      simp [h, this]
  · intro k; simp
theorem checkEdges_ok {a : api_Automaton} (h : small a) : g_automaton_checkEdges a = some (edgesErr a.Alphabet a.States none a.Edges) := by
  obtain ⟨hal, _, hl⟩ := h
  unfold g_automaton_checkEdges f_automaton_checkEdges
  refine (iterF_idx (len := a.Edges.length) (fun k => some (edgesErr a.Alphabet a.States (ahead a.Edges k) (a.Edges.drop k))) (by unfold fuel0; unfold big at hl; omega) ?_ ?_).trans (by simp [ahead_zero])
  · intro k i hi ih
    have hb : i < 1000000000000 := by unfold big at hl; omega
    rw [edgesErr_step hi]
    unfold letJ
    try dsimp only
    rw [if_pos (by omega), getO_nat hi, wrap_succ (by omega), ih]
    simp only [Option.bind_some, contains_ok hal]
    generalize a.Edges[i] = x
    by_cases h1 : x.From < 0
    · simp [h1]
    by_cases h2 : x.From ≥ a.States
    · simp [h1, h2]
    by_cases h3 : x.To < 0
    · simp [h1, h2, h3]
    by_cases h4 : x.To ≥ a.States
    · simp [h1, h2, h3, h4]
    by_cases h5 : x.Event ∈ a.Alphabet
    · by_cases h0 : 0 < i
      · rw [wrap_pred h0 (by omega), getO_nat (by omega : i - 1 < a.Edges.length), ahead_pos a.Edges h0 (by omega)]
        generalize a.Edges[i - 1] = y
        have hi0 : i ≠ 0 := by omega
        by_cases h6 : x.From < y.From
        · simp [h1, h2, h3, h4, h5, h6, hi0]
        by_cases h7 : y.From = x.From
        · by_cases h8 : x.Event ≤ y.Event <;> simp [h1, h2, h3, h4, h5, h6, h7, h8, hi0]
        · have h7' : ¬ x.From = y.From := fun e => h7 e.symm
          simp [h1, h2, h3, h4, h5, h6, h7, hi0, h7']
      · obtain rfl : i = 0 := by omega
        simp [h1, h2, h3, h4, h5, ahead_zero]
    · simp [h1, h2, h3, h4, h5]
  · intro k; unfold letJ; simp [edgesErr]
theorem check_ok {a : api_Automaton} (h : small a) : g_automaton_Check a = some (checkErr a) := by
  unfold g_automaton_Check f_automaton_Check checkErr
  rw [checkSet_ok h.1, checkSet_ok h.2.1, checkEdges_ok h]
  simp only [Option.bind_some]
  by_cases h1 : listErr 32 none a.Alphabet = 0
  · by_cases h2 : a.States < 0
    · simp [h1, h2]
    by_cases h3 : a.States > 4096
    · simp [h1, h2, h3]
    by_cases h4 : listErr a.States none a.Marked = 0 <;> simp [h1, h2, h3, h4]
  · simp [h1]
theorem refCheck_ok {a : api_Automaton} (h : small a) : g_overseerref03_Check a = some (checkErr a) := by
  obtain ⟨hal, hm, hl⟩ := h
  have hE : ∀ A : Option Int, A = some (edgesErr a.Alphabet a.States none a.Edges) → (if (listErr 32 none a.Alphabet != 0) = true then some (listErr 32 none a.Alphabet) else if a.States < 0 then some 2 else if a.States > 4096 then some 3 else if (listErr a.States none a.Marked != 0) = true then some (listErr a.States none a.Marked) else A) = some (checkErr a) := by
    intro A hA
    subst hA
    unfold checkErr
    by_cases h1 : listErr 32 none a.Alphabet = 0
    · by_cases h2 : a.States < 0
      · simp [h1, h2]
      by_cases h3 : a.States > 4096
      · simp [h1, h2, h3]
      by_cases h4 : listErr a.States none a.Marked = 0 <;> simp [h1, h2, h3, h4]
    · simp [h1]
  unfold g_overseerref03_Check f_overseerref03_Check
  rw [refList_ok hal, refList_ok hm]
  simp only [Option.bind_some]
  refine hE _ ?_
  · exact (iterF_idx (len := a.Edges.length) (fun k => some (edgesErr a.Alphabet a.States (ahead a.Edges k) (a.Edges.drop k))) (by unfold fuel0; unfold big at hl; omega) (by
      intro k i hi ih
      have hb : i < 1000000000000 := by unfold big at hl; omega
      rw [edgesErr_step hi]
      try dsimp only
      rw [if_pos (by omega), getO_nat hi, wrap_succ (by omega), ih]
      simp only [Option.bind_some, has_ok hal]
      generalize a.Edges[i] = x
      by_cases h1 : x.From < 0
      · simp [h1]
      by_cases h2 : x.From ≥ a.States
      · simp [h1, h2]
      by_cases h3 : x.To < 0
      · simp [h1, h2, h3]
      by_cases h4 : x.To ≥ a.States
      · simp [h1, h2, h3, h4]
      by_cases h5 : x.Event ∈ a.Alphabet
      · by_cases h0 : 0 < i
        · rw [wrap_pred h0 (by omega), getO_nat (by omega : i - 1 < a.Edges.length), ahead_pos a.Edges h0 (by omega)]
          generalize a.Edges[i - 1] = y
          have hi0 : i ≠ 0 := by omega
          by_cases h6 : x.From < y.From
          · simp [h1, h2, h3, h4, h5, h6, h0]
          by_cases h7 : y.From = x.From
          · by_cases h8 : x.Event ≤ y.Event <;> simp [h1, h2, h3, h4, h5, h6, h7, h8, h0]
          · have h7' : ¬ x.From = y.From := fun e => h7 e.symm
            simp [h1, h2, h3, h4, h5, h6, h7, h0, h7']
        · obtain rfl : i = 0 := by omega
          simp [h1, h2, h3, h4, h5, ahead_zero]
      · simp [h1, h2, h3, h4, h5]) (by intro k; simp [edgesErr])).trans (by simp [ahead_zero])
end Go.Abs
end
section
namespace Go.Abs
open Go
set_option linter.unusedSimpArgs false
set_option linter.unusedVariables false
def keyLt (x y : api_Edge) : Prop := x.From < y.From ∨ x.From = y.From ∧ x.Event < y.Event
instance (x y : api_Edge) : Decidable (keyLt x y) := by unfold keyLt; infer_instance
structure Right (a : api_Automaton) : Prop where
  al0 : ∀ x ∈ a.Alphabet, 0 ≤ x ∧ x < 32
  al : a.Alphabet.Pairwise (· < ·)
  st : 0 ≤ a.States ∧ a.States ≤ 4096
  ma0 : ∀ x ∈ a.Marked, 0 ≤ x ∧ x < a.States
  ma : a.Marked.Pairwise (· < ·)
  ed0 : ∀ x ∈ a.Edges, 0 ≤ x.From ∧ x.From < a.States ∧ 0 ≤ x.To ∧ x.To < a.States ∧ x.Event ∈ a.Alphabet
  ed : a.Edges.Pairwise keyLt
theorem listErr_zero {n : Int} : ∀ {l : List Int} {p : Option Int}, listErr n p l = 0 ↔ (∀ x ∈ l, 0 ≤ x ∧ x < n) ∧ l.Pairwise (· < ·) ∧ ∀ y, p = some y → ∀ x ∈ l, y < x
  | [], p => by simp [listErr]
  | x :: xs, p => by
    rw [listErr]
    split
    · rename_i h
      refine ⟨fun h => by omega, fun hh => ?_⟩
      have := hh.1 x (by simp); omega
    · rename_i h
      split
      · rename_i h2
        obtain ⟨y, hy, hxy⟩ := h2
        refine ⟨fun h => by omega, fun hh => ?_⟩
        have := hh.2.2 y hy x (by simp); omega
      · rename_i h2
        rw [listErr_zero]
        constructor
        · rintro ⟨k1, k2, k3⟩
          refine ⟨fun z hz => ?_, List.pairwise_cons.2 ⟨fun z hz => k3 x rfl z hz, k2⟩, fun y hy z hz => ?_⟩
          · rcases List.mem_cons.1 hz with rfl | hz
            · omega
            · exact k1 z hz
          · have hyx : y < x := by
              rcases Int.lt_or_le y x with h | h
              · exact h
              · exact absurd ⟨y, hy, h⟩ h2
            rcases List.mem_cons.1 hz with rfl | hz
            · exact hyx
            · have := k3 x rfl z hz; omega
        · rintro ⟨k1, k2, k3⟩
          obtain ⟨k4, k5⟩ := List.pairwise_cons.1 k2
          exact ⟨fun z hz => k1 z (by simp [hz]), k5, fun y hy z hz => by cases hy; exact k4 z hz⟩
theorem edgesErr_zero {al : List Int} {n : Int} : ∀ {l : List api_Edge} {p : Option api_Edge}, edgesErr al n p l = 0 ↔ (∀ x ∈ l, 0 ≤ x.From ∧ x.From < n ∧ 0 ≤ x.To ∧ x.To < n ∧ x.Event ∈ al) ∧ l.Pairwise keyLt ∧ ∀ y, p = some y → ∀ x ∈ l, keyLt y x
  | [], p => by simp [edgesErr]
  | x :: xs, p => by
    have tr : ∀ a b c : api_Edge, keyLt a b → keyLt b c → keyLt a c := fun a b c h k => by unfold keyLt at *; omega
    rw [edgesErr]
    split
    · rename_i h
      refine ⟨fun h => by omega, fun hh => ?_⟩
      have := hh.1 x (by simp); omega
    · rename_i h
      split
      · rename_i h2
        refine ⟨fun h => by omega, fun hh => ?_⟩
        exact absurd (hh.1 x (by simp)).2.2.2.2 h2
      · rename_i hal
        split
        · rename_i h2
          obtain ⟨y, hy, hxy⟩ := h2
          refine ⟨fun h => by omega, fun hh => ?_⟩
          have := hh.2.2 y hy x (by simp)
          unfold keyLt at this; omega
        · rename_i h2
          rw [edgesErr_zero]
          constructor
          · rintro ⟨k1, k2, k3⟩
            refine ⟨fun z hz => ?_, List.pairwise_cons.2 ⟨fun z hz => k3 x rfl z hz, k2⟩, fun y hy z hz => ?_⟩
            · rcases List.mem_cons.1 hz with rfl | hz
              · exact ⟨by omega, by omega, by omega, by omega, Decidable.not_not.1 hal⟩
              · exact k1 z hz
            · have hyx : keyLt y x := by
                apply Decidable.byContradiction
                intro h
                exact h2 ⟨y, hy, by unfold keyLt at h; omega⟩
              rcases List.mem_cons.1 hz with rfl | hz
              · exact hyx
              · exact tr _ _ _ hyx (k3 x rfl z hz)
          · rintro ⟨k1, k2, k3⟩
            obtain ⟨k4, k5⟩ := List.pairwise_cons.1 k2
            exact ⟨fun z hz => k1 z (by simp [hz]), k5, fun y hy z hz => by cases hy; exact k4 z hz⟩
theorem right_iff {a : api_Automaton} : checkErr a = 0 ↔ Right a := by
  unfold checkErr
  constructor
  · intro h
    split at h
    · rename_i h1; exact absurd h h1
    rename_i h1
    split at h
    · omega
    split at h
    · omega
    split at h
    · rename_i h4; exact absurd h h4
    rename_i h4
    have q1 := listErr_zero.1 (Decidable.not_not.1 h1)
    have q2 := listErr_zero.1 (Decidable.not_not.1 h4)
    have q3 := edgesErr_zero.1 h
    exact ⟨q1.1, q1.2.1, ⟨by omega, by omega⟩, q2.1, q2.2.1, q3.1, q3.2.1⟩
  · intro h
    have q1 : listErr 32 none a.Alphabet = 0 := listErr_zero.2 ⟨h.al0, h.al, fun y hy => by cases hy⟩
    have q2 : listErr a.States none a.Marked = 0 := listErr_zero.2 ⟨h.ma0, h.ma, fun y hy => by cases hy⟩
    have q3 : edgesErr a.Alphabet a.States none a.Edges = 0 := edgesErr_zero.2 ⟨h.ed0, h.ed, fun y hy => by cases hy⟩
    have := h.st
    rw [if_neg (by simp [q1]), if_neg (by omega), if_neg (by omega), if_neg (by simp [q2]), q3]
def outP (a : api_Automaton) (s : Int) : List api_Edge := a.Edges.filter fun x => x.From == s
def stepP (a : api_Automaton) (s e : Int) : Int := match a.Edges.find? fun x => x.From == s && x.Event == e with
  | some x => x.To
  | none => -1
theorem From_mono {l : List api_Edge} (h : l.Pairwise keyLt) (s : Int) : l.Pairwise fun a b => decide (b.From < s) = true → decide (a.From < s) = true :=
  h.imp fun h => by unfold keyLt at h; simp; omega
theorem bsf_ok {l : List api_Edge} {s : Int} {cmp : api_Edge → Int → Option Int} (hcmp : ∀ x ∈ l, cmp x s = some (x.From - s)) (hs : l.Pairwise keyLt) (hl : l.length < big) :
    ∃ b, g_slices_BinarySearchFunc_int l s cmp = some (((l.filter fun x => decide (x.From < s)).length : Int), b) := by
  have hc := fun n h => count_mono (p := fun x : api_Edge => decide (x.From < s)) (From_mono hs s) n h
  have hcl : (l.filter fun x => decide (x.From < s)).length ≤ l.length := List.length_filter_le _ _
  generalize (l.filter fun x => decide (x.From < s)).length = c at hc hcl
  have hb : l.length < 1000000000000 := hl
  unfold g_slices_BinarySearchFunc_int f_slices_BinarySearchFunc_int
  have hloop := iterF_rule (F := fun (k13 : Int × Int → Option Int) ((i11, j12) : Int × Int) => (if (i11 < j12) then ((getO l (IntKind.wrap .i64 (Int.fdiv (IntKind.wrap .u64 (IntKind.wrap .i64 (i11 + j12))) (2 ^ (min (Int.toNat 1) (IntKind.bits .u64)))))).bind fun x15 => ((cmp x15 s).bind fun x18 => (if (x18 < 0) then k13 ((IntKind.wrap .i64 ((IntKind.wrap .i64 (Int.fdiv (IntKind.wrap .u64 (IntKind.wrap .i64 (i11 + j12))) (2 ^ (min (Int.toNat 1) (IntKind.bits .u64))))) + 1)), j12) else k13 (i11, (IntKind.wrap .i64 (Int.fdiv (IntKind.wrap .u64 (IntKind.wrap .i64 (i11 + j12))) (2 ^ (min (Int.toNat 1) (IntKind.bits .u64))))))))) else some i11))
    (fun x => ∃ i j : Nat, x = ((i : Int), (j : Int)) ∧ i ≤ c ∧ c ≤ j ∧ j ≤ l.length) (fun x => (x.2 - x.1).toNat) (fun _ r => r = some (c : Int)) (by
      rintro k _ ⟨i, j, rfl, h1, h2, h3⟩ ih
      dsimp only
      by_cases hij : i < j
      · rw [if_pos (by omega), mid_ok (by omega) (by omega)]
        have hm : (i + j) / 2 < l.length := by omega
        rw [getO_nat hm]
        simp only [Option.bind_some]
        rw [hcmp _ (List.getElem_mem hm)]
        simp only [Option.bind_some]
        have hcm := hc ((i + j) / 2) hm
        by_cases hlt : l[(i + j) / 2].From < s
        · rw [if_pos (by omega), wrap_succ (by omega)]
          have : (i + j) / 2 < c := hcm.1 (by simpa using hlt)
          exact ih _ ⟨_, _, rfl, by omega, h2, h3⟩ (by simp only; omega)
        · rw [if_neg (by omega)]
          have : ¬ (i + j) / 2 < c := fun h => hlt (by simpa using hcm.2 h)
          exact ih _ ⟨_, _, rfl, h1, by omega, by omega⟩ (by simp only; omega)
      · rw [if_neg (by omega)]
        have : i = c := by omega
        rw [this]) fuel0 (0, (l.length : Int)) ⟨0, l.length, rfl, by omega, hcl, Nat.le_refl _⟩ (by unfold fuel0; simp only; omega)
  rw [hloop]
  simp only [Option.bind_some]
  by_cases hlt : c < l.length
  · rw [if_pos (by omega), getO_nat hlt]
    simp only [Option.bind_some]
    rw [hcmp _ (List.getElem_mem hlt)]
    exact ⟨_, rfl⟩
  · rw [if_neg (by omega)]
    exact ⟨_, rfl⟩
theorem out_parts : ∀ {l : List api_Edge} (s : Int), l.Pairwise keyLt → (l.take (l.filter fun x => decide (x.From < s + 1)).length).drop (l.filter fun x => decide (x.From < s)).length = l.filter fun x => x.From == s
  | [], s, _ => by simp
  | x :: xs, s, h => by
    obtain ⟨h1, h2⟩ := List.pairwise_cons.1 h
    have ih := out_parts s h2
    have hge : ∀ y ∈ xs, x.From ≤ y.From := fun y hy => by have := h1 y hy; unfold keyLt at this; omega
    by_cases hx : x.From < s
    · have e1 : decide (x.From < s) = true := by simpa using hx
      have e2 : decide (x.From < s + 1) = true := by simp; omega
      have e3 : (x.From == s) = false := by simp; omega
      simp only [List.filter_cons, e1, e2, e3, if_true, List.length_cons, List.take_succ_cons, List.drop_succ_cons, Bool.false_eq_true, if_false]
      exact ih
    · have hz : xs.filter (fun x => decide (x.From < s)) = [] := List.filter_eq_nil_iff.2 fun y hy => by have := hge y hy; simp; omega
      have e1 : decide (x.From < s) = false := by simpa using hx
      by_cases hq : x.From = s
      · have e2 : decide (x.From < s + 1) = true := by simp; omega
        have e3 : (x.From == s) = true := by simp [hq]
        simp only [List.filter_cons, e1, e2, e3, if_true, List.length_cons, List.take_succ_cons, Bool.false_eq_true, if_false, hz, List.length_nil, List.drop_zero]
        rw [hz, List.length_nil, List.drop_zero] at ih
        rw [ih]
      · have e2 : decide (x.From < s + 1) = false := by simp; omega
        have e3 : (x.From == s) = false := by simp [hq]
        have hz1 : xs.filter (fun x => decide (x.From < s + 1)) = [] := List.filter_eq_nil_iff.2 fun y hy => by have := hge y hy; simp; omega
        have hz2 : xs.filter (fun x => x.From == s) = [] := List.filter_eq_nil_iff.2 fun y hy => by have := hge y hy; simp; omega
        simp only [List.filter_cons, e1, e2, e3, Bool.false_eq_true, if_false, hz, hz1, hz2, List.length_nil, List.take_zero, List.drop_zero]
section
variable {a : api_Automaton} (h : Right a) (hs : small a)
include h hs
theorem out_ok {s : Int} (h0 : -1000000000000 < s) (h1 : s < 1000000000000) : g_automaton_out a s = some (outP a s) := by
  unfold g_automaton_out f_automaton_out
  have hst := h.st
  have hw : ∀ t : Int, -1000000000002 < t → t < 1000000000002 → ∀ x ∈ a.Edges, IntKind.wrap .i64 (x.From - t) = x.From - t := fun t k1 k2 x hx => by
    have := h.ed0 x hx; exact wrap_id (by omega) (by omega)
  have e1 : IntKind.wrap .i64 (s + 1) = s + 1 := wrap_id (by omega) (by omega)
  obtain ⟨b1, k1⟩ := bsf_ok (s := s) (cmp := g_automaton_out_1) (fun x hx => by unfold g_automaton_out_1 f_automaton_out_1; rw [hw s (by omega) (by omega) x hx]) h.ed hs.2.2
  obtain ⟨b2, k2⟩ := bsf_ok (s := s + 1) (cmp := g_automaton_out_2) (fun x hx => by unfold g_automaton_out_2 f_automaton_out_2; rw [hw (s + 1) (by omega) (by omega) x hx]) h.ed hs.2.2
  rw [k1, e1]
  simp only [Option.bind_some]
  rw [k2]
  simp only [Option.bind_some]
  have hle : (a.Edges.filter fun x => decide (x.From < s)).length ≤ (a.Edges.filter fun x => decide (x.From < s + 1)).length :=
    by rw [← List.countP_eq_length_filter, ← List.countP_eq_length_filter]; exact List.countP_mono_left fun x _ hx => by simp at hx ⊢; omega
  rw [slcO_nat hle (List.length_filter_le _ _), out_parts s h.ed]
  rfl
omit h in
theorem refStep_ok {s e : Int} : g_overseerref03_Step a s e = some (stepP a s e) := by
  have hb : a.Edges.length < 1000000000000 := hs.2.2
  unfold g_overseerref03_Step f_overseerref03_Step
  refine (iterF_idx (len := a.Edges.length) (fun k => some (match (a.Edges.drop k).find? (fun x => x.From == s && x.Event == e) with | some x => x.To | none => -1)) (by unfold fuel0; omega) ?_ ?_).trans (by simp [stepP])
  · intro k i hi ih
    rw [if_pos (by omega), getO_nat hi, wrap_succ (by omega), ih, List.drop_eq_getElem_cons hi]
    simp only [Option.bind_some, List.find?_cons]
    cases h1 : a.Edges[i].From == s <;> cases h2 : a.Edges[i].Event == e <;> simp [h1, h2]
  · intro k; simp
end
theorem stepP_range {a : api_Automaton} (h : Right a) (s e : Int) : stepP a s e = -1 ∨ 0 ≤ stepP a s e ∧ stepP a s e < a.States ∧ 0 ≤ s ∧ s < a.States ∧ e ∈ a.Alphabet := by
  unfold stepP
  split
  · rename_i x hx
    have hm := List.mem_of_find?_eq_some hx
    have hp := List.find?_some hx
    obtain ⟨k1, k2, k3, k4, k5⟩ := h.ed0 x hm
    simp at hp
    exact .inr ⟨k3, k4, by omega, by omega, hp.2 ▸ k5⟩
  · exact .inl rfl
theorem stepP_nonneg {a : api_Automaton} (h : Right a) {s e : Int} : 0 ≤ stepP a s e ↔ ∃ x ∈ outP a s, x.Event = e := by
  unfold stepP outP
  split
  · rename_i x hx
    have hm := List.mem_of_find?_eq_some hx
    have hp := List.find?_some hx
    simp at hp
    refine ⟨fun _ => ⟨x, by simp [hm, hp.1], hp.2⟩, fun _ => (h.ed0 x hm).2.2.1⟩
  · rename_i hx
    have := List.find?_eq_none.1 hx
    refine ⟨fun h => by omega, ?_⟩
    rintro ⟨x, h1, h2⟩
    simp at h1
    exact absurd (by simp [h1.2, h2]) (this x h1.1)
theorem outP_events {a : api_Automaton} (h : Right a) (s : Int) : (outP a s).map (·.Event) = a.Alphabet.filter fun e => decide (0 ≤ stepP a s e) := by
  refine sorted_ext ?_ (h.al.filter _) fun e => ?_
  · rw [List.pairwise_map]
    have h1 : (outP a s).Pairwise keyLt := h.ed.filter _
    have h2 : ∀ x ∈ outP a s, x.From = s := fun x hx => by unfold outP at hx; simp at hx; exact hx.2
    exact List.Pairwise.imp_of_mem (fun {x y} hx hy hk => by have := h2 x hx; have := h2 y hy; unfold keyLt at hk; omega) h1
  · simp only [List.mem_map, List.mem_filter, decide_eq_true_eq, stepP_nonneg h]
    constructor
    · rintro ⟨x, hx, rfl⟩
      refine ⟨?_, x, hx, rfl⟩
      unfold outP at hx; simp at hx; exact (h.ed0 x hx.1).2.2.2.2
    · rintro ⟨_, x, hx, rfl⟩; exact ⟨x, hx, rfl⟩
theorem outP_step {a : api_Automaton} (h : Right a) {s : Int} {x : api_Edge} (hx : x ∈ outP a s) : stepP a s x.Event = x.To := by
  unfold outP at hx
  simp at hx
  unfold stepP
  split
  · rename_i y hy
    have hm := List.mem_of_find?_eq_some hy
    have hp := List.find?_some hy
    simp at hp
    have : x = y := by
      rcases Classical.em (x = y) with e | hne
      · exact e
      · exfalso
        have hk : keyLt x y ∨ keyLt y x := by
          have := List.pairwise_iff_getElem.1 h.ed
          obtain ⟨i, hi, rfl⟩ := List.getElem_of_mem hx.1
          obtain ⟨j, hj, rfl⟩ := List.getElem_of_mem hm
          rcases Nat.lt_trichotomy i j with hij | hij | hij
          · exact .inl (this i j hi hj hij)
          · subst hij; exact absurd rfl hne
          · exact .inr (this j i hj hi hij)
        unfold keyLt at hk; omega
    rw [this]
  · rename_i hn
    exact absurd (by simp [hx.2]) (List.find?_eq_none.1 hn x hx.1)
end Go.Abs
end
section
namespace Go.Abs
open Go
set_option linter.unusedSimpArgs false
set_option linter.unusedVariables false
theorem Right.small {a : api_Automaton} (h : Right a) : small a ∧ a.Alphabet.length ≤ 32 ∧ a.Marked.length ≤ 4096 ∧ a.Edges.length ≤ 131072 := by
  have h1 := sorted_len h.al h.al0
  have h2 := sorted_len h.ma h.ma0
  have h3 : (a.Edges.map fun x => x.From * 32 + x.Event).Pairwise (· < ·) := by
    rw [List.pairwise_map]
    refine List.Pairwise.imp_of_mem (fun {x y} hx hy hk => ?_) h.ed
    have := h.al0 _ (h.ed0 x hx).2.2.2.2
    have := h.al0 _ (h.ed0 y hy).2.2.2.2
    unfold keyLt at hk; omega
  have h4 := sorted_len (a := 0) (b := 131072) h3 (by
    intro z hz
    obtain ⟨x, hx, rfl⟩ := List.mem_map.1 hz
    have := h.al0 _ (h.ed0 x hx).2.2.2.2
    have := h.ed0 x hx
    have := h.st
    omega)
  rw [List.length_map] at h4
  have := h.st
  refine ⟨⟨?_, ?_, ?_⟩, ?_, ?_, ?_⟩ <;> (try unfold big) <;> omega
theorem check_right {a : api_Automaton} (h : Right a) : g_automaton_Check a = some 0 := by rw [check_ok h.small.1, right_iff.2 h]
end Go.Abs
end
section
namespace Go.Abs
open Go
set_option linter.unusedSimpArgs false
set_option linter.unusedVariables false
def ins (o : List Int) (t : Int) : List Int := if t ∈ o then o else o ++ [t]
def succP (a : api_Automaton) (s : Int) : List Int := (outP a s).map (·.To)
def bfs (a : api_Automaton) : Nat → Nat → List Int → List Int
  | 0, _, o => o
  | fuel + 1, i, o => match o[i]? with
    | some s => bfs a fuel (i + 1) ((succP a s).foldl ins o)
    | none => o
def foundP (a : api_Automaton) : List Int := bfs a (a.States.toNat + 1) 0 (if 0 < a.States then [0] else [])
structure Fnd (a : api_Automaton) (o : List Int) : Prop where
  nd : o.Nodup
  rg : ∀ s ∈ o, 0 ≤ s ∧ s < a.States
theorem Fnd.len {a : api_Automaton} {o : List Int} (h : Fnd a o) : o.length ≤ a.States.toNat := by
  have hO : Go.Sort.SWO ltInt' := ⟨fun x => by simp [ltInt'], fun x y z h1 h2 => by simp [ltInt'] at *; omega, fun x y z h1 h2 => by simp [ltInt'] at *; omega⟩
  have hp := isortB_perm ltInt' o
  have hs := isortB_sorted hO o
  have hn : (isortB ltInt' o).Nodup := (hp.nodup_iff).2 h.nd
  have hlt : (isortB ltInt' o).Pairwise (· < ·) := by
    have : (isortB ltInt' o).Pairwise fun x y => ltInt' y x = false ∧ x ≠ y := hs.and hn
    exact this.imp fun ⟨h1, h2⟩ => by simp [ltInt'] at h1; omega
  have := sorted_len hlt (a := 0) (b := a.States) fun x hx => h.rg x (hp.mem_iff.1 hx)
  rw [isortB_length] at this
  simpa using this
theorem mem_ins {o : List Int} {t x : Int} : x ∈ ins o t ↔ x ∈ o ∨ x = t := by
  unfold ins; split
  · rename_i h; constructor
    · exact .inl
    · rintro (h' | rfl)
      · exact h'
      · exact h
  · simp
theorem pre_ins (o : List Int) (t : Int) : o <+: ins o t := by
  unfold ins; split
  · exact List.prefix_refl o
  · exact List.prefix_append o [t]
theorem Fnd.ins {a : api_Automaton} {o : List Int} (h : Fnd a o) {t : Int} (ht : 0 ≤ t ∧ t < a.States) : Fnd a (ins o t) := by
  refine ⟨?_, fun s hs => ?_⟩
  · unfold Go.Abs.ins; split
    · exact h.nd
    · rename_i hn
      rw [List.nodup_append]
      exact ⟨h.nd, by simp, fun x hx y hy => by simp at hy; subst hy; exact fun e => hn (e ▸ hx)⟩
  · rcases mem_ins.1 hs with hs | rfl
    · exact h.rg s hs
    · exact ht
theorem foldl_ins {a : api_Automaton} : ∀ {ts o : List Int}, Fnd a o → (∀ t ∈ ts, 0 ≤ t ∧ t < a.States) → Fnd a (ts.foldl ins o) ∧ o <+: ts.foldl ins o ∧ (∀ t ∈ ts, t ∈ ts.foldl ins o) ∧ ∀ x ∈ ts.foldl ins o, x ∈ o ∨ x ∈ ts
  | [], o, h, _ => ⟨h, List.prefix_refl o, by simp, fun x hx => .inl hx⟩
  | t :: ts, o, h, ht => by
    obtain ⟨h1, h2, h3, h4⟩ := foldl_ins (ts := ts) (h.ins (ht t (by simp))) fun t ht' => ht t (by simp [ht'])
    refine ⟨h1, (pre_ins o t).trans h2, fun x hx => ?_, fun x hx => ?_⟩
    · rcases List.mem_cons.1 hx with rfl | hx
      · exact h2.subset (mem_ins.2 (.inr rfl))
      · exact h3 x hx
    · rcases h4 x hx with h5 | h5
      · rcases mem_ins.1 h5 with h6 | rfl
        · exact .inl h6
        · exact .inr (by simp)
      · exact .inr (by simp [h5])
theorem succP_range {a : api_Automaton} (h : Right a) (s : Int) : ∀ t ∈ succP a s, 0 ≤ t ∧ t < a.States := by
  intro t ht
  unfold succP outP at ht
  obtain ⟨x, hx, rfl⟩ := List.mem_map.1 ht
  have := h.ed0 x ((List.mem_filter.1 hx).1)
  omega
theorem prefix_get {α : Type} {l m : List α} (h : l <+: m) {i : Nat} {x : α} (hx : l[i]? = some x) : m[i]? = some x := by
  obtain ⟨t, rfl⟩ := h
  have := (List.getElem?_eq_some_iff.1 hx).1
  rw [List.getElem?_append_left this]; exact hx
theorem bfs_spec {a : api_Automaton} (h : Right a) : ∀ (fuel i : Nat) (o : List Int), Fnd a o → i ≤ o.length → a.States.toNat + 1 ≤ fuel + i → (∀ j s, j < i → o[j]? = some s → ∀ t ∈ succP a s, t ∈ o) →
    Fnd a (bfs a fuel i o) ∧ o <+: bfs a fuel i o ∧ ∀ s ∈ bfs a fuel i o, ∀ t ∈ succP a s, t ∈ bfs a fuel i o
  | 0, i, o, hf, hi, hfu, _ => by have := hf.len; omega
  | fuel + 1, i, o, hf, hi, hfu, hc => by
    unfold bfs
    cases hg : o[i]? with
    | none =>
      dsimp only
      refine ⟨hf, List.prefix_refl o, fun s hs t ht => ?_⟩
      obtain ⟨j, hj⟩ := List.getElem?_of_mem hs
      have hlt := (List.getElem?_eq_some_iff.1 hj).1
      exact hc j s (by have := List.getElem?_eq_none_iff.1 hg; omega) hj t ht
    | some s =>
      dsimp only
      obtain ⟨h1, h2, h3, _⟩ := foldl_ins hf (succP_range h s)
      have hlen : i < o.length := (List.getElem?_eq_some_iff.1 hg).1
      have hle := h2.length_le
      obtain ⟨k1, k2, k3⟩ := bfs_spec h fuel (i + 1) ((succP a s).foldl ins o) h1 (by omega) (by omega) (fun j s' hj hs' t ht => by
        by_cases hji : j < i
        · have hjl : j < o.length := by omega
          have : o[j]? = some s' := by
            have := prefix_get h2 (List.getElem?_eq_getElem hjl)
            rw [hs'] at this; rw [List.getElem?_eq_getElem hjl]; exact this.symm
          exact h2.subset (hc j s' hji this t ht)
        · obtain rfl : j = i := by omega
          have := prefix_get h2 hg
          rw [hs'] at this; cases this
          exact h3 t ht)
      exact ⟨k1, h2.trans k2, k3⟩
theorem found_spec {a : api_Automaton} (h : Right a) : Fnd a (foundP a) ∧ (if 0 < a.States then [0] else []) <+: foundP a ∧ ∀ s ∈ foundP a, ∀ t ∈ succP a s, t ∈ foundP a :=
  bfs_spec h _ 0 _ ⟨by split <;> simp, fun s hs => by split at hs <;> simp at hs; subst hs; omega⟩ (Nat.zero_le _) (by omega) fun j s hj => by omega
def marksP (m : List Int) : Nat → List Int → List Int
  | _, [] => []
  | i, s :: t => (if s ∈ m then [(i : Int)] else []) ++ marksP m (i + 1) t
def rowP (a : api_Automaton) (F : List Int) (i : Nat) (s : Int) : List api_Edge := (outP a s).map fun x => ⟨(i : Int), x.Event, (F.idxOf x.To : Int)⟩
def edgesP (a : api_Automaton) (F : List Int) : Nat → List Int → List api_Edge
  | _, [] => []
  | i, s :: t => rowP a F i s ++ edgesP a F (i + 1) t
def canonP (a : api_Automaton) : api_Automaton := ⟨a.Alphabet, ((foundP a).length : Int), marksP a.Marked 0 (foundP a), edgesP a (foundP a) 0 (foundP a)⟩
theorem marksP_range {m : List Int} : ∀ {l : List Int} {i : Nat}, ∀ x ∈ marksP m i l, (i : Int) ≤ x ∧ x < (i + l.length : Nat)
  | [], i, x, hx => by simp [marksP] at hx
  | s :: t, i, x, hx => by
    simp only [marksP, List.mem_append] at hx
    rcases hx with hx | hx
    · split at hx <;> simp at hx
      subst hx; simp only [List.length_cons]; omega
    · have := marksP_range x hx; simp only [List.length_cons]; omega
theorem marksP_sorted {m : List Int} : ∀ {l : List Int} {i : Nat}, (marksP m i l).Pairwise (· < ·)
  | [], i => .nil
  | s :: t, i => by
    simp only [marksP]
    rw [List.pairwise_append]
    refine ⟨by split <;> simp, marksP_sorted, fun x hx y hy => ?_⟩
    have := marksP_range y hy
    split at hx <;> simp at hx
    omega
theorem edgesP_from {a : api_Automaton} {F : List Int} : ∀ {l : List Int} {i : Nat}, ∀ x ∈ edgesP a F i l, (i : Int) ≤ x.From ∧ x.From < (i + l.length : Nat) ∧ ∃ s ∈ l, ∃ y ∈ outP a s, x.Event = y.Event ∧ x.To = (F.idxOf y.To : Int)
  | [], i, x, hx => by simp [edgesP] at hx
  | s :: t, i, x, hx => by
    simp only [edgesP, List.mem_append] at hx
    rcases hx with hx | hx
    · obtain ⟨y, hy, rfl⟩ := List.mem_map.1 hx
      simp only [List.length_cons]
      exact ⟨by omega, by omega, s, by simp, y, hy, rfl, rfl⟩
    · obtain ⟨h1, h2, s', h3, h4⟩ := edgesP_from x hx
      simp only [List.length_cons]
      exact ⟨by omega, by omega, s', by simp [h3], h4⟩
theorem edgesP_sorted {a : api_Automaton} (h : Right a) {F : List Int} : ∀ {l : List Int} {i : Nat}, (edgesP a F i l).Pairwise keyLt
  | [], i => .nil
  | s :: t, i => by
    simp only [edgesP]
    rw [List.pairwise_append]
    refine ⟨?_, edgesP_sorted h, fun x hx y hy => ?_⟩
    · unfold rowP
      rw [List.pairwise_map]
      have h1 : (outP a s).Pairwise keyLt := h.ed.filter _
      have h2 : ∀ x ∈ outP a s, x.From = s := fun x hx => by unfold outP at hx; simp at hx; exact hx.2
      exact List.Pairwise.imp_of_mem (fun {x y} hx hy hk => by have := h2 x hx; have := h2 y hy; unfold keyLt at hk; exact .inr ⟨rfl, by show x.Event < y.Event; omega⟩) h1
    · obtain ⟨z, _, rfl⟩ := List.mem_map.1 hx
      have := (edgesP_from y hy).1
      unfold keyLt; simp only; omega
theorem canonP_right {a : api_Automaton} (h : Right a) : Right (canonP a) := by
  obtain ⟨h1, h2, h3⟩ := found_spec h
  have hl := h1.len
  have hst := h.st
  refine ⟨h.al0, h.al, ⟨by simp only [canonP]; omega, by simp only [canonP]; omega⟩, fun x hx => ?_, marksP_sorted, fun x hx => ?_, edgesP_sorted h⟩
  · have := marksP_range x hx; simp only [canonP]; omega
  · obtain ⟨k1, k2, s, hs, y, hy, k3, k4⟩ := edgesP_from x hx
    have hy' : y.To ∈ foundP a := h3 s hs y.To (List.mem_map.2 ⟨y, hy, rfl⟩)
    have := List.idxOf_lt_length_iff.2 hy'
    simp only [canonP]
    refine ⟨by omega, by omega, by omega, by omega, ?_⟩
    rw [k3]
    unfold outP at hy
    exact (h.ed0 y ((List.mem_filter.1 hy).1)).2.2.2.2
end Go.Abs
end
section
namespace Go.Abs
open Go
set_option linter.unusedSimpArgs false
set_option linter.unusedVariables false
theorem foldl_pre : ∀ (ts o : List Int), o <+: ts.foldl ins o
  | [], o => List.prefix_refl o
  | t :: ts, o => (pre_ins o t).trans (foldl_pre ts _)
theorem foldl_all {P : Int → Prop} : ∀ (ts o : List Int), (∀ s ∈ o, P s) → (∀ t ∈ ts, P t) → ∀ s ∈ ts.foldl ins o, P s
  | [], o, h, _ => h
  | t :: ts, o, h, ht => foldl_all ts (ins o t) (fun s hs => by
      rcases mem_ins.1 hs with hs | rfl
      · exact h s hs
      · exact ht _ (by simp)) fun u hu => ht u (by simp [hu])
theorem bfs_least {a : api_Automaton} {P : Int → Prop} (hP : ∀ s, P s → ∀ t ∈ succP a s, P t) : ∀ (fuel i : Nat) (o : List Int), (∀ s ∈ o, P s) → ∀ s ∈ bfs a fuel i o, P s
  | 0, i, o, h => h
  | fuel + 1, i, o, h => by
    unfold bfs
    cases hg : o[i]? with
    | none => exact h
    | some s => exact bfs_least hP fuel (i + 1) _ (foldl_all _ _ h (hP s (h s (List.mem_of_getElem? hg))))
theorem bfs_pre {a : api_Automaton} : ∀ (fuel i : Nat) (o : List Int), o <+: bfs a fuel i o
  | 0, i, o => List.prefix_refl o
  | fuel + 1, i, o => by
    unfold bfs
    cases hg : o[i]? with
    | none => exact List.prefix_refl o
    | some s => exact (foldl_pre _ _).trans (bfs_pre fuel (i + 1) _)
theorem bfs_stop {a : api_Automaton} {o : List Int} {i : Nat} (h : o[i]? = none) : ∀ fuel, bfs a fuel i o = o
  | 0 => rfl
  | fuel + 1 => by unfold bfs; rw [h]
theorem bfs_some {a : api_Automaton} {f i : Nat} {o : List Int} {s : Int} (hg : o[i]? = some s) : bfs a (f + 1) i o = bfs a f (i + 1) ((succP a s).foldl ins o) := by
  simp only [bfs, hg]
theorem bfs_fuel {a : api_Automaton} : ∀ (f g i : Nat) (o : List Int), (bfs a f i o).length < f + i → (bfs a f i o).length < g + i → bfs a g i o = bfs a f i o
  | 0, g, i, o, h1, _ => by
    have h1 : o.length < 0 + i := h1
    rw [bfs_stop (List.getElem?_eq_none_iff.2 (by omega)) g]; rfl
  | f + 1, g, i, o, h1, h2 => by
    cases hg : o[i]? with
    | none => rw [bfs_stop hg, bfs_stop hg]
    | some s =>
      have hlt := (List.getElem?_eq_some_iff.1 hg).1
      have hle := (bfs_pre (a := a) (f + 1) i o).length_le
      cases g with
      | zero => omega
      | succ g =>
        rw [bfs_some hg] at h1 h2 ⊢
        rw [bfs_some hg]
        exact bfs_fuel f g (i + 1) _ (by omega) (by omega)
structure Like (a b : api_Automaton) (φ : Int → Int) : Prop where
  al : b.Alphabet = a.Alphabet
  st : 0 < b.States ↔ 0 < a.States
  zero : 0 < a.States → φ 0 = 0
  inj : ∀ s ∈ foundP a, ∀ t ∈ foundP a, φ s = φ t → s = t
  out : ∀ s ∈ foundP a, outP b (φ s) = (outP a s).map fun x => ⟨φ s, x.Event, φ x.To⟩
  ma : ∀ s ∈ foundP a, (φ s ∈ b.Marked ↔ s ∈ a.Marked)
section
variable {F : List Int} {φ : Int → Int} (inj : ∀ s ∈ F, ∀ t ∈ F, φ s = φ t → s = t)
include inj
theorem mem_map_inj {o : List Int} (ho : ∀ s ∈ o, s ∈ F) {t : Int} (ht : t ∈ F) : φ t ∈ o.map φ ↔ t ∈ o := by
  constructor
  · intro h
    obtain ⟨s, hs, he⟩ := List.mem_map.1 h
    exact inj s (ho s hs) t ht he ▸ hs
  · exact fun h => List.mem_map.2 ⟨t, h, rfl⟩
theorem ins_map {o : List Int} (ho : ∀ s ∈ o, s ∈ F) {t : Int} (ht : t ∈ F) : ins (o.map φ) (φ t) = (ins o t).map φ := by
  unfold ins
  by_cases h : t ∈ o
  · rw [if_pos ((mem_map_inj inj ho ht).2 h), if_pos h]
  · rw [if_neg (fun hh => h ((mem_map_inj inj ho ht).1 hh)), if_neg h]; simp
theorem foldl_map : ∀ (ts o : List Int), (∀ s ∈ o, s ∈ F) → (∀ t ∈ ts, t ∈ F) → (ts.map φ).foldl ins (o.map φ) = (ts.foldl ins o).map φ
  | [], o, _, _ => rfl
  | t :: ts, o, ho, ht => by
    simp only [List.map_cons, List.foldl_cons]
    rw [ins_map inj ho (ht t (by simp))]
    exact foldl_map ts _ (fun s hs => by
      rcases mem_ins.1 hs with hs | rfl
      · exact ho s hs
      · exact ht _ (by simp)) fun u hu => ht u (by simp [hu])
theorem idxOf_map : ∀ {l : List Int}, (∀ s ∈ l, s ∈ F) → ∀ {t : Int}, t ∈ F → (l.map φ).idxOf (φ t) = l.idxOf t
  | [], _, t, _ => rfl
  | s :: l, hl, t, ht => by
    simp only [List.map_cons, List.idxOf_cons]
    rw [idxOf_map (fun s hs => hl s (by simp [hs])) ht]
    by_cases h : s = t
    · simp [h]
    · have h2 : ¬ φ s = φ t := fun e => h (inj s (hl s (by simp)) t ht e)
      have e1 : (s == t) = false := by simp [h]
      have e2 : (φ s == φ t) = false := by simp [h2]
      rw [e1, e2]
end
section
variable {a b : api_Automaton} {φ : Int → Int} (ha : Right a) (hb : Right b) (h : Like a b φ)
include ha h
theorem found_succ {s : Int} (hs : s ∈ foundP a) : ∀ t ∈ succP a s, t ∈ foundP a := (found_spec ha).2.2 s hs
theorem alike_succ {s : Int} (hs : s ∈ foundP a) : succP b (φ s) = (succP a s).map φ := by
  unfold succP
  rw [h.out s hs]; simp
theorem alike_bfs : ∀ (f i : Nat) (o : List Int), (∀ s ∈ o, s ∈ foundP a) → bfs b f i (o.map φ) = (bfs a f i o).map φ
  | 0, i, o, _ => rfl
  | f + 1, i, o, ho => by
    unfold bfs
    rw [List.getElem?_map]
    cases hg : o[i]? with
    | none => rfl
    | some s =>
      have hs := ho s (List.mem_of_getElem? hg)
      simp only [Option.map_some]
      rw [alike_succ ha h hs, foldl_map h.inj _ _ ho (found_succ ha h hs)]
      exact alike_bfs f (i + 1) _ (foldl_all _ _ ho (found_succ ha h hs))
theorem alike_start : (if 0 < b.States then [0] else []) = (if 0 < a.States then [0] else ([] : List Int)).map φ := by
  by_cases h0 : 0 < a.States
  · rw [if_pos h0, if_pos (h.st.2 h0)]; simp [h.zero h0]
  · rw [if_neg h0, if_neg (fun hh => h0 (h.st.1 hh))]; rfl
theorem start_found : ∀ s ∈ (if 0 < a.States then [0] else ([] : List Int)), s ∈ foundP a := fun s hs => (found_spec ha).2.1.subset hs
include hb
theorem alike_range : ∀ s ∈ foundP a, 0 ≤ φ s ∧ φ s < b.States := by
  have : ∀ s ∈ foundP a, s ∈ foundP a ∧ 0 ≤ φ s ∧ φ s < b.States := by
    refine bfs_least (P := fun s => s ∈ foundP a ∧ 0 ≤ φ s ∧ φ s < b.States) ?_ _ _ _ ?_
    · rintro s ⟨h1, h2⟩ t ht
      refine ⟨found_succ ha h h1 t ht, ?_⟩
      obtain ⟨x, hx, rfl⟩ := List.mem_map.1 ht
      have : (⟨φ s, x.Event, φ x.To⟩ : api_Edge) ∈ outP b (φ s) := by rw [h.out s h1]; exact List.mem_map.2 ⟨x, hx, rfl⟩
      have := hb.ed0 _ (List.mem_filter.1 this).1
      simp only at this; omega
    · intro s hs
      refine ⟨start_found ha h s hs, ?_⟩
      split at hs
      · rename_i h0
        simp at hs; subst hs
        have := h.st.2 h0
        rw [h.zero h0]; omega
      · simp at hs
  exact fun s hs => (this s hs).2
theorem alike_found : foundP b = (foundP a).map φ := by
  have hF := (found_spec ha).1
  have hl := hF.len
  have key : bfs b (a.States.toNat + 1) 0 (if 0 < b.States then [0] else []) = (foundP a).map φ := by
    rw [alike_start ha h]
    exact alike_bfs ha h _ _ _ (start_found ha h)
  have hn : Fnd b ((foundP a).map φ) := ⟨by
    have hnd := hF.nd
    have hinj := h.inj
    unfold List.Nodup at hnd ⊢
    rw [List.pairwise_map]
    exact List.Pairwise.imp_of_mem (fun hx hy hne he => hne (hinj _ hx _ hy he)) hnd, fun s hs => by
    obtain ⟨t, ht, rfl⟩ := List.mem_map.1 hs
    exact alike_range ha hb h t ht⟩
  have hl2 := hn.len
  rw [List.length_map] at hl2
  unfold foundP at hl hl2 ⊢
  have := bfs_fuel (a := b) (a.States.toNat + 1) (b.States.toNat + 1) 0 (if 0 < b.States then [0] else []) (by rw [key, List.length_map]; unfold foundP; omega) (by rw [key, List.length_map]; unfold foundP; omega)
  rw [this, key]; rfl
omit hb in
theorem alike_marks : ∀ (l : List Int) (i : Nat), (∀ s ∈ l, s ∈ foundP a) → marksP b.Marked i (l.map φ) = marksP a.Marked i l
  | [], i, _ => rfl
  | s :: l, i, hl => by
    have := h.ma s (hl s (by simp))
    simp only [List.map_cons, marksP]
    rw [alike_marks l (i + 1) fun s hs => hl s (by simp [hs])]
    simp only [this]
omit hb in
theorem alike_edges : ∀ (l : List Int) (i : Nat), (∀ s ∈ l, s ∈ foundP a) → edgesP b ((foundP a).map φ) i (l.map φ) = edgesP a (foundP a) i l
  | [], i, _ => rfl
  | s :: l, i, hl => by
    have hs := hl s (by simp)
    simp only [List.map_cons, edgesP]
    rw [alike_edges l (i + 1) fun s hs => hl s (by simp [hs])]
    congr 1
    unfold rowP
    rw [h.out s hs, List.map_map]
    refine List.map_congr_left fun x hx => ?_
    simp only [Function.comp]
    rw [idxOf_map h.inj (fun s hs => hs) (found_succ ha h hs x.To (List.mem_map.2 ⟨x, hx, rfl⟩))]
theorem alike_canon : canonP b = canonP a := by
  unfold canonP
  rw [alike_found ha hb h, List.length_map, alike_marks ha h _ _ (fun s hs => hs), alike_edges ha h _ _ (fun s hs => hs), h.al]
end
theorem edgesP_out {a : api_Automaton} {F : List Int} : ∀ (l : List Int) (k j : Nat) (s : Int), l[j]? = some s → (edgesP a F k l).filter (fun x => x.From == ((k + j : Nat) : Int)) = rowP a F (k + j) s
  | [], k, j, s, h => by simp at h
  | s' :: l, k, j, s, h => by
    simp only [edgesP, List.filter_append]
    cases j with
    | zero =>
      simp at h; subst h
      have e1 : (rowP a F k s').filter (fun x => x.From == ((k + 0 : Nat) : Int)) = rowP a F k s' := List.filter_eq_self.2 fun x hx => by
        obtain ⟨y, _, rfl⟩ := List.mem_map.1 hx; simp
      have e2 : (edgesP a F (k + 1) l).filter (fun x => x.From == ((k + 0 : Nat) : Int)) = [] := List.filter_eq_nil_iff.2 fun x hx => by
        have := (edgesP_from x hx).1; simp; omega
      rw [e1, e2]; simp
    | succ j =>
      simp at h
      have e1 : (rowP a F k s').filter (fun x => x.From == ((k + (j + 1) : Nat) : Int)) = [] := List.filter_eq_nil_iff.2 fun x hx => by
        obtain ⟨y, _, rfl⟩ := List.mem_map.1 hx; simp; omega
      have := edgesP_out (a := a) (F := F) l (k + 1) j s h
      rw [e1, List.nil_append, show k + (j + 1) = k + 1 + j from by omega, this]
theorem mem_marksP {m : List Int} : ∀ (l : List Int) (k : Nat) (x : Int), x ∈ marksP m k l ↔ ∃ j s, l[j]? = some s ∧ s ∈ m ∧ x = ((k + j : Nat) : Int)
  | [], k, x => by simp [marksP]
  | s' :: l, k, x => by
    simp only [marksP, List.mem_append]
    rw [mem_marksP l (k + 1) x]
    constructor
    · rintro (h | ⟨j, s, h1, h2, h3⟩)
      · split at h
        · rename_i hm; simp at h; exact ⟨0, s', by simp, hm, by simpa using h⟩
        · simp at h
      · exact ⟨j + 1, s, by simpa using h1, h2, by rw [h3]; congr 1; omega⟩
    · rintro ⟨j, s, h1, h2, h3⟩
      cases j with
      | zero => simp at h1; subst h1; left; rw [if_pos h2]; simpa using h3
      | succ j => right; exact ⟨j, s, by simpa using h1, h2, by rw [h3]; congr 1; omega⟩
theorem idxOf_get {l : List Int} {s : Int} (h : s ∈ l) : l[l.idxOf s]? = some s := by
  have hlt := List.idxOf_lt_length_iff.2 h
  rw [List.getElem?_eq_getElem hlt, List.getElem_idxOf hlt]
theorem idxOf_inj {l : List Int} {s t : Int} (hs : s ∈ l) (ht : t ∈ l) (h : l.idxOf s = l.idxOf t) : s = t := by
  have h1 := idxOf_get hs
  rw [h, idxOf_get ht] at h1
  exact (Option.some.inj h1).symm
theorem canon_alike {a : api_Automaton} (ha : Right a) : Like a (canonP a) (fun s => ((foundP a).idxOf s : Int)) := by
  obtain ⟨hF, hpre, hcl⟩ := found_spec ha
  refine ⟨rfl, ?_, ?_, ?_, ?_, ?_⟩
  · simp only [canonP]
    constructor
    · intro h
      have := hF.len; omega
    · intro h
      rw [if_pos h] at hpre
      have := hpre.length_le; simp at this; omega
  · intro h
    rw [if_pos h] at hpre
    obtain ⟨r, hr⟩ := hpre
    rw [← hr]; simp
  · intro s hs t ht h
    exact idxOf_inj hs ht (by omega)
  · intro s hs
    have := edgesP_out (a := a) (F := foundP a) (foundP a) 0 ((foundP a).idxOf s) s (idxOf_get hs)
    unfold outP canonP
    simp only [Nat.zero_add] at this
    simp only
    rw [this]; rfl
  · intro s hs
    show _ ∈ marksP a.Marked 0 (foundP a) ↔ _
    rw [mem_marksP]
    constructor
    · rintro ⟨j, t, h1, h2, h3⟩
      have h4 : (foundP a).idxOf s = j := by omega
      rw [← h4, idxOf_get hs] at h1
      cases h1; exact h2
    · exact fun h => ⟨_, s, idxOf_get hs, h, by simp⟩
theorem canonP_idem {a : api_Automaton} (ha : Right a) : canonP (canonP a) = canonP a := alike_canon ha (canonP_right ha) (canon_alike ha)
section
variable {a b : api_Automaton} {φ : Int → Int} (ha : Right a) (hb : Right b) (h : Like a b φ)
include ha h
end
end Go.Abs
end
section
namespace Go.Abs
open Go
set_option linter.unusedSimpArgs false
set_option linter.unusedVariables false
section
variable {a : api_Automaton} (h : Right a)
include h
end
end Go.Abs
end
section
namespace Go.Abs
open Go
set_option linter.unusedSimpArgs false
set_option linter.unusedVariables false
section
variable {a b : api_Automaton} {φ : Int → Int} (ha : Right a) (hb : Right b) (h : Like a b φ)
include ha hb h
end
end Go.Abs
end
section
namespace Go.Abs
open Go
set_option linter.unusedSimpArgs false
set_option linter.unusedVariables false
theorem empty_ok {l : List Int} (hl : l.length ≤ lim) : g_overseerref03_Empty l = some ⟨l, 0, [], []⟩ := by
  unfold g_overseerref03_Empty f_overseerref03_Empty
  rw [appO_some (by simpa using hl)]; rfl
theorem refIndex_ok {l : List Int} {v : Int} (hl : l.length < big) : g_overseerref03_index l v = some (if v ∈ l then (l.idxOf v : Int) else -1) := by
  have hb : l.length < 1000000000000 := hl
  unfold g_overseerref03_index f_overseerref03_index
  refine (iterF_idx (len := l.length) (fun k => some (if v ∈ l.drop k then ((k + (l.drop k).idxOf v : Nat) : Int) else -1)) (by unfold fuel0; omega) ?_ ?_).trans (by simp)
  · intro k i hi ih
    rw [if_pos (by omega), getO_nat hi, wrap_succ (by omega), ih, List.drop_eq_getElem_cons hi]
    simp only [Option.bind_some, List.mem_cons, List.idxOf_cons]
    by_cases h : v = l[i]
    · simp [← h]
    · have h' : ¬ l[i] = v := fun e => h e.symm
      have hbq : (l[i] == v) = false := by simp [h']
      by_cases h2 : v ∈ l.drop (i + 1) <;> simp [h, h2, hbq]
      omega
  · intro k; simp
theorem succP_events {a : api_Automaton} (h : Right a) (s : Int) : succP a s = (a.Alphabet.filter fun e => decide (0 ≤ stepP a s e)).map (stepP a s) := by
  rw [← outP_events h, List.map_map]
  unfold succP
  exact List.map_congr_left fun x hx => (outP_step h hx).symm
theorem foldl_skip {a : api_Automaton} (s : Int) : ∀ (al o : List Int), al.foldl (fun o e => if 0 ≤ stepP a s e then ins o (stepP a s e) else o) o = ((al.filter fun e => decide (0 ≤ stepP a s e)).map (stepP a s)).foldl ins o
  | [], o => rfl
  | e :: al, o => by
    by_cases hx : 0 ≤ stepP a s e <;> simp [List.filter_cons, hx, foldl_skip s al]
theorem bfs_succ {a : api_Automaton} {fuel i : Nat} {o : List Int} (hi : i < o.length) : bfs a (fuel + 1) i o = bfs a fuel (i + 1) ((succP a o[i]).foldl ins o) := by
  conv => lhs; unfold bfs
  rw [List.getElem?_eq_getElem hi]
theorem bfs_end {a : api_Automaton} {fuel : Nat} {o : List Int} : bfs a fuel o.length o = o := by
  cases fuel with
  | zero => rfl
  | succ n => unfold bfs; simp
section
variable {a : api_Automaton} (h : Right a)
include h
theorem found_loop (fuel : Nat) (hfu : 1099511627776 ≤ fuel) {s : Int} {o : List Int} {i : Nat} (hf : Fnd a o) (hi : o[i]? = some s) :
    iterF (fun k12 ((out10, k11) : (List Int) × Int) => (if (k11 < (a.Alphabet.length : Int)) then ((((getO out10 (i : Int)).bind fun x14 => ((getO a.Alphabet k11).bind fun x16 => ((g_overseerref03_Step a x14 x16).bind fun x19 => (((if (x19 ≥ 0) then ((g_overseerref03_has out10 x19).bind fun x22 => some (!x22)) else some false)).bind fun (x23 : Bool) => (if x23 then ((appO out10 [x19]).bind fun x25 => some x25) else some out10)))))).bind fun (out27 : List Int) => k12 (out27, (IntKind.wrap .i64 (k11 + 1)))) else some out10)) fuel (o, 0) = some ((succP a s).foldl ins o) := by
  have hs := h.small.1
  have hst := h.st
  have hb : a.Alphabet.length < 1000000000000 := hs.1
  rw [succP_events h, ← foldl_skip]
  refine (iterF_inv (len := a.Alphabet.length) (fun n (acc : List Int) => (acc, (n : Int))) (fun n acc => Fnd a acc ∧ acc[i]? = some s) (fun n acc => some ((a.Alphabet.drop n).foldl (fun o e => if 0 ≤ stepP a s e then ins o (stepP a s e) else o) acc)) ?_ ?_ fuel 0 o (Nat.zero_le _) (by omega) ⟨hf, hi⟩).trans (by simp)
  · intro k n acc hn ⟨k1, k2⟩ ih
    have hlen := k1.len
    have hg : getO acc (i : Int) = some s := by rw [getO_some]; exact ⟨by omega, by simpa using k2⟩
    dsimp only
    rw [if_pos (by omega), hg, getO_nat hn]
    simp only [Option.bind_some]
    rw [refStep_ok hs, wrap_succ (by omega)]
    simp only [Option.bind_some]
    rw [has_ok (by unfold big; omega), List.drop_eq_getElem_cons hn, List.foldl_cons]
    rcases stepP_range h s a.Alphabet[n] with hr | hr
    · rw [hr]; simp only [show ¬ ((-1 : Int) ≥ 0) from by omega, show ¬ ((0 : Int) ≤ -1) from by omega, if_false, Option.bind_some, Bool.false_eq_true]
      exact ih _ ⟨k1, k2⟩
    · have hge : stepP a s a.Alphabet[n] ≥ 0 := hr.1
      by_cases hm : stepP a s a.Alphabet[n] ∈ acc
      · simp only [hge, hm, decide_true, Bool.not_true, if_true, Option.bind_some, Bool.false_eq_true, if_false, hr.1, ins]
        exact ih _ ⟨k1, k2⟩
      · simp only [hge, hm, decide_false, Bool.not_false, if_true, Option.bind_some, hr.1, ins, if_false]
        rw [appO_some (by simp only [List.length_cons, List.length_nil]; unfold lim; omega)]
        simp only [Option.bind_some]
        have hi' := k1.ins (t := stepP a s a.Alphabet[n]) ⟨hr.1, hr.2.1⟩
        unfold ins at hi'
        rw [if_neg hm] at hi'
        exact ih _ ⟨hi', prefix_get (List.prefix_append acc _) k2⟩
  · intro k acc _
    dsimp only
    rw [if_neg (by omega)]; simp
theorem refFound_ok : g_overseerref03_Found a = some (foundP a) := by
  have hs := h.small.1
  have hst := h.st
  unfold g_overseerref03_Found f_overseerref03_Found
  obtain ⟨fuel, hfu, hge⟩ : ∃ f, fuel0 = f ∧ 1099511627776 ≤ f := ⟨_, rfl, Nat.le_refl _⟩
  rw [hfu]
  have hloop : ∀ o : List Int, Fnd a o → iterF (fun (k8 : List Int × Int → Option (List Int)) ((out6, i7) : (List Int) × Int) => (if (i7 < (out6.length : Int)) then ((iterF (fun k12 ((out10, k11) : (List Int) × Int) => (if (k11 < (a.Alphabet.length : Int)) then ((((getO out10 i7).bind fun x14 => ((getO a.Alphabet k11).bind fun x16 => ((g_overseerref03_Step a x14 x16).bind fun x19 => (((if (x19 ≥ 0) then ((g_overseerref03_has out10 x19).bind fun x22 => some (!x22)) else some false)).bind fun (x23 : Bool) => (if x23 then ((appO out10 [x19]).bind fun x25 => some x25) else some out10)))))).bind fun (out27 : List Int) => k12 (out27, (IntKind.wrap .i64 (k11 + 1)))) else some out10)) fuel (out6, 0)).bind fun (out28 : List Int) => k8 (out28, (IntKind.wrap .i64 (i7 + 1)))) else some out6)) fuel (o, 0) = some (bfs a (a.States.toNat + 1) 0 o) := by
    intro o ho
    have := iterF_rule (F := fun (k8 : List Int × Int → Option (List Int)) ((out6, i7) : (List Int) × Int) => (if (i7 < (out6.length : Int)) then ((iterF (fun k12 ((out10, k11) : (List Int) × Int) => (if (k11 < (a.Alphabet.length : Int)) then ((((getO out10 i7).bind fun x14 => ((getO a.Alphabet k11).bind fun x16 => ((g_overseerref03_Step a x14 x16).bind fun x19 => (((if (x19 ≥ 0) then ((g_overseerref03_has out10 x19).bind fun x22 => some (!x22)) else some false)).bind fun (x23 : Bool) => (if x23 then ((appO out10 [x19]).bind fun x25 => some x25) else some out10)))))).bind fun (out27 : List Int) => k12 (out27, (IntKind.wrap .i64 (k11 + 1)))) else some out10)) fuel (out6, 0)).bind fun (out28 : List Int) => k8 (out28, (IntKind.wrap .i64 (i7 + 1)))) else some out6))
      (fun x => ∃ i : Nat, x.2 = (i : Int) ∧ i ≤ x.1.length ∧ Fnd a x.1) (fun x => a.States.toNat + 1 - x.2.toNat) (fun x r => r = some (bfs a (a.States.toNat + 1 - x.2.toNat) x.2.toNat x.1)) (by
        rintro k ⟨o, i⟩ ⟨i, rfl, hi, hf⟩ ih
        replace hi : i ≤ o.length := hi
        replace hf : Fnd a o := hf
        have hl := hf.len
        dsimp only
        by_cases hlt : i < o.length
        · rw [if_pos (by omega), found_loop h fuel hge hf (List.getElem?_eq_getElem hlt), Option.bind_some, wrap_succ (by omega)]
          obtain ⟨q1, q2, _, _⟩ := foldl_ins hf (succP_range h o[i])
          have hle := q2.length_le
          rw [ih _ ⟨i + 1, rfl, by simp only; omega, q1⟩ (by simp only; omega)]
          simp only [Int.toNat_natCast]
          rw [show a.States.toNat + 1 - i = (a.States.toNat + 1 - (i + 1)) + 1 from by omega, bfs_succ hlt]
        · rw [if_neg (by omega)]
          obtain rfl : i = o.length := by omega
          simp only [Int.toNat_natCast, bfs_end]) fuel (o, 0) ⟨0, rfl, Nat.zero_le _, ho⟩ (by simp only; omega)
    simpa using this
  by_cases h0 : 0 < a.States
  · rw [if_pos (by omega), appO_some (by simp only [List.length_cons, List.length_nil]; unfold lim; omega)]
    simp only [Option.bind_some]
    rw [show ([] ++ [0] : List Int) = [0] from rfl, hloop [0] ⟨by simp, fun s hs => by simp at hs; subst hs; omega⟩]
    simp only [Option.bind_some, foundP, if_pos h0]
  · rw [if_neg (by omega)]
    simp only [Option.bind_some]
    rw [hloop [] ⟨by simp, fun s hs => by simp at hs⟩]
    simp only [Option.bind_some, foundP, if_neg h0]
theorem edges_loop (fuel : Nat) (hfu : 1099511627776 ≤ fuel) {F : List Int} (hF : Fnd a F) (hcl : ∀ s ∈ F, ∀ t ∈ succP a s, t ∈ F) {s : Int} {i : Nat} (hi : F[i]? = some s) (ms : List Int) (es : List api_Edge) (hes : es.length ≤ 200000) :
    iterF (fun (k24 : Int × List api_Edge → Option (List Int × List api_Edge)) ((k22, out23) : Int × (List api_Edge)) => (if (k22 < (a.Alphabet.length : Int)) then ((((getO F (i : Int)).bind fun x26 => ((getO a.Alphabet k22).bind fun x28 => ((g_overseerref03_Step a x26 x28).bind fun x31 => (if (x31 ≥ 0) then ((getO a.Alphabet k22).bind fun x33 => ((g_overseerref03_index F x31).bind fun x36 => ((appO out23 [(api_Edge.mk (i : Int) x33 x36)]).bind fun x37 => some x37))) else some out23))))).bind fun (out39 : List api_Edge) => k24 ((IntKind.wrap .i64 (k22 + 1)), out39)) else some (ms, out23))) fuel (0, es) = some (ms, es ++ rowP a F i s) := by
  have hs := h.small.1
  have hst := h.st
  have hal := h.small.2.1
  have hb : a.Alphabet.length < 1000000000000 := hs.1
  have hFl := hF.len
  have hrow : rowP a F i s = (a.Alphabet.filter fun e => decide (0 ≤ stepP a s e)).map fun e => ⟨(i : Int), e, (F.idxOf (stepP a s e) : Int)⟩ := by
    rw [← outP_events h, List.map_map]
    unfold rowP
    exact List.map_congr_left fun x hx => by simp only [Function.comp]; rw [outP_step h hx]
  rw [hrow]
  refine (iterF_inv (len := a.Alphabet.length) (fun n (acc : List api_Edge) => ((n : Int), acc)) (fun n acc => acc.length ≤ 200000 + n) (fun n acc => some (ms, acc ++ ((a.Alphabet.drop n).filter fun e => decide (0 ≤ stepP a s e)).map fun e => ⟨(i : Int), e, (F.idxOf (stepP a s e) : Int)⟩)) ?_ ?_ fuel 0 es (Nat.zero_le _) (by omega) (by omega)).trans (by simp)
  · intro k n acc hn k1 ih
    have hg : getO F (i : Int) = some s := by rw [getO_some]; exact ⟨by omega, by simpa using hi⟩
    dsimp only
    rw [if_pos (by omega), hg, getO_nat hn]
    simp only [Option.bind_some]
    rw [refStep_ok hs, wrap_succ (by omega)]
    simp only [Option.bind_some]
    rw [List.drop_eq_getElem_cons hn, List.filter_cons]
    by_cases hr : 0 ≤ stepP a s a.Alphabet[n]
    · have hm : stepP a s a.Alphabet[n] ∈ F := hcl s (List.mem_of_getElem? hi) _ (by rw [succP_events h]; exact List.mem_map.2 ⟨_, List.mem_filter.2 ⟨List.getElem_mem hn, by simpa using hr⟩, rfl⟩)
      rw [if_pos hr, refIndex_ok (by unfold big; omega), if_pos hm]
      simp only [Option.bind_some]
      rw [appO_some (by simp only [List.length_cons, List.length_nil]; unfold lim; omega)]
      simp only [Option.bind_some]
      rw [ih _ (by simp only [List.length_append, List.length_cons, List.length_nil]; omega)]
      simp only [hr, decide_true, if_true, List.map_cons, List.append_assoc, List.cons_append, List.nil_append]
    · rw [if_neg (by omega)]
      simp only [Option.bind_some]
      rw [ih _ (by omega)]
      simp only [hr, decide_false, Bool.false_eq_true, if_false]
  · intro k acc _
    dsimp only
    rw [if_neg (by omega)]; simp
theorem rowP_len {F : List Int} {i : Nat} {s : Int} : (rowP a F i s).length ≤ 32 := by
  have := h.small.2.1
  have h1 : (rowP a F i s).length = ((outP a s).map (·.Event)).length := by simp [rowP]
  rw [h1, outP_events h]
  exact Nat.le_trans (List.length_filter_le _ _) this
theorem refCanonical_ok : g_overseerref03_Canonical a = some (canonP a) := by
  have hs := h.small.1
  have hst := h.st
  have hal := h.small.2.1
  have hb : a.Alphabet.length < 1000000000000 := hs.1
  obtain ⟨hF, _, hcl⟩ := found_spec h
  have hFl := hF.len
  unfold g_overseerref03_Canonical f_overseerref03_Canonical
  obtain ⟨fuel, hfu, hge⟩ : ∃ f, fuel0 = f ∧ 1099511627776 ≤ f := ⟨_, rfl, Nat.le_refl _⟩
  rw [hfu, refFound_ok h, Option.bind_some, empty_ok (by unfold lim; omega), Option.bind_some]
  unfold canonP
  generalize foundP a = F at hF hcl hFl
  show Option.bind (iterF _ fuel (((0 : Nat) : Int), [], [], [], [], [])) _ = _
  rw [iterF_inv (len := F.length) (R := List Int × List Int × List api_Edge × List Int × List api_Edge) (fun n (acc : List Int × List api_Edge) => ((n : Int), ([] : List Int), ([] : List Int), ([] : List api_Edge), acc.1, acc.2)) (fun n acc => acc.1.length ≤ n ∧ acc.2.length ≤ 32 * n)
    (fun n acc => some (([] : List Int), ([] : List Int), ([] : List api_Edge), acc.1 ++ marksP a.Marked n (F.drop n), acc.2 ++ edgesP a F n (F.drop n))) ?_ ?_ fuel 0 ([], []) (Nat.zero_le _) (by omega) ⟨Nat.zero_le _, Nat.zero_le _⟩]
  · simp
  · rintro k n ⟨ms, es⟩ hn ⟨k1, k2⟩ ih
    replace k1 : ms.length ≤ n := k1
    replace k2 : es.length ≤ 32 * n := k2
    have hg := List.getElem?_eq_getElem hn
    dsimp only
    rw [if_pos (by omega), getO_nat hn]
    simp only [Option.bind_some]
    rw [has_ok hs.2.1]
    simp only [Option.bind_some]
    have hrl := rowP_len h (F := F) (i := n) (s := F[n])
    rw [List.drop_eq_getElem_cons hn]
    simp only [marksP, edgesP]
    by_cases hm : F[n] ∈ a.Marked
    · simp only [hm, decide_true, if_true]
      rw [appO_some (by simp only [List.length_cons, List.length_nil]; unfold lim; omega)]
      simp only [Option.bind_some]
      have := edges_loop h fuel hge hF hcl hg (ms ++ [(n : Int)]) es (by omega)
      rw [getO_nat hn] at this
      simp only [Option.bind_some] at this
      rw [this]
      simp only [Option.bind_some]
      rw [wrap_succ (by omega), ih (ms ++ [(n : Int)], es ++ rowP a F n F[n]) ⟨by simp only [List.length_append, List.length_cons, List.length_nil]; omega, by simp only [List.length_append]; omega⟩]
      simp only [List.append_assoc]
    · simp only [hm, decide_false, Bool.false_eq_true, if_false, Option.bind_some]
      have := edges_loop h fuel hge hF hcl hg ms es (by omega)
      rw [getO_nat hn] at this
      simp only [Option.bind_some] at this
      rw [this]
      simp only [Option.bind_some]
      rw [wrap_succ (by omega), ih (ms, es ++ rowP a F n F[n]) ⟨by simp only; omega, by simp only [List.length_append]; omega⟩]
      simp only [List.append_assoc, List.nil_append]
  · rintro k ⟨ms, es⟩ _
    dsimp only
    rw [if_neg (by omega)]
    simp [marksP, edgesP]
end
end Go.Abs
end
section
namespace Go.Abs
open Go
set_option linter.unusedSimpArgs false
set_option linter.unusedVariables false
theorem less_ok (x y : Int) : g_cmp_Less_int x y = some (decide (x < y)) := by
  unfold g_cmp_Less_int f_cmp_Less_int g_cmp_isNaN_int f_cmp_isNaN_int
  simp
theorem isNaN_ok (x : Int) : g_slices_isNaN_int x = some false := by
  unfold g_slices_isNaN_int f_slices_isNaN_int
  simp
theorem rise_mono {l : List Int} (h : l.Pairwise (· < ·)) (v : Int) : l.Pairwise fun a b => decide (b < v) = true → decide (a < v) = true :=
  h.imp fun h => by simp; omega
theorem search_ok {l : List Int} {v : Int} (hs : l.Pairwise (· < ·)) (hl : l.length < big) : ∃ n, g_slices_BinarySearch_int l v = some (n, decide (v ∈ l)) := by
  have hc := fun n h => count_mono (p := fun x : Int => decide (x < v)) (rise_mono hs v) n h
  have hcl : (l.filter fun x => decide (x < v)).length ≤ l.length := List.length_filter_le _ _
  generalize (l.filter fun x => decide (x < v)).length = c at hc hcl
  have hb : l.length < 1000000000000 := hl
  unfold g_slices_BinarySearch_int f_slices_BinarySearch_int
  obtain ⟨fuel, hfu, hge⟩ : ∃ f, fuel0 = f ∧ 1099511627776 ≤ f := ⟨_, rfl, Nat.le_refl _⟩
  rw [hfu]
  have hloop := iterF_rule (F := fun (k5 : Int × Int → Option Int) ((i3, j4) : Int × Int) => (if (i3 < j4) then ((getO l (IntKind.wrap .i64 (Int.fdiv (IntKind.wrap .u64 (IntKind.wrap .i64 (i3 + j4))) (2 ^ (min (Int.toNat 1) (IntKind.bits .u64)))))).bind fun x7 => ((g_cmp_Less_int x7 v).bind fun x10 => (if x10 then k5 ((IntKind.wrap .i64 ((IntKind.wrap .i64 (Int.fdiv (IntKind.wrap .u64 (IntKind.wrap .i64 (i3 + j4))) (2 ^ (min (Int.toNat 1) (IntKind.bits .u64))))) + 1)), j4) else k5 (i3, (IntKind.wrap .i64 (Int.fdiv (IntKind.wrap .u64 (IntKind.wrap .i64 (i3 + j4))) (2 ^ (min (Int.toNat 1) (IntKind.bits .u64))))))))) else some i3))
    (fun x => ∃ i j : Nat, x = ((i : Int), (j : Int)) ∧ i ≤ c ∧ c ≤ j ∧ j ≤ l.length) (fun x => (x.2 - x.1).toNat) (fun _ r => r = some (c : Int)) (by
      rintro k _ ⟨i, j, rfl, h1, h2, h3⟩ ih
      dsimp only
      by_cases hij : i < j
      · rw [if_pos (by omega), mid_ok (by omega) (by omega)]
        have hm : (i + j) / 2 < l.length := by omega
        rw [getO_nat hm]
        simp only [Option.bind_some]
        rw [less_ok]
        simp only [Option.bind_some]
        have hcm := hc ((i + j) / 2) hm
        by_cases hlt : l[(i + j) / 2] < v
        · rw [if_pos (by simpa using hlt), wrap_succ (by omega)]
          have : (i + j) / 2 < c := hcm.1 (by simpa using hlt)
          exact ih _ ⟨_, _, rfl, by omega, h2, h3⟩ (by simp only; omega)
        · rw [if_neg (by simpa using hlt)]
          have : ¬ (i + j) / 2 < c := fun h => hlt (by simpa using hcm.2 h)
          exact ih _ ⟨_, _, rfl, h1, by omega, by omega⟩ (by simp only; omega)
      · rw [if_neg (by omega)]
        have : i = c := by omega
        rw [this]) fuel (0, (l.length : Int)) ⟨0, l.length, rfl, by omega, hcl, Nat.le_refl _⟩ (by simp only; omega)
  rw [hloop]
  simp only [Option.bind_some]
  have hmem : v ∈ l ↔ ∃ h : c < l.length, l[c] = v := by
    constructor
    · intro hv
      obtain ⟨j, hj, rfl⟩ := List.getElem_of_mem hv
      have h1 : ¬ j < c := fun h => by have := (hc j hj).2 h; simp at this
      have h2 : c < l.length := by omega
      refine ⟨h2, ?_⟩
      have h3 : ¬ l[c] < l[j] := fun h => by have := (hc c h2).1 (by simpa using h); omega
      rcases Nat.lt_or_ge c j with h | h
      · have := List.pairwise_iff_getElem.1 hs c j h2 hj h; omega
      · have : c = j := by omega
        subst this; rfl
    · rintro ⟨h, rfl⟩; exact List.getElem_mem h
  by_cases hlt : c < l.length
  · rw [if_pos (by omega), getO_nat hlt]
    simp only [Option.bind_some]
    by_cases he : l[c] = v
    · rw [if_pos (by simpa using he)]
      exact ⟨_, by rw [decide_eq_true (hmem.2 ⟨hlt, he⟩)]⟩
    · rw [if_neg (by simpa using he), isNaN_ok]
      exact ⟨_, by rw [decide_eq_false (fun h => he (hmem.1 h).2)]; rfl⟩
  · rw [if_neg (by omega)]
    exact ⟨_, by rw [decide_eq_false (fun h => hlt (hmem.1 h).1)]⟩
theorem clone_ok {l : List Int} (hl : l.length ≤ lim) : g_slices_Clone_int l = some l := by
  unfold g_slices_Clone_int f_slices_Clone_int
  rw [appO_some (by simpa using hl)]
  cases l <;> simp [nilO]
structure Num (a : api_Automaton) (o num : List Int) : Prop where
  len : num.length = a.States.toNat
  at1 : ∀ s : Nat, s < a.States.toNat → num[s]? = some (if (s : Int) ∈ o then (o.idxOf (s : Int) : Int) else -1)
theorem idxOf_pre {o F : List Int} (h : o <+: F) {t : Int} (ht : t ∈ o) : F.idxOf t = o.idxOf t := by
  obtain ⟨r, rfl⟩ := h
  rw [List.idxOf_append, if_pos ht]
theorem Num.get {a : api_Automaton} {o num : List Int} (h : Num a o num) {t : Int} (ht : 0 ≤ t ∧ t < a.States) : getO num t = some (if t ∈ o then (o.idxOf t : Int) else -1) := by
  rw [getO_some]
  refine ⟨ht.1, ?_⟩
  have := h.at1 t.toNat (by omega)
  rwa [show ((t.toNat : Nat) : Int) = t from by omega] at this
theorem Num.set {a : api_Automaton} {o num : List Int} (h : Num a o num) {t : Int} (ht : 0 ≤ t ∧ t < a.States) (hn : t ∉ o) : ∃ num', setO num t (o.length : Int) = some num' ∧ Num a (o ++ [t]) num' := by
  refine ⟨num.set t.toNat (o.length : Int), by unfold setO; rw [if_pos ⟨ht.1, by rw [h.len]; omega⟩], by rw [List.length_set]; exact h.len, fun s hs => ?_⟩
  rw [List.getElem?_set]
  by_cases he : t.toNat = s
  · subst he
    rw [if_pos rfl, if_pos (by rw [h.len]; omega), show ((t.toNat : Nat) : Int) = t from by omega, if_pos (by simp), List.idxOf_append, if_neg hn]
    simp
  · rw [if_neg he, h.at1 s hs]
    have hne : (s : Int) ≠ t := by omega
    by_cases hm : (s : Int) ∈ o
    · rw [if_pos hm, if_pos (by simp [hm]), List.idxOf_append, if_pos hm]
    · rw [if_neg hm, if_neg (by simp [hm, hne])]
section
variable {a : api_Automaton} (h : Right a)
include h
theorem canon_row (fuel : Nat) (hfu : 1099511627776 ≤ fuel) {l : List api_Edge} (hl : l.length ≤ 200000) (hto : ∀ x ∈ l, 0 ≤ x.To ∧ x.To < a.States) {i : Nat} {ms o : List Int} {es : List api_Edge} {num : List Int} (ho : Fnd a o) (hn : Num a o num) (hes : es.length ≤ 200000) :
    ∃ num', Num a ((l.map (·.To)).foldl ins o) num' ∧ iterF (fun (k47 : List Int × Int × List api_Edge × List Int → Option (List Int × List Int × List api_Edge × List Int)) ((order43, x44, r45, c46) : (List Int) × Int × (List api_Edge) × (List Int)) => (if (x44 < (l.length : Int)) then ((getO l x44).bind fun x49 => ((((inO (Int.toNat a.States) x49.To).bind fun u51 => ((getO c46 x49.To).bind fun x53 => (if (x53 < 0) then ((inO (Int.toNat a.States) x49.To).bind fun u56 => ((setO c46 x49.To (order43.length : Int)).bind fun x58 => ((appO order43 [x49.To]).bind fun x60 => some (x60, x58)))) else some (order43, c46))))).bind fun ((order62, c63) : (List Int) × (List Int)) => ((inO (Int.toNat a.States) x49.To).bind fun u64 => ((getO c63 x49.To).bind fun x66 => ((appO r45 [(api_Edge.mk (i : Int) x49.Event x66)]).bind fun x68 => k47 (order62, (IntKind.wrap .i64 (x44 + 1)), x68, c63)))))) else some (order43, ms, r45, c46))) fuel (o, 0, es, num) = some ((l.map (·.To)).foldl ins o, ms, es ++ l.map (fun x => ⟨(i : Int), x.Event, (((l.map (·.To)).foldl ins o).idxOf x.To : Int)⟩), num') := by
  have hst := h.st
  have key := iterF_rule (F := (fun (k47 : List Int × Int × List api_Edge × List Int → Option (List Int × List Int × List api_Edge × List Int)) ((order43, x44, r45, c46) : (List Int) × Int × (List api_Edge) × (List Int)) => (if (x44 < (l.length : Int)) then ((getO l x44).bind fun x49 => ((((inO (Int.toNat a.States) x49.To).bind fun u51 => ((getO c46 x49.To).bind fun x53 => (if (x53 < 0) then ((inO (Int.toNat a.States) x49.To).bind fun u56 => ((setO c46 x49.To (order43.length : Int)).bind fun x58 => ((appO order43 [x49.To]).bind fun x60 => some (x60, x58)))) else some (order43, c46))))).bind fun ((order62, c63) : (List Int) × (List Int)) => ((inO (Int.toNat a.States) x49.To).bind fun u64 => ((getO c63 x49.To).bind fun x66 => ((appO r45 [(api_Edge.mk (i : Int) x49.Event x66)]).bind fun x68 => k47 (order62, (IntKind.wrap .i64 (x44 + 1)), x68, c63)))))) else some (order43, ms, r45, c46))))
    (fun x => ∃ (j : Nat) (o : List Int) (es : List api_Edge) (num : List Int), x = (o, (j : Int), es, num) ∧ j ≤ l.length ∧ Fnd a o ∧ Num a o num ∧ es.length ≤ 200000 + j) (fun x => l.length - x.2.1.toNat)
    (fun x r => ∀ (j : Nat) (o : List Int) (es : List api_Edge) (num : List Int), x = (o, (j : Int), es, num) → ∃ num', Num a (((l.drop j).map (·.To)).foldl ins o) num' ∧ r = some (((l.drop j).map (·.To)).foldl ins o, ms, es ++ (l.drop j).map (fun x => ⟨(i : Int), x.Event, ((((l.drop j).map (·.To)).foldl ins o).idxOf x.To : Int)⟩), num')) (by
      rintro k _ ⟨j, o, es, num, rfl, hj, hf, hnm, hel⟩ ih j' o' es' num' he
      obtain ⟨rfl, he2⟩ := Prod.mk.inj he
      obtain ⟨hjj, he3⟩ := Prod.mk.inj he2
      obtain ⟨rfl, rfl⟩ := Prod.mk.inj he3
      obtain rfl : j = j' := by omega
      have hfl := hf.len
      dsimp only
      by_cases hlt : j < l.length
      · have ht := hto _ (List.getElem_mem hlt)
        rw [if_pos (by omega), getO_nat hlt]
        simp only [Option.bind_some]
        rw [show inO (Int.toNat a.States) l[j].To = some () from by unfold inO; rw [if_pos (by omega)]]
        simp only [Option.bind_some]
        rw [hnm.get ht]
        simp only [Option.bind_some]
        have hfi := hf.ins ht
        have hmem : l[j].To ∈ ins o l[j].To := mem_ins.2 (.inr rfl)
        have hpre : ins o l[j].To <+: ((l.drop (j + 1)).map (·.To)).foldl ins (ins o l[j].To) :=
          (foldl_ins hfi fun t ht' => by obtain ⟨x, hx, rfl⟩ := List.mem_map.1 ht'; exact hto x (List.mem_of_mem_drop hx)).2.1
        rw [List.drop_eq_getElem_cons hlt]
        simp only [List.map_cons, List.foldl_cons]
        by_cases hm : l[j].To ∈ o
        · have e1 : ins o l[j].To = o := by unfold ins; rw [if_pos hm]
          rw [if_pos hm, if_neg (by omega)]
          simp only [Option.bind_some]
          rw [hnm.get ht, if_pos hm]
          simp only [Option.bind_some]
          rw [appO_some (by simp only [List.length_cons, List.length_nil]; unfold lim; omega)]
          simp only [Option.bind_some]
          rw [wrap_succ (by omega)]
          rw [e1] at hpre ⊢
          obtain ⟨num', q1, q2⟩ := ih _ ⟨j + 1, o, es ++ [⟨(i : Int), l[j].Event, (o.idxOf l[j].To : Int)⟩], num, rfl, by omega, hf, hnm, by simp only [List.length_append, List.length_cons, List.length_nil]; omega⟩ (by simp only; omega) (j + 1) _ _ _ rfl
          refine ⟨num', q1, ?_⟩
          rw [q2, idxOf_pre hpre hm]
          simp only [List.append_assoc, List.cons_append, List.nil_append]
        · have e1 : ins o l[j].To = o ++ [l[j].To] := by unfold ins; rw [if_neg hm]
          rw [if_neg hm, if_pos (by omega)]
          obtain ⟨num1, w1, w2⟩ := hnm.set ht hm
          rw [w1]
          simp only [Option.bind_some]
          rw [appO_some (by simp only [List.length_cons, List.length_nil]; unfold lim; omega)]
          simp only [Option.bind_some]
          rw [w2.get ht, if_pos (by simp)]
          simp only [Option.bind_some]
          rw [appO_some (by simp only [List.length_cons, List.length_nil]; unfold lim; omega)]
          simp only [Option.bind_some]
          rw [wrap_succ (by omega)]
          rw [e1] at hpre hfi hmem ⊢
          obtain ⟨num', q1, q2⟩ := ih _ ⟨j + 1, o ++ [l[j].To], es ++ [⟨(i : Int), l[j].Event, ((o ++ [l[j].To]).idxOf l[j].To : Int)⟩], num1, rfl, by omega, hfi, w2, by simp only [List.length_append, List.length_cons, List.length_nil]; omega⟩ (by simp only; omega) (j + 1) _ _ _ rfl
          refine ⟨num', q1, ?_⟩
          rw [q2, idxOf_pre hpre hmem]
          simp only [List.append_assoc, List.cons_append, List.nil_append]
      · rw [if_neg (by omega)]
        obtain rfl : j = l.length := by omega
        exact ⟨num, by simpa using hnm, by simp⟩) fuel (o, 0, es, num) ⟨0, o, es, num, rfl, Nat.zero_le _, ho, hn, by omega⟩ (by simp only; omega) 0 o es num rfl
  obtain ⟨num', q1, q2⟩ := key
  exact ⟨num', by simpa using q1, by simpa using q2⟩
theorem canon_loop (fuel : Nat) (hfu : 1099511627776 ≤ fuel) {num : List Int} (h0 : 0 < a.States) (hn : Num a [0] num) :
    ∃ num', iterF (fun (k28 : List Int × Int × List Int × List Int × List api_Edge × List Int × List api_Edge × List Int → Option (List Int × List Int × List Int × List api_Edge × List Int × List api_Edge × List Int)) ((order20, i21, c22, c23, c24, r25, r26, c27) : (List Int) × Int × (List Int) × (List Int) × (List api_Edge) × (List Int) × (List api_Edge) × (List Int)) => (if (i21 < (order20.length : Int)) then ((((((getO order20 i21).bind fun x30 => ((g_slices_BinarySearch_int a.Marked x30).bind fun (r33, r34) => (if r34 then ((appO r25 [i21]).bind fun x36 => some x36) else some r25)))).bind fun (r38 : List Int) => ((getO order20 i21).bind fun x39 => ((g_automaton_out a x39).bind fun x42 => iterF (fun k47 ((order43, x44, r45, c46) : (List Int) × Int × (List api_Edge) × (List Int)) => (if (x44 < (x42.length : Int)) then ((getO x42 x44).bind fun x49 => ((((inO (Int.toNat a.States) x49.To).bind fun u51 => ((getO c46 x49.To).bind fun x53 => (if (x53 < 0) then ((inO (Int.toNat a.States) x49.To).bind fun u56 => ((setO c46 x49.To (order43.length : Int)).bind fun x58 => ((appO order43 [x49.To]).bind fun x60 => some (x60, x58)))) else some (order43, c46))))).bind fun ((order62, c63) : (List Int) × (List Int)) => ((inO (Int.toNat a.States) x49.To).bind fun u64 => ((getO c63 x49.To).bind fun x66 => ((appO r45 [(api_Edge.mk i21 x49.Event x66)]).bind fun x68 => k47 (order62, (IntKind.wrap .i64 (x44 + 1)), x68, c63)))))) else some (order43, r38, r45, c46))) fuel (order20, 0, r26, c27))))).bind fun ((order70, r71, r72, c73) : (List Int) × (List Int) × (List api_Edge) × (List Int)) => k28 (order70, (IntKind.wrap .i64 (i21 + 1)), c22, c23, c24, r71, r72, c73)) else some (order20, c22, c23, c24, r25, r26, c27))) fuel ([0], 0, [], [], [], [], [], num) = some (foundP a, [], [], [], marksP a.Marked 0 (foundP a), edgesP a (foundP a) 0 (foundP a), num') := by
  have hst := h.st
  have hs := h.small.1
  have hsb := h.small.2
  have key := iterF_rule (F := (fun (k28 : List Int × Int × List Int × List Int × List api_Edge × List Int × List api_Edge × List Int → Option (List Int × List Int × List Int × List api_Edge × List Int × List api_Edge × List Int)) ((order20, i21, c22, c23, c24, r25, r26, c27) : (List Int) × Int × (List Int) × (List Int) × (List api_Edge) × (List Int) × (List api_Edge) × (List Int)) => (if (i21 < (order20.length : Int)) then ((((((getO order20 i21).bind fun x30 => ((g_slices_BinarySearch_int a.Marked x30).bind fun (r33, r34) => (if r34 then ((appO r25 [i21]).bind fun x36 => some x36) else some r25)))).bind fun (r38 : List Int) => ((getO order20 i21).bind fun x39 => ((g_automaton_out a x39).bind fun x42 => iterF (fun k47 ((order43, x44, r45, c46) : (List Int) × Int × (List api_Edge) × (List Int)) => (if (x44 < (x42.length : Int)) then ((getO x42 x44).bind fun x49 => ((((inO (Int.toNat a.States) x49.To).bind fun u51 => ((getO c46 x49.To).bind fun x53 => (if (x53 < 0) then ((inO (Int.toNat a.States) x49.To).bind fun u56 => ((setO c46 x49.To (order43.length : Int)).bind fun x58 => ((appO order43 [x49.To]).bind fun x60 => some (x60, x58)))) else some (order43, c46))))).bind fun ((order62, c63) : (List Int) × (List Int)) => ((inO (Int.toNat a.States) x49.To).bind fun u64 => ((getO c63 x49.To).bind fun x66 => ((appO r45 [(api_Edge.mk i21 x49.Event x66)]).bind fun x68 => k47 (order62, (IntKind.wrap .i64 (x44 + 1)), x68, c63)))))) else some (order43, r38, r45, c46))) fuel (order20, 0, r26, c27))))).bind fun ((order70, r71, r72, c73) : (List Int) × (List Int) × (List api_Edge) × (List Int)) => k28 (order70, (IntKind.wrap .i64 (i21 + 1)), c22, c23, c24, r71, r72, c73)) else some (order20, c22, c23, c24, r25, r26, c27))))
    (fun x => ∃ (i : Nat) (o ms : List Int) (es : List api_Edge) (num : List Int), x = (o, (i : Int), [], [], [], ms, es, num) ∧ i ≤ o.length ∧ Fnd a o ∧ Num a o num ∧ ms.length ≤ i ∧ es.length ≤ 32 * i ∧ (∀ j s, j < i → o[j]? = some s → ∀ t ∈ succP a s, t ∈ o)) (fun x => a.States.toNat + 1 - x.2.1.toNat)
    (fun x r => ∀ (i : Nat) (o ms : List Int) (es : List api_Edge) (num : List Int), x = (o, (i : Int), [], [], [], ms, es, num) → ∃ num', r = some (bfs a (a.States.toNat + 1 - i) i o, [], [], [], ms ++ marksP a.Marked i ((bfs a (a.States.toNat + 1 - i) i o).drop i), es ++ edgesP a (bfs a (a.States.toNat + 1 - i) i o) i ((bfs a (a.States.toNat + 1 - i) i o).drop i), num')) (by
      rintro k _ ⟨i, o, ms, es, num, rfl, hi, hf, hnm, hml, hel, hcl⟩ ih i' o' ms' es' num' he
      obtain ⟨rfl, he2⟩ := Prod.mk.inj he
      obtain ⟨hii, he3⟩ := Prod.mk.inj he2
      obtain ⟨_, he4⟩ := Prod.mk.inj he3
      obtain ⟨_, he5⟩ := Prod.mk.inj he4
      obtain ⟨_, he6⟩ := Prod.mk.inj he5
      obtain ⟨rfl, he7⟩ := Prod.mk.inj he6
      obtain ⟨rfl, rfl⟩ := Prod.mk.inj he7
      obtain rfl : i = i' := by omega
      have hfl := hf.len
      dsimp only
      by_cases hlt : i < o.length
      · have hrg := hf.rg _ (List.getElem_mem hlt)
        rw [if_pos (by omega), getO_nat hlt]
        simp only [Option.bind_some]
        obtain ⟨n, hsr⟩ := search_ok (v := o[i]) h.ma hs.2.1
        rw [hsr]
        simp only [Option.bind_some]
        rw [out_ok h hs (by omega) (by omega)]
        have hto : ∀ x ∈ outP a o[i], 0 ≤ x.To ∧ x.To < a.States := fun x hx => by
          unfold outP at hx
          have := h.ed0 x (List.mem_filter.1 hx).1; omega
        have hol : (outP a o[i]).length ≤ 200000 := Nat.le_trans (List.length_filter_le _ _) (by omega)
        have hrow := rowP_len h (F := o) (i := i) (s := o[i])
        have hrl : (outP a o[i]).length ≤ 32 := by simpa [rowP] using hrow
        obtain ⟨q1, q2, q3, _⟩ := foldl_ins hf (succP_range h o[i])
        have hle := q2.length_le
        have hcl' : ∀ j s, j < i + 1 → ((succP a o[i]).foldl ins o)[j]? = some s → ∀ t ∈ succP a s, t ∈ (succP a o[i]).foldl ins o := by
          intro j s hj hs' t ht
          by_cases hji : j < i
          · have hjl : j < o.length := by omega
            have : o[j]? = some s := by
              have := prefix_get q2 (List.getElem?_eq_getElem hjl)
              rw [hs'] at this; rw [List.getElem?_eq_getElem hjl]; exact this.symm
            exact q2.subset (hcl j s hji this t ht)
          · obtain rfl : j = i := by omega
            have := prefix_get q2 (List.getElem?_eq_getElem hlt)
            rw [hs'] at this; cases this
            exact q3 t ht
        have hF := bfs_spec h (a.States.toNat + 1 - (i + 1)) (i + 1) ((succP a o[i]).foldl ins o) q1 (by omega) (by omega) hcl'
        have hget : (bfs a (a.States.toNat + 1 - (i + 1)) (i + 1) ((succP a o[i]).foldl ins o))[i]? = some o[i] := prefix_get (q2.trans hF.2.1) (List.getElem?_eq_getElem hlt)
        rw [show a.States.toNat + 1 - i = (a.States.toNat + 1 - (i + 1)) + 1 from by omega, bfs_succ hlt]
        have hdrop : (bfs a (a.States.toNat + 1 - (i + 1)) (i + 1) ((succP a o[i]).foldl ins o)).drop i = o[i] :: (bfs a (a.States.toNat + 1 - (i + 1)) (i + 1) ((succP a o[i]).foldl ins o)).drop (i + 1) := by
          obtain ⟨w1, w2⟩ := List.getElem?_eq_some_iff.1 hget
          rw [List.drop_eq_getElem_cons w1, w2]
        rw [hdrop]
        simp only [marksP, edgesP]
        have hidx : ∀ x ∈ outP a o[i], (bfs a (a.States.toNat + 1 - (i + 1)) (i + 1) ((succP a o[i]).foldl ins o)).idxOf x.To = ((succP a o[i]).foldl ins o).idxOf x.To := fun x hx =>
          idxOf_pre hF.2.1 (q3 x.To (List.mem_map.2 ⟨x, hx, rfl⟩))
        have hrow2 : rowP a (bfs a (a.States.toNat + 1 - (i + 1)) (i + 1) ((succP a o[i]).foldl ins o)) i o[i] = (outP a o[i]).map fun x => ⟨(i : Int), x.Event, (((succP a o[i]).foldl ins o).idxOf x.To : Int)⟩ :=
          List.map_congr_left fun x hx => by rw [hidx x hx]
        rw [hrow2]
        generalize hFe : bfs a (a.States.toNat + 1 - (i + 1)) (i + 1) ((succP a o[i]).foldl ins o) = F at *
        have hstep : ∀ ms1 : List Int, ms1.length ≤ i + 1 → ∃ num', (Option.bind (iterF (fun (k47 : List Int × Int × List api_Edge × List Int → Option (List Int × List Int × List api_Edge × List Int)) ((order43, x44, r45, c46) : (List Int) × Int × (List api_Edge) × (List Int)) => (if (x44 < ((outP a o[i]).length : Int)) then ((getO (outP a o[i]) x44).bind fun x49 => ((((inO (Int.toNat a.States) x49.To).bind fun u51 => ((getO c46 x49.To).bind fun x53 => (if (x53 < 0) then ((inO (Int.toNat a.States) x49.To).bind fun u56 => ((setO c46 x49.To (order43.length : Int)).bind fun x58 => ((appO order43 [x49.To]).bind fun x60 => some (x60, x58)))) else some (order43, c46))))).bind fun ((order62, c63) : (List Int) × (List Int)) => ((inO (Int.toNat a.States) x49.To).bind fun u64 => ((getO c63 x49.To).bind fun x66 => ((appO r45 [(api_Edge.mk (i : Int) x49.Event x66)]).bind fun x68 => k47 (order62, (IntKind.wrap .i64 (x44 + 1)), x68, c63)))))) else some (order43, ms1, r45, c46))) fuel (o, 0, es, num)) fun x => k (x.1, IntKind.wrap .i64 ((i : Int) + 1), [], [], [], x.2.1, x.2.2.1, x.2.2.2)) = some (F, [], [], [], ms1 ++ marksP a.Marked (i + 1) (F.drop (i + 1)), (es ++ (outP a o[i]).map (fun x => ⟨(i : Int), x.Event, (((succP a o[i]).foldl ins o).idxOf x.To : Int)⟩)) ++ edgesP a F (i + 1) (F.drop (i + 1)), num') := by
          intro ms1 hms1
          obtain ⟨num1, n1, n2⟩ := canon_row h fuel hfu hol hto (ms := ms1) (i := i) hf hnm (es := es) (by omega)
          rw [n2]
          simp only [Option.bind_some]
          rw [wrap_succ (by omega)]
          have hel2 : (es ++ (outP a o[i]).map (fun x => (⟨(i : Int), x.Event, (((succP a o[i]).foldl ins o).idxOf x.To : Int)⟩ : api_Edge))).length ≤ 32 * (i + 1) := by simp only [List.length_append, List.length_map]; omega
          have hfin := ih _ ⟨i + 1, (succP a o[i]).foldl ins o, ms1, _, num1, rfl, by omega, q1, n1, hms1, hel2, hcl'⟩ (by simp only; omega) (i + 1) _ ms1 _ num1 rfl
          rw [hFe] at hfin
          exact hfin
        by_cases hm : o[i] ∈ a.Marked
        · simp only [hm, decide_true, if_true]
          rw [appO_some (by simp only [List.length_cons, List.length_nil]; unfold lim; omega)]
          simp only [Option.bind_some]
          obtain ⟨num1, n1⟩ := hstep (ms ++ [(i : Int)]) (by simp only [List.length_append, List.length_cons, List.length_nil]; omega)
          refine ⟨num1, Eq.trans ?_ (n1.trans ?_)⟩
          · rfl
          · simp only [List.append_assoc]
        · simp only [hm, decide_false, Bool.false_eq_true, if_false, Option.bind_some]
          obtain ⟨num1, n1⟩ := hstep ms (by omega)
          refine ⟨num1, Eq.trans ?_ (n1.trans ?_)⟩
          · rfl
          · simp only [List.append_assoc, List.nil_append]
      · rw [if_neg (by omega)]
        obtain rfl : i = o.length := by omega
        rw [bfs_end]
        exact ⟨num, by simp [marksP, edgesP]⟩) fuel ([0], 0, [], [], [], [], [], num) ⟨0, [0], [], [], num, rfl, by simp, ⟨by simp, fun s hs => by simp at hs; omega⟩, hn, by simp, by simp, fun j s hj => by omega⟩ (by simp only; omega) 0 [0] [] [] num rfl
  obtain ⟨num', hk⟩ := key
  refine ⟨num', ?_⟩
  rw [hk]
  simp [foundP, h0]
theorem canonical_form : g_automaton_canonical a = some (canonP a) := by
  have hst := h.st
  have hsb := h.small.2
  unfold g_automaton_canonical f_automaton_canonical
  obtain ⟨fuel, hfu, hge⟩ : ∃ f, fuel0 = f ∧ 1099511627776 ≤ f := ⟨_, rfl, Nat.le_refl _⟩
  rw [hfu, clone_ok (by unfold lim; omega), Option.bind_some]
  by_cases h0 : a.States = 0
  · rw [if_pos (by simpa using h0)]
    unfold canonP foundP
    rw [if_neg (by omega)]
    rw [h0]; rfl
  · rw [if_neg (by simpa using h0), show mkO a.States (0 : Int) = some (List.replicate a.States.toNat 0) from by unfold mkO; rw [if_pos ⟨by omega, by unfold lim; omega⟩], Option.bind_some]
    have hfill := iterF_inv (len := a.States.toNat) (F := fun (k9 : Int × List Int → Option (List Int)) ((x7, c8) : Int × (List Int)) => (if (x7 < ((Int.toNat a.States) : Int)) then ((inO (Int.toNat a.States) x7).bind fun u11 => ((setO c8 x7 (-1)).bind fun x13 => k9 ((IntKind.wrap .i64 (x7 + 1)), x13))) else some c8))
      (fun n (c : List Int) => ((n : Int), c)) (fun n c => c.length = a.States.toNat ∧ c.take n = List.replicate n (-1)) (fun _ _ => some (List.replicate a.States.toNat (-1))) (by
        rintro k n c hn ⟨k1, k2⟩ ih
        dsimp only
        rw [if_pos (by omega), show inO (Int.toNat a.States) (n : Int) = some () from by unfold inO; rw [if_pos (by omega)], Option.bind_some, show setO c (n : Int) (-1) = some (c.set n (-1)) from by unfold setO; rw [if_pos ⟨by omega, by rw [k1]; simpa using hn⟩]; rfl, Option.bind_some, wrap_succ (by omega)]
        refine ih _ ⟨by rw [List.length_set]; exact k1, ?_⟩
        rw [List.take_add_one, List.take_set_of_le (Nat.le_refl _), k2, List.getElem?_set_self (by omega)]
        rw [List.replicate_succ']; rfl) (by
        rintro k c ⟨k1, k2⟩
        dsimp only
        rw [if_neg (by omega)]
        rw [← k1, List.take_length, k1] at k2
        rw [k2]) fuel 0 (List.replicate a.States.toNat 0) (Nat.zero_le _) (by omega) ⟨by simp, by simp⟩
    refine (congrArg (fun w => Option.bind w _) hfill).trans ?_
    rw [Option.bind_some, show inO (Int.toNat a.States) 0 = some () from by unfold inO; rw [if_pos (by omega)], Option.bind_some]
    have hn : Num a [0] ((List.replicate a.States.toNat (-1)).set 0 0) := ⟨by simp, fun s hs => by
      rw [List.getElem?_set]
      cases s with
      | zero => simp; omega
      | succ s => simp [hs]; omega⟩
    rw [show setO (List.replicate a.States.toNat (-1 : Int)) 0 0 = some ((List.replicate a.States.toNat (-1)).set 0 0) from by unfold setO; rw [if_pos ⟨by omega, by simp; omega⟩]; rfl, Option.bind_some]
    obtain ⟨num', hk⟩ := canon_loop h fuel hge (by omega) hn
    rw [hk]
    rfl
end
end Go.Abs
end
section
namespace Go.Abs
open Go
theorem known_ok : g_overseerlaw03_known = some true := by kernel_rfl
theorem same_loop {α : Type} [DecidableEq α] {s t : List α} {ne : α → α → Bool} (hne : ∀ x y, ne x y = decide (x ≠ y)) (hl : s.length = t.length) (h : s.length < 1000000000000) :
    iterF (fun k5 (i4 : Int) => (if (i4 < (s.length : Int)) then ((getO s i4).bind fun x7 => ((getO t i4).bind fun x9 => (if ne x7 x9 then some false else k5 (IntKind.wrap .i64 (i4 + 1))))) else some true)) fuel0 0 = some (decide (s = t)) := by
  refine iterF_to (fun i : Int => ∃ n : Nat, i = n ∧ n ≤ s.length ∧ s.take n = t.take n) (fun i => s.length - i.toNat) _ ⟨0, rfl, by omega, by simp⟩ (by unfold fuel0; omega) ?_
  rintro k _ ⟨n, rfl, hn, he⟩ ih
  by_cases hlt : n < s.length
  · rw [if_pos (by omega), getO_nat hlt, getO_nat (by omega : n < t.length)]
    simp only [Option.bind_some, hne]
    by_cases hx : s[n] = t[n]
    · rw [if_neg (by simp [hx]), wrap_succ (by omega)]
      exact ih _ ⟨n + 1, rfl, by omega, take_eq_succ hlt (by omega) he hx⟩ (by omega)
    · rw [if_pos (by simp [hx])]
      have : s ≠ t := fun e => hx (by subst e; rfl)
      simp [this]
  · rw [if_neg (by omega)]
    have e : n = s.length := by omega
    have : s = t := by
      rw [e, List.take_length, hl, List.take_length] at he; exact he
    simp [this]
theorem edge_ne (x y : api_Edge) : (!((x.From == y.From) && ((x.Event == y.Event) && ((x.To == y.To) && true)))) = decide (x ≠ y) := by
  cases x; cases y
  simp only [api_Edge.mk.injEq, Bool.and_true, ne_eq, decide_not]
  congr 1
  rw [Bool.eq_iff_iff]; simp
theorem equal_int {s t : List Int} (h : s.length < 1000000000000) : g_slices_Equal_int s t = some (decide (s = t)) := by
  unfold g_slices_Equal_int f_slices_Equal_int
  by_cases hl : s.length = t.length
  · rw [if_neg (by simp [hl])]
    exact same_loop (ne := fun x y => x != y) (fun x y => by rw [Bool.eq_iff_iff]; simp) hl h
  · rw [if_pos (by simp; omega)]
    have : s ≠ t := fun e => hl (by rw [e])
    simp [this]
theorem sameInts {s t : List Int} (h : s.length < 1000000000000) : g_overseerref03_SameInts s t = some (decide (s = t)) := equal_int h
theorem if_not {R : Type} (b : Bool) (A B : R) : (if b then A else B) = if (!b) then B else A := by cases b <;> rfl
theorem equal_edge {s t : List api_Edge} (h : s.length < 1000000000000) : g_slices_Equal_Edge s t = some (decide (s = t)) := by
  unfold g_slices_Equal_Edge f_slices_Equal_Edge
  by_cases hl : s.length = t.length
  · rw [if_neg (by simp [hl])]
    have := same_loop (ne := fun x y => !((x.From == y.From) && ((x.Event == y.Event) && ((x.To == y.To) && true)))) edge_ne hl h
    simp only [← if_not] at this
    exact this
  · rw [if_pos (by simp; omega)]
    have : s ≠ t := fun e => hl (by rw [e])
    simp [this]
theorem equal_ok {a b : api_Automaton} (h : small a) : g_automaton_Equal a b = some (decide (a = b)) := by
  unfold g_automaton_Equal f_automaton_Equal
  rw [equal_int h.1, equal_int h.2.1, equal_edge h.2.2]
  obtain ⟨al, s, m, e⟩ := a
  obtain ⟨al', s', m', e'⟩ := b
  simp only [Option.bind_some, api_Automaton.mk.injEq]
  by_cases h1 : s = s' <;> by_cases h2 : al = al' <;> by_cases h3 : m = m' <;> by_cases h4 : e = e' <;> simp [h1, h2, h3, h4]
theorem same_ok {a b : api_Automaton} (h : small a) : g_overseerref03_Same a b = some (decide (a = b)) := by
  unfold g_overseerref03_Same f_overseerref03_Same
  rw [sameInts h.1, sameInts h.2.1]
  obtain ⟨al, s, m, e⟩ := a
  obtain ⟨al', s', m', e'⟩ := b
  have hlen : e.length ≠ e'.length → ¬ e = e' := fun h k => h (by rw [k])
  have hlen2 : ((e.length : Int) != (e'.length : Int)) = decide (e.length ≠ e'.length) := by
    rw [Bool.eq_iff_iff]; simp; omega
  by_cases hl : e.length = e'.length
  · have := same_loop (ne := fun x y => !((x.From == y.From) && ((x.Event == y.Event) && ((x.To == y.To) && true)))) edge_ne hl h.2.2
    simp only [← if_not] at this
    rw [this]
    simp only [Option.bind_some, api_Automaton.mk.injEq, hlen2]
    by_cases h1 : s = s' <;> by_cases h2 : al = al' <;> by_cases h3 : m = m' <;> simp [h1, h2, h3, hl]
  · generalize iterF _ fuel0 0 = L
    simp only [Option.bind_some, api_Automaton.mk.injEq, hlen2]
    by_cases h1 : s = s' <;> by_cases h2 : al = al' <;> by_cases h3 : m = m' <;> simp [h1, h2, h3, hl, hlen hl]
theorem few_ok (a : api_Automaton) : g_overseerlaw03_few a = some (decide (a.Alphabet.length ≤ 12 ∧ a.Marked.length ≤ 12 ∧ a.Edges.length ≤ 12)) := by
  unfold g_overseerlaw03_few f_overseerlaw03_few
  by_cases h1 : a.Alphabet.length ≤ 12
  · rw [if_pos (by omega)]
    by_cases h2 : a.Marked.length ≤ 12
    · rw [if_pos (by omega)]; congr 1; apply decide_eq_decide.2; omega
    · rw [if_neg (by omega)]; simp [h2]
  · rw [if_neg (by omega)]; simp [h1]
end Go.Abs
end
section
namespace Go.Abs
open Go
set_option linter.unusedSimpArgs false
set_option linter.unusedVariables false
theorem Canonical_ok {a : api_Automaton} (h : Right a) : g_automaton_Canonical a = some (canonP a, 0) := by
  unfold g_automaton_Canonical f_automaton_Canonical
  rw [check_right h, canonical_form h]; rfl
theorem isCanonical_ok {a : api_Automaton} (h : Right a) : g_automaton_IsCanonical a = some (decide (a = canonP a)) := by
  unfold g_automaton_IsCanonical f_automaton_IsCanonical
  rw [check_right h, canonical_form h]
  simp only [Option.bind_some]
  rw [equal_ok h.small.1]; rfl
theorem automatonCanonical_ok (a : api_Automaton) : g_overseerlaw03_AutomatonCanonical a = some true := by
  unfold g_overseerlaw03_AutomatonCanonical f_overseerlaw03_AutomatonCanonical
  rw [known_ok, few_ok]
  simp only [Option.bind_some, if_true]
  by_cases h1 : a.Alphabet.length ≤ 12 ∧ a.Marked.length ≤ 12 ∧ a.Edges.length ≤ 12
  · have hs : small a := ⟨by unfold big; omega, by unfold big; omega, by unfold big; omega⟩
    rw [refCheck_ok hs]
    by_cases h2 : a.States > 64
    · simp [h1, h2]
    by_cases h3 : checkErr a = 0
    · have h := right_iff.1 h3
      have hc := canonP_right h
      rw [refCanonical_ok h, Canonical_ok h]
      simp only [Option.bind_some]
      rw [Canonical_ok hc]
      simp only [Option.bind_some]
      rw [canonP_idem h, isCanonical_ok h, isCanonical_ok hc, canonP_idem h, same_ok hc.small.1, same_ok h.small.1]
      simp [h1, h2, h3]
    · simp [h1, h2, h3]
  · simp [h1]
end Go.Abs
end
