/-
  Part 7 of the proof: see the last text.
-/
import Derived.Test.YtnmmhhnhjdglhaaP6
import Derived.KernelRfl
set_option linter.unusedVariables false
set_option linter.unusedSimpArgs false
set_option linter.unusedSectionVars false
section
namespace Go.Abs
open Go
set_option linter.unusedSimpArgs false
def listErr (n : Int) : Option Int → List Int → Int
  | _, [] => 0
  | p, x :: xs => if x < 0 ∨ x ≥ n then 2 else if ∃ y, p = some y ∧ x ≤ y then 5 else listErr n (some x) xs
def edgesErr (al : List Int) (st : Int) : Option api_Edge → List api_Edge → Int
  | _, [] => 0
  | p, x :: xs => if x.From < 0 ∨ x.From ≥ st ∨ x.To < 0 ∨ x.To ≥ st then 2 else if x.Event ∉ al then 9 else if ∃ y, p = some y ∧ (x.From < y.From ∨ x.From = y.From ∧ x.Event ≤ y.Event) then 5 else edgesErr al st (some x) xs
def checkErr (a : api_Automaton) : Int :=
  if listErr 32 none a.Alphabet ≠ 0 then listErr 32 none a.Alphabet else if a.States < 0 then 2 else if a.States > 4096 then 3 else
  if listErr a.States none a.Marked ≠ 0 then listErr a.States none a.Marked else edgesErr a.Alphabet a.States none a.Edges
def ahead {α : Type} (l : List α) (n : Nat) : Option α := if n = 0 then none else l[n - 1]?
theorem ahead_zero {α : Type} (l : List α) : ahead l 0 = none := rfl
theorem ahead_succ {α : Type} (l : List α) {n : Nat} (h : n < l.length) : ahead l (n + 1) = some l[n] := by simp [ahead, h]
theorem ahead_pos {α : Type} (l : List α) {n : Nat} (h0 : 0 < n) (h : n ≤ l.length) : ahead l n = some (l[n - 1]'(by omega)) := by
  simp [ahead, show n ≠ 0 from by omega, show n - 1 < l.length from by omega]
theorem listErr_step {n : Int} {l : List Int} {k : Nat} (h : k < l.length) : listErr n (ahead l k) (l.drop k) = if l[k] < 0 ∨ l[k] ≥ n then 2 else if ∃ y, ahead l k = some y ∧ l[k] ≤ y then 5 else listErr n (ahead l (k + 1)) (l.drop (k + 1)) := by
  rw [List.drop_eq_getElem_cons h, listErr, ahead_succ l h]
theorem edgesErr_step {al : List Int} {n : Int} {l : List api_Edge} {k : Nat} (h : k < l.length) : edgesErr al n (ahead l k) (l.drop k) = if l[k].From < 0 ∨ l[k].From ≥ n ∨ l[k].To < 0 ∨ l[k].To ≥ n then 2 else if l[k].Event ∉ al then 9 else if ∃ y, ahead l k = some y ∧ (l[k].From < y.From ∨ l[k].From = y.From ∧ l[k].Event ≤ y.Event) then 5 else edgesErr al n (ahead l (k + 1)) (l.drop (k + 1)) := by
  rw [List.drop_eq_getElem_cons h, edgesErr, ahead_succ l h]
theorem checkSet_ok {l : List Int} {n : Int} (hl : l.length < big) : g_automaton_checkSet l n = some (listErr n none l) := by
  unfold g_automaton_checkSet f_automaton_checkSet
  refine (iterF_idx (len := l.length) (fun k => some (listErr n (ahead l k) (l.drop k))) (by unfold fuel0; unfold big at hl; omega) ?_ ?_).trans (by simp [ahead_zero])
  · intro k i hi ih
    have hb : i < 1000000000000 := by unfold big at hl; omega
    rw [listErr_step hi]
    try dsimp only
    rw [if_pos (by omega), getO_nat hi, wrap_succ (by omega), ih]
    simp only [Option.bind_some]
    by_cases h1 : l[i] < 0
    · simp [h1]
    · by_cases h2 : l[i] ≥ n
      · simp [h1, h2]
      · by_cases h0 : 0 < i
        · rw [wrap_pred h0 (by omega), getO_nat (by omega : i - 1 < l.length), ahead_pos l h0 (by omega)]
          by_cases h3 : l[i] ≤ l[i - 1] <;> simp [h1, h2, h3, h0]
        · obtain rfl : i = 0 := by omega
          simp [h1, h2, ahead_zero]
  · intro k; simp [listErr]
theorem index_ok {l : List Int} {v : Int} (hl : l.length < big) : g_slices_Index_int l v = some (if v ∈ l then (l.idxOf v : Int) else -1) := by
  unfold g_slices_Index_int f_slices_Index_int
  refine (iterF_idx (len := l.length) (fun k => some (if v ∈ l.drop k then ((k + (l.drop k).idxOf v : Nat) : Int) else -1)) (by unfold fuel0; unfold big at hl; omega) ?_ ?_).trans (by simp)
  · intro k i hi ih
    have hb : i < 1000000000000 := by unfold big at hl; omega
    try dsimp only
    rw [if_pos (by omega), getO_nat hi, wrap_succ (by omega), ih, List.drop_eq_getElem_cons hi]
    simp only [Option.bind_some, List.mem_cons, List.idxOf_cons]
    by_cases h : v = l[i]
    · simp [← h]
    · have : ¬ l[i] = v := fun e => h e.symm
      have hbq : (l[i] == v) = false := by simp [this]
      by_cases h2 : v ∈ l.drop (i + 1) <;> simp [h, h2, hbq]
      omega
  · intro k; simp
theorem contains_ok {l : List Int} {v : Int} (hl : l.length < big) : g_slices_Contains_int l v = some (decide (v ∈ l)) := by
  unfold g_slices_Contains_int f_slices_Contains_int
  rw [index_ok hl]
  simp only [Option.bind_some, Option.some.injEq]
  by_cases h : v ∈ l <;> simp [h]
theorem has_ok {l : List Int} {v : Int} (hl : l.length < big) : g_overseerref03_has l v = some (decide (v ∈ l)) := by
  unfold g_overseerref03_has f_overseerref03_has
  refine (iterF_idx (len := l.length) (fun k => some (decide (v ∈ l.drop k))) (by unfold fuel0; unfold big at hl; omega) ?_ ?_).trans (by simp)
  · intro k i hi ih
    have hb : i < 1000000000000 := by unfold big at hl; omega
    try dsimp only
    rw [if_pos (by omega), getO_nat hi, wrap_succ (by omega), ih, List.drop_eq_getElem_cons hi]
    simp only [Option.bind_some, List.mem_cons]
    by_cases h : l[i] = v
    · simp [h]
    · have : ¬ v = l[i] := fun e => h e.symm
      simp [h, this]
  · intro k; simp
theorem checkEdges_ok {a : api_Automaton} (h : small a) : g_automaton_checkEdges a = some (edgesErr a.Alphabet a.States none a.Edges) := by
  obtain ⟨hal, _, hl⟩ := h
  unfold g_automaton_checkEdges f_automaton_checkEdges
  refine (iterF_idx (len := a.Edges.length) (fun k => some (edgesErr a.Alphabet a.States (ahead a.Edges k) (a.Edges.drop k))) (by unfold fuel0; unfold big at hl; omega) ?_ ?_).trans (by simp [ahead_zero])
  · intro k i hi ih
    have hb : i < 1000000000000 := by unfold big at hl; omega
    rw [edgesErr_step hi]
    unfold letJ
    try dsimp only
    rw [if_pos (by omega), getO_nat hi, wrap_succ (by omega), ih]
    simp only [Option.bind_some, contains_ok hal]
    generalize a.Edges[i] = x
    by_cases h1 : x.From < 0
    · simp [h1]
    by_cases h2 : x.From ≥ a.States
    · simp [h1, h2]
    by_cases h3 : x.To < 0
    · simp [h1, h2, h3]
    by_cases h4 : x.To ≥ a.States
    · simp [h1, h2, h3, h4]
    by_cases h5 : x.Event ∈ a.Alphabet
    · by_cases h0 : 0 < i
      · rw [wrap_pred h0 (by omega), getO_nat (by omega : i - 1 < a.Edges.length), ahead_pos a.Edges h0 (by omega)]
        generalize a.Edges[i - 1] = y
        have hi0 : i ≠ 0 := by omega
        by_cases h6 : x.From < y.From
        · simp [h1, h2, h3, h4, h5, h6, hi0]
        by_cases h7 : y.From = x.From
        · by_cases h8 : x.Event ≤ y.Event <;> simp [h1, h2, h3, h4, h5, h6, h7, h8, hi0]
        · have h7' : ¬ x.From = y.From := fun e => h7 e.symm
          simp [h1, h2, h3, h4, h5, h6, h7, hi0, h7']
      · obtain rfl : i = 0 := by omega
        simp [h1, h2, h3, h4, h5, ahead_zero]
    · simp [h1, h2, h3, h4, h5]
  · intro k; unfold letJ; simp [edgesErr]
theorem check_ok {a : api_Automaton} (h : small a) : g_automaton_Check a = some (checkErr a) := by
  unfold g_automaton_Check f_automaton_Check checkErr
  rw [checkSet_ok h.1, checkSet_ok h.2.1, checkEdges_ok h]
  simp only [Option.bind_some]
  by_cases h1 : listErr 32 none a.Alphabet = 0
  · by_cases h2 : a.States < 0
    · simp [h1, h2]
    by_cases h3 : a.States > 4096
    · simp [h1, h2, h3]
    by_cases h4 : listErr a.States none a.Marked = 0 <;> simp [h1, h2, h3, h4]
  · simp [h1]
end Go.Abs
end
section
namespace Go.Abs
open Go
set_option linter.unusedSimpArgs false
set_option linter.unusedVariables false
def keyLt (x y : api_Edge) : Prop := x.From < y.From ∨ x.From = y.From ∧ x.Event < y.Event
instance (x y : api_Edge) : Decidable (keyLt x y) := by unfold keyLt; infer_instance
structure Right (a : api_Automaton) : Prop where
  al0 : ∀ x ∈ a.Alphabet, 0 ≤ x ∧ x < 32
  al : a.Alphabet.Pairwise (· < ·)
  st : 0 ≤ a.States ∧ a.States ≤ 4096
  ma0 : ∀ x ∈ a.Marked, 0 ≤ x ∧ x < a.States
  ma : a.Marked.Pairwise (· < ·)
  ed0 : ∀ x ∈ a.Edges, 0 ≤ x.From ∧ x.From < a.States ∧ 0 ≤ x.To ∧ x.To < a.States ∧ x.Event ∈ a.Alphabet
  ed : a.Edges.Pairwise keyLt
theorem listErr_zero {n : Int} : ∀ {l : List Int} {p : Option Int}, listErr n p l = 0 ↔ (∀ x ∈ l, 0 ≤ x ∧ x < n) ∧ l.Pairwise (· < ·) ∧ ∀ y, p = some y → ∀ x ∈ l, y < x
  | [], p => by simp [listErr]
  | x :: xs, p => by
    rw [listErr]
    split
    · rename_i h
      refine ⟨fun h => by omega, fun hh => ?_⟩
      have := hh.1 x (by simp); omega
    · rename_i h
      split
      · rename_i h2
        obtain ⟨y, hy, hxy⟩ := h2
        refine ⟨fun h => by omega, fun hh => ?_⟩
        have := hh.2.2 y hy x (by simp); omega
      · rename_i h2
        rw [listErr_zero]
        constructor
        · rintro ⟨k1, k2, k3⟩
          refine ⟨fun z hz => ?_, List.pairwise_cons.2 ⟨fun z hz => k3 x rfl z hz, k2⟩, fun y hy z hz => ?_⟩
          · rcases List.mem_cons.1 hz with rfl | hz
            · omega
            · exact k1 z hz
          · have hyx : y < x := by
              rcases Int.lt_or_le y x with h | h
              · exact h
              · exact absurd ⟨y, hy, h⟩ h2
            rcases List.mem_cons.1 hz with rfl | hz
            · exact hyx
            · have := k3 x rfl z hz; omega
        · rintro ⟨k1, k2, k3⟩
          obtain ⟨k4, k5⟩ := List.pairwise_cons.1 k2
          exact ⟨fun z hz => k1 z (by simp [hz]), k5, fun y hy z hz => by cases hy; exact k4 z hz⟩
theorem edgesErr_zero {al : List Int} {n : Int} : ∀ {l : List api_Edge} {p : Option api_Edge}, edgesErr al n p l = 0 ↔ (∀ x ∈ l, 0 ≤ x.From ∧ x.From < n ∧ 0 ≤ x.To ∧ x.To < n ∧ x.Event ∈ al) ∧ l.Pairwise keyLt ∧ ∀ y, p = some y → ∀ x ∈ l, keyLt y x
  | [], p => by simp [edgesErr]
  | x :: xs, p => by
    have tr : ∀ a b c : api_Edge, keyLt a b → keyLt b c → keyLt a c := fun a b c h k => by unfold keyLt at *; omega
    rw [edgesErr]
    split
    · rename_i h
      refine ⟨fun h => by omega, fun hh => ?_⟩
      have := hh.1 x (by simp); omega
    · rename_i h
      split
      · rename_i h2
        refine ⟨fun h => by omega, fun hh => ?_⟩
        exact absurd (hh.1 x (by simp)).2.2.2.2 h2
      · rename_i hal
        split
        · rename_i h2
          obtain ⟨y, hy, hxy⟩ := h2
          refine ⟨fun h => by omega, fun hh => ?_⟩
          have := hh.2.2 y hy x (by simp)
          unfold keyLt at this; omega
        · rename_i h2
          rw [edgesErr_zero]
          constructor
          · rintro ⟨k1, k2, k3⟩
            refine ⟨fun z hz => ?_, List.pairwise_cons.2 ⟨fun z hz => k3 x rfl z hz, k2⟩, fun y hy z hz => ?_⟩
            · rcases List.mem_cons.1 hz with rfl | hz
              · exact ⟨by omega, by omega, by omega, by omega, Decidable.not_not.1 hal⟩
              · exact k1 z hz
            · have hyx : keyLt y x := by
                apply Decidable.byContradiction
                intro h
                exact h2 ⟨y, hy, by unfold keyLt at h; omega⟩
              rcases List.mem_cons.1 hz with rfl | hz
              · exact hyx
              · exact tr _ _ _ hyx (k3 x rfl z hz)
          · rintro ⟨k1, k2, k3⟩
            obtain ⟨k4, k5⟩ := List.pairwise_cons.1 k2
            exact ⟨fun z hz => k1 z (by simp [hz]), k5, fun y hy z hz => by cases hy; exact k4 z hz⟩
theorem right_iff {a : api_Automaton} : checkErr a = 0 ↔ Right a := by
  unfold checkErr
  constructor
  · intro h
    split at h
    · rename_i h1; exact absurd h h1
    rename_i h1
    split at h
    · omega
    split at h
    · omega
    split at h
    · rename_i h4; exact absurd h h4
    rename_i h4
    have q1 := listErr_zero.1 (Decidable.not_not.1 h1)
    have q2 := listErr_zero.1 (Decidable.not_not.1 h4)
    have q3 := edgesErr_zero.1 h
    exact ⟨q1.1, q1.2.1, ⟨by omega, by omega⟩, q2.1, q2.2.1, q3.1, q3.2.1⟩
  · intro h
    have q1 : listErr 32 none a.Alphabet = 0 := listErr_zero.2 ⟨h.al0, h.al, fun y hy => by cases hy⟩
    have q2 : listErr a.States none a.Marked = 0 := listErr_zero.2 ⟨h.ma0, h.ma, fun y hy => by cases hy⟩
    have q3 : edgesErr a.Alphabet a.States none a.Edges = 0 := edgesErr_zero.2 ⟨h.ed0, h.ed, fun y hy => by cases hy⟩
    have := h.st
    rw [if_neg (by simp [q1]), if_neg (by omega), if_neg (by omega), if_neg (by simp [q2]), q3]
def outP (a : api_Automaton) (s : Int) : List api_Edge := a.Edges.filter fun x => x.From == s
def stepP (a : api_Automaton) (s e : Int) : Int := match a.Edges.find? fun x => x.From == s && x.Event == e with
  | some x => x.To
  | none => -1
theorem From_mono {l : List api_Edge} (h : l.Pairwise keyLt) (s : Int) : l.Pairwise fun a b => decide (b.From < s) = true → decide (a.From < s) = true :=
  h.imp fun h => by unfold keyLt at h; simp; omega
theorem bsf_ok {l : List api_Edge} {s : Int} {cmp : api_Edge → Int → Option Int} (hcmp : ∀ x ∈ l, cmp x s = some (x.From - s)) (hs : l.Pairwise keyLt) (hl : l.length < big) :
    ∃ b, g_slices_BinarySearchFunc_int l s cmp = some (((l.filter fun x => decide (x.From < s)).length : Int), b) := by
  have hc := fun n h => count_mono (p := fun x : api_Edge => decide (x.From < s)) (From_mono hs s) n h
  have hcl : (l.filter fun x => decide (x.From < s)).length ≤ l.length := List.length_filter_le _ _
  generalize (l.filter fun x => decide (x.From < s)).length = c at hc hcl
  have hb : l.length < 1000000000000 := hl
  unfold g_slices_BinarySearchFunc_int f_slices_BinarySearchFunc_int
  have hloop := iterF_rule (F := fun (k13 : Int × Int → Option Int) ((i11, j12) : Int × Int) => (if (i11 < j12) then ((getO l (IntKind.wrap .i64 (Int.fdiv (IntKind.wrap .u64 (IntKind.wrap .i64 (i11 + j12))) (2 ^ (min (Int.toNat 1) (IntKind.bits .u64)))))).bind fun x15 => ((cmp x15 s).bind fun x18 => (if (x18 < 0) then k13 ((IntKind.wrap .i64 ((IntKind.wrap .i64 (Int.fdiv (IntKind.wrap .u64 (IntKind.wrap .i64 (i11 + j12))) (2 ^ (min (Int.toNat 1) (IntKind.bits .u64))))) + 1)), j12) else k13 (i11, (IntKind.wrap .i64 (Int.fdiv (IntKind.wrap .u64 (IntKind.wrap .i64 (i11 + j12))) (2 ^ (min (Int.toNat 1) (IntKind.bits .u64))))))))) else some i11))
    (fun x => ∃ i j : Nat, x = ((i : Int), (j : Int)) ∧ i ≤ c ∧ c ≤ j ∧ j ≤ l.length) (fun x => (x.2 - x.1).toNat) (fun _ r => r = some (c : Int)) (by
      rintro k _ ⟨i, j, rfl, h1, h2, h3⟩ ih
      dsimp only
      by_cases hij : i < j
      · rw [if_pos (by omega), mid_ok (by omega) (by omega)]
        have hm : (i + j) / 2 < l.length := by omega
        rw [getO_nat hm]
        simp only [Option.bind_some]
        rw [hcmp _ (List.getElem_mem hm)]
        simp only [Option.bind_some]
        have hcm := hc ((i + j) / 2) hm
        by_cases hlt : l[(i + j) / 2].From < s
        · rw [if_pos (by omega), wrap_succ (by omega)]
          have : (i + j) / 2 < c := hcm.1 (by simpa using hlt)
          exact ih _ ⟨_, _, rfl, by omega, h2, h3⟩ (by simp only; omega)
        · rw [if_neg (by omega)]
          have : ¬ (i + j) / 2 < c := fun h => hlt (by simpa using hcm.2 h)
          exact ih _ ⟨_, _, rfl, h1, by omega, by omega⟩ (by simp only; omega)
      · rw [if_neg (by omega)]
        have : i = c := by omega
        rw [this]) fuel0 (0, (l.length : Int)) ⟨0, l.length, rfl, by omega, hcl, Nat.le_refl _⟩ (by unfold fuel0; simp only; omega)
  rw [hloop]
  simp only [Option.bind_some]
  by_cases hlt : c < l.length
  · rw [if_pos (by omega), getO_nat hlt]
    simp only [Option.bind_some]
    rw [hcmp _ (List.getElem_mem hlt)]
    exact ⟨_, rfl⟩
  · rw [if_neg (by omega)]
    exact ⟨_, rfl⟩
theorem out_parts : ∀ {l : List api_Edge} (s : Int), l.Pairwise keyLt → (l.take (l.filter fun x => decide (x.From < s + 1)).length).drop (l.filter fun x => decide (x.From < s)).length = l.filter fun x => x.From == s
  | [], s, _ => by simp
  | x :: xs, s, h => by
    obtain ⟨h1, h2⟩ := List.pairwise_cons.1 h
    have ih := out_parts s h2
    have hge : ∀ y ∈ xs, x.From ≤ y.From := fun y hy => by have := h1 y hy; unfold keyLt at this; omega
    by_cases hx : x.From < s
    · have e1 : decide (x.From < s) = true := by simpa using hx
      have e2 : decide (x.From < s + 1) = true := by simp; omega
      have e3 : (x.From == s) = false := by simp; omega
      simp only [List.filter_cons, e1, e2, e3, if_true, List.length_cons, List.take_succ_cons, List.drop_succ_cons, Bool.false_eq_true, if_false]
      exact ih
    · have hz : xs.filter (fun x => decide (x.From < s)) = [] := List.filter_eq_nil_iff.2 fun y hy => by have := hge y hy; simp; omega
      have e1 : decide (x.From < s) = false := by simpa using hx
      by_cases hq : x.From = s
      · have e2 : decide (x.From < s + 1) = true := by simp; omega
        have e3 : (x.From == s) = true := by simp [hq]
        simp only [List.filter_cons, e1, e2, e3, if_true, List.length_cons, List.take_succ_cons, Bool.false_eq_true, if_false, hz, List.length_nil, List.drop_zero]
        rw [hz, List.length_nil, List.drop_zero] at ih
        rw [ih]
      · have e2 : decide (x.From < s + 1) = false := by simp; omega
        have e3 : (x.From == s) = false := by simp [hq]
        have hz1 : xs.filter (fun x => decide (x.From < s + 1)) = [] := List.filter_eq_nil_iff.2 fun y hy => by have := hge y hy; simp; omega
        have hz2 : xs.filter (fun x => x.From == s) = [] := List.filter_eq_nil_iff.2 fun y hy => by have := hge y hy; simp; omega
        simp only [List.filter_cons, e1, e2, e3, Bool.false_eq_true, if_false, hz, hz1, hz2, List.length_nil, List.take_zero, List.drop_zero]
section
variable {a : api_Automaton} (h : Right a) (hs : small a)
include h hs
theorem out_ok {s : Int} (h0 : -1000000000000 < s) (h1 : s < 1000000000000) : g_automaton_out a s = some (outP a s) := by
  unfold g_automaton_out f_automaton_out
  have hst := h.st
  have hw : ∀ t : Int, -1000000000002 < t → t < 1000000000002 → ∀ x ∈ a.Edges, IntKind.wrap .i64 (x.From - t) = x.From - t := fun t k1 k2 x hx => by
    have := h.ed0 x hx; exact wrap_id (by omega) (by omega)
  have e1 : IntKind.wrap .i64 (s + 1) = s + 1 := wrap_id (by omega) (by omega)
  obtain ⟨b1, k1⟩ := bsf_ok (s := s) (cmp := g_automaton_out_1) (fun x hx => by unfold g_automaton_out_1 f_automaton_out_1; rw [hw s (by omega) (by omega) x hx]) h.ed hs.2.2
  obtain ⟨b2, k2⟩ := bsf_ok (s := s + 1) (cmp := g_automaton_out_2) (fun x hx => by unfold g_automaton_out_2 f_automaton_out_2; rw [hw (s + 1) (by omega) (by omega) x hx]) h.ed hs.2.2
  rw [k1, e1]
  simp only [Option.bind_some]
  rw [k2]
  simp only [Option.bind_some]
  have hle : (a.Edges.filter fun x => decide (x.From < s)).length ≤ (a.Edges.filter fun x => decide (x.From < s + 1)).length :=
    by rw [← List.countP_eq_length_filter, ← List.countP_eq_length_filter]; exact List.countP_mono_left fun x _ hx => by simp at hx ⊢; omega
  rw [slcO_nat hle (List.length_filter_le _ _), out_parts s h.ed]
  rfl
theorem next_ok {s e : Int} (h0 : -1000000000000 < s) (h1 : s < 1000000000000) : g_automaton_next a s e = some (stepP a s e) := by
  unfold g_automaton_next f_automaton_next
  rw [out_ok h hs h0 h1]
  simp only [Option.bind_some]
  have hl : (outP a s).length < big := Nat.lt_of_le_of_lt (List.length_filter_le _ _) hs.2.2
  have hf : stepP a s e = match (outP a s).find? (fun x => x.Event == e) with | some x => x.To | none => -1 := by
    unfold stepP outP; rw [List.find?_filter]
    have : (fun x : api_Edge => decide ((x.From == s) = true ∧ (x.Event == e) = true)) = fun x => x.From == s && x.Event == e := by
      funext x; rw [Bool.eq_iff_iff]; simp
    rw [this]
  rw [hf]
  generalize outP a s = l at hl
  have hi : g_slices_IndexFunc_Edge l (fun a6 => g_automaton_next_1 a6 e) = some (if ∃ x ∈ l, x.Event = e then (l.findIdx (fun x => x.Event == e) : Int) else -1) := by
    have hb : l.length < 1000000000000 := hl
    unfold g_slices_IndexFunc_Edge f_slices_IndexFunc_Edge
    refine (iterF_idx (len := l.length) (fun k => some (if ∃ x ∈ l.drop k, x.Event = e then ((k + (l.drop k).findIdx (fun x => x.Event == e) : Nat) : Int) else -1)) (by unfold fuel0; omega) ?_ ?_).trans (by simp)
    · intro k i hi ih
      rw [if_pos (by omega), getO_nat hi, wrap_succ (by omega), ih, List.drop_eq_getElem_cons hi]
      simp only [Option.bind_some, g_automaton_next_1, f_automaton_next_1, List.findIdx_cons]
      by_cases hx : l[i].Event = e
      · have hxb : (l[i].Event == e) = true := by simp [hx]
        have hz : ∃ x ∈ l[i] :: l.drop (i + 1), x.Event = e := ⟨l[i], List.mem_cons_self, hx⟩
        simp only [hxb, if_true, if_pos hz, cond_true]; rfl
      · have hxb : (l[i].Event == e) = false := by simp [hx]
        by_cases hy : ∃ x ∈ l.drop (i + 1), x.Event = e
        · have hz : ∃ x ∈ l[i] :: l.drop (i + 1), x.Event = e := by obtain ⟨x, k1, k2⟩ := hy; exact ⟨x, List.mem_cons_of_mem _ k1, k2⟩
          simp only [hxb, Bool.false_eq_true, if_false, if_pos hy, if_pos hz, cond_false]
          have : ∀ n : Nat, i + 1 + n = i + (n + 1) := fun n => by omega
          rw [this]
        · have hz : ¬ ∃ x ∈ l[i] :: l.drop (i + 1), x.Event = e := by
            rintro ⟨x, k1, k2⟩
            rcases List.mem_cons.1 k1 with rfl | k1
            · exact hx k2
            · exact hy ⟨x, k1, k2⟩
          simp only [hxb, Bool.false_eq_true, if_false, if_neg hy, if_neg hz, cond_false]
    · intro k; simp
  rw [hi]
  simp only [Option.bind_some]
  by_cases hx : ∃ x ∈ l, x.Event = e
  · rw [if_pos hx, if_neg (by omega)]
    have hlt : l.findIdx (fun x => x.Event == e) < l.length := by
      rw [List.findIdx_lt_length]; obtain ⟨x, k1, k2⟩ := hx; exact ⟨x, k1, by simp [k2]⟩
    rw [getO_nat hlt]
    simp only [Option.bind_some]
    rw [show l.find? (fun x => x.Event == e) = some l[l.findIdx (fun x => x.Event == e)] from by
      rw [List.find?_eq_some_iff_getElem]
      refine ⟨List.findIdx_getElem (w := hlt), _, hlt, rfl, fun j hj => ?_⟩
      have := List.not_of_lt_findIdx hj
      simpa using this]
  · rw [if_neg hx, if_pos (by omega)]
    rw [show l.find? (fun x => x.Event == e) = none from List.find?_eq_none.2 fun x hx' hy => hx ⟨x, hx', by simpa using hy⟩]
omit h in
theorem refStep_ok {s e : Int} : g_overseerref03_Step a s e = some (stepP a s e) := by
  have hb : a.Edges.length < 1000000000000 := hs.2.2
  unfold g_overseerref03_Step f_overseerref03_Step
  refine (iterF_idx (len := a.Edges.length) (fun k => some (match (a.Edges.drop k).find? (fun x => x.From == s && x.Event == e) with | some x => x.To | none => -1)) (by unfold fuel0; omega) ?_ ?_).trans (by simp [stepP])
  · intro k i hi ih
    rw [if_pos (by omega), getO_nat hi, wrap_succ (by omega), ih, List.drop_eq_getElem_cons hi]
    simp only [Option.bind_some, List.find?_cons]
    cases h1 : a.Edges[i].From == s <;> cases h2 : a.Edges[i].Event == e <;> simp [h1, h2]
  · intro k; simp
end
theorem stepP_range {a : api_Automaton} (h : Right a) (s e : Int) : stepP a s e = -1 ∨ 0 ≤ stepP a s e ∧ stepP a s e < a.States ∧ 0 ≤ s ∧ s < a.States ∧ e ∈ a.Alphabet := by
  unfold stepP
  split
  · rename_i x hx
    have hm := List.mem_of_find?_eq_some hx
    have hp := List.find?_some hx
    obtain ⟨k1, k2, k3, k4, k5⟩ := h.ed0 x hm
    simp at hp
    exact .inr ⟨k3, k4, by omega, by omega, hp.2 ▸ k5⟩
  · exact .inl rfl
theorem stepP_nonneg {a : api_Automaton} (h : Right a) {s e : Int} : 0 ≤ stepP a s e ↔ ∃ x ∈ outP a s, x.Event = e := by
  unfold stepP outP
  split
  · rename_i x hx
    have hm := List.mem_of_find?_eq_some hx
    have hp := List.find?_some hx
    simp at hp
    refine ⟨fun _ => ⟨x, by simp [hm, hp.1], hp.2⟩, fun _ => (h.ed0 x hm).2.2.1⟩
  · rename_i hx
    have := List.find?_eq_none.1 hx
    refine ⟨fun h => by omega, ?_⟩
    rintro ⟨x, h1, h2⟩
    simp at h1
    exact absurd (by simp [h1.2, h2]) (this x h1.1)
theorem outP_events {a : api_Automaton} (h : Right a) (s : Int) : (outP a s).map (·.Event) = a.Alphabet.filter fun e => decide (0 ≤ stepP a s e) := by
  refine sorted_ext ?_ (h.al.filter _) fun e => ?_
  · rw [List.pairwise_map]
    have h1 : (outP a s).Pairwise keyLt := h.ed.filter _
    have h2 : ∀ x ∈ outP a s, x.From = s := fun x hx => by unfold outP at hx; simp at hx; exact hx.2
    exact List.Pairwise.imp_of_mem (fun {x y} hx hy hk => by have := h2 x hx; have := h2 y hy; unfold keyLt at hk; omega) h1
  · simp only [List.mem_map, List.mem_filter, decide_eq_true_eq, stepP_nonneg h]
    constructor
    · rintro ⟨x, hx, rfl⟩
      refine ⟨?_, x, hx, rfl⟩
      unfold outP at hx; simp at hx; exact (h.ed0 x hx.1).2.2.2.2
    · rintro ⟨_, x, hx, rfl⟩; exact ⟨x, hx, rfl⟩
theorem outP_step {a : api_Automaton} (h : Right a) {s : Int} {x : api_Edge} (hx : x ∈ outP a s) : stepP a s x.Event = x.To := by
  unfold outP at hx
  simp at hx
  unfold stepP
  split
  · rename_i y hy
    have hm := List.mem_of_find?_eq_some hy
    have hp := List.find?_some hy
    simp at hp
    have : x = y := by
      rcases Classical.em (x = y) with e | hne
      · exact e
      · exfalso
        have hk : keyLt x y ∨ keyLt y x := by
          have := List.pairwise_iff_getElem.1 h.ed
          obtain ⟨i, hi, rfl⟩ := List.getElem_of_mem hx.1
          obtain ⟨j, hj, rfl⟩ := List.getElem_of_mem hm
          rcases Nat.lt_trichotomy i j with hij | hij | hij
          · exact .inl (this i j hi hj hij)
          · subst hij; exact absurd rfl hne
          · exact .inr (this j i hj hi hij)
        unfold keyLt at hk; omega
    rw [this]
  · rename_i hn
    exact absurd (by simp [hx.2]) (List.find?_eq_none.1 hn x hx.1)
end Go.Abs
end
section
namespace Go.Abs
open Go
set_option linter.unusedSimpArgs false
set_option linter.unusedVariables false
theorem Right.small {a : api_Automaton} (h : Right a) : small a ∧ a.Alphabet.length ≤ 32 ∧ a.Marked.length ≤ 4096 ∧ a.Edges.length ≤ 131072 := by
  have h1 := sorted_len h.al h.al0
  have h2 := sorted_len h.ma h.ma0
  have h3 : (a.Edges.map fun x => x.From * 32 + x.Event).Pairwise (· < ·) := by
    rw [List.pairwise_map]
    refine List.Pairwise.imp_of_mem (fun {x y} hx hy hk => ?_) h.ed
    have := h.al0 _ (h.ed0 x hx).2.2.2.2
    have := h.al0 _ (h.ed0 y hy).2.2.2.2
    unfold keyLt at hk; omega
  have h4 := sorted_len (a := 0) (b := 131072) h3 (by
    intro z hz
    obtain ⟨x, hx, rfl⟩ := List.mem_map.1 hz
    have := h.al0 _ (h.ed0 x hx).2.2.2.2
    have := h.ed0 x hx
    have := h.st
    omega)
  rw [List.length_map] at h4
  have := h.st
  refine ⟨⟨?_, ?_, ?_⟩, ?_, ?_, ?_⟩ <;> (try unfold big) <;> omega
theorem check_right {a : api_Automaton} (h : Right a) : g_automaton_Check a = some 0 := by rw [check_ok h.small.1, right_iff.2 h]
theorem checkState_ok {a : api_Automaton} (h : Right a) (s : Int) : g_automaton_checkState a s = some (if 0 ≤ s ∧ s < a.States then 0 else 2) := by
  unfold g_automaton_checkState f_automaton_checkState
  rw [check_right h]
  by_cases h1 : s < 0
  · simp [h1]; omega
  · by_cases h2 : s ≥ a.States
    · simp [h1, h2]
    · simp [h1, h2]
theorem collect_ok {α β : Type} {l : List α} {f : α → β} {fuel : Nat} (hl : l.length < big) (hf : l.length < fuel) {F : (List β × Int → Option (List β)) → List β × Int → Option (List β)}
    (hF : ∀ (k : List β × Int → Option (List β)) (acc : List β) (n : Nat) (h : n < l.length), F k (acc, (n : Int)) = (appO acc [f l[n]]).bind fun x => k (x, IntKind.wrap .i64 ((n : Int) + 1)))
    (hlast : ∀ (k : List β × Int → Option (List β)) (acc : List β), F k (acc, (l.length : Int)) = some acc) : iterF F fuel ([], 0) = some (l.map f) := by
  have hb : l.length < 1000000000000 := hl
  refine (iterF_inv (len := l.length) (fun n (acc : List β) => (acc, (n : Int))) (fun n acc => acc.length ≤ n) (fun n acc => some (acc ++ (l.drop n).map f)) ?_ ?_ fuel 0 [] (Nat.zero_le _) (by omega) (Nat.le_refl _)).trans (by simp)
  · intro k n acc hn hi ih
    rw [hF k acc n hn, appO_some (by simp only [List.length_cons, List.length_nil]; unfold lim; omega), Option.bind_some, wrap_succ (by omega), ih _ (by simp; omega), List.drop_eq_getElem_cons hn]
    simp only [List.map_cons, List.append_assoc, List.cons_append, List.nil_append]
  · intro k acc _; rw [hlast]; simp
theorem select_ok {α β : Type} {l : List α} {f : α → Option β} {fuel : Nat} (hl : l.length < big) (hf : l.length < fuel) {F : (List β × Int → Option (List β)) → List β × Int → Option (List β)}
    (hF : ∀ (k : List β × Int → Option (List β)) (acc : List β) (n : Nat) (h : n < l.length), acc.length ≤ n → F k (acc, (n : Int)) = k (acc ++ (f l[n]).toList, IntKind.wrap .i64 ((n : Int) + 1)))
    (hlast : ∀ (k : List β × Int → Option (List β)) (acc : List β), F k (acc, (l.length : Int)) = some acc) : iterF F fuel ([], 0) = some (l.filterMap f) := by
  have hb : l.length < 1000000000000 := hl
  refine (iterF_inv (len := l.length) (fun n (acc : List β) => (acc, (n : Int))) (fun n acc => acc.length ≤ n) (fun n acc => some (acc ++ (l.drop n).filterMap f)) ?_ ?_ fuel 0 [] (Nat.zero_le _) (by omega) (Nat.le_refl _)).trans (by simp)
  · intro k n acc hn hi ih
    have hlen : (f l[n]).toList.length ≤ 1 := by cases f l[n] <;> simp
    rw [hF k acc n hn hi, wrap_succ (by omega), ih _ (by simp only [List.length_append]; omega), List.drop_eq_getElem_cons hn]
    rw [List.filterMap_cons]
    cases f l[n] <;> simp only [Option.toList_none, Option.toList_some, List.append_nil, List.append_assoc, List.cons_append, List.nil_append]
  · intro k acc _; rw [hlast]; simp
theorem enabled_ok {a : api_Automaton} (h : Right a) (s : Int) : g_automaton_Enabled a s = some (if 0 ≤ s ∧ s < a.States then ((outP a s).map (·.Event), 0) else ([], 2)) := by
  unfold g_automaton_Enabled f_automaton_Enabled
  obtain ⟨fuel, hfu, hge⟩ : ∃ f, fuel0 = f ∧ 1099511627776 ≤ f := ⟨_, rfl, Nat.le_refl _⟩
  rw [hfu]
  have hs := h.small.1
  have hst := h.st
  rw [checkState_ok h]
  by_cases h1 : 0 ≤ s ∧ s < a.States
  · rw [out_ok h hs (by omega) (by omega)]
    have hl : (outP a s).length < big := Nat.lt_of_le_of_lt (List.length_filter_le _ _) hs.2.2
    have hb : (outP a s).length < 1000000000000 := hl
    simp only [Option.bind_some, if_pos h1]
    rw [if_neg (by simp), collect_ok (l := outP a s) (f := (·.Event)) hl (by omega) (fun k acc n hn => by dsimp only; rw [if_pos (by omega), getO_nat hn]; rfl) (fun k acc => by dsimp only; rw [if_neg (by omega)])]
    rfl
  · simp [h1]
end Go.Abs
end
section
namespace Go.Abs
open Go
set_option linter.unusedSimpArgs false
set_option linter.unusedVariables false
def ins (o : List Int) (t : Int) : List Int := if t ∈ o then o else o ++ [t]
def succP (a : api_Automaton) (s : Int) : List Int := (outP a s).map (·.To)
def bfs (a : api_Automaton) : Nat → Nat → List Int → List Int
  | 0, _, o => o
  | fuel + 1, i, o => match o[i]? with
    | some s => bfs a fuel (i + 1) ((succP a s).foldl ins o)
    | none => o
def foundP (a : api_Automaton) : List Int := bfs a (a.States.toNat + 1) 0 (if 0 < a.States then [0] else [])
structure Fnd (a : api_Automaton) (o : List Int) : Prop where
  nd : o.Nodup
  rg : ∀ s ∈ o, 0 ≤ s ∧ s < a.States
theorem Fnd.len {a : api_Automaton} {o : List Int} (h : Fnd a o) : o.length ≤ a.States.toNat := by
  have hO : Go.Sort.SWO ltInt' := ⟨fun x => by simp [ltInt'], fun x y z h1 h2 => by simp [ltInt'] at *; omega, fun x y z h1 h2 => by simp [ltInt'] at *; omega⟩
  have hp := isortB_perm ltInt' o
  have hs := isortB_sorted hO o
  have hn : (isortB ltInt' o).Nodup := (hp.nodup_iff).2 h.nd
  have hlt : (isortB ltInt' o).Pairwise (· < ·) := by
    have : (isortB ltInt' o).Pairwise fun x y => ltInt' y x = false ∧ x ≠ y := hs.and hn
    exact this.imp fun ⟨h1, h2⟩ => by simp [ltInt'] at h1; omega
  have := sorted_len hlt (a := 0) (b := a.States) fun x hx => h.rg x (hp.mem_iff.1 hx)
  rw [isortB_length] at this
  simpa using this
theorem mem_ins {o : List Int} {t x : Int} : x ∈ ins o t ↔ x ∈ o ∨ x = t := by
  unfold ins; split
  · rename_i h; constructor
    · exact .inl
    · rintro (h' | rfl)
      · exact h'
      · exact h
  · simp
theorem pre_ins (o : List Int) (t : Int) : o <+: ins o t := by
  unfold ins; split
  · exact List.prefix_refl o
  · exact List.prefix_append o [t]
theorem Fnd.ins {a : api_Automaton} {o : List Int} (h : Fnd a o) {t : Int} (ht : 0 ≤ t ∧ t < a.States) : Fnd a (ins o t) := by
  refine ⟨?_, fun s hs => ?_⟩
  · unfold Go.Abs.ins; split
    · exact h.nd
    · rename_i hn
      rw [List.nodup_append]
      exact ⟨h.nd, by simp, fun x hx y hy => by simp at hy; subst hy; exact fun e => hn (e ▸ hx)⟩
  · rcases mem_ins.1 hs with hs | rfl
    · exact h.rg s hs
    · exact ht
theorem foldl_ins {a : api_Automaton} : ∀ {ts o : List Int}, Fnd a o → (∀ t ∈ ts, 0 ≤ t ∧ t < a.States) → Fnd a (ts.foldl ins o) ∧ o <+: ts.foldl ins o ∧ (∀ t ∈ ts, t ∈ ts.foldl ins o) ∧ ∀ x ∈ ts.foldl ins o, x ∈ o ∨ x ∈ ts
  | [], o, h, _ => ⟨h, List.prefix_refl o, by simp, fun x hx => .inl hx⟩
  | t :: ts, o, h, ht => by
    obtain ⟨h1, h2, h3, h4⟩ := foldl_ins (ts := ts) (h.ins (ht t (by simp))) fun t ht' => ht t (by simp [ht'])
    refine ⟨h1, (pre_ins o t).trans h2, fun x hx => ?_, fun x hx => ?_⟩
    · rcases List.mem_cons.1 hx with rfl | hx
      · exact h2.subset (mem_ins.2 (.inr rfl))
      · exact h3 x hx
    · rcases h4 x hx with h5 | h5
      · rcases mem_ins.1 h5 with h6 | rfl
        · exact .inl h6
        · exact .inr (by simp)
      · exact .inr (by simp [h5])
theorem succP_range {a : api_Automaton} (h : Right a) (s : Int) : ∀ t ∈ succP a s, 0 ≤ t ∧ t < a.States := by
  intro t ht
  unfold succP outP at ht
  obtain ⟨x, hx, rfl⟩ := List.mem_map.1 ht
  have := h.ed0 x ((List.mem_filter.1 hx).1)
  omega
theorem prefix_get {α : Type} {l m : List α} (h : l <+: m) {i : Nat} {x : α} (hx : l[i]? = some x) : m[i]? = some x := by
  obtain ⟨t, rfl⟩ := h
  have := (List.getElem?_eq_some_iff.1 hx).1
  rw [List.getElem?_append_left this]; exact hx
theorem bfs_spec {a : api_Automaton} (h : Right a) : ∀ (fuel i : Nat) (o : List Int), Fnd a o → i ≤ o.length → a.States.toNat + 1 ≤ fuel + i → (∀ j s, j < i → o[j]? = some s → ∀ t ∈ succP a s, t ∈ o) →
    Fnd a (bfs a fuel i o) ∧ o <+: bfs a fuel i o ∧ ∀ s ∈ bfs a fuel i o, ∀ t ∈ succP a s, t ∈ bfs a fuel i o
  | 0, i, o, hf, hi, hfu, _ => by have := hf.len; omega
  | fuel + 1, i, o, hf, hi, hfu, hc => by
    unfold bfs
    cases hg : o[i]? with
    | none =>
      dsimp only
      refine ⟨hf, List.prefix_refl o, fun s hs t ht => ?_⟩
      obtain ⟨j, hj⟩ := List.getElem?_of_mem hs
      have hlt := (List.getElem?_eq_some_iff.1 hj).1
      exact hc j s (by have := List.getElem?_eq_none_iff.1 hg; omega) hj t ht
    | some s =>
      dsimp only
      obtain ⟨h1, h2, h3, _⟩ := foldl_ins hf (succP_range h s)
      have hlen : i < o.length := (List.getElem?_eq_some_iff.1 hg).1
      have hle := h2.length_le
      obtain ⟨k1, k2, k3⟩ := bfs_spec h fuel (i + 1) ((succP a s).foldl ins o) h1 (by omega) (by omega) (fun j s' hj hs' t ht => by
        by_cases hji : j < i
        · have hjl : j < o.length := by omega
          have : o[j]? = some s' := by
            have := prefix_get h2 (List.getElem?_eq_getElem hjl)
            rw [hs'] at this; rw [List.getElem?_eq_getElem hjl]; exact this.symm
          exact h2.subset (hc j s' hji this t ht)
        · obtain rfl : j = i := by omega
          have := prefix_get h2 hg
          rw [hs'] at this; cases this
          exact h3 t ht)
      exact ⟨k1, h2.trans k2, k3⟩
theorem found_spec {a : api_Automaton} (h : Right a) : Fnd a (foundP a) ∧ (if 0 < a.States then [0] else []) <+: foundP a ∧ ∀ s ∈ foundP a, ∀ t ∈ succP a s, t ∈ foundP a :=
  bfs_spec h _ 0 _ ⟨by split <;> simp, fun s hs => by split at hs <;> simp at hs; subst hs; omega⟩ (Nat.zero_le _) (by omega) fun j s hj => by omega
def marksP (m : List Int) : Nat → List Int → List Int
  | _, [] => []
  | i, s :: t => (if s ∈ m then [(i : Int)] else []) ++ marksP m (i + 1) t
def rowP (a : api_Automaton) (F : List Int) (i : Nat) (s : Int) : List api_Edge := (outP a s).map fun x => ⟨(i : Int), x.Event, (F.idxOf x.To : Int)⟩
def edgesP (a : api_Automaton) (F : List Int) : Nat → List Int → List api_Edge
  | _, [] => []
  | i, s :: t => rowP a F i s ++ edgesP a F (i + 1) t
def canonP (a : api_Automaton) : api_Automaton := ⟨a.Alphabet, ((foundP a).length : Int), marksP a.Marked 0 (foundP a), edgesP a (foundP a) 0 (foundP a)⟩
theorem marksP_range {m : List Int} : ∀ {l : List Int} {i : Nat}, ∀ x ∈ marksP m i l, (i : Int) ≤ x ∧ x < (i + l.length : Nat)
  | [], i, x, hx => by simp [marksP] at hx
  | s :: t, i, x, hx => by
    simp only [marksP, List.mem_append] at hx
    rcases hx with hx | hx
    · split at hx <;> simp at hx
      subst hx; simp only [List.length_cons]; omega
    · have := marksP_range x hx; simp only [List.length_cons]; omega
theorem marksP_sorted {m : List Int} : ∀ {l : List Int} {i : Nat}, (marksP m i l).Pairwise (· < ·)
  | [], i => .nil
  | s :: t, i => by
    simp only [marksP]
    rw [List.pairwise_append]
    refine ⟨by split <;> simp, marksP_sorted, fun x hx y hy => ?_⟩
    have := marksP_range y hy
    split at hx <;> simp at hx
    omega
theorem edgesP_from {a : api_Automaton} {F : List Int} : ∀ {l : List Int} {i : Nat}, ∀ x ∈ edgesP a F i l, (i : Int) ≤ x.From ∧ x.From < (i + l.length : Nat) ∧ ∃ s ∈ l, ∃ y ∈ outP a s, x.Event = y.Event ∧ x.To = (F.idxOf y.To : Int)
  | [], i, x, hx => by simp [edgesP] at hx
  | s :: t, i, x, hx => by
    simp only [edgesP, List.mem_append] at hx
    rcases hx with hx | hx
    · obtain ⟨y, hy, rfl⟩ := List.mem_map.1 hx
      simp only [List.length_cons]
      exact ⟨by omega, by omega, s, by simp, y, hy, rfl, rfl⟩
    · obtain ⟨h1, h2, s', h3, h4⟩ := edgesP_from x hx
      simp only [List.length_cons]
      exact ⟨by omega, by omega, s', by simp [h3], h4⟩
theorem edgesP_sorted {a : api_Automaton} (h : Right a) {F : List Int} : ∀ {l : List Int} {i : Nat}, (edgesP a F i l).Pairwise keyLt
  | [], i => .nil
  | s :: t, i => by
    simp only [edgesP]
    rw [List.pairwise_append]
    refine ⟨?_, edgesP_sorted h, fun x hx y hy => ?_⟩
    · unfold rowP
      rw [List.pairwise_map]
      have h1 : (outP a s).Pairwise keyLt := h.ed.filter _
      have h2 : ∀ x ∈ outP a s, x.From = s := fun x hx => by unfold outP at hx; simp at hx; exact hx.2
      exact List.Pairwise.imp_of_mem (fun {x y} hx hy hk => by have := h2 x hx; have := h2 y hy; unfold keyLt at hk; exact .inr ⟨rfl, by show x.Event < y.Event; omega⟩) h1
    · obtain ⟨z, _, rfl⟩ := List.mem_map.1 hx
      have := (edgesP_from y hy).1
      unfold keyLt; simp only; omega
theorem canonP_right {a : api_Automaton} (h : Right a) : Right (canonP a) := by
  obtain ⟨h1, h2, h3⟩ := found_spec h
  have hl := h1.len
  have hst := h.st
  refine ⟨h.al0, h.al, ⟨by simp only [canonP]; omega, by simp only [canonP]; omega⟩, fun x hx => ?_, marksP_sorted, fun x hx => ?_, edgesP_sorted h⟩
  · have := marksP_range x hx; simp only [canonP]; omega
  · obtain ⟨k1, k2, s, hs, y, hy, k3, k4⟩ := edgesP_from x hx
    have hy' : y.To ∈ foundP a := h3 s hs y.To (List.mem_map.2 ⟨y, hy, rfl⟩)
    have := List.idxOf_lt_length_iff.2 hy'
    simp only [canonP]
    refine ⟨by omega, by omega, by omega, by omega, ?_⟩
    rw [k3]
    unfold outP at hy
    exact (h.ed0 y ((List.mem_filter.1 hy).1)).2.2.2.2
end Go.Abs
end
section
namespace Go.Abs
open Go
set_option linter.unusedSimpArgs false
set_option linter.unusedVariables false
theorem empty_ok {l : List Int} (hl : l.length ≤ lim) : g_overseerref03_Empty l = some ⟨l, 0, [], []⟩ := by
  unfold g_overseerref03_Empty f_overseerref03_Empty
  rw [appO_some (by simpa using hl)]; rfl
theorem refIndex_ok {l : List Int} {v : Int} (hl : l.length < big) : g_overseerref03_index l v = some (if v ∈ l then (l.idxOf v : Int) else -1) := by
  have hb : l.length < 1000000000000 := hl
  unfold g_overseerref03_index f_overseerref03_index
  refine (iterF_idx (len := l.length) (fun k => some (if v ∈ l.drop k then ((k + (l.drop k).idxOf v : Nat) : Int) else -1)) (by unfold fuel0; omega) ?_ ?_).trans (by simp)
  · intro k i hi ih
    rw [if_pos (by omega), getO_nat hi, wrap_succ (by omega), ih, List.drop_eq_getElem_cons hi]
    simp only [Option.bind_some, List.mem_cons, List.idxOf_cons]
    by_cases h : v = l[i]
    · simp [← h]
    · have h' : ¬ l[i] = v := fun e => h e.symm
      have hbq : (l[i] == v) = false := by simp [h']
      by_cases h2 : v ∈ l.drop (i + 1) <;> simp [h, h2, hbq]
      omega
  · intro k; simp
theorem succP_events {a : api_Automaton} (h : Right a) (s : Int) : succP a s = (a.Alphabet.filter fun e => decide (0 ≤ stepP a s e)).map (stepP a s) := by
  rw [← outP_events h, List.map_map]
  unfold succP
  exact List.map_congr_left fun x hx => (outP_step h hx).symm
theorem foldl_skip {a : api_Automaton} (s : Int) : ∀ (al o : List Int), al.foldl (fun o e => if 0 ≤ stepP a s e then ins o (stepP a s e) else o) o = ((al.filter fun e => decide (0 ≤ stepP a s e)).map (stepP a s)).foldl ins o
  | [], o => rfl
  | e :: al, o => by
    by_cases hx : 0 ≤ stepP a s e <;> simp [List.filter_cons, hx, foldl_skip s al]
theorem bfs_succ {a : api_Automaton} {fuel i : Nat} {o : List Int} (hi : i < o.length) : bfs a (fuel + 1) i o = bfs a fuel (i + 1) ((succP a o[i]).foldl ins o) := by
  conv => lhs; unfold bfs
  rw [List.getElem?_eq_getElem hi]
theorem bfs_end {a : api_Automaton} {fuel : Nat} {o : List Int} : bfs a fuel o.length o = o := by
  cases fuel with
  | zero => rfl
  | succ n => unfold bfs; simp
section
variable {a : api_Automaton} (h : Right a)
include h
theorem found_loop (fuel : Nat) (hfu : 1099511627776 ≤ fuel) {s : Int} {o : List Int} {i : Nat} (hf : Fnd a o) (hi : o[i]? = some s) :
    iterF (fun k12 ((out10, k11) : (List Int) × Int) => (if (k11 < (a.Alphabet.length : Int)) then ((((getO out10 (i : Int)).bind fun x14 => ((getO a.Alphabet k11).bind fun x16 => ((g_overseerref03_Step a x14 x16).bind fun x19 => (((if (x19 ≥ 0) then ((g_overseerref03_has out10 x19).bind fun x22 => some (!x22)) else some false)).bind fun (x23 : Bool) => (if x23 then ((appO out10 [x19]).bind fun x25 => some x25) else some out10)))))).bind fun (out27 : List Int) => k12 (out27, (IntKind.wrap .i64 (k11 + 1)))) else some out10)) fuel (o, 0) = some ((succP a s).foldl ins o) := by
  have hs := h.small.1
  have hst := h.st
  have hb : a.Alphabet.length < 1000000000000 := hs.1
  rw [succP_events h, ← foldl_skip]
  refine (iterF_inv (len := a.Alphabet.length) (fun n (acc : List Int) => (acc, (n : Int))) (fun n acc => Fnd a acc ∧ acc[i]? = some s) (fun n acc => some ((a.Alphabet.drop n).foldl (fun o e => if 0 ≤ stepP a s e then ins o (stepP a s e) else o) acc)) ?_ ?_ fuel 0 o (Nat.zero_le _) (by omega) ⟨hf, hi⟩).trans (by simp)
  · intro k n acc hn ⟨k1, k2⟩ ih
    have hlen := k1.len
    have hg : getO acc (i : Int) = some s := by rw [getO_some]; exact ⟨by omega, by simpa using k2⟩
    dsimp only
    rw [if_pos (by omega), hg, getO_nat hn]
    simp only [Option.bind_some]
    rw [refStep_ok hs, wrap_succ (by omega)]
    simp only [Option.bind_some]
    rw [has_ok (by unfold big; omega), List.drop_eq_getElem_cons hn, List.foldl_cons]
    rcases stepP_range h s a.Alphabet[n] with hr | hr
    · rw [hr]; simp only [show ¬ ((-1 : Int) ≥ 0) from by omega, show ¬ ((0 : Int) ≤ -1) from by omega, if_false, Option.bind_some, Bool.false_eq_true]
      exact ih _ ⟨k1, k2⟩
    · have hge : stepP a s a.Alphabet[n] ≥ 0 := hr.1
      by_cases hm : stepP a s a.Alphabet[n] ∈ acc
      · simp only [hge, hm, decide_true, Bool.not_true, if_true, Option.bind_some, Bool.false_eq_true, if_false, hr.1, ins]
        exact ih _ ⟨k1, k2⟩
      · simp only [hge, hm, decide_false, Bool.not_false, if_true, Option.bind_some, hr.1, ins, if_false]
        rw [appO_some (by simp only [List.length_cons, List.length_nil]; unfold lim; omega)]
        simp only [Option.bind_some]
        have hi' := k1.ins (t := stepP a s a.Alphabet[n]) ⟨hr.1, hr.2.1⟩
        unfold ins at hi'
        rw [if_neg hm] at hi'
        exact ih _ ⟨hi', prefix_get (List.prefix_append acc _) k2⟩
  · intro k acc _
    dsimp only
    rw [if_neg (by omega)]; simp
theorem refFound_ok : g_overseerref03_Found a = some (foundP a) := by
  have hs := h.small.1
  have hst := h.st
  unfold g_overseerref03_Found f_overseerref03_Found
  obtain ⟨fuel, hfu, hge⟩ : ∃ f, fuel0 = f ∧ 1099511627776 ≤ f := ⟨_, rfl, Nat.le_refl _⟩
  rw [hfu]
  have hloop : ∀ o : List Int, Fnd a o → iterF (fun (k8 : List Int × Int → Option (List Int)) ((out6, i7) : (List Int) × Int) => (if (i7 < (out6.length : Int)) then ((iterF (fun k12 ((out10, k11) : (List Int) × Int) => (if (k11 < (a.Alphabet.length : Int)) then ((((getO out10 i7).bind fun x14 => ((getO a.Alphabet k11).bind fun x16 => ((g_overseerref03_Step a x14 x16).bind fun x19 => (((if (x19 ≥ 0) then ((g_overseerref03_has out10 x19).bind fun x22 => some (!x22)) else some false)).bind fun (x23 : Bool) => (if x23 then ((appO out10 [x19]).bind fun x25 => some x25) else some out10)))))).bind fun (out27 : List Int) => k12 (out27, (IntKind.wrap .i64 (k11 + 1)))) else some out10)) fuel (out6, 0)).bind fun (out28 : List Int) => k8 (out28, (IntKind.wrap .i64 (i7 + 1)))) else some out6)) fuel (o, 0) = some (bfs a (a.States.toNat + 1) 0 o) := by
    intro o ho
    have := iterF_rule (F := fun (k8 : List Int × Int → Option (List Int)) ((out6, i7) : (List Int) × Int) => (if (i7 < (out6.length : Int)) then ((iterF (fun k12 ((out10, k11) : (List Int) × Int) => (if (k11 < (a.Alphabet.length : Int)) then ((((getO out10 i7).bind fun x14 => ((getO a.Alphabet k11).bind fun x16 => ((g_overseerref03_Step a x14 x16).bind fun x19 => (((if (x19 ≥ 0) then ((g_overseerref03_has out10 x19).bind fun x22 => some (!x22)) else some false)).bind fun (x23 : Bool) => (if x23 then ((appO out10 [x19]).bind fun x25 => some x25) else some out10)))))).bind fun (out27 : List Int) => k12 (out27, (IntKind.wrap .i64 (k11 + 1)))) else some out10)) fuel (out6, 0)).bind fun (out28 : List Int) => k8 (out28, (IntKind.wrap .i64 (i7 + 1)))) else some out6))
      (fun x => ∃ i : Nat, x.2 = (i : Int) ∧ i ≤ x.1.length ∧ Fnd a x.1) (fun x => a.States.toNat + 1 - x.2.toNat) (fun x r => r = some (bfs a (a.States.toNat + 1 - x.2.toNat) x.2.toNat x.1)) (by
        rintro k ⟨o, i⟩ ⟨i, rfl, hi, hf⟩ ih
        replace hi : i ≤ o.length := hi
        replace hf : Fnd a o := hf
        have hl := hf.len
        dsimp only
        by_cases hlt : i < o.length
        · rw [if_pos (by omega), found_loop h fuel hge hf (List.getElem?_eq_getElem hlt), Option.bind_some, wrap_succ (by omega)]
          obtain ⟨q1, q2, _, _⟩ := foldl_ins hf (succP_range h o[i])
          have hle := q2.length_le
          rw [ih _ ⟨i + 1, rfl, by simp only; omega, q1⟩ (by simp only; omega)]
          simp only [Int.toNat_natCast]
          rw [show a.States.toNat + 1 - i = (a.States.toNat + 1 - (i + 1)) + 1 from by omega, bfs_succ hlt]
        · rw [if_neg (by omega)]
          obtain rfl : i = o.length := by omega
          simp only [Int.toNat_natCast, bfs_end]) fuel (o, 0) ⟨0, rfl, Nat.zero_le _, ho⟩ (by simp only; omega)
    simpa using this
  by_cases h0 : 0 < a.States
  · rw [if_pos (by omega), appO_some (by simp only [List.length_cons, List.length_nil]; unfold lim; omega)]
    simp only [Option.bind_some]
    rw [show ([] ++ [0] : List Int) = [0] from rfl, hloop [0] ⟨by simp, fun s hs => by simp at hs; subst hs; omega⟩]
    simp only [Option.bind_some, foundP, if_pos h0]
  · rw [if_neg (by omega)]
    simp only [Option.bind_some]
    rw [hloop [] ⟨by simp, fun s hs => by simp at hs⟩]
    simp only [Option.bind_some, foundP, if_neg h0]
theorem edges_loop (fuel : Nat) (hfu : 1099511627776 ≤ fuel) {F : List Int} (hF : Fnd a F) (hcl : ∀ s ∈ F, ∀ t ∈ succP a s, t ∈ F) {s : Int} {i : Nat} (hi : F[i]? = some s) (ms : List Int) (es : List api_Edge) (hes : es.length ≤ 200000) :
    iterF (fun (k24 : Int × List api_Edge → Option (List Int × List api_Edge)) ((k22, out23) : Int × (List api_Edge)) => (if (k22 < (a.Alphabet.length : Int)) then ((((getO F (i : Int)).bind fun x26 => ((getO a.Alphabet k22).bind fun x28 => ((g_overseerref03_Step a x26 x28).bind fun x31 => (if (x31 ≥ 0) then ((getO a.Alphabet k22).bind fun x33 => ((g_overseerref03_index F x31).bind fun x36 => ((appO out23 [(api_Edge.mk (i : Int) x33 x36)]).bind fun x37 => some x37))) else some out23))))).bind fun (out39 : List api_Edge) => k24 ((IntKind.wrap .i64 (k22 + 1)), out39)) else some (ms, out23))) fuel (0, es) = some (ms, es ++ rowP a F i s) := by
  have hs := h.small.1
  have hst := h.st
  have hal := h.small.2.1
  have hb : a.Alphabet.length < 1000000000000 := hs.1
  have hFl := hF.len
  have hrow : rowP a F i s = (a.Alphabet.filter fun e => decide (0 ≤ stepP a s e)).map fun e => ⟨(i : Int), e, (F.idxOf (stepP a s e) : Int)⟩ := by
    rw [← outP_events h, List.map_map]
    unfold rowP
    exact List.map_congr_left fun x hx => by simp only [Function.comp]; rw [outP_step h hx]
  rw [hrow]
  refine (iterF_inv (len := a.Alphabet.length) (fun n (acc : List api_Edge) => ((n : Int), acc)) (fun n acc => acc.length ≤ 200000 + n) (fun n acc => some (ms, acc ++ ((a.Alphabet.drop n).filter fun e => decide (0 ≤ stepP a s e)).map fun e => ⟨(i : Int), e, (F.idxOf (stepP a s e) : Int)⟩)) ?_ ?_ fuel 0 es (Nat.zero_le _) (by omega) (by omega)).trans (by simp)
  · intro k n acc hn k1 ih
    have hg : getO F (i : Int) = some s := by rw [getO_some]; exact ⟨by omega, by simpa using hi⟩
    dsimp only
    rw [if_pos (by omega), hg, getO_nat hn]
    simp only [Option.bind_some]
    rw [refStep_ok hs, wrap_succ (by omega)]
    simp only [Option.bind_some]
    rw [List.drop_eq_getElem_cons hn, List.filter_cons]
    by_cases hr : 0 ≤ stepP a s a.Alphabet[n]
    · have hm : stepP a s a.Alphabet[n] ∈ F := hcl s (List.mem_of_getElem? hi) _ (by rw [succP_events h]; exact List.mem_map.2 ⟨_, List.mem_filter.2 ⟨List.getElem_mem hn, by simpa using hr⟩, rfl⟩)
      rw [if_pos hr, refIndex_ok (by unfold big; omega), if_pos hm]
      simp only [Option.bind_some]
      rw [appO_some (by simp only [List.length_cons, List.length_nil]; unfold lim; omega)]
      simp only [Option.bind_some]
      rw [ih _ (by simp only [List.length_append, List.length_cons, List.length_nil]; omega)]
      simp only [hr, decide_true, if_true, List.map_cons, List.append_assoc, List.cons_append, List.nil_append]
    · rw [if_neg (by omega)]
      simp only [Option.bind_some]
      rw [ih _ (by omega)]
      simp only [hr, decide_false, Bool.false_eq_true, if_false]
  · intro k acc _
    dsimp only
    rw [if_neg (by omega)]; simp
theorem rowP_len {F : List Int} {i : Nat} {s : Int} : (rowP a F i s).length ≤ 32 := by
  have := h.small.2.1
  have h1 : (rowP a F i s).length = ((outP a s).map (·.Event)).length := by simp [rowP]
  rw [h1, outP_events h]
  exact Nat.le_trans (List.length_filter_le _ _) this
theorem refCanonical_ok : g_overseerref03_Canonical a = some (canonP a) := by
  have hs := h.small.1
  have hst := h.st
  have hal := h.small.2.1
  have hb : a.Alphabet.length < 1000000000000 := hs.1
  obtain ⟨hF, _, hcl⟩ := found_spec h
  have hFl := hF.len
  unfold g_overseerref03_Canonical f_overseerref03_Canonical
  obtain ⟨fuel, hfu, hge⟩ : ∃ f, fuel0 = f ∧ 1099511627776 ≤ f := ⟨_, rfl, Nat.le_refl _⟩
  rw [hfu, refFound_ok h, Option.bind_some, empty_ok (by unfold lim; omega), Option.bind_some]
  unfold canonP
  generalize foundP a = F at hF hcl hFl
  show Option.bind (iterF _ fuel (((0 : Nat) : Int), [], [], [], [], [])) _ = _
  rw [iterF_inv (len := F.length) (R := List Int × List Int × List api_Edge × List Int × List api_Edge) (fun n (acc : List Int × List api_Edge) => ((n : Int), ([] : List Int), ([] : List Int), ([] : List api_Edge), acc.1, acc.2)) (fun n acc => acc.1.length ≤ n ∧ acc.2.length ≤ 32 * n)
    (fun n acc => some (([] : List Int), ([] : List Int), ([] : List api_Edge), acc.1 ++ marksP a.Marked n (F.drop n), acc.2 ++ edgesP a F n (F.drop n))) ?_ ?_ fuel 0 ([], []) (Nat.zero_le _) (by omega) ⟨Nat.zero_le _, Nat.zero_le _⟩]
  · simp
  · rintro k n ⟨ms, es⟩ hn ⟨k1, k2⟩ ih
    replace k1 : ms.length ≤ n := k1
    replace k2 : es.length ≤ 32 * n := k2
    have hg := List.getElem?_eq_getElem hn
    dsimp only
    rw [if_pos (by omega), getO_nat hn]
    simp only [Option.bind_some]
    rw [has_ok hs.2.1]
    simp only [Option.bind_some]
    have hrl := rowP_len h (F := F) (i := n) (s := F[n])
    rw [List.drop_eq_getElem_cons hn]
    simp only [marksP, edgesP]
    by_cases hm : F[n] ∈ a.Marked
    · simp only [hm, decide_true, if_true]
      rw [appO_some (by simp only [List.length_cons, List.length_nil]; unfold lim; omega)]
      simp only [Option.bind_some]
      have := edges_loop h fuel hge hF hcl hg (ms ++ [(n : Int)]) es (by omega)
      rw [getO_nat hn] at this
      simp only [Option.bind_some] at this
      rw [this]
      simp only [Option.bind_some]
      rw [wrap_succ (by omega), ih (ms ++ [(n : Int)], es ++ rowP a F n F[n]) ⟨by simp only [List.length_append, List.length_cons, List.length_nil]; omega, by simp only [List.length_append]; omega⟩]
      simp only [List.append_assoc]
    · simp only [hm, decide_false, Bool.false_eq_true, if_false, Option.bind_some]
      have := edges_loop h fuel hge hF hcl hg ms es (by omega)
      rw [getO_nat hn] at this
      simp only [Option.bind_some] at this
      rw [this]
      simp only [Option.bind_some]
      rw [wrap_succ (by omega), ih (ms, es ++ rowP a F n F[n]) ⟨by simp only; omega, by simp only [List.length_append]; omega⟩]
      simp only [List.append_assoc, List.nil_append]
  · rintro k ⟨ms, es⟩ _
    dsimp only
    rw [if_neg (by omega)]
    simp [marksP, edgesP]
end
end Go.Abs
end
section
namespace Go.Abs
open Go
set_option linter.unusedSimpArgs false
set_option linter.unusedVariables false
structure Evs (l : List Int) : Prop where
  rg : ∀ x ∈ l, 0 ≤ x ∧ x < 5
  so : l.Pairwise (· < ·)
theorem Evs.len {l : List Int} (h : Evs l) : l.length ≤ 5 := by have := sorted_len h.so h.rg; simpa using this
def riseB : List Int → Bool
  | [] => true
  | x :: xs => xs.all (fun y => decide (x < y)) && riseB xs
theorem riseB_iff : ∀ {l : List Int}, riseB l = true → l.Pairwise (· < ·)
  | [], _ => .nil
  | x :: xs, h => by
    simp only [riseB, Bool.and_eq_true, List.all_eq_true, decide_eq_true_eq] at h
    exact List.pairwise_cons.2 ⟨h.1, riseB_iff h.2⟩
def evB (s : Nat) : Bool := match g_overseerlaw03_Set_Events (s : Int) with
  | some l => riseB l && l.all fun x => decide (0 ≤ x) && decide (x < 5)
  | none => false
theorem evB_all : (List.range 256).all evB = true := by kernel_rfl
theorem events_ok {s : Int} (h0 : 0 ≤ s) (h1 : s < 256) : ∃ l, g_overseerlaw03_Set_Events s = some l ∧ Evs l := by
  have := List.all_eq_true.1 evB_all s.toNat (List.mem_range.2 (by omega))
  unfold evB at this
  rw [show ((s.toNat : Nat) : Int) = s from by omega] at this
  split at this
  · rename_i l hl
    simp only [Bool.and_eq_true, List.all_eq_true, decide_eq_true_eq] at this
    exact ⟨l, hl, fun x hx => this.2 x hx, riseB_iff this.1⟩
  · cases this
structure Mks (n : Nat) (ms : List Int) : Prop where
  rg : ∀ x ∈ ms, 0 ≤ x ∧ x < n
  so : ms.Pairwise (· < ·)
structure Eds (al : List Int) (N : Int) (i k : Nat) (es : List api_Edge) : Prop where
  rg : ∀ x ∈ es, 0 ≤ x.From ∧ 0 ≤ x.To ∧ x.To < N ∧ x.Event ∈ al ∧ (x.From < i ∨ x.From = i ∧ ∃ j : Nat, j < k ∧ al[j]? = some x.Event)
  so : es.Pairwise keyLt
  ln : es.length ≤ 5 * i + k
theorem Mks.up {n : Nat} {ms : List Int} (h : Mks n ms) : Mks (n + 1) ms := ⟨fun x hx => by have := h.rg x hx; omega, h.so⟩
theorem Mks.add {n : Nat} {ms : List Int} (h : Mks n ms) : Mks (n + 1) (ms ++ [(n : Int)]) := by
  refine ⟨fun x hx => ?_, ?_⟩
  · rcases List.mem_append.1 hx with hx | hx
    · have := h.rg x hx; omega
    · simp at hx; omega
  · rw [List.pairwise_append]
    exact ⟨h.so, by simp, fun x hx y hy => by simp at hy; have := h.rg x hx; omega⟩
theorem Mks.len {n : Nat} {ms : List Int} (h : Mks n ms) : ms.length ≤ n := by have := sorted_len h.so h.rg; simpa using this
section
variable {al : List Int} (hal : Evs al) {N : Int} {i k : Nat} {es : List api_Edge}
theorem Eds.up (h : Eds al N i k es) : Eds al N i (k + 1) es := ⟨fun x hx => by
  obtain ⟨h1, h2, h3, h4, h5⟩ := h.rg x hx
  refine ⟨h1, h2, h3, h4, ?_⟩
  rcases h5 with h5 | ⟨h5, j, h6, h7⟩
  · exact .inl h5
  · exact .inr ⟨h5, j, by omega, h7⟩, h.so, by have := h.ln; omega⟩
theorem Eds.next (h : Eds al N i k es) (hk : k ≤ 5) : Eds al N (i + 1) 0 es := ⟨fun x hx => by
  obtain ⟨h1, h2, h3, h4, h5⟩ := h.rg x hx
  exact ⟨h1, h2, h3, h4, .inl (by rcases h5 with h5 | ⟨h5, _⟩ <;> omega)⟩, h.so, by have := h.ln; omega⟩
include hal in
theorem Eds.add (h : Eds al N i k es) (hk : k < al.length) {t : Int} (ht : 0 ≤ t ∧ t < N) : Eds al N i (k + 1) (es ++ [⟨(i : Int), al[k], t⟩]) := by
  refine ⟨fun x hx => ?_, ?_, by have := h.ln; simp only [List.length_append, List.length_cons, List.length_nil]; omega⟩
  · rcases List.mem_append.1 hx with hx | hx
    · exact h.up.rg x hx
    · simp at hx; subst hx
      exact ⟨by simp only; omega, ht.1, ht.2, List.getElem_mem hk, .inr ⟨rfl, k, by omega, List.getElem?_eq_getElem hk⟩⟩
  · rw [List.pairwise_append]
    refine ⟨h.so, by simp, fun x hx y hy => ?_⟩
    simp at hy; subst hy
    obtain ⟨_, _, _, _, h5⟩ := h.rg x hx
    rcases h5 with h5 | ⟨h5, j, h6, h7⟩
    · exact .inl h5
    · refine .inr ⟨h5, ?_⟩
      obtain ⟨h8, h9⟩ := List.getElem?_eq_some_iff.1 h7
      rw [← h9]
      exact List.pairwise_iff_getElem.1 hal.so j k h8 hk h6
end
structure GraphW (g : overseerlaw03_Graph) : Prop where
  st : 0 ≤ g.States ∧ g.States < 256
  to : ∀ x ∈ [g.To.1.1, g.To.1.2.1, g.To.1.2.2.1, g.To.1.2.2.2.1, g.To.1.2.2.2.2, g.To.2.1.1, g.To.2.1.2.1, g.To.2.1.2.2.1, g.To.2.1.2.2.2.1, g.To.2.1.2.2.2.2, g.To.2.2.1.1, g.To.2.2.1.2.1, g.To.2.2.1.2.2.1, g.To.2.2.1.2.2.2.1, g.To.2.2.1.2.2.2.2, g.To.2.2.2.1.1, g.To.2.2.2.1.2.1, g.To.2.2.2.1.2.2.1, g.To.2.2.2.1.2.2.2.1, g.To.2.2.2.1.2.2.2.2, g.To.2.2.2.2.1, g.To.2.2.2.2.2.1, g.To.2.2.2.2.2.2.1, g.To.2.2.2.2.2.2.2.1, g.To.2.2.2.2.2.2.2.2], 0 ≤ x ∧ x < 256
theorem make_row {al : List Int} (hal : Evs al) (fuel : Nat) (hfu : 1099511627776 ≤ fuel) {L : List Int} (hL : L.length = 25) (hL2 : ∀ x ∈ L, 0 ≤ x ∧ x < 256) {N : Int} (hN : 1 ≤ N ∧ N ≤ 5) {i : Nat} (hi : (i : Int) < N) {ms : List Int} {es : List api_Edge} (hes : Eds al N i 0 es) :
    ∃ es', Eds al N (i + 1) 0 es' ∧ iterF (fun (k25 : Int × List api_Edge → Option (List Int × List api_Edge)) ((k23, a24) : Int × (List api_Edge)) => (((if (k23 < (al.length : Int)) then some (decide (k23 < 5)) else some false)).bind fun (x27 : Bool) => (if x27 then ((((inO 5 (i : Int)).bind fun _ => ((inO 5 k23).bind fun _ => ((rowO L (Int.toNat (i : Int) * 5 + Int.toNat k23 * 1)).bind fun x31 => ((remO .i64 (IntKind.wrap .i64 x31) (IntKind.wrap .i64 (N + 2))).bind fun s33 => (if (s33 < N) then ((getO al k23).bind fun x36 => ((appO a24 [(api_Edge.mk (i : Int) x36 s33)]).bind fun x38 => some x38)) else some a24)))))).bind fun (a40 : List api_Edge) => k25 ((IntKind.wrap .i64 (k23 + 1)), a40)) else some (ms, a24)))) fuel (0, es) = some (ms, es') := by
  have hl := hal.len
  have := iterF_rule (F := fun (k25 : Int × List api_Edge → Option (List Int × List api_Edge)) ((k23, a24) : Int × (List api_Edge)) => (((if (k23 < (al.length : Int)) then some (decide (k23 < 5)) else some false)).bind fun (x27 : Bool) => (if x27 then ((((inO 5 (i : Int)).bind fun _ => ((inO 5 k23).bind fun _ => ((rowO L (Int.toNat (i : Int) * 5 + Int.toNat k23 * 1)).bind fun x31 => ((remO .i64 (IntKind.wrap .i64 x31) (IntKind.wrap .i64 (N + 2))).bind fun s33 => (if (s33 < N) then ((getO al k23).bind fun x36 => ((appO a24 [(api_Edge.mk (i : Int) x36 s33)]).bind fun x38 => some x38)) else some a24)))))).bind fun (a40 : List api_Edge) => k25 ((IntKind.wrap .i64 (k23 + 1)), a40)) else some (ms, a24))))
    (fun x => ∃ k : Nat, x.1 = (k : Int) ∧ k ≤ al.length ∧ Eds al N i k x.2) (fun x => al.length - x.1.toNat) (fun _ r => ∃ es', r = some (ms, es') ∧ Eds al N (i + 1) 0 es') (by
      rintro kk ⟨k, es⟩ ⟨k, rfl, hk, he⟩ ih
      replace he : Eds al N i k es := he
      replace hk : k ≤ al.length := hk
      dsimp only
      by_cases hlt : k < al.length
      · rw [if_pos (by omega)]
        simp only [Option.bind_some, show decide ((k : Int) < 5) = true from by simp; omega, if_true]
        rw [show inO 5 (i : Int) = some () from by unfold inO; rw [if_pos (by omega)], show inO 5 (k : Int) = some () from by unfold inO; rw [if_pos (by omega)]]
        simp only [Option.bind_some, Int.toNat_natCast]
        have hidx : i * 5 + k * 1 < L.length := by omega
        have hx := hL2 _ (List.getElem_mem hidx)
        rw [show rowO L (i * 5 + k * 1) = some L[i * 5 + k * 1] from by unfold rowO; exact List.getElem?_eq_getElem hidx]
        simp only [Option.bind_some]
        rw [wrap_id (x := L[i * 5 + k * 1]) (by omega) (by omega), wrap_id (x := N + 2) (by omega) (by omega), show remO .i64 L[i * 5 + k * 1] (N + 2) = some (L[i * 5 + k * 1].tmod (N + 2)) from by unfold remO; rw [if_neg (by omega)]]
        simp only [Option.bind_some]
        have hmod : 0 ≤ L[i * 5 + k * 1].tmod (N + 2) := Int.tmod_nonneg _ hx.1
        have hln := he.ln
        by_cases hm : L[i * 5 + k * 1].tmod (N + 2) < N
        · rw [if_pos hm, getO_nat hlt]
          simp only [Option.bind_some]
          rw [appO_some (by simp only [List.length_cons, List.length_nil]; unfold lim; omega)]
          simp only [Option.bind_some]
          rw [wrap_succ (by omega)]
          exact ih _ ⟨k + 1, rfl, hlt, he.add hal hlt ⟨hmod, hm⟩⟩ (by simp only; omega)
        · rw [if_neg hm]
          simp only [Option.bind_some]
          rw [wrap_succ (by omega)]
          exact ih _ ⟨k + 1, rfl, hlt, he.up⟩ (by simp only; omega)
      · rw [if_neg (by omega)]
        exact ⟨es, rfl, he.next (by omega)⟩) fuel (0, es) ⟨0, rfl, Nat.zero_le _, hes⟩ (by simp only; omega)
  obtain ⟨es', h1, h2⟩ := this
  exact ⟨es', h2, h1⟩
theorem empty_right {al : List Int} (hal : Evs al) : Right ⟨al, 0, [], []⟩ :=
  ⟨fun x hx => by have := hal.rg x hx; omega, hal.so, ⟨by simp, by simp⟩, by simp, .nil, by simp, .nil⟩
theorem make_ok {al : List Int} (hal : Evs al) {g : overseerlaw03_Graph} (hg : GraphW g) : ∃ m, Right m ∧ m.Alphabet = al ∧ g_overseerlaw03_Make al g = some (canonP m) ∧ m.States ≤ 5 := by
  have hl := hal.len
  obtain ⟨hst, hto⟩ := hg
  unfold g_overseerlaw03_Make f_overseerlaw03_Make
  obtain ⟨fuel, hfu, hge⟩ : ∃ f, fuel0 = f ∧ 1099511627776 ≤ f := ⟨_, rfl, Nat.le_refl _⟩
  rw [hfu, empty_ok (by unfold lim; omega)]
  simp only [Option.bind_some]
  by_cases h250 : g.States ≥ 250
  · rw [if_pos h250]
    exact ⟨⟨al, 0, [], []⟩, empty_right hal, rfl, rfl, by simp⟩
  rw [if_neg h250]
  have hL : [g.To.1.1, g.To.1.2.1, g.To.1.2.2.1, g.To.1.2.2.2.1, g.To.1.2.2.2.2, g.To.2.1.1, g.To.2.1.2.1, g.To.2.1.2.2.1, g.To.2.1.2.2.2.1, g.To.2.1.2.2.2.2, g.To.2.2.1.1, g.To.2.2.1.2.1, g.To.2.2.1.2.2.1, g.To.2.2.1.2.2.2.1, g.To.2.2.1.2.2.2.2, g.To.2.2.2.1.1, g.To.2.2.2.1.2.1, g.To.2.2.2.1.2.2.1, g.To.2.2.2.1.2.2.2.1, g.To.2.2.2.1.2.2.2.2, g.To.2.2.2.2.1, g.To.2.2.2.2.2.1, g.To.2.2.2.2.2.2.1, g.To.2.2.2.2.2.2.2.1, g.To.2.2.2.2.2.2.2.2].length = 25 := rfl
  generalize [g.To.1.1, g.To.1.2.1, g.To.1.2.2.1, g.To.1.2.2.2.1, g.To.1.2.2.2.2, g.To.2.1.1, g.To.2.1.2.1, g.To.2.1.2.2.1, g.To.2.1.2.2.2.1, g.To.2.1.2.2.2.2, g.To.2.2.1.1, g.To.2.2.1.2.1, g.To.2.2.1.2.2.1, g.To.2.2.1.2.2.2.1, g.To.2.2.1.2.2.2.2, g.To.2.2.2.1.1, g.To.2.2.2.1.2.1, g.To.2.2.2.1.2.2.1, g.To.2.2.2.1.2.2.2.1, g.To.2.2.2.1.2.2.2.2, g.To.2.2.2.2.1, g.To.2.2.2.2.2.1, g.To.2.2.2.2.2.2.1, g.To.2.2.2.2.2.2.2.1, g.To.2.2.2.2.2.2.2.2] = L at hto hL ⊢
  have hmod : 0 ≤ g.States.tmod 5 ∧ g.States.tmod 5 < 5 := ⟨Int.tmod_nonneg _ hst.1, Int.tmod_lt_of_pos _ (by omega)⟩
  have hN : 1 ≤ IntKind.wrap .i64 (1 + (IntKind.wrap .i64 (Int.tmod g.States 5))) ∧ IntKind.wrap .i64 (1 + (IntKind.wrap .i64 (Int.tmod g.States 5))) ≤ 5 := by
    rw [wrap_id (x := g.States.tmod 5) (by omega) (by omega), wrap_id (by omega) (by omega)]; omega
  generalize IntKind.wrap .i64 (1 + (IntKind.wrap .i64 (Int.tmod g.States 5))) = N at hN ⊢
  have hloop := iterF_rule (F := (fun (k15 : Int × List Int × List Int × List api_Edge × Int × List Int × List api_Edge → Option (List Int × List Int × List api_Edge × Int × List Int × List api_Edge)) ((i8, c9, c10, c11, a12, a13, a14) : Int × (List Int) × (List Int) × (List api_Edge) × Int × (List Int) × (List api_Edge)) => (if (i8 < a12) then ((((((shrO .u8 g.Marks i8).bind fun s17 => (if ((andI .u8 s17 1) == 1) then ((appO a13 [i8]).bind fun x20 => some x20) else some a13))).bind fun (a22 : List Int) => iterF (fun k25 ((k23, a24) : Int × (List api_Edge)) => (((if (k23 < (al.length : Int)) then some (decide (k23 < 5)) else some false)).bind fun (x27 : Bool) => (if x27 then ((((inO 5 i8).bind fun _ => ((inO 5 k23).bind fun _ => ((rowO L (Int.toNat i8 * 5 + Int.toNat k23 * 1)).bind fun x31 => ((remO .i64 (IntKind.wrap .i64 x31) (IntKind.wrap .i64 (a12 + 2))).bind fun s33 => (if (s33 < a12) then ((getO al k23).bind fun x36 => ((appO a24 [(api_Edge.mk i8 x36 s33)]).bind fun x38 => some x38)) else some a24)))))).bind fun (a40 : List api_Edge) => k25 ((IntKind.wrap .i64 (k23 + 1)), a40)) else some (a22, a24)))) fuel (0, a14))).bind fun ((a41, a42) : (List Int) × (List api_Edge)) => k15 ((IntKind.wrap .i64 (i8 + 1)), c9, c10, c11, a12, a41, a42)) else some (c9, c10, c11, a12, a13, a14))))
    (fun x => ∃ (i : Nat) (ms : List Int) (es : List api_Edge), x = ((i : Int), [], [], [], N, ms, es) ∧ (i : Int) ≤ N ∧ Mks i ms ∧ Eds al N i 0 es) (fun x => (N - x.1).toNat)
    (fun _ r => ∃ (i : Nat) (ms : List Int) (es : List api_Edge), r = some ([], [], [], N, ms, es) ∧ (i : Int) = N ∧ Mks i ms ∧ Eds al N i 0 es) (by
      rintro k _ ⟨i, ms, es, rfl, hi, hm, he⟩ ih
      dsimp only
      by_cases hlt : (i : Int) < N
      · rw [if_pos hlt, show shrO .u8 g.Marks (i : Int) = some (g.Marks.fdiv (2 ^ (min (Int.toNat (i : Int)) (IntKind.bits .u8)))) from by unfold shrO; rw [if_neg (by omega)]]
        simp only [Option.bind_some]
        have hml := hm.len
        by_cases hb : (andI .u8 (g.Marks.fdiv (2 ^ (min (Int.toNat (i : Int)) (IntKind.bits .u8)))) 1 == 1) = true
        · rw [if_pos hb, appO_some (by simp only [List.length_cons, List.length_nil]; unfold lim; omega)]
          simp only [Option.bind_some]
          obtain ⟨es', h1, h2⟩ := make_row hal fuel hge hL hto hN hlt (ms := ms ++ [(i : Int)]) he
          rw [h2]
          simp only [Option.bind_some]
          rw [wrap_succ (by omega)]
          exact ih _ ⟨i + 1, _, _, rfl, by omega, hm.add, h1⟩ (by simp only; omega)
        · rw [if_neg hb]
          simp only [Option.bind_some]
          obtain ⟨es', h1, h2⟩ := make_row hal fuel hge hL hto hN hlt (ms := ms) he
          rw [h2]
          simp only [Option.bind_some]
          rw [wrap_succ (by omega)]
          exact ih _ ⟨i + 1, _, _, rfl, by omega, hm.up, h1⟩ (by simp only; omega)
      · rw [if_neg hlt]
        exact ⟨i, ms, es, rfl, by omega, hm, he⟩) fuel (0, [], [], [], N, [], []) ⟨0, [], [], rfl, by omega, ⟨by simp, .nil⟩, ⟨by simp, .nil, by simp⟩⟩ (by simp only; omega)
  obtain ⟨i, ms, es, h1, h2, h3, h4⟩ := hloop
  rw [h1]
  simp only [Option.bind_some]
  have hr : Right ⟨al, N, ms, es⟩ := ⟨fun x hx => by have := hal.rg x hx; omega, hal.so, ⟨by simp only; omega, by simp only; omega⟩, fun x hx => by have := h3.rg x hx; simp only; omega, h3.so, fun x hx => by
    obtain ⟨k1, k2, k3, k4, k5⟩ := h4.rg x hx
    refine ⟨k1, ?_, k2, k3, k4⟩
    rcases k5 with k5 | ⟨_, j, k6, _⟩
    · simp only; omega
    · omega, h4.so⟩
  rw [refCanonical_ok hr]
  exact ⟨_, hr, rfl, rfl, by simp only; omega⟩
end Go.Abs
end
section
namespace Go.Proofs
open Go Go.Abs
theorem graph21_wf {g : overseerlaw03_Graph} (h : W_59 g) : GraphW g := by
  unfold W_59 W_57 W_56 W_5 at h
  obtain ⟨h1, h2, ⟨a1, a2, a3, a4, a5⟩, ⟨b1, b2, b3, b4, b5⟩, ⟨c1, c2, c3, c4, c5⟩, ⟨d1, d2, d3, d4, d5⟩, ⟨e1, e2, e3, e4, e5⟩⟩ := h
  refine ⟨wf_u8 h1, fun x hx => ?_⟩
  simp only [List.mem_cons, List.not_mem_nil, or_false] at hx
  rcases hx with rfl | rfl | rfl | rfl | rfl | rfl | rfl | rfl | rfl | rfl | rfl | rfl | rfl | rfl | rfl | rfl | rfl | rfl | rfl | rfl | rfl | rfl | rfl | rfl | rfl <;> exact wf_u8 (by assumption)
theorem asked_wf {x : overseerlaw21_Asked} (h : W_61 x) : (0 ≤ x.Set ∧ x.Set < 256) ∧ GraphW x.Graph := ⟨wf_u8 h.1, graph21_wf h.2.1⟩
end Go.Proofs
end
section
namespace Go.Abs
open Go
set_option linter.unusedSimpArgs false
set_option linter.unusedVariables false
theorem less_ok (x y : Int) : g_cmp_Less_int x y = some (decide (x < y)) := by
  unfold g_cmp_Less_int f_cmp_Less_int g_cmp_isNaN_int f_cmp_isNaN_int
  simp
theorem isNaN_ok (x : Int) : g_slices_isNaN_int x = some false := by
  unfold g_slices_isNaN_int f_slices_isNaN_int
  simp
theorem rise_mono {l : List Int} (h : l.Pairwise (· < ·)) (v : Int) : l.Pairwise fun a b => decide (b < v) = true → decide (a < v) = true :=
  h.imp fun h => by simp; omega
theorem search_ok {l : List Int} {v : Int} (hs : l.Pairwise (· < ·)) (hl : l.length < big) : ∃ n, g_slices_BinarySearch_int l v = some (n, decide (v ∈ l)) := by
  have hc := fun n h => count_mono (p := fun x : Int => decide (x < v)) (rise_mono hs v) n h
  have hcl : (l.filter fun x => decide (x < v)).length ≤ l.length := List.length_filter_le _ _
  generalize (l.filter fun x => decide (x < v)).length = c at hc hcl
  have hb : l.length < 1000000000000 := hl
  unfold g_slices_BinarySearch_int f_slices_BinarySearch_int
  obtain ⟨fuel, hfu, hge⟩ : ∃ f, fuel0 = f ∧ 1099511627776 ≤ f := ⟨_, rfl, Nat.le_refl _⟩
  rw [hfu]
  have hloop := iterF_rule (F := fun (k5 : Int × Int → Option Int) ((i3, j4) : Int × Int) => (if (i3 < j4) then ((getO l (IntKind.wrap .i64 (Int.fdiv (IntKind.wrap .u64 (IntKind.wrap .i64 (i3 + j4))) (2 ^ (min (Int.toNat 1) (IntKind.bits .u64)))))).bind fun x7 => ((g_cmp_Less_int x7 v).bind fun x10 => (if x10 then k5 ((IntKind.wrap .i64 ((IntKind.wrap .i64 (Int.fdiv (IntKind.wrap .u64 (IntKind.wrap .i64 (i3 + j4))) (2 ^ (min (Int.toNat 1) (IntKind.bits .u64))))) + 1)), j4) else k5 (i3, (IntKind.wrap .i64 (Int.fdiv (IntKind.wrap .u64 (IntKind.wrap .i64 (i3 + j4))) (2 ^ (min (Int.toNat 1) (IntKind.bits .u64))))))))) else some i3))
    (fun x => ∃ i j : Nat, x = ((i : Int), (j : Int)) ∧ i ≤ c ∧ c ≤ j ∧ j ≤ l.length) (fun x => (x.2 - x.1).toNat) (fun _ r => r = some (c : Int)) (by
      rintro k _ ⟨i, j, rfl, h1, h2, h3⟩ ih
      dsimp only
      by_cases hij : i < j
      · rw [if_pos (by omega), mid_ok (by omega) (by omega)]
        have hm : (i + j) / 2 < l.length := by omega
        rw [getO_nat hm]
        simp only [Option.bind_some]
        rw [less_ok]
        simp only [Option.bind_some]
        have hcm := hc ((i + j) / 2) hm
        by_cases hlt : l[(i + j) / 2] < v
        · rw [if_pos (by simpa using hlt), wrap_succ (by omega)]
          have : (i + j) / 2 < c := hcm.1 (by simpa using hlt)
          exact ih _ ⟨_, _, rfl, by omega, h2, h3⟩ (by simp only; omega)
        · rw [if_neg (by simpa using hlt)]
          have : ¬ (i + j) / 2 < c := fun h => hlt (by simpa using hcm.2 h)
          exact ih _ ⟨_, _, rfl, h1, by omega, by omega⟩ (by simp only; omega)
      · rw [if_neg (by omega)]
        have : i = c := by omega
        rw [this]) fuel (0, (l.length : Int)) ⟨0, l.length, rfl, by omega, hcl, Nat.le_refl _⟩ (by simp only; omega)
  rw [hloop]
  simp only [Option.bind_some]
  have hmem : v ∈ l ↔ ∃ h : c < l.length, l[c] = v := by
    constructor
    · intro hv
      obtain ⟨j, hj, rfl⟩ := List.getElem_of_mem hv
      have h1 : ¬ j < c := fun h => by have := (hc j hj).2 h; simp at this
      have h2 : c < l.length := by omega
      refine ⟨h2, ?_⟩
      have h3 : ¬ l[c] < l[j] := fun h => by have := (hc c h2).1 (by simpa using h); omega
      rcases Nat.lt_or_ge c j with h | h
      · have := List.pairwise_iff_getElem.1 hs c j h2 hj h; omega
      · have : c = j := by omega
        subst this; rfl
    · rintro ⟨h, rfl⟩; exact List.getElem_mem h
  by_cases hlt : c < l.length
  · rw [if_pos (by omega), getO_nat hlt]
    simp only [Option.bind_some]
    by_cases he : l[c] = v
    · rw [if_pos (by simpa using he)]
      exact ⟨_, by rw [decide_eq_true (hmem.2 ⟨hlt, he⟩)]⟩
    · rw [if_neg (by simpa using he), isNaN_ok]
      exact ⟨_, by rw [decide_eq_false (fun h => he (hmem.1 h).2)]; rfl⟩
  · rw [if_neg (by omega)]
    exact ⟨_, by rw [decide_eq_false (fun h => hlt (hmem.1 h).1)]⟩
structure Num (a : api_Automaton) (o num : List Int) : Prop where
  len : num.length = a.States.toNat
  at1 : ∀ s : Nat, s < a.States.toNat → num[s]? = some (if (s : Int) ∈ o then (o.idxOf (s : Int) : Int) else -1)
theorem Num.set {a : api_Automaton} {o num : List Int} (h : Num a o num) {t : Int} (ht : 0 ≤ t ∧ t < a.States) (hn : t ∉ o) : ∃ num', setO num t (o.length : Int) = some num' ∧ Num a (o ++ [t]) num' := by
  refine ⟨num.set t.toNat (o.length : Int), by unfold setO; rw [if_pos ⟨ht.1, by rw [h.len]; omega⟩], by rw [List.length_set]; exact h.len, fun s hs => ?_⟩
  rw [List.getElem?_set]
  by_cases he : t.toNat = s
  · subst he
    rw [if_pos rfl, if_pos (by rw [h.len]; omega), show ((t.toNat : Nat) : Int) = t from by omega, if_pos (by simp), List.idxOf_append, if_neg hn]
    simp
  · rw [if_neg he, h.at1 s hs]
    have hne : (s : Int) ≠ t := by omega
    by_cases hm : (s : Int) ∈ o
    · rw [if_pos hm, if_pos (by simp [hm]), List.idxOf_append, if_pos hm]
    · rw [if_neg hm, if_neg (by simp [hm, hne])]
section
variable {a : api_Automaton} (h : Right a)
include h
end
end Go.Abs
end
section
namespace Go.Abs
open Go
set_option linter.unusedSimpArgs false
set_option linter.unusedVariables false
def runP (a : api_Automaton) : Int → Nat → List Int → Int × Int
  | s, n, [] => (s, n)
  | s, n, e :: w => if 0 ≤ stepP a s e then runP a (stepP a s e) (n + 1) w else (s, n)
section
variable {a : api_Automaton} (h : Right a)
include h
theorem follow_ok {s : Int} {w : List Int} (h0 : -1000000 < s) (h1 : s < 1000000) (hw : w.length < big) : g_automaton_follow a s w = some (runP a s 0 w) := by
  have hs := h.small.1
  have hst := h.st
  have hb : w.length < 1000000000000 := hw
  unfold g_automaton_follow f_automaton_follow
  obtain ⟨fuel, hfu, hge⟩ : ∃ f, fuel0 = f ∧ 1099511627776 ≤ f := ⟨_, rfl, Nat.le_refl _⟩
  rw [hfu]
  refine (iterF_inv (len := w.length) (fun n (s : Int) => (s, (n : Int))) (fun n s => -1000000 < s ∧ s < 1000000) (fun n s => some (runP a s n (w.drop n))) ?_ ?_ fuel 0 s (Nat.zero_le _) (by omega) ⟨h0, h1⟩).trans (by simp)
  · intro k n s hn ⟨k1, k2⟩ ih
    dsimp only
    rw [if_pos (by omega), getO_nat hn]
    simp only [Option.bind_some]
    rw [next_ok h hs (by omega) (by omega)]
    simp only [Option.bind_some]
    rw [List.drop_eq_getElem_cons hn, runP]
    rcases stepP_range h s w[n] with hr | hr
    · rw [if_pos (by omega), if_neg (by omega)]
    · rw [if_neg (by omega), if_pos hr.1, wrap_succ (by omega)]
      exact ih _ ⟨by omega, by omega⟩
  · intro k s _
    dsimp only
    rw [if_neg (by omega)]; simp [runP]
omit h in
theorem containsFunc_ok {w : List Int} {p : Int → Bool} {f : Int → Option Bool} (hf : ∀ x, f x = some (p x)) (hw : w.length < big) : g_slices_ContainsFunc_int w f = some (w.any p) := by
  have hb : w.length < 1000000000000 := hw
  unfold g_slices_ContainsFunc_int f_slices_ContainsFunc_int g_slices_IndexFunc_int f_slices_IndexFunc_int
  obtain ⟨fuel, hfu, hge⟩ : ∃ f, fuel0 = f ∧ 1099511627776 ≤ f := ⟨_, rfl, Nat.le_refl _⟩
  rw [hfu]
  have := iterF_idx (F := fun (k10 : Int → Option Int) (x9 : Int) => (if (x9 < (w.length : Int)) then ((getO w x9).bind fun x12 => ((f x12).bind fun x15 => (if x15 then some x9 else k10 (IntKind.wrap .i64 (x9 + 1))))) else some (-1))) (len := w.length) (fuel := fuel)
    (fun n => some (if (w.drop n).any p then ((n + (w.drop n).findIdx p : Nat) : Int) else -1)) (by omega) (by
      intro k n hn ih
      rw [if_pos (by omega), getO_nat hn, wrap_succ (by omega), ih]
      simp only [Option.bind_some, hf]
      rw [List.drop_eq_getElem_cons hn]
      cases hp : p w[n] with
      | true => simp only [List.any_cons, hp, Bool.true_or, if_true, List.findIdx_cons, cond_true, Nat.add_zero]
      | false =>
        simp only [List.any_cons, hp, Bool.false_or, List.findIdx_cons, cond_false, Bool.false_eq_true, if_false]
        rw [show n + 1 + (w.drop (n + 1)).findIdx p = n + ((w.drop (n + 1)).findIdx p + 1) from by omega]) (by intro k; simp)
  rw [this]
  simp only [Option.bind_some, List.drop_zero, Nat.zero_add]
  cases w.any p <;> simp
def genP (a : api_Automaton) (w : List Int) : Bool := decide (0 < a.States) && (runP a 0 0 w).2 == (w.length : Int)
theorem generates_ok {w : List Int} (hw : w.length < big) : g_automaton_Generates a w = some (genP a w, 0) := by
  have hst := h.st
  unfold g_automaton_Generates f_automaton_Generates g_automaton_reached f_automaton_reached
  rw [check_right h, follow_ok h (by omega) (by omega) hw]
  unfold genP
  by_cases h0 : a.States = 0
  · simp [h0]
  · have : 0 < a.States := by omega
    simp [h0, this]
end
end Go.Abs
end
section
namespace Go.Abs
open Go
set_option linter.unusedSimpArgs false
set_option linter.unusedVariables false
theorem known21_ok : g_overseerlaw21_known = some true := by kernel_rfl
theorem alphabetContains_ok {l : List Int} {v : Int} (hs : l.Pairwise (· < ·)) (hl : l.length < big) : g_alphabet_Contains l v = some (decide (v ∈ l)) := by
  unfold g_alphabet_Contains f_alphabet_Contains
  obtain ⟨n, h⟩ := search_ok (v := v) hs hl
  rw [h]; rfl
def oor (x : Int) : Bool := decide (x < 0 ∨ x ≥ 32)
theorem allows_ok {a : api_Automaton} (h : Right a) {w : List Int} (hw : w.length < big) :
    g_requirement_Allows a w = some (if w.length > 4096 then (false, 15) else if w.any oor then (false, 2) else (genP a (w.filter fun x => decide (x ∈ a.Alphabet)), 0)) := by
  have hb : w.length < 1000000000000 := hw
  unfold g_requirement_Allows f_requirement_Allows
  obtain ⟨fuel, hfu, hge⟩ : ∃ f, fuel0 = f ∧ 1099511627776 ≤ f := ⟨_, rfl, Nat.le_refl _⟩
  rw [hfu, check_right h, Option.bind_some, if_neg (by simp)]
  by_cases hl : w.length > 4096
  · rw [if_pos (by omega), if_pos hl]
  rw [if_neg (by omega), if_neg hl]
  refine (iterF_inv (len := w.length) (fun n (own : List Int) => (own, (n : Int))) (fun n own => own = (w.take n).filter (fun x => decide (x ∈ a.Alphabet)) ∧ (w.take n).any oor = false) (fun n own => some (if w.any oor then (false, 2) else (genP a (w.filter fun x => decide (x ∈ a.Alphabet)), 0))) ?_ ?_ fuel 0 [] (Nat.zero_le _) (by omega) ⟨by simp, by simp⟩)
  · rintro k n own hn ⟨hi, ho⟩ ih
    have hown : own.length ≤ n := by rw [hi]; exact Nat.le_trans (List.length_filter_le _ _) (by rw [List.length_take]; omega)
    unfold letJ
    dsimp only
    rw [if_pos (by omega), getO_nat hn, wrap_succ (by omega)]
    simp only [Option.bind_some]
    by_cases h1 : oor w[n] = true
    · have hany : w.any oor = true := List.any_eq_true.2 ⟨_, List.getElem_mem hn, h1⟩
      simp only [oor, decide_eq_true_eq] at h1
      rw [hany]
      rcases h1 with h1 | h1
      · simp [h1]
      · rw [if_neg (by omega)]; simp [h1]
    · have h1' := h1
      simp only [oor, decide_eq_true_eq, not_or, Int.not_lt] at h1
      rw [if_neg (by omega)]
      simp only [Option.bind_some, show decide (w[n] ≥ 32) = false from by simp; omega, Bool.false_eq_true, if_false]
      rw [alphabetContains_ok h.al h.small.1.1]
      simp only [Option.bind_some]
      have hta : (w.take (n + 1)).any oor = false := by
        rw [List.take_succ_eq_append_getElem hn, List.any_append, ho]; simpa using h1'
      by_cases hm : w[n] ∈ a.Alphabet
      · simp only [hm, decide_true, if_true]
        rw [appO_some (by simp only [List.length_cons, List.length_nil]; unfold lim; omega)]
        simp only [Option.bind_some]
        exact ih _ ⟨by rw [List.take_succ_eq_append_getElem hn, List.filter_append, hi]; simp [hm], hta⟩
      · simp only [hm, decide_false, Bool.false_eq_true, if_false]
        exact ih _ ⟨by rw [List.take_succ_eq_append_getElem hn, List.filter_append, hi]; simp [hm], hta⟩
  · rintro k own ⟨hi, ho⟩
    rw [List.take_length] at hi ho
    subst hi
    dsimp only
    rw [if_neg (by omega)]
    have hfl : (w.filter fun x => decide (x ∈ a.Alphabet)).length < big := Nat.lt_of_le_of_lt (List.length_filter_le _ _) hw
    rw [generates_ok h hfl, ho]; simp
end Go.Abs
end
section
namespace Go.Abs
open Go
set_option linter.unusedSimpArgs false
set_option linter.unusedVariables false
theorem nodup_sub {α : Type} [DecidableEq α] : ∀ {l m : List α}, l.Nodup → (∀ x ∈ l, x ∈ m) → l.length ≤ m.length
  | [], _, _, _ => by simp
  | x :: xs, m, h, hm => by
    obtain ⟨h1, h2⟩ := List.nodup_cons.1 h
    have hx : x ∈ m := hm x (by simp)
    have := nodup_sub (l := xs) (m := m.erase x) h2 fun y hy => (List.mem_erase_of_ne (by rintro rfl; exact h1 hy)).2 (hm y (by simp [hy]))
    rw [List.length_erase_of_mem hx] at this
    have : 0 < m.length := List.length_pos_of_mem hx
    simp only [List.length_cons]; omega
theorem getM_set {β : Type} {z v : β} {k k' : Int} : ∀ {m : List (Int × β)}, getM (setM m k v) k' z = if k' = k then v else getM m k' z
  | [] => by simp [setM, getM]
  | (q, w) :: m => by
    by_cases h1 : k = q
    · subst h1
      by_cases h2 : k' = k <;> simp [setM, getM, h2]
    · have h1' : (k == q) = false := by simp [h1]
      simp only [setM, h1', Bool.false_eq_true, if_false, getM]
      rw [getM_set (m := m)]
      by_cases h2 : k' = q
      · subst h2
        have : k' ≠ k := fun e => h1 e.symm
        simp [this]
      · simp [h2]
def loopB (e : Int) (x : api_Edge) : Bool := x.From == x.To && x.Event == e
def idleB (a : api_Automaton) (e : Int) : Bool := ((a.Edges.countP (loopB e) : Nat) : Int) == a.States
section
variable {a : api_Automaton} (h : Right a)
include h
theorem idle_iff {e : Int} : idleB a e = true ↔ ∀ s : Int, 0 ≤ s → s < a.States → (⟨s, e, s⟩ : api_Edge) ∈ a.Edges := by
  have hst := h.st
  have hnd : ((a.Edges.filter (loopB e)).map (·.From)).Nodup := by
    rw [List.Nodup, List.pairwise_map]
    refine List.Pairwise.imp_of_mem ?_ (h.ed.filter (loopB e))
    intro x y hx hy hk
    have hx2 := (List.mem_filter.1 hx).2
    have hy2 := (List.mem_filter.1 hy).2
    simp only [loopB, Bool.and_eq_true, beq_iff_eq] at hx2 hy2
    unfold keyLt at hk
    omega
  have hmem : ∀ s : Int, s ∈ (a.Edges.filter (loopB e)).map (·.From) ↔ (⟨s, e, s⟩ : api_Edge) ∈ a.Edges := fun s => by
    rw [List.mem_map]
    constructor
    · rintro ⟨x, hx, rfl⟩
      obtain ⟨h1, h2⟩ := List.mem_filter.1 hx
      simp only [loopB, Bool.and_eq_true, beq_iff_eq] at h2
      obtain ⟨f, ev, t⟩ := x
      simp only at h2
      obtain ⟨rfl, rfl⟩ := h2
      exact h1
    · intro hx
      exact ⟨_, List.mem_filter.2 ⟨hx, by simp [loopB]⟩, rfl⟩
  have hlen : ((a.Edges.filter (loopB e)).map (·.From)).length = a.Edges.countP (loopB e) := by rw [List.length_map, ← List.countP_eq_length_filter]
  have hrg : ∀ s ∈ (a.Edges.filter (loopB e)).map (·.From), 0 ≤ s ∧ s < a.States := fun s hs => by
    have := h.ed0 _ ((hmem s).1 hs)
    exact ⟨this.1, this.2.1⟩
  unfold idleB
  rw [← hlen]
  generalize (a.Edges.filter (loopB e)).map (·.From) = L at hnd hmem hrg
  constructor
  · intro hL s h0 h1
    rw [← hmem]
    refine Decidable.byContradiction fun hn => ?_
    have := Fnd.len (a := a) (o := s :: L) ⟨List.nodup_cons.2 ⟨hn, hnd⟩, fun t ht => by
      rcases List.mem_cons.1 ht with rfl | ht
      · exact ⟨h0, h1⟩
      · exact hrg t ht⟩
    simp only [beq_iff_eq, List.length_cons] at hL this
    omega
  · intro hall
    have h1 := Fnd.len (a := a) (o := L) ⟨hnd, hrg⟩
    have h2 := nodup_sub (l := (List.range a.States.toNat).map fun (n : Nat) => (n : Int)) (m := L) (by
      rw [List.Nodup, List.pairwise_map]
      exact List.nodup_range.imp fun hne => by omega) (fun x hx => by
      obtain ⟨n, hn, rfl⟩ := List.mem_map.1 hx
      have := List.mem_range.1 hn
      exact (hmem _).2 (hall _ (by omega) (by omega)))
    rw [List.length_map, List.length_range] at h2
    simp only [beq_iff_eq]
    omega
theorem idle_ok : g_requirement_Idle a = some (a.Alphabet.filter (idleB a), 0) := by
  have hst := h.st
  have hs := h.small
  unfold g_requirement_Idle f_requirement_Idle
  obtain ⟨fuel, hfu, hge⟩ : ∃ f, fuel0 = f ∧ 1099511627776 ≤ f := ⟨_, rfl, Nat.le_refl _⟩
  rw [hfu, check_right h, Option.bind_some, if_neg (by simp)]
  have hloop : ∃ m : List (Int × Int), (∀ e, getM m e 0 = ((a.Edges.countP (loopB e) : Nat) : Int)) ∧ iterF (fun k7 ((x5, c6) : Int × (List (Int × Int))) => (if (x5 < (a.Edges.length : Int)) then ((((getO a.Edges x5).bind fun x9 => (if (x9.From == x9.To) then some ((setM c6 x9.Event (IntKind.wrap .i64 ((getM c6 x9.Event 0) + 1))), x9.From, x9.Event, x9.To) else some (c6, x9.From, x9.Event, x9.To)))).bind fun ((c12, y13, y14, y15) : (List (Int × Int)) × Int × Int × Int) => k7 ((IntKind.wrap .i64 (x5 + 1)), c12)) else some c6)) fuel (0, []) = some m := by
    refine ⟨_, ?_, iterF_inv (len := a.Edges.length) (fun n (m : List (Int × Int)) => ((n : Int), m)) (fun n m => m = (a.Edges.take n).foldl (fun m x => if x.From == x.To then setM m x.Event (getM m x.Event 0 + 1) else m) [] ∧ ∀ e, getM m e 0 = (((a.Edges.take n).countP (loopB e) : Nat) : Int)) (fun n m => some (a.Edges.foldl (fun m x => if x.From == x.To then setM m x.Event (getM m x.Event 0 + 1) else m) [])) ?_ ?_ fuel 0 [] (Nat.zero_le _) (by omega) ⟨rfl, fun e => by simp [getM]⟩⟩
    · intro e
      have : ∀ (l : List api_Edge) (m : List (Int × Int)), getM (l.foldl (fun m x => if x.From == x.To then setM m x.Event (getM m x.Event 0 + 1) else m) m) e 0 = getM m e 0 + ((l.countP (loopB e) : Nat) : Int) := by
        intro l
        induction l with
        | nil => intro m; simp
        | cons x l ih =>
          intro m
          rw [List.foldl_cons, ih, List.countP_cons]
          by_cases h1 : x.From = x.To
          · simp only [h1, beq_self_eq_true, if_true, getM_set, loopB, Bool.true_and]
            by_cases h2 : e = x.Event
            · subst h2; simp; omega
            · have : ¬ x.Event = e := fun q => h2 q.symm
              simp [h2, this]
          · have h1' : (x.From == x.To) = false := by simp [h1]
            simp [h1', loopB]
      rw [this]; simp [getM]
    · rintro k n m hn ⟨hm, hc⟩ ih
      dsimp only
      rw [if_pos (by omega), getO_nat hn]
      simp only [Option.bind_some]
      have hb := hc a.Edges[n].Event
      have hle : (a.Edges.take n).countP (loopB a.Edges[n].Event) ≤ n := Nat.le_trans List.countP_le_length (by rw [List.length_take]; omega)
      rw [wrap_id (x := getM m a.Edges[n].Event 0 + 1) (by omega) (by omega), wrap_succ (by omega)]
      have hnext : ∀ e, (((a.Edges.take (n + 1)).countP (loopB e) : Nat) : Int) = (((a.Edges.take n).countP (loopB e) : Nat) : Int) + if loopB e a.Edges[n] then 1 else 0 := fun e => by
        rw [List.take_succ_eq_append_getElem hn, List.countP_append]
        by_cases hz : loopB e a.Edges[n] = true <;> simp [hz]
      by_cases h1 : (a.Edges[n].From == a.Edges[n].To) = true
      · rw [if_pos h1]
        simp only [Option.bind_some]
        refine ih _ ⟨?_, fun e => ?_⟩
        · rw [List.take_succ_eq_append_getElem hn, List.foldl_append, ← hm, List.foldl_cons, List.foldl_nil, if_pos h1]
        · rw [hnext, getM_set, hb, hc e]
          simp only [loopB, h1, Bool.true_and]
          by_cases h2 : e = a.Edges[n].Event
          · subst h2; simp
          · have : ¬ a.Edges[n].Event = e := fun q => h2 q.symm
            simp [h2, this]
      · rw [if_neg h1]
        simp only [Option.bind_some]
        refine ih _ ⟨?_, fun e => ?_⟩
        · rw [List.take_succ_eq_append_getElem hn, List.foldl_append, ← hm, List.foldl_cons, List.foldl_nil, if_neg h1]
        · rw [hnext, hc e]
          have h1' : (a.Edges[n].From == a.Edges[n].To) = false := by simpa using h1
          simp [loopB, h1']
    · rintro k m ⟨hm, hc⟩
      dsimp only
      rw [if_neg (by omega)]
      rw [List.take_length] at hm
      rw [hm]
  obtain ⟨m, hm, hrun⟩ := hloop
  rw [hrun]
  simp only [Option.bind_some]
  rw [select_ok (l := a.Alphabet) (f := fun e => if idleB a e then some e else none) (by unfold big; omega) (by omega) ?_ ?_]
  · simp only [Option.bind_some]
    congr 2
    induction a.Alphabet with
    | nil => rfl
    | cons x l ih => by_cases hx : idleB a x = true <;> simp [List.filterMap_cons, List.filter_cons, hx, ih]
  · intro k acc n hn ha
    dsimp only
    rw [if_pos (by omega), getO_nat hn]
    simp only [Option.bind_some]
    rw [hm]
    by_cases hx : idleB a a.Alphabet[n] = true
    · have := hx
      unfold idleB at this
      rw [if_pos this, appO_some (by simp only [List.length_cons, List.length_nil]; unfold lim; omega)]
      simp [hx]
    · have := hx
      unfold idleB at this
      rw [if_neg this]
      simp [hx]
  · intro k acc
    dsimp only
    rw [if_neg (by omega)]
end
end Go.Abs
end
section
namespace Go.Abs
open Go
theorem same_loop {α : Type} [DecidableEq α] {s t : List α} {ne : α → α → Bool} (hne : ∀ x y, ne x y = decide (x ≠ y)) (hl : s.length = t.length) (h : s.length < 1000000000000) :
    iterF (fun k5 (i4 : Int) => (if (i4 < (s.length : Int)) then ((getO s i4).bind fun x7 => ((getO t i4).bind fun x9 => (if ne x7 x9 then some false else k5 (IntKind.wrap .i64 (i4 + 1))))) else some true)) fuel0 0 = some (decide (s = t)) := by
  refine iterF_to (fun i : Int => ∃ n : Nat, i = n ∧ n ≤ s.length ∧ s.take n = t.take n) (fun i => s.length - i.toNat) _ ⟨0, rfl, by omega, by simp⟩ (by unfold fuel0; omega) ?_
  rintro k _ ⟨n, rfl, hn, he⟩ ih
  by_cases hlt : n < s.length
  · rw [if_pos (by omega), getO_nat hlt, getO_nat (by omega : n < t.length)]
    simp only [Option.bind_some, hne]
    by_cases hx : s[n] = t[n]
    · rw [if_neg (by simp [hx]), wrap_succ (by omega)]
      exact ih _ ⟨n + 1, rfl, by omega, take_eq_succ hlt (by omega) he hx⟩ (by omega)
    · rw [if_pos (by simp [hx])]
      have : s ≠ t := fun e => hx (by subst e; rfl)
      simp [this]
  · rw [if_neg (by omega)]
    have e : n = s.length := by omega
    have : s = t := by
      rw [e, List.take_length, hl, List.take_length] at he; exact he
    simp [this]
theorem equal_int {s t : List Int} (h : s.length < 1000000000000) : g_slices_Equal_int s t = some (decide (s = t)) := by
  unfold g_slices_Equal_int f_slices_Equal_int
  by_cases hl : s.length = t.length
  · rw [if_neg (by simp [hl])]
    exact same_loop (ne := fun x y => x != y) (fun x y => by rw [Bool.eq_iff_iff]; simp) hl h
  · rw [if_pos (by simp; omega)]
    have : s ≠ t := fun e => hl (by rw [e])
    simp [this]
end Go.Abs
end
section
namespace Go.Abs
open Go
set_option linter.unusedSimpArgs false
set_option linter.unusedVariables false
theorem minus_ok {l m : List Int} (hl : l.Pairwise (· < ·)) (hm : m.Pairwise (· < ·)) (h1 : l.length < big) (h2 : m.length < 1000000) : g_alphabet_Minus l m = some (l.filter fun x => decide (x ∉ m)) := by
  unfold g_alphabet_Minus f_alphabet_Minus g_alphabet_merge f_alphabet_merge
  obtain ⟨fuel, hfu, hge⟩ : ∃ f, fuel0 = f ∧ 1099511627776 ≤ f := ⟨_, rfl, Nat.le_refl _⟩
  rw [hfu]
  have hg : ∀ (x : Int) (l : List Int), getO (x :: l) 0 = some x := fun x l => getO_nat (l := x :: l) (n := 0) (by simp)
  have hd : ∀ (x : Int) (l : List Int), slcO (x :: l) 1 ((x :: l).length : Int) = some l := fun x l => by
    have := slcO_nat (l := x :: l) (i := 1) (j := (x :: l).length) (by simp) (by simp)
    rw [List.take_length] at this
    exact this
  have hk : ∀ p q, g_alphabet_Minus_1 p q = some (p && !q) := fun p q => by cases p <;> cases q <;> rfl
  rw [iterF_to (fun x : List Int × List Int × List Int => x.1.Pairwise (· < ·) ∧ x.2.1.Pairwise (· < ·) ∧ x.2.2.length + x.1.length < big ∧ x.2.2 ++ x.1.filter (fun z => decide (z ∉ x.2.1)) = l.filter fun z => decide (z ∉ m)) (fun x => x.1.length + x.2.1.length) (some (l.filter fun z => decide (z ∉ m))) ⟨hl, hm, by simpa using h1, by simp⟩ (by unfold big at h1; dsimp only; omega) ?_]
  · rfl
  rintro k ⟨a, b, out⟩ ⟨ha, hb, ho, he⟩ ih
  dsimp only at ha hb ho he ih ⊢
  match a, b with
  | [], [] => simpa using he
  | [], y :: ys =>
    rw [show ((([] : List Int).length : Nat) : Int) = 0 from rfl]
    have hp : (((y :: ys).length : Nat) : Int) > 0 := by simp only [List.length_cons]; omega
    rw [if_neg (by omega), Option.bind_some, if_pos (by simp)]
    rw [if_neg (by omega), Option.bind_some, if_pos hp, if_pos (by rfl), Option.bind_some, if_neg (by simp), Option.bind_some, if_pos rfl, hg, hd]
    simp only [Option.bind_some, hk, Bool.false_and, Bool.false_eq_true, if_false]
    exact ih ([], ys, out) ⟨ha, (List.pairwise_cons.1 hb).2, ho, by simpa using he⟩ (by simp)
  | x :: xs, [] =>
    rw [show ((([] : List Int).length : Nat) : Int) = 0 from rfl]
    have hp : (((x :: xs).length : Nat) : Int) > 0 := by simp only [List.length_cons]; omega
    rw [if_pos hp, Option.bind_some, if_pos rfl, if_pos hp, if_pos (by rfl), Option.bind_some, if_neg (by omega), Option.bind_some, if_pos rfl, hg, hd]
    simp only [Option.bind_some, hk, Bool.true_and, Bool.not_false, Bool.false_eq_true, if_false, if_true]
    simp only [List.length_cons] at ho
    rw [appO_some (by simp only [List.length_cons, List.length_nil]; unfold lim; unfold big at ho; omega), Option.bind_some]
    exact ih (xs, [], out ++ [x]) ⟨(List.pairwise_cons.1 ha).2, hb, by simp only [List.length_append, List.length_cons, List.length_nil]; omega, by simpa using he⟩ (by simp)
  | x :: xs, y :: ys =>
    obtain ⟨ha1, ha2⟩ := List.pairwise_cons.1 ha
    obtain ⟨hb1, hb2⟩ := List.pairwise_cons.1 hb
    have hp : (((x :: xs).length : Nat) : Int) > 0 := by simp only [List.length_cons]; omega
    have hq : (((y :: ys).length : Nat) : Int) > 0 := by simp only [List.length_cons]; omega
    have hp0 : ((((x :: xs).length : Nat) : Int) == 0) = false := by simp only [beq_eq_false_iff_ne]; omega
    have hq0 : ((((y :: ys).length : Nat) : Int) == 0) = false := by simp only [beq_eq_false_iff_ne]; omega
    rw [if_pos hp, Option.bind_some, if_pos rfl, if_pos hp, if_neg (by rw [hq0]; simp), hg, hg, Option.bind_some, Option.bind_some, Option.bind_some, if_pos hq, if_neg (by rw [hp0]; simp), Option.bind_some, Option.bind_some, Option.bind_some, hd, hd]
    simp only [List.length_cons] at ho
    rcases Int.lt_trichotomy x y with hxy | rfl | hxy
    · have e1 : decide (x ≤ y) = true := decide_eq_true (by omega)
      have e2 : decide (y ≤ x) = false := decide_eq_false (by omega)
      simp only [e1, e2, Option.bind_some, hk, Bool.not_false, Bool.true_and, if_true, Bool.false_eq_true, if_false]
      rw [appO_some (by simp only [List.length_cons, List.length_nil]; unfold lim; unfold big at ho; omega), Option.bind_some]
      have : x ∉ y :: ys := fun hm => by
        rcases List.mem_cons.1 hm with rfl | hm
        · omega
        · have := hb1 _ hm; omega
      rw [List.filter_cons_of_pos (by simpa using this)] at he
      exact ih (xs, y :: ys, out ++ [x]) ⟨ha2, hb, by simp only [List.length_append, List.length_cons, List.length_nil]; omega, by rw [← he]; simp⟩ (by simp)
    · have e1 : decide (x ≤ x) = true := decide_eq_true (by omega)
      simp only [e1, Option.bind_some, hk, Bool.not_true, Bool.and_false, if_true, Bool.false_eq_true, if_false]
      rw [List.filter_cons_of_neg (by simp)] at he
      refine ih (xs, ys, out) ⟨ha2, hb2, by simp only; omega, ?_⟩ (by simp; omega)
      rw [← he]
      congr 1
      refine List.filter_congr fun z hz => ?_
      have := ha1 z hz
      have hne : z ≠ x := by omega
      simp [hne]
    · have e1 : decide (x ≤ y) = false := decide_eq_false (by omega)
      have e2 : decide (y ≤ x) = true := decide_eq_true (by omega)
      simp only [e1, e2, Option.bind_some, hk, Bool.false_and, if_true, Bool.false_eq_true, if_false]
      refine ih (x :: xs, ys, out) ⟨ha, hb2, by simp only [List.length_cons]; omega, ?_⟩ (by simp)
      rw [← he]
      congr 1
      refine List.filter_congr fun z hz => ?_
      have hne : z ≠ y := by
        rcases List.mem_cons.1 hz with rfl | hz
        · omega
        · have := ha1 z hz; omega
      simp [hne]
theorem indexEdge_ok {w : List api_Edge} {p : api_Edge → Bool} {f : api_Edge → Option Bool} (hf : ∀ x, f x = some (p x)) (hw : w.length < big) : g_slices_IndexFunc_Edge w f = some (if w.any p then ((w.findIdx p : Nat) : Int) else -1) := by
  have hb : w.length < 1000000000000 := hw
  unfold g_slices_IndexFunc_Edge f_slices_IndexFunc_Edge
  obtain ⟨fuel, hfu, hge⟩ : ∃ f, fuel0 = f ∧ 1099511627776 ≤ f := ⟨_, rfl, Nat.le_refl _⟩
  rw [hfu]
  have := iterF_idx (F := fun (k10 : Int → Option Int) (x9 : Int) => (if (x9 < (w.length : Int)) then ((getO w x9).bind fun x12 => ((f x12).bind fun x15 => (if x15 then some x9 else k10 (IntKind.wrap .i64 (x9 + 1))))) else some (-1))) (len := w.length) (fuel := fuel)
    (fun n => some (if (w.drop n).any p then ((n + (w.drop n).findIdx p : Nat) : Int) else -1)) (by omega) (by
      intro k n hn ih
      rw [if_pos (by omega), getO_nat hn, wrap_succ (by omega), ih]
      simp only [Option.bind_some, hf]
      rw [List.drop_eq_getElem_cons hn]
      cases hp : p w[n] with
      | true => simp only [List.any_cons, hp, Bool.true_or, if_true, List.findIdx_cons, cond_true, Nat.add_zero]
      | false =>
        simp only [List.any_cons, hp, Bool.false_or, List.findIdx_cons, cond_false, Bool.false_eq_true, if_false]
        rw [show n + 1 + (w.drop (n + 1)).findIdx p = n + ((w.drop (n + 1)).findIdx p + 1) from by omega]) (by intro k; simp)
  rw [this]
  simp only [List.drop_zero, Nat.zero_add]
theorem containsFuncEdge_ok {w : List api_Edge} {p : api_Edge → Bool} {f : api_Edge → Option Bool} (hf : ∀ x, f x = some (p x)) (hw : w.length < big) : g_slices_ContainsFunc_Edge w f = some (w.any p) := by
  unfold g_slices_ContainsFunc_Edge f_slices_ContainsFunc_Edge
  rw [indexEdge_ok hf hw]
  simp only [Option.bind_some]
  cases w.any p <;> simp
theorem containsEdge_ok {w : List api_Edge} {v : api_Edge} (hw : w.length < big) : g_slices_Contains_Edge w v = some (decide (v ∈ w)) := by
  have hb : w.length < 1000000000000 := hw
  unfold g_slices_Contains_Edge f_slices_Contains_Edge g_slices_Index_Edge f_slices_Index_Edge
  obtain ⟨fuel, hfu, hge⟩ : ∃ f, fuel0 = f ∧ 1099511627776 ≤ f := ⟨_, rfl, Nat.le_refl _⟩
  rw [hfu]
  have hq : ∀ x : api_Edge, ((v.From == x.From) && ((v.Event == x.Event) && ((v.To == x.To) && true))) = decide (v = x) := fun x => by
    cases v; cases x
    simp only [api_Edge.mk.injEq, Bool.and_true]
    rw [Bool.eq_iff_iff]; simp
  have := iterF_idx (F := fun (k4 : Int → Option Int) (x3 : Int) => (if (x3 < (w.length : Int)) then ((getO w x3).bind fun x6 => (if ((v.From == x6.From) && ((v.Event == x6.Event) && ((v.To == x6.To) && true))) then some x3 else k4 (IntKind.wrap .i64 (x3 + 1)))) else some (-1))) (len := w.length) (fuel := fuel)
    (fun n => some (if (w.drop n).any (fun x => decide (v = x)) then ((n + (w.drop n).findIdx (fun x => decide (v = x)) : Nat) : Int) else -1)) (by omega) (by
      intro k n hn ih
      rw [if_pos (by omega), getO_nat hn, wrap_succ (by omega), ih]
      simp only [Option.bind_some, hq]
      rw [List.drop_eq_getElem_cons hn]
      cases hp : decide (v = w[n]) with
      | true => simp only [List.any_cons, hp, Bool.true_or, if_true, List.findIdx_cons, cond_true, Nat.add_zero]
      | false =>
        simp only [List.any_cons, hp, Bool.false_or, List.findIdx_cons, cond_false, Bool.false_eq_true, if_false]
        rw [show n + 1 + (w.drop (n + 1)).findIdx (fun x => decide (v = x)) = n + ((w.drop (n + 1)).findIdx (fun x => decide (v = x)) + 1) from by omega]) (by intro k; simp)
  rw [this]
  simp only [Option.bind_some, List.drop_zero, Nat.zero_add]
  have e : w.any (fun x => decide (v = x)) = decide (v ∈ w) := by
    rw [Bool.eq_iff_iff, List.any_eq_true]; simp
  rw [e]
  by_cases hv : v ∈ w <;> simp [hv]
def okP (a : api_Automaton) : Int → List Int → Bool
  | _, [] => true
  | s, e :: w => decide (0 ≤ stepP a s e) && okP a (stepP a s e) w
theorem run_ok (a : api_Automaton) : ∀ (w : List Int) (s : Int) (k : Nat), ((runP a s k w).2 == ((k + w.length : Nat) : Int)) = okP a s w
  | [], s, k => by simp [runP, okP]
  | e :: w, s, k => by
    simp only [runP, okP, List.length_cons]
    by_cases hs : 0 ≤ stepP a s e
    · rw [if_pos hs, show k + (w.length + 1) = k + 1 + w.length from by omega, run_ok a w _ (k + 1)]; simp [hs]
    · rw [if_neg hs]; simp [hs]; omega
theorem gen_okP (a : api_Automaton) (w : List Int) : genP a w = (decide (0 < a.States) && okP a 0 w) := by
  unfold genP
  have := run_ok a w 0 0
  rw [Nat.zero_add] at this
  rw [this]
theorem step_any {a : api_Automaton} (h : Right a) (s e : Int) : a.Edges.any (fun x => x.From == s && x.Event == e) = decide (0 ≤ stepP a s e) := by
  unfold stepP
  cases hf : a.Edges.find? (fun x => x.From == s && x.Event == e) with
  | none =>
    rw [List.find?_eq_none] at hf
    have : a.Edges.any (fun x => x.From == s && x.Event == e) = false := List.any_eq_false.2 fun x hx => hf x hx
    rw [this]; simp
  | some x =>
    have h1 := List.mem_of_find?_eq_some hf
    have h2 := List.find?_some hf
    rw [List.any_eq_true.2 ⟨x, h1, h2⟩]
    have := h.ed0 x h1
    simp; omega
theorem step_at {a : api_Automaton} {s e : Int} (h : a.Edges.any (fun x => x.From == s && x.Event == e) = true) : ∃ x, getO a.Edges ((a.Edges.findIdx (fun x => x.From == s && x.Event == e) : Nat) : Int) = some x ∧ x.To = stepP a s e := by
  have hlt : a.Edges.findIdx (fun x => x.From == s && x.Event == e) < a.Edges.length := by
    rw [List.findIdx_lt_length]; exact List.any_eq_true.1 h
  refine ⟨_, getO_nat hlt, ?_⟩
  unfold stepP
  rw [show a.Edges.find? (fun x => x.From == s && x.Event == e) = some a.Edges[a.Edges.findIdx (fun x => x.From == s && x.Event == e)] from by
    rw [List.find?_eq_some_iff_getElem]
    refine ⟨List.findIdx_getElem (w := hlt), _, hlt, rfl, fun j hj => ?_⟩
    have := List.not_of_lt_findIdx hj
    simpa [Decidable.imp_iff_not_or] using this]
theorem permits_ok {a : api_Automaton} (h : Right a) {w : List Int} (hw : w.length < big) : g_overseerlaw21_permits a w = some (genP a (w.filter fun x => decide (x ∈ a.Alphabet))) := by
  have hb : w.length < 1000000000000 := hw
  have hs := h.small
  rw [gen_okP]
  unfold g_overseerlaw21_permits f_overseerlaw21_permits
  obtain ⟨fuel, hfu, hge⟩ : ∃ f, fuel0 = f ∧ 1099511627776 ≤ f := ⟨_, rfl, Nat.le_refl _⟩
  rw [hfu]
  refine (iterF_inv (len := w.length) (fun n (s : Int) => ((n : Int), s)) (fun n s => True) (fun n s => some (decide (0 < a.States) && okP a s ((w.drop n).filter fun x => decide (x ∈ a.Alphabet)))) ?_ ?_ fuel 0 0 (Nat.zero_le _) (by omega) trivial).trans (by simp)
  · rintro k n s hn - ih
    unfold letJ
    dsimp only
    rw [if_pos (by omega), getO_nat hn, Option.bind_some, contains_ok hs.1.1, Option.bind_some, wrap_succ (by omega)]
    rw [List.drop_eq_getElem_cons hn]
    by_cases hm : w[n] ∈ a.Alphabet
    · rw [if_pos (by simpa using hm), indexEdge_ok (p := fun x => x.From == s && x.Event == w[n]) (fun x => by
        unfold g_overseerlaw21_permits_1 f_overseerlaw21_permits_1
        by_cases hx : x.From = s <;> simp [hx]) hs.1.2.2]
      simp only [Option.bind_some]
      rw [List.filter_cons_of_pos (by simpa using hm), okP]
      by_cases ha : a.Edges.any (fun x => x.From == s && x.Event == w[n]) = true
      · obtain ⟨x, hx, ht⟩ := step_at ha
        have hst : decide (0 ≤ stepP a s w[n]) = true := by rw [← step_any h]; exact ha
        rw [if_pos ha, if_neg (by omega), hx, hst]
        simp only [Option.bind_some, ht, Bool.true_and]
        exact ih _ trivial
      · have hst : decide (0 ≤ stepP a s w[n]) = false := by rw [← step_any h]; simpa using ha
        rw [if_neg ha, if_pos (by omega), hst]; simp
    · rw [if_neg (by simpa using hm), List.filter_cons_of_neg (by simpa using hm)]
      exact ih _ trivial
  · rintro k s -
    dsimp only
    rw [if_neg (by omega)]; simp [okP]
theorem refused_ok {a : api_Automaton} (h : Right a) (s : Int) : g_requirement_Refused a s = some (if 0 ≤ s ∧ s < a.States then (a.Alphabet.filter fun e => !decide (0 ≤ stepP a s e), 0) else ([], 2)) := by
  unfold g_requirement_Refused f_requirement_Refused
  rw [enabled_ok h]
  simp only [Option.bind_some]
  by_cases hr : 0 ≤ s ∧ s < a.States
  · rw [if_pos hr, if_pos hr]
    dsimp only
    rw [if_neg (by simp), outP_events h, minus_ok h.al (h.al.filter _) h.small.1.1 (Nat.lt_of_le_of_lt (List.length_filter_le _ _) (by have := h.small.2.1; omega))]
    simp only [Option.bind_some]
    congr 2
    refine List.filter_congr fun z hz => ?_
    simp only [List.mem_filter, hz, true_and]
    simp
    rw [← decide_not]; exact decide_eq_decide.2 (by omega)
  · rw [if_neg hr, if_neg hr]; rfl
theorem loops_loop {a : api_Automaton} (h : Right a) (fuel : Nat) (hfu : 1099511627776 ≤ fuel) (e : Int) :
    iterF (fun k33 ((loops31, x32) : Bool × Int) => (if (x32 < a.States) then (((if loops31 then ((g_slices_Contains_Edge a.Edges (api_Edge.mk x32 e x32)).bind fun x37 => some x37) else some false)).bind fun (loops38 : Bool) => k33 (loops38, (IntKind.wrap .i64 (x32 + 1)))) else some loops31)) fuel (true, 0) = some (idleB a e) := by
  have hst := h.st
  have hs := h.small
  refine (iterF_inv (len := a.States.toNat) (fun n (b : Bool) => (b, (n : Int))) (fun n b => b = (List.range n).all fun s => decide ((⟨(s : Int), e, (s : Int)⟩ : api_Edge) ∈ a.Edges)) (fun n b => some (idleB a e)) ?_ ?_ fuel 0 true (Nat.zero_le _) (by omega) rfl)
  · rintro k n b hn hb ih
    dsimp only
    rw [if_pos (by omega), wrap_succ (by omega), containsEdge_ok hs.1.2.2]
    cases b with
    | true =>
      rw [if_pos rfl]
      simp only [Option.bind_some]
      exact ih _ (by rw [List.range_succ, List.all_append, ← hb]; simp)
    | false =>
      rw [if_neg (by simp)]
      simp only [Option.bind_some]
      exact ih _ (by rw [List.range_succ, List.all_append, ← hb]; simp)
  · rintro k b hb
    dsimp only
    rw [if_neg (by omega), hb]
    congr 1
    rw [Bool.eq_iff_iff, idle_iff h, List.all_eq_true]
    constructor
    · intro hall s h0 h1
      have := hall s.toNat (List.mem_range.2 (by omega))
      rw [decide_eq_true_iff, show ((s.toNat : Nat) : Int) = s from by omega] at this
      exact this
    · intro hall n hn
      have := List.mem_range.1 hn
      exact decide_eq_true (hall n (by omega) (by omega))
theorem bind_of {α β : Type} {o : Option α} {v : α} {K : α → Option β} {r : Option β} (h : o = some v) (hk : K v = r) : o.bind K = r := by rw [h]; exact hk
theorem oor_in (e : Int) : g_overseerlaw21_RequirementAsks_2 e = some (oor e) := by
  unfold g_overseerlaw21_RequirementAsks_2 f_overseerlaw21_RequirementAsks_2 g_overseerlaw21_in f_overseerlaw21_in oor
  by_cases h0 : e ≥ 0
  · rw [if_pos h0]
    simp only [Option.bind_some]
    rw [← decide_not]; congr 1; exact decide_eq_decide.2 (by omega)
  · rw [if_neg h0]
    simp only [Option.bind_some]
    congr 1
    rw [eq_comm, Bool.not_false]; exact decide_eq_true (by omega)
theorem requirementAsks_ok (x : overseerlaw21_Asked) (hx : 0 ≤ x.Set ∧ x.Set < 256) (hg : GraphW x.Graph) : g_overseerlaw21_RequirementAsks x = some true := by
  unfold g_overseerlaw21_RequirementAsks f_overseerlaw21_RequirementAsks
  obtain ⟨fuel, hfu, hge⟩ : ∃ f, fuel0 = f ∧ 1099511627776 ≤ f := ⟨_, rfl, Nat.le_refl _⟩
  rw [hfu, known21_ok]
  simp only [Option.bind_some, if_true]
  by_cases hw : (10 < x.Word.length ∧ x.Word.length ≤ 4096) ∨ x.Word.length > 4098
  · have : (if (x.Word.length : Int) > 10 then if (x.Word.length : Int) ≤ 4096 then some true else some (decide ((x.Word.length : Int) > 4098)) else some (decide ((x.Word.length : Int) > 4098))) = some true := by
      rcases hw with hw | hw
      · rw [if_pos (by omega), if_pos (by omega)]
      · rw [if_pos (by omega), if_neg (by omega), decide_eq_true (by omega)]
    rw [this]; simp
  have hc : (if (x.Word.length : Int) > 10 then if (x.Word.length : Int) ≤ 4096 then some true else some (decide ((x.Word.length : Int) > 4098)) else some (decide ((x.Word.length : Int) > 4098))) = some false := by
    by_cases h1 : (x.Word.length : Int) > 10
    · rw [if_pos h1, if_neg (by omega), decide_eq_false (by omega)]
    · rw [if_neg h1, decide_eq_false (by omega)]
  rw [hc]
  simp only [Option.bind_some, Bool.false_eq_true, if_false]
  obtain ⟨al, hal, hev⟩ := events_ok hx.1 hx.2
  rw [hal]
  simp only [Option.bind_some]
  obtain ⟨m, hm, -, hmake, -⟩ := make_ok hev hg
  rw [hmake]
  simp only [Option.bind_some]
  have hr := canonP_right hm
  generalize canonP m = a at hr
  have hs := hr.small
  have hst := hr.st
  have hwl : x.Word.length < big := by unfold big; omega
  rw [idle_ok hr, refused_ok hr, allows_ok hr hwl]
  simp only [Option.bind_some]
  refine bind_of (v := (a.Alphabet.filter (idleB a), a.Alphabet.filter fun e => !decide (0 ≤ stepP a x.State e))) ?_ ?_
  · refine (iterF_inv (len := a.Alphabet.length) (fun n (s : List Int × List Int) => (s.1, s.2, (n : Int))) (fun n s => s.1 = (a.Alphabet.take n).filter (idleB a) ∧ s.2 = (a.Alphabet.take n).filter fun e => !decide (0 ≤ stepP a x.State e)) (fun n s => some (a.Alphabet.filter (idleB a), a.Alphabet.filter fun e => !decide (0 ≤ stepP a x.State e))) ?_ ?_ fuel 0 ([], []) (Nat.zero_le _) (by omega) ⟨rfl, rfl⟩)
    · rintro k n ⟨q, no⟩ hn ⟨hq, hno⟩ ih
      dsimp only at hq hno ih ⊢
      rw [if_pos (by omega), getO_nat hn, Option.bind_some, loops_loop hr fuel hge, Option.bind_some]
      rw [containsFuncEdge_ok (p := fun y => y.From == x.State && y.Event == a.Alphabet[n]) (fun y => by
        unfold g_overseerlaw21_RequirementAsks_1 f_overseerlaw21_RequirementAsks_1
        dsimp only
        by_cases hx : y.From = x.State <;> simp [hx]) hs.1.2.2, step_any hr]
      have hql : q.length ≤ n := by rw [hq]; exact Nat.le_trans (List.length_filter_le _ _) (by rw [List.length_take]; omega)
      have hnl : no.length ≤ n := by rw [hno]; exact Nat.le_trans (List.length_filter_le _ _) (by rw [List.length_take]; omega)
      rw [appO_some (l := q) (by simp only [List.length_cons, List.length_nil]; unfold lim; omega), appO_some (l := no) (by simp only [List.length_cons, List.length_nil]; unfold lim; omega), wrap_succ (by omega)]
      have h1 : (a.Alphabet.take (n + 1)).filter (idleB a) = q ++ (if idleB a a.Alphabet[n] then [a.Alphabet[n]] else []) := by
        rw [List.take_succ_eq_append_getElem hn, List.filter_append, ← hq]
        by_cases hz : idleB a a.Alphabet[n] = true <;> simp [hz]
      have h2 : (a.Alphabet.take (n + 1)).filter (fun e => !decide (0 ≤ stepP a x.State e)) = no ++ (if 0 ≤ stepP a x.State a.Alphabet[n] then [] else [a.Alphabet[n]]) := by
        rw [List.take_succ_eq_append_getElem hn, List.filter_append, ← hno]
        by_cases hz : 0 ≤ stepP a x.State a.Alphabet[n]
        · rw [if_pos hz, List.filter_cons_of_neg (by simp [hz])]; simp
        · rw [if_neg hz, List.filter_cons_of_pos (by simp [hz])]; simp
      by_cases hz : idleB a a.Alphabet[n] = true <;> by_cases hy : 0 ≤ stepP a x.State a.Alphabet[n]
      · rw [if_pos hz] at h1; rw [if_pos hy] at h2
        simp only [hz, hy, decide_true, if_true, Option.bind_some]
        exact ih (_, _) ⟨h1.symm, by rw [h2]; simp⟩
      · rw [if_pos hz] at h1; rw [if_neg hy] at h2
        simp only [hz, hy, decide_false, Bool.false_eq_true, if_false, if_true, Option.bind_some]
        exact ih (_, _) ⟨h1.symm, h2.symm⟩
      · rw [if_neg hz] at h1; rw [if_pos hy] at h2
        simp only [hz, hy, decide_true, if_true, Option.bind_some, Bool.false_eq_true, if_false]
        exact ih (_, _) ⟨by rw [h1]; simp, by rw [h2]; simp⟩
      · rw [if_neg hz] at h1; rw [if_neg hy] at h2
        simp only [hz, hy, decide_false, Bool.false_eq_true, if_false, Option.bind_some]
        exact ih (_, _) ⟨by rw [h1]; simp, h2.symm⟩
    · rintro k ⟨q, no⟩ ⟨hq, hno⟩
      dsimp only at hq hno ⊢
      rw [if_neg (by omega), hq, hno, List.take_length]
  have hql : (a.Alphabet.filter (idleB a)).length < big := Nat.lt_of_le_of_lt (List.length_filter_le _ _) hs.1.1
  have hnl : (a.Alphabet.filter fun e => !decide (0 ≤ stepP a x.State e)).length < big := Nat.lt_of_le_of_lt (List.length_filter_le _ _) hs.1.1
  dsimp only
  rw [equal_int hql]
  simp only [bne_self_eq_false, Bool.false_eq_true, if_false, Option.bind_some, decide_true, Bool.not_true]
  unfold letJ
  have hend : (((if ((x.Word.length : Int) > 4096) then some 15 else ((g_slices_ContainsFunc_int x.Word g_overseerlaw21_RequirementAsks_2).bind fun x78 => (if x78 then some 2 else some 0)))).bind fun (want80 : Int) => (if ((if x.Word.length > 4096 then (false, 15) else if x.Word.any oor then (false, 2) else (genP a (x.Word.filter fun x => decide (x ∈ a.Alphabet)), (0 : Int))).2 == want80) then (if (want80 == 0) then ((g_overseerlaw21_permits a x.Word).bind fun x84 => some ((if x.Word.length > 4096 then (false, (15 : Int)) else if x.Word.any oor then (false, 2) else (genP a (x.Word.filter fun x => decide (x ∈ a.Alphabet)), 0)).1 == x84)) else some ((if x.Word.length > 4096 then (false, (15 : Int)) else if x.Word.any oor then (false, 2) else (genP a (x.Word.filter fun x => decide (x ∈ a.Alphabet)), 0)).1 == false)) else some false)) = some true := by
    by_cases h1 : x.Word.length > 4096
    · rw [if_pos h1, if_pos (by omega)]; rfl
    · rw [if_neg h1, if_neg (by omega), containsFunc_ok oor_in hwl]
      by_cases h2 : x.Word.any oor = true
      · rw [h2]; rfl
      · rw [if_neg h2]
        simp only [Option.bind_some, h2, Bool.false_eq_true, if_false, permits_ok hr hwl]
        simp
  by_cases hrg : 0 ≤ x.State ∧ x.State < a.States
  · rw [if_pos hrg]
    dsimp only
    rw [if_neg (by omega), equal_int hnl]
    simp only [bne_self_eq_false, Bool.false_eq_true, if_false, Option.bind_some, decide_true, Bool.not_true, decide_eq_false (show ¬ x.State ≥ a.States by omega)]
    exact hend
  · rw [if_neg hrg]
    dsimp only
    have : (if x.State < 0 then some true else some (decide (x.State ≥ a.States))) = some true := by
      by_cases h0 : x.State < 0
      · rw [if_pos h0]
      · rw [if_neg h0, decide_eq_true (by omega)]
    rw [this]
    simp only [bne_self_eq_false, Bool.false_eq_true, if_false, Option.bind_some, if_true, List.length_nil]
    exact hend
end Go.Abs
end
