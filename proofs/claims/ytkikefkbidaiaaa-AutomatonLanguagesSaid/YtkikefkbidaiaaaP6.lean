/-
  Part 6 of the proof: see the last text.
-/
import Derived.Test.YtkikefkbidaiaaaP5
import Derived.KernelRfl
set_option linter.unusedVariables false
set_option linter.unusedSimpArgs false
set_option linter.unusedSectionVars false
section
namespace Go.Abs
open Go
set_option linter.unusedSimpArgs false
set_option linter.unusedVariables false
def ins (o : List Int) (t : Int) : List Int := if t ∈ o then o else o ++ [t]
def succP (a : api_Automaton) (s : Int) : List Int := (outP a s).map (·.To)
def bfs (a : api_Automaton) : Nat → Nat → List Int → List Int
  | 0, _, o => o
  | fuel + 1, i, o => match o[i]? with
    | some s => bfs a fuel (i + 1) ((succP a s).foldl ins o)
    | none => o
def foundP (a : api_Automaton) : List Int := bfs a (a.States.toNat + 1) 0 (if 0 < a.States then [0] else [])
structure Fnd (a : api_Automaton) (o : List Int) : Prop where
  nd : o.Nodup
  rg : ∀ s ∈ o, 0 ≤ s ∧ s < a.States
theorem Fnd.len {a : api_Automaton} {o : List Int} (h : Fnd a o) : o.length ≤ a.States.toNat := by
  have hO : Go.Sort.SWO ltInt' := ⟨fun x => by simp [ltInt'], fun x y z h1 h2 => by simp [ltInt'] at *; omega, fun x y z h1 h2 => by simp [ltInt'] at *; omega⟩
  have hp := isortB_perm ltInt' o
  have hs := isortB_sorted hO o
  have hn : (isortB ltInt' o).Nodup := (hp.nodup_iff).2 h.nd
  have hlt : (isortB ltInt' o).Pairwise (· < ·) := by
    have : (isortB ltInt' o).Pairwise fun x y => ltInt' y x = false ∧ x ≠ y := hs.and hn
    exact this.imp fun ⟨h1, h2⟩ => by simp [ltInt'] at h1; omega
  have := sorted_len hlt (a := 0) (b := a.States) fun x hx => h.rg x (hp.mem_iff.1 hx)
  rw [isortB_length] at this
  simpa using this
theorem mem_ins {o : List Int} {t x : Int} : x ∈ ins o t ↔ x ∈ o ∨ x = t := by
  unfold ins; split
  · rename_i h; constructor
    · exact .inl
    · rintro (h' | rfl)
      · exact h'
      · exact h
  · simp
theorem pre_ins (o : List Int) (t : Int) : o <+: ins o t := by
  unfold ins; split
  · exact List.prefix_refl o
  · exact List.prefix_append o [t]
theorem Fnd.ins {a : api_Automaton} {o : List Int} (h : Fnd a o) {t : Int} (ht : 0 ≤ t ∧ t < a.States) : Fnd a (ins o t) := by
  refine ⟨?_, fun s hs => ?_⟩
  · unfold Go.Abs.ins; split
    · exact h.nd
    · rename_i hn
      rw [List.nodup_append]
      exact ⟨h.nd, by simp, fun x hx y hy => by simp at hy; subst hy; exact fun e => hn (e ▸ hx)⟩
  · rcases mem_ins.1 hs with hs | rfl
    · exact h.rg s hs
    · exact ht
theorem foldl_ins {a : api_Automaton} : ∀ {ts o : List Int}, Fnd a o → (∀ t ∈ ts, 0 ≤ t ∧ t < a.States) → Fnd a (ts.foldl ins o) ∧ o <+: ts.foldl ins o ∧ (∀ t ∈ ts, t ∈ ts.foldl ins o) ∧ ∀ x ∈ ts.foldl ins o, x ∈ o ∨ x ∈ ts
  | [], o, h, _ => ⟨h, List.prefix_refl o, by simp, fun x hx => .inl hx⟩
  | t :: ts, o, h, ht => by
    obtain ⟨h1, h2, h3, h4⟩ := foldl_ins (ts := ts) (h.ins (ht t (by simp))) fun t ht' => ht t (by simp [ht'])
    refine ⟨h1, (pre_ins o t).trans h2, fun x hx => ?_, fun x hx => ?_⟩
    · rcases List.mem_cons.1 hx with rfl | hx
      · exact h2.subset (mem_ins.2 (.inr rfl))
      · exact h3 x hx
    · rcases h4 x hx with h5 | h5
      · rcases mem_ins.1 h5 with h6 | rfl
        · exact .inl h6
        · exact .inr (by simp)
      · exact .inr (by simp [h5])
theorem succP_range {a : api_Automaton} (h : Right a) (s : Int) : ∀ t ∈ succP a s, 0 ≤ t ∧ t < a.States := by
  intro t ht
  unfold succP outP at ht
  obtain ⟨x, hx, rfl⟩ := List.mem_map.1 ht
  have := h.ed0 x ((List.mem_filter.1 hx).1)
  omega
theorem prefix_get {α : Type} {l m : List α} (h : l <+: m) {i : Nat} {x : α} (hx : l[i]? = some x) : m[i]? = some x := by
  obtain ⟨t, rfl⟩ := h
  have := (List.getElem?_eq_some_iff.1 hx).1
  rw [List.getElem?_append_left this]; exact hx
theorem bfs_spec {a : api_Automaton} (h : Right a) : ∀ (fuel i : Nat) (o : List Int), Fnd a o → i ≤ o.length → a.States.toNat + 1 ≤ fuel + i → (∀ j s, j < i → o[j]? = some s → ∀ t ∈ succP a s, t ∈ o) →
    Fnd a (bfs a fuel i o) ∧ o <+: bfs a fuel i o ∧ ∀ s ∈ bfs a fuel i o, ∀ t ∈ succP a s, t ∈ bfs a fuel i o
  | 0, i, o, hf, hi, hfu, _ => by have := hf.len; omega
  | fuel + 1, i, o, hf, hi, hfu, hc => by
    unfold bfs
    cases hg : o[i]? with
    | none =>
      dsimp only
      refine ⟨hf, List.prefix_refl o, fun s hs t ht => ?_⟩
      obtain ⟨j, hj⟩ := List.getElem?_of_mem hs
      have hlt := (List.getElem?_eq_some_iff.1 hj).1
      exact hc j s (by have := List.getElem?_eq_none_iff.1 hg; omega) hj t ht
    | some s =>
      dsimp only
      obtain ⟨h1, h2, h3, _⟩ := foldl_ins hf (succP_range h s)
      have hlen : i < o.length := (List.getElem?_eq_some_iff.1 hg).1
      have hle := h2.length_le
      obtain ⟨k1, k2, k3⟩ := bfs_spec h fuel (i + 1) ((succP a s).foldl ins o) h1 (by omega) (by omega) (fun j s' hj hs' t ht => by
        by_cases hji : j < i
        · have hjl : j < o.length := by omega
          have : o[j]? = some s' := by
            have := prefix_get h2 (List.getElem?_eq_getElem hjl)
            rw [hs'] at this; rw [List.getElem?_eq_getElem hjl]; exact this.symm
          exact h2.subset (hc j s' hji this t ht)
        · obtain rfl : j = i := by omega
          have := prefix_get h2 hg
          rw [hs'] at this; cases this
          exact h3 t ht)
      exact ⟨k1, h2.trans k2, k3⟩
theorem found_spec {a : api_Automaton} (h : Right a) : Fnd a (foundP a) ∧ (if 0 < a.States then [0] else []) <+: foundP a ∧ ∀ s ∈ foundP a, ∀ t ∈ succP a s, t ∈ foundP a :=
  bfs_spec h _ 0 _ ⟨by split <;> simp, fun s hs => by split at hs <;> simp at hs; subst hs; omega⟩ (Nat.zero_le _) (by omega) fun j s hj => by omega
def marksP (m : List Int) : Nat → List Int → List Int
  | _, [] => []
  | i, s :: t => (if s ∈ m then [(i : Int)] else []) ++ marksP m (i + 1) t
def rowP (a : api_Automaton) (F : List Int) (i : Nat) (s : Int) : List api_Edge := (outP a s).map fun x => ⟨(i : Int), x.Event, (F.idxOf x.To : Int)⟩
def edgesP (a : api_Automaton) (F : List Int) : Nat → List Int → List api_Edge
  | _, [] => []
  | i, s :: t => rowP a F i s ++ edgesP a F (i + 1) t
def canonP (a : api_Automaton) : api_Automaton := ⟨a.Alphabet, ((foundP a).length : Int), marksP a.Marked 0 (foundP a), edgesP a (foundP a) 0 (foundP a)⟩
theorem marksP_range {m : List Int} : ∀ {l : List Int} {i : Nat}, ∀ x ∈ marksP m i l, (i : Int) ≤ x ∧ x < (i + l.length : Nat)
  | [], i, x, hx => by simp [marksP] at hx
  | s :: t, i, x, hx => by
    simp only [marksP, List.mem_append] at hx
    rcases hx with hx | hx
    · split at hx <;> simp at hx
      subst hx; simp only [List.length_cons]; omega
    · have := marksP_range x hx; simp only [List.length_cons]; omega
theorem marksP_sorted {m : List Int} : ∀ {l : List Int} {i : Nat}, (marksP m i l).Pairwise (· < ·)
  | [], i => .nil
  | s :: t, i => by
    simp only [marksP]
    rw [List.pairwise_append]
    refine ⟨by split <;> simp, marksP_sorted, fun x hx y hy => ?_⟩
    have := marksP_range y hy
    split at hx <;> simp at hx
    omega
theorem edgesP_from {a : api_Automaton} {F : List Int} : ∀ {l : List Int} {i : Nat}, ∀ x ∈ edgesP a F i l, (i : Int) ≤ x.From ∧ x.From < (i + l.length : Nat) ∧ ∃ s ∈ l, ∃ y ∈ outP a s, x.Event = y.Event ∧ x.To = (F.idxOf y.To : Int)
  | [], i, x, hx => by simp [edgesP] at hx
  | s :: t, i, x, hx => by
    simp only [edgesP, List.mem_append] at hx
    rcases hx with hx | hx
    · obtain ⟨y, hy, rfl⟩ := List.mem_map.1 hx
      simp only [List.length_cons]
      exact ⟨by omega, by omega, s, by simp, y, hy, rfl, rfl⟩
    · obtain ⟨h1, h2, s', h3, h4⟩ := edgesP_from x hx
      simp only [List.length_cons]
      exact ⟨by omega, by omega, s', by simp [h3], h4⟩
theorem edgesP_sorted {a : api_Automaton} (h : Right a) {F : List Int} : ∀ {l : List Int} {i : Nat}, (edgesP a F i l).Pairwise keyLt
  | [], i => .nil
  | s :: t, i => by
    simp only [edgesP]
    rw [List.pairwise_append]
    refine ⟨?_, edgesP_sorted h, fun x hx y hy => ?_⟩
    · unfold rowP
      rw [List.pairwise_map]
      have h1 : (outP a s).Pairwise keyLt := h.ed.filter _
      have h2 : ∀ x ∈ outP a s, x.From = s := fun x hx => by unfold outP at hx; simp at hx; exact hx.2
      exact List.Pairwise.imp_of_mem (fun {x y} hx hy hk => by have := h2 x hx; have := h2 y hy; unfold keyLt at hk; exact .inr ⟨rfl, by show x.Event < y.Event; omega⟩) h1
    · obtain ⟨z, _, rfl⟩ := List.mem_map.1 hx
      have := (edgesP_from y hy).1
      unfold keyLt; simp only; omega
theorem canonP_right {a : api_Automaton} (h : Right a) : Right (canonP a) := by
  obtain ⟨h1, h2, h3⟩ := found_spec h
  have hl := h1.len
  have hst := h.st
  refine ⟨h.al0, h.al, ⟨by simp only [canonP]; omega, by simp only [canonP]; omega⟩, fun x hx => ?_, marksP_sorted, fun x hx => ?_, edgesP_sorted h⟩
  · have := marksP_range x hx; simp only [canonP]; omega
  · obtain ⟨k1, k2, s, hs, y, hy, k3, k4⟩ := edgesP_from x hx
    have hy' : y.To ∈ foundP a := h3 s hs y.To (List.mem_map.2 ⟨y, hy, rfl⟩)
    have := List.idxOf_lt_length_iff.2 hy'
    simp only [canonP]
    refine ⟨by omega, by omega, by omega, by omega, ?_⟩
    rw [k3]
    unfold outP at hy
    exact (h.ed0 y ((List.mem_filter.1 hy).1)).2.2.2.2
end Go.Abs
end
section
namespace Go.Abs
open Go
set_option linter.unusedSimpArgs false
set_option linter.unusedVariables false
theorem foldl_all {P : Int → Prop} : ∀ (ts o : List Int), (∀ s ∈ o, P s) → (∀ t ∈ ts, P t) → ∀ s ∈ ts.foldl ins o, P s
  | [], o, h, _ => h
  | t :: ts, o, h, ht => foldl_all ts (ins o t) (fun s hs => by
      rcases mem_ins.1 hs with hs | rfl
      · exact h s hs
      · exact ht _ (by simp)) fun u hu => ht u (by simp [hu])
theorem bfs_least {a : api_Automaton} {P : Int → Prop} (hP : ∀ s, P s → ∀ t ∈ succP a s, P t) : ∀ (fuel i : Nat) (o : List Int), (∀ s ∈ o, P s) → ∀ s ∈ bfs a fuel i o, P s
  | 0, i, o, h => h
  | fuel + 1, i, o, h => by
    unfold bfs
    cases hg : o[i]? with
    | none => exact h
    | some s => exact bfs_least hP fuel (i + 1) _ (foldl_all _ _ h (hP s (h s (List.mem_of_getElem? hg))))
structure Like (a b : api_Automaton) (φ : Int → Int) : Prop where
  al : b.Alphabet = a.Alphabet
  st : 0 < b.States ↔ 0 < a.States
  zero : 0 < a.States → φ 0 = 0
  inj : ∀ s ∈ foundP a, ∀ t ∈ foundP a, φ s = φ t → s = t
  out : ∀ s ∈ foundP a, outP b (φ s) = (outP a s).map fun x => ⟨φ s, x.Event, φ x.To⟩
  ma : ∀ s ∈ foundP a, (φ s ∈ b.Marked ↔ s ∈ a.Marked)
section
variable {F : List Int} {φ : Int → Int} (inj : ∀ s ∈ F, ∀ t ∈ F, φ s = φ t → s = t)
include inj
end
section
variable {a b : api_Automaton} {φ : Int → Int} (ha : Right a) (hb : Right b) (h : Like a b φ)
include ha h
theorem found_succ {s : Int} (hs : s ∈ foundP a) : ∀ t ∈ succP a s, t ∈ foundP a := (found_spec ha).2.2 s hs
theorem start_found : ∀ s ∈ (if 0 < a.States then [0] else ([] : List Int)), s ∈ foundP a := fun s hs => (found_spec ha).2.1.subset hs
include hb
theorem alike_range : ∀ s ∈ foundP a, 0 ≤ φ s ∧ φ s < b.States := by
  have : ∀ s ∈ foundP a, s ∈ foundP a ∧ 0 ≤ φ s ∧ φ s < b.States := by
    refine bfs_least (P := fun s => s ∈ foundP a ∧ 0 ≤ φ s ∧ φ s < b.States) ?_ _ _ _ ?_
    · rintro s ⟨h1, h2⟩ t ht
      refine ⟨found_succ ha h h1 t ht, ?_⟩
      obtain ⟨x, hx, rfl⟩ := List.mem_map.1 ht
      have : (⟨φ s, x.Event, φ x.To⟩ : api_Edge) ∈ outP b (φ s) := by rw [h.out s h1]; exact List.mem_map.2 ⟨x, hx, rfl⟩
      have := hb.ed0 _ (List.mem_filter.1 this).1
      simp only at this; omega
    · intro s hs
      refine ⟨start_found ha h s hs, ?_⟩
      split at hs
      · rename_i h0
        simp at hs; subst hs
        have := h.st.2 h0
        rw [h.zero h0]; omega
      · simp at hs
  exact fun s hs => (this s hs).2
end
theorem edgesP_out {a : api_Automaton} {F : List Int} : ∀ (l : List Int) (k j : Nat) (s : Int), l[j]? = some s → (edgesP a F k l).filter (fun x => x.From == ((k + j : Nat) : Int)) = rowP a F (k + j) s
  | [], k, j, s, h => by simp at h
  | s' :: l, k, j, s, h => by
    simp only [edgesP, List.filter_append]
    cases j with
    | zero =>
      simp at h; subst h
      have e1 : (rowP a F k s').filter (fun x => x.From == ((k + 0 : Nat) : Int)) = rowP a F k s' := List.filter_eq_self.2 fun x hx => by
        obtain ⟨y, _, rfl⟩ := List.mem_map.1 hx; simp
      have e2 : (edgesP a F (k + 1) l).filter (fun x => x.From == ((k + 0 : Nat) : Int)) = [] := List.filter_eq_nil_iff.2 fun x hx => by
        have := (edgesP_from x hx).1; simp; omega
      rw [e1, e2]; simp
    | succ j =>
      simp at h
      have e1 : (rowP a F k s').filter (fun x => x.From == ((k + (j + 1) : Nat) : Int)) = [] := List.filter_eq_nil_iff.2 fun x hx => by
        obtain ⟨y, _, rfl⟩ := List.mem_map.1 hx; simp; omega
      have := edgesP_out (a := a) (F := F) l (k + 1) j s h
      rw [e1, List.nil_append, show k + (j + 1) = k + 1 + j from by omega, this]
theorem mem_marksP {m : List Int} : ∀ (l : List Int) (k : Nat) (x : Int), x ∈ marksP m k l ↔ ∃ j s, l[j]? = some s ∧ s ∈ m ∧ x = ((k + j : Nat) : Int)
  | [], k, x => by simp [marksP]
  | s' :: l, k, x => by
    simp only [marksP, List.mem_append]
    rw [mem_marksP l (k + 1) x]
    constructor
    · rintro (h | ⟨j, s, h1, h2, h3⟩)
      · split at h
        · rename_i hm; simp at h; exact ⟨0, s', by simp, hm, by simpa using h⟩
        · simp at h
      · exact ⟨j + 1, s, by simpa using h1, h2, by rw [h3]; congr 1; omega⟩
    · rintro ⟨j, s, h1, h2, h3⟩
      cases j with
      | zero => simp at h1; subst h1; left; rw [if_pos h2]; simpa using h3
      | succ j => right; exact ⟨j, s, by simpa using h1, h2, by rw [h3]; congr 1; omega⟩
theorem idxOf_get {l : List Int} {s : Int} (h : s ∈ l) : l[l.idxOf s]? = some s := by
  have hlt := List.idxOf_lt_length_iff.2 h
  rw [List.getElem?_eq_getElem hlt, List.getElem_idxOf hlt]
theorem idxOf_inj {l : List Int} {s t : Int} (hs : s ∈ l) (ht : t ∈ l) (h : l.idxOf s = l.idxOf t) : s = t := by
  have h1 := idxOf_get hs
  rw [h, idxOf_get ht] at h1
  exact (Option.some.inj h1).symm
theorem canon_alike {a : api_Automaton} (ha : Right a) : Like a (canonP a) (fun s => ((foundP a).idxOf s : Int)) := by
  obtain ⟨hF, hpre, hcl⟩ := found_spec ha
  refine ⟨rfl, ?_, ?_, ?_, ?_, ?_⟩
  · simp only [canonP]
    constructor
    · intro h
      have := hF.len; omega
    · intro h
      rw [if_pos h] at hpre
      have := hpre.length_le; simp at this; omega
  · intro h
    rw [if_pos h] at hpre
    obtain ⟨r, hr⟩ := hpre
    rw [← hr]; simp
  · intro s hs t ht h
    exact idxOf_inj hs ht (by omega)
  · intro s hs
    have := edgesP_out (a := a) (F := foundP a) (foundP a) 0 ((foundP a).idxOf s) s (idxOf_get hs)
    unfold outP canonP
    simp only [Nat.zero_add] at this
    simp only
    rw [this]; rfl
  · intro s hs
    show _ ∈ marksP a.Marked 0 (foundP a) ↔ _
    rw [mem_marksP]
    constructor
    · rintro ⟨j, t, h1, h2, h3⟩
      have h4 : (foundP a).idxOf s = j := by omega
      rw [← h4, idxOf_get hs] at h1
      cases h1; exact h2
    · exact fun h => ⟨_, s, idxOf_get hs, h, by simp⟩
theorem stepP_out (a : api_Automaton) (s e : Int) : stepP a s e = match (outP a s).find? (fun x => x.Event == e) with | some x => x.To | none => -1 := by
  unfold stepP outP; rw [List.find?_filter]
  have : (fun x : api_Edge => decide ((x.From == s) = true ∧ (x.Event == e) = true)) = fun x => x.From == s && x.Event == e := by
    funext x; rw [Bool.eq_iff_iff]; simp
  rw [this]; rfl
section
variable {a b : api_Automaton} {φ : Int → Int} (ha : Right a) (hb : Right b) (h : Like a b φ)
include ha h
theorem alike_step {s : Int} (hs : s ∈ foundP a) (e : Int) : stepP b (φ s) e = if 0 ≤ stepP a s e then φ (stepP a s e) else -1 := by
  rw [stepP_out b, h.out s hs, List.find?_map]
  have hr := stepP_range ha s e
  rw [stepP_out a] at hr ⊢
  have e1 : ((fun x : api_Edge => x.Event == e) ∘ fun x : api_Edge => (⟨φ s, x.Event, φ x.To⟩ : api_Edge)) = fun x => x.Event == e := rfl
  rw [e1]
  cases hf : (outP a s).find? (fun x => x.Event == e) with
  | none => simp
  | some x =>
    rw [hf] at hr
    simp only [Option.map_some]
    have hx := List.mem_of_find?_eq_some hf
    unfold outP at hx
    have := (ha.ed0 x (List.mem_filter.1 hx).1).2.2.1
    rw [if_pos this]
omit h in
theorem step_found {s e : Int} (hs : s ∈ foundP a) (h0 : 0 ≤ stepP a s e) : stepP a s e ∈ foundP a := by
  rw [stepP_out] at h0 ⊢
  cases hf : (outP a s).find? (fun x => x.Event == e) with
  | none => rw [hf] at h0; simp at h0
  | some x => exact (found_spec ha).2.2 s hs x.To (List.mem_map.2 ⟨x, List.mem_of_find?_eq_some hf, rfl⟩)
end
end Go.Abs
end
section
namespace Go.Abs
open Go
set_option linter.unusedSimpArgs false
set_option linter.unusedVariables false
def runP (a : api_Automaton) : Int → Nat → List Int → Int × Int
  | s, n, [] => (s, n)
  | s, n, e :: w => if 0 ≤ stepP a s e then runP a (stepP a s e) (n + 1) w else (s, n)
section
variable {a : api_Automaton} (h : Right a)
include h
theorem follow_ok {s : Int} {w : List Int} (h0 : -1000000 < s) (h1 : s < 1000000) (hw : w.length < big) : g_automaton_follow a s w = some (runP a s 0 w) := by
  have hs := h.small.1
  have hst := h.st
  have hb : w.length < 1000000000000 := hw
  unfold g_automaton_follow f_automaton_follow
  obtain ⟨fuel, hfu, hge⟩ : ∃ f, fuel0 = f ∧ 1099511627776 ≤ f := ⟨_, rfl, Nat.le_refl _⟩
  rw [hfu]
  refine (iterF_inv (len := w.length) (fun n (s : Int) => (s, (n : Int))) (fun n s => -1000000 < s ∧ s < 1000000) (fun n s => some (runP a s n (w.drop n))) ?_ ?_ fuel 0 s (Nat.zero_le _) (by omega) ⟨h0, h1⟩).trans (by simp)
  · intro k n s hn ⟨k1, k2⟩ ih
    dsimp only
    rw [if_pos (by omega), getO_nat hn]
    simp only [Option.bind_some]
    rw [next_ok h hs (by omega) (by omega)]
    simp only [Option.bind_some]
    rw [List.drop_eq_getElem_cons hn, runP]
    rcases stepP_range h s w[n] with hr | hr
    · rw [if_pos (by omega), if_neg (by omega)]
    · rw [if_neg (by omega), if_pos hr.1, wrap_succ (by omega)]
      exact ih _ ⟨by omega, by omega⟩
  · intro k s _
    dsimp only
    rw [if_neg (by omega)]; simp [runP]
def genP (a : api_Automaton) (w : List Int) : Bool := decide (0 < a.States) && (runP a 0 0 w).2 == (w.length : Int)
def accP (a : api_Automaton) (w : List Int) : Bool := genP a w && decide ((runP a 0 0 w).1 ∈ a.Marked)
theorem generates_ok {w : List Int} (hw : w.length < big) : g_automaton_Generates a w = some (genP a w, 0) := by
  have hst := h.st
  unfold g_automaton_Generates f_automaton_Generates g_automaton_reached f_automaton_reached
  rw [check_right h, follow_ok h (by omega) (by omega) hw]
  unfold genP
  by_cases h0 : a.States = 0
  · simp [h0]
  · have : 0 < a.States := by omega
    simp [h0, this]
theorem accepts_ok {w : List Int} (hw : w.length < big) : g_automaton_Accepts a w = some (accP a w, 0) := by
  have hst := h.st
  unfold g_automaton_Accepts f_automaton_Accepts g_automaton_reached f_automaton_reached
  rw [check_right h, follow_ok h (by omega) (by omega) hw]
  unfold accP genP
  by_cases h0 : a.States = 0
  · simp [h0]
  · have hp : 0 < a.States := by omega
    simp only [Option.bind_some, h0, beq_iff_eq, if_false, bne_self_eq_false, Bool.false_eq_true, hp, decide_true, Bool.true_and]
    rw [contains_ok h.small.1.2.1]
    by_cases hq : (runP a 0 0 w).2 = (w.length : Int) <;> simp [hq]
end
end Go.Abs
end
section
namespace Go.Abs
open Go
set_option linter.unusedSimpArgs false
set_option linter.unusedVariables false
section
variable {a b : api_Automaton} {φ : Int → Int} (ha : Right a) (hb : Right b) (h : Like a b φ)
include ha hb h
theorem alike_run : ∀ (w : List Int) (s : Int) (n : Nat), s ∈ foundP a → runP b (φ s) n w = (φ (runP a s n w).1, (runP a s n w).2) ∧ (runP a s n w).1 ∈ foundP a
  | [], s, n, hs => ⟨rfl, hs⟩
  | e :: w, s, n, hs => by
    simp only [runP]
    rw [alike_step ha h hs]
    by_cases h0 : 0 ≤ stepP a s e
    · have hm := step_found ha hs h0
      have hr := (alike_range ha hb h _ hm).1
      rw [if_pos h0, if_pos h0, if_pos hr]
      exact alike_run w _ (n + 1) hm
    · rw [if_neg h0, if_neg h0, if_neg (by omega)]
      exact ⟨rfl, hs⟩
theorem zero_found (h0 : 0 < a.States) : 0 ∈ foundP a := by
  have := (found_spec ha).2.1
  rw [if_pos h0] at this
  exact this.subset (by simp)
theorem alike_gen (w : List Int) : genP b w = genP a w := by
  unfold genP
  by_cases h0 : 0 < a.States
  · have h1 := h.st.2 h0
    have := (alike_run ha hb h w 0 0 (zero_found ha hb h h0)).1
    rw [h.zero h0] at this
    simp [h0, h1, this]
  · have h1 : ¬ 0 < b.States := fun hh => h0 (h.st.1 hh)
    simp [h0, h1]
theorem alike_acc (w : List Int) : accP b w = accP a w := by
  unfold accP
  rw [alike_gen ha hb h]
  by_cases h0 : 0 < a.States
  · have h1 := h.st.2 h0
    obtain ⟨k1, k2⟩ := alike_run ha hb h w 0 0 (zero_found ha hb h h0)
    rw [h.zero h0] at k1
    rw [k1]
    simp only
    have := h.ma _ k2
    rw [decide_eq_decide.2 this]
  · unfold genP; simp [h0]
end
theorem canon_gen {a : api_Automaton} (ha : Right a) (w : List Int) : genP (canonP a) w = genP a w := alike_gen ha (canonP_right ha) (canon_alike ha) w
theorem canon_acc {a : api_Automaton} (ha : Right a) (w : List Int) : accP (canonP a) w = accP a w := alike_acc ha (canonP_right ha) (canon_alike ha) w
theorem run_take {a : api_Automaton} : ∀ (w : List Int) (s : Int) (n k : Nat), (runP a s n w).2 = (n + w.length : Nat) → (runP a s n (w.take k)).2 = (n + (w.take k).length : Nat)
  | [], s, n, k, h => by simp [runP]
  | e :: w, s, n, 0, h => by simp [runP]
  | e :: w, s, n, k + 1, h => by
    simp only [List.take_succ_cons, runP] at h ⊢
    split at h
    · rename_i h0
      rw [if_pos h0]
      have := run_take (a := a) w (stepP a s e) (n + 1) k (by rw [h]; simp only [List.length_cons]; omega)
      rw [this]; simp only [List.length_cons]; omega
    · simp only [List.length_cons] at h; omega
theorem gen_take {a : api_Automaton} {w : List Int} (h : genP a w = true) (k : Nat) : genP a (w.take k) = true := by
  unfold genP at h ⊢
  simp only [Bool.and_eq_true, decide_eq_true_eq, beq_iff_eq] at h ⊢
  refine ⟨h.1, ?_⟩
  have := run_take (a := a) w 0 0 k (by rw [h.2]; simp)
  rw [this]; simp
theorem acc_gen {a : api_Automaton} {w : List Int} (h : accP a w = true) : genP a w = true := by
  unfold accP at h; simp only [Bool.and_eq_true] at h; exact h.1
theorem edges_len {a : api_Automaton} {F : List Int} : ∀ (l : List Int) (i : Nat), l.Nodup → (edgesP a F i l).length ≤ (a.Edges.filter fun x => decide (x.From ∈ l)).length
  | [], i, _ => by simp [edgesP]
  | s :: l, i, hn => by
    have hn := List.nodup_cons.1 hn
    simp only [edgesP, List.length_append]
    have ih := edges_len (a := a) (F := F) l (i + 1) hn.2
    have h1 : (rowP a F i s).length = (a.Edges.filter fun x => x.From == s).length := by simp [rowP, outP]
    have h2 : a.Edges.filter (fun x => decide (x.From ∈ s :: l)) = a.Edges.filter (fun x => x.From == s || decide (x.From ∈ l)) := by
      congr 1; funext x; rw [Bool.eq_iff_iff]; simp
    rw [h1, h2]
    have h3 : ∀ L : List api_Edge, (L.filter (fun x => x.From == s)).length + (L.filter fun x => decide (x.From ∈ l)).length = (L.filter (fun x => x.From == s || decide (x.From ∈ l))).length := by
      intro L
      induction L with
      | nil => simp
      | cons x L ih =>
        by_cases hx : x.From = s
        · have : ¬ x.From ∈ l := by rw [hx]; exact hn.1
          simp [hx, hn.1] at ih ⊢; omega
        · by_cases hm : x.From ∈ l <;> simp [hx, hm] at ih ⊢ <;> omega
    have := h3 a.Edges
    omega
theorem canon_size {a : api_Automaton} (ha : Right a) : (canonP a).States ≤ a.States ∧ (canonP a).Edges.length ≤ a.Edges.length := by
  have hF := (found_spec ha).1
  have := hF.len
  have hst := ha.st
  refine ⟨by simp only [canonP]; omega, ?_⟩
  exact Nat.le_trans (edges_len _ _ hF.nd) (List.length_filter_le _ _)
end Go.Abs
end
section
namespace Go.Abs
open Go
set_option linter.unusedSimpArgs false
set_option linter.unusedVariables false
theorem bfs_succ {a : api_Automaton} {fuel i : Nat} {o : List Int} (hi : i < o.length) : bfs a (fuel + 1) i o = bfs a fuel (i + 1) ((succP a o[i]).foldl ins o) := by
  conv => lhs; unfold bfs
  rw [List.getElem?_eq_getElem hi]
theorem bfs_end {a : api_Automaton} {fuel : Nat} {o : List Int} : bfs a fuel o.length o = o := by
  cases fuel with
  | zero => rfl
  | succ n => unfold bfs; simp
section
variable {a : api_Automaton} (h : Right a)
include h
theorem rowP_len {F : List Int} {i : Nat} {s : Int} : (rowP a F i s).length ≤ 32 := by
  have := h.small.2.1
  have h1 : (rowP a F i s).length = ((outP a s).map (·.Event)).length := by simp [rowP]
  rw [h1, outP_events h]
  exact Nat.le_trans (List.length_filter_le _ _) this
end
end Go.Abs
end
section
namespace Go.Abs
open Go
set_option linter.unusedSimpArgs false
set_option linter.unusedVariables false
theorem less_ok (x y : Int) : g_cmp_Less_int x y = some (decide (x < y)) := by
  unfold g_cmp_Less_int f_cmp_Less_int g_cmp_isNaN_int f_cmp_isNaN_int
  simp
theorem isNaN_ok (x : Int) : g_slices_isNaN_int x = some false := by
  unfold g_slices_isNaN_int f_slices_isNaN_int
  simp
theorem rise_mono {l : List Int} (h : l.Pairwise (· < ·)) (v : Int) : l.Pairwise fun a b => decide (b < v) = true → decide (a < v) = true :=
  h.imp fun h => by simp; omega
theorem search_ok {l : List Int} {v : Int} (hs : l.Pairwise (· < ·)) (hl : l.length < big) : ∃ n, g_slices_BinarySearch_int l v = some (n, decide (v ∈ l)) := by
  have hc := fun n h => count_mono (p := fun x : Int => decide (x < v)) (rise_mono hs v) n h
  have hcl : (l.filter fun x => decide (x < v)).length ≤ l.length := List.length_filter_le _ _
  generalize (l.filter fun x => decide (x < v)).length = c at hc hcl
  have hb : l.length < 1000000000000 := hl
  unfold g_slices_BinarySearch_int f_slices_BinarySearch_int
  obtain ⟨fuel, hfu, hge⟩ : ∃ f, fuel0 = f ∧ 1099511627776 ≤ f := ⟨_, rfl, Nat.le_refl _⟩
  rw [hfu]
  have hloop := iterF_rule (F := fun (k5 : Int × Int → Option Int) ((i3, j4) : Int × Int) => (if (i3 < j4) then ((getO l (IntKind.wrap .i64 (Int.fdiv (IntKind.wrap .u64 (IntKind.wrap .i64 (i3 + j4))) (2 ^ (min (Int.toNat 1) (IntKind.bits .u64)))))).bind fun x7 => ((g_cmp_Less_int x7 v).bind fun x10 => (if x10 then k5 ((IntKind.wrap .i64 ((IntKind.wrap .i64 (Int.fdiv (IntKind.wrap .u64 (IntKind.wrap .i64 (i3 + j4))) (2 ^ (min (Int.toNat 1) (IntKind.bits .u64))))) + 1)), j4) else k5 (i3, (IntKind.wrap .i64 (Int.fdiv (IntKind.wrap .u64 (IntKind.wrap .i64 (i3 + j4))) (2 ^ (min (Int.toNat 1) (IntKind.bits .u64))))))))) else some i3))
    (fun x => ∃ i j : Nat, x = ((i : Int), (j : Int)) ∧ i ≤ c ∧ c ≤ j ∧ j ≤ l.length) (fun x => (x.2 - x.1).toNat) (fun _ r => r = some (c : Int)) (by
      rintro k _ ⟨i, j, rfl, h1, h2, h3⟩ ih
      dsimp only
      by_cases hij : i < j
      · rw [if_pos (by omega), mid_ok (by omega) (by omega)]
        have hm : (i + j) / 2 < l.length := by omega
        rw [getO_nat hm]
        simp only [Option.bind_some]
        rw [less_ok]
        simp only [Option.bind_some]
        have hcm := hc ((i + j) / 2) hm
        by_cases hlt : l[(i + j) / 2] < v
        · rw [if_pos (by simpa using hlt), wrap_succ (by omega)]
          have : (i + j) / 2 < c := hcm.1 (by simpa using hlt)
          exact ih _ ⟨_, _, rfl, by omega, h2, h3⟩ (by simp only; omega)
        · rw [if_neg (by simpa using hlt)]
          have : ¬ (i + j) / 2 < c := fun h => hlt (by simpa using hcm.2 h)
          exact ih _ ⟨_, _, rfl, h1, by omega, by omega⟩ (by simp only; omega)
      · rw [if_neg (by omega)]
        have : i = c := by omega
        rw [this]) fuel (0, (l.length : Int)) ⟨0, l.length, rfl, by omega, hcl, Nat.le_refl _⟩ (by simp only; omega)
  rw [hloop]
  simp only [Option.bind_some]
  have hmem : v ∈ l ↔ ∃ h : c < l.length, l[c] = v := by
    constructor
    · intro hv
      obtain ⟨j, hj, rfl⟩ := List.getElem_of_mem hv
      have h1 : ¬ j < c := fun h => by have := (hc j hj).2 h; simp at this
      have h2 : c < l.length := by omega
      refine ⟨h2, ?_⟩
      have h3 : ¬ l[c] < l[j] := fun h => by have := (hc c h2).1 (by simpa using h); omega
      rcases Nat.lt_or_ge c j with h | h
      · have := List.pairwise_iff_getElem.1 hs c j h2 hj h; omega
      · have : c = j := by omega
        subst this; rfl
    · rintro ⟨h, rfl⟩; exact List.getElem_mem h
  by_cases hlt : c < l.length
  · rw [if_pos (by omega), getO_nat hlt]
    simp only [Option.bind_some]
    by_cases he : l[c] = v
    · rw [if_pos (by simpa using he)]
      exact ⟨_, by rw [decide_eq_true (hmem.2 ⟨hlt, he⟩)]⟩
    · rw [if_neg (by simpa using he), isNaN_ok]
      exact ⟨_, by rw [decide_eq_false (fun h => he (hmem.1 h).2)]; rfl⟩
  · rw [if_neg (by omega)]
    exact ⟨_, by rw [decide_eq_false (fun h => hlt (hmem.1 h).1)]⟩
theorem clone_ok {l : List Int} (hl : l.length ≤ lim) : g_slices_Clone_int l = some l := by
  unfold g_slices_Clone_int f_slices_Clone_int
  rw [appO_some (by simpa using hl)]
  cases l <;> simp [nilO]
structure Num (a : api_Automaton) (o num : List Int) : Prop where
  len : num.length = a.States.toNat
  at1 : ∀ s : Nat, s < a.States.toNat → num[s]? = some (if (s : Int) ∈ o then (o.idxOf (s : Int) : Int) else -1)
theorem idxOf_pre {o F : List Int} (h : o <+: F) {t : Int} (ht : t ∈ o) : F.idxOf t = o.idxOf t := by
  obtain ⟨r, rfl⟩ := h
  rw [List.idxOf_append, if_pos ht]
theorem Num.get {a : api_Automaton} {o num : List Int} (h : Num a o num) {t : Int} (ht : 0 ≤ t ∧ t < a.States) : getO num t = some (if t ∈ o then (o.idxOf t : Int) else -1) := by
  rw [getO_some]
  refine ⟨ht.1, ?_⟩
  have := h.at1 t.toNat (by omega)
  rwa [show ((t.toNat : Nat) : Int) = t from by omega] at this
theorem Num.set {a : api_Automaton} {o num : List Int} (h : Num a o num) {t : Int} (ht : 0 ≤ t ∧ t < a.States) (hn : t ∉ o) : ∃ num', setO num t (o.length : Int) = some num' ∧ Num a (o ++ [t]) num' := by
  refine ⟨num.set t.toNat (o.length : Int), by unfold setO; rw [if_pos ⟨ht.1, by rw [h.len]; omega⟩], by rw [List.length_set]; exact h.len, fun s hs => ?_⟩
  rw [List.getElem?_set]
  by_cases he : t.toNat = s
  · subst he
    rw [if_pos rfl, if_pos (by rw [h.len]; omega), show ((t.toNat : Nat) : Int) = t from by omega, if_pos (by simp), List.idxOf_append, if_neg hn]
    simp
  · rw [if_neg he, h.at1 s hs]
    have hne : (s : Int) ≠ t := by omega
    by_cases hm : (s : Int) ∈ o
    · rw [if_pos hm, if_pos (by simp [hm]), List.idxOf_append, if_pos hm]
    · rw [if_neg hm, if_neg (by simp [hm, hne])]
section
variable {a : api_Automaton} (h : Right a)
include h
theorem canon_row (fuel : Nat) (hfu : 1099511627776 ≤ fuel) {l : List api_Edge} (hl : l.length ≤ 200000) (hto : ∀ x ∈ l, 0 ≤ x.To ∧ x.To < a.States) {i : Nat} {ms o : List Int} {es : List api_Edge} {num : List Int} (ho : Fnd a o) (hn : Num a o num) (hes : es.length ≤ 200000) :
    ∃ num', Num a ((l.map (·.To)).foldl ins o) num' ∧ iterF (fun (k47 : List Int × Int × List api_Edge × List Int → Option (List Int × List Int × List api_Edge × List Int)) ((order43, x44, r45, c46) : (List Int) × Int × (List api_Edge) × (List Int)) => (if (x44 < (l.length : Int)) then ((getO l x44).bind fun x49 => ((((inO (Int.toNat a.States) x49.To).bind fun u51 => ((getO c46 x49.To).bind fun x53 => (if (x53 < 0) then ((inO (Int.toNat a.States) x49.To).bind fun u56 => ((setO c46 x49.To (order43.length : Int)).bind fun x58 => ((appO order43 [x49.To]).bind fun x60 => some (x60, x58)))) else some (order43, c46))))).bind fun ((order62, c63) : (List Int) × (List Int)) => ((inO (Int.toNat a.States) x49.To).bind fun u64 => ((getO c63 x49.To).bind fun x66 => ((appO r45 [(api_Edge.mk (i : Int) x49.Event x66)]).bind fun x68 => k47 (order62, (IntKind.wrap .i64 (x44 + 1)), x68, c63)))))) else some (order43, ms, r45, c46))) fuel (o, 0, es, num) = some ((l.map (·.To)).foldl ins o, ms, es ++ l.map (fun x => ⟨(i : Int), x.Event, (((l.map (·.To)).foldl ins o).idxOf x.To : Int)⟩), num') := by
  have hst := h.st
  have key := iterF_rule (F := (fun (k47 : List Int × Int × List api_Edge × List Int → Option (List Int × List Int × List api_Edge × List Int)) ((order43, x44, r45, c46) : (List Int) × Int × (List api_Edge) × (List Int)) => (if (x44 < (l.length : Int)) then ((getO l x44).bind fun x49 => ((((inO (Int.toNat a.States) x49.To).bind fun u51 => ((getO c46 x49.To).bind fun x53 => (if (x53 < 0) then ((inO (Int.toNat a.States) x49.To).bind fun u56 => ((setO c46 x49.To (order43.length : Int)).bind fun x58 => ((appO order43 [x49.To]).bind fun x60 => some (x60, x58)))) else some (order43, c46))))).bind fun ((order62, c63) : (List Int) × (List Int)) => ((inO (Int.toNat a.States) x49.To).bind fun u64 => ((getO c63 x49.To).bind fun x66 => ((appO r45 [(api_Edge.mk (i : Int) x49.Event x66)]).bind fun x68 => k47 (order62, (IntKind.wrap .i64 (x44 + 1)), x68, c63)))))) else some (order43, ms, r45, c46))))
    (fun x => ∃ (j : Nat) (o : List Int) (es : List api_Edge) (num : List Int), x = (o, (j : Int), es, num) ∧ j ≤ l.length ∧ Fnd a o ∧ Num a o num ∧ es.length ≤ 200000 + j) (fun x => l.length - x.2.1.toNat)
    (fun x r => ∀ (j : Nat) (o : List Int) (es : List api_Edge) (num : List Int), x = (o, (j : Int), es, num) → ∃ num', Num a (((l.drop j).map (·.To)).foldl ins o) num' ∧ r = some (((l.drop j).map (·.To)).foldl ins o, ms, es ++ (l.drop j).map (fun x => ⟨(i : Int), x.Event, ((((l.drop j).map (·.To)).foldl ins o).idxOf x.To : Int)⟩), num')) (by
      rintro k _ ⟨j, o, es, num, rfl, hj, hf, hnm, hel⟩ ih j' o' es' num' he
      obtain ⟨rfl, he2⟩ := Prod.mk.inj he
      obtain ⟨hjj, he3⟩ := Prod.mk.inj he2
      obtain ⟨rfl, rfl⟩ := Prod.mk.inj he3
      obtain rfl : j = j' := by omega
      have hfl := hf.len
      dsimp only
      by_cases hlt : j < l.length
      · have ht := hto _ (List.getElem_mem hlt)
        rw [if_pos (by omega), getO_nat hlt]
        simp only [Option.bind_some]
        rw [show inO (Int.toNat a.States) l[j].To = some () from by unfold inO; rw [if_pos (by omega)]]
        simp only [Option.bind_some]
        rw [hnm.get ht]
        simp only [Option.bind_some]
        have hfi := hf.ins ht
        have hmem : l[j].To ∈ ins o l[j].To := mem_ins.2 (.inr rfl)
        have hpre : ins o l[j].To <+: ((l.drop (j + 1)).map (·.To)).foldl ins (ins o l[j].To) :=
          (foldl_ins hfi fun t ht' => by obtain ⟨x, hx, rfl⟩ := List.mem_map.1 ht'; exact hto x (List.mem_of_mem_drop hx)).2.1
        rw [List.drop_eq_getElem_cons hlt]
        simp only [List.map_cons, List.foldl_cons]
        by_cases hm : l[j].To ∈ o
        · have e1 : ins o l[j].To = o := by unfold ins; rw [if_pos hm]
          rw [if_pos hm, if_neg (by omega)]
          simp only [Option.bind_some]
          rw [hnm.get ht, if_pos hm]
          simp only [Option.bind_some]
          rw [appO_some (by simp only [List.length_cons, List.length_nil]; unfold lim; omega)]
          simp only [Option.bind_some]
          rw [wrap_succ (by omega)]
          rw [e1] at hpre ⊢
          obtain ⟨num', q1, q2⟩ := ih _ ⟨j + 1, o, es ++ [⟨(i : Int), l[j].Event, (o.idxOf l[j].To : Int)⟩], num, rfl, by omega, hf, hnm, by simp only [List.length_append, List.length_cons, List.length_nil]; omega⟩ (by simp only; omega) (j + 1) _ _ _ rfl
          refine ⟨num', q1, ?_⟩
          rw [q2, idxOf_pre hpre hm]
          simp only [List.append_assoc, List.cons_append, List.nil_append]
        · have e1 : ins o l[j].To = o ++ [l[j].To] := by unfold ins; rw [if_neg hm]
          rw [if_neg hm, if_pos (by omega)]
          obtain ⟨num1, w1, w2⟩ := hnm.set ht hm
          rw [w1]
          simp only [Option.bind_some]
          rw [appO_some (by simp only [List.length_cons, List.length_nil]; unfold lim; omega)]
          simp only [Option.bind_some]
          rw [w2.get ht, if_pos (by simp)]
          simp only [Option.bind_some]
          rw [appO_some (by simp only [List.length_cons, List.length_nil]; unfold lim; omega)]
          simp only [Option.bind_some]
          rw [wrap_succ (by omega)]
          rw [e1] at hpre hfi hmem ⊢
          obtain ⟨num', q1, q2⟩ := ih _ ⟨j + 1, o ++ [l[j].To], es ++ [⟨(i : Int), l[j].Event, ((o ++ [l[j].To]).idxOf l[j].To : Int)⟩], num1, rfl, by omega, hfi, w2, by simp only [List.length_append, List.length_cons, List.length_nil]; omega⟩ (by simp only; omega) (j + 1) _ _ _ rfl
          refine ⟨num', q1, ?_⟩
          rw [q2, idxOf_pre hpre hmem]
          simp only [List.append_assoc, List.cons_append, List.nil_append]
      · rw [if_neg (by omega)]
        obtain rfl : j = l.length := by omega
        exact ⟨num, by simpa using hnm, by simp⟩) fuel (o, 0, es, num) ⟨0, o, es, num, rfl, Nat.zero_le _, ho, hn, by omega⟩ (by simp only; omega) 0 o es num rfl
  obtain ⟨num', q1, q2⟩ := key
  exact ⟨num', by simpa using q1, by simpa using q2⟩
theorem canon_loop (fuel : Nat) (hfu : 1099511627776 ≤ fuel) {num : List Int} (h0 : 0 < a.States) (hn : Num a [0] num) :
    ∃ num', iterF (fun (k28 : List Int × Int × List Int × List Int × List api_Edge × List Int × List api_Edge × List Int → Option (List Int × List Int × List Int × List api_Edge × List Int × List api_Edge × List Int)) ((order20, i21, c22, c23, c24, r25, r26, c27) : (List Int) × Int × (List Int) × (List Int) × (List api_Edge) × (List Int) × (List api_Edge) × (List Int)) => (if (i21 < (order20.length : Int)) then ((((((getO order20 i21).bind fun x30 => ((g_slices_BinarySearch_int a.Marked x30).bind fun (r33, r34) => (if r34 then ((appO r25 [i21]).bind fun x36 => some x36) else some r25)))).bind fun (r38 : List Int) => ((getO order20 i21).bind fun x39 => ((g_automaton_out a x39).bind fun x42 => iterF (fun k47 ((order43, x44, r45, c46) : (List Int) × Int × (List api_Edge) × (List Int)) => (if (x44 < (x42.length : Int)) then ((getO x42 x44).bind fun x49 => ((((inO (Int.toNat a.States) x49.To).bind fun u51 => ((getO c46 x49.To).bind fun x53 => (if (x53 < 0) then ((inO (Int.toNat a.States) x49.To).bind fun u56 => ((setO c46 x49.To (order43.length : Int)).bind fun x58 => ((appO order43 [x49.To]).bind fun x60 => some (x60, x58)))) else some (order43, c46))))).bind fun ((order62, c63) : (List Int) × (List Int)) => ((inO (Int.toNat a.States) x49.To).bind fun u64 => ((getO c63 x49.To).bind fun x66 => ((appO r45 [(api_Edge.mk i21 x49.Event x66)]).bind fun x68 => k47 (order62, (IntKind.wrap .i64 (x44 + 1)), x68, c63)))))) else some (order43, r38, r45, c46))) fuel (order20, 0, r26, c27))))).bind fun ((order70, r71, r72, c73) : (List Int) × (List Int) × (List api_Edge) × (List Int)) => k28 (order70, (IntKind.wrap .i64 (i21 + 1)), c22, c23, c24, r71, r72, c73)) else some (order20, c22, c23, c24, r25, r26, c27))) fuel ([0], 0, [], [], [], [], [], num) = some (foundP a, [], [], [], marksP a.Marked 0 (foundP a), edgesP a (foundP a) 0 (foundP a), num') := by
  have hst := h.st
  have hs := h.small.1
  have hsb := h.small.2
  have key := iterF_rule (F := (fun (k28 : List Int × Int × List Int × List Int × List api_Edge × List Int × List api_Edge × List Int → Option (List Int × List Int × List Int × List api_Edge × List Int × List api_Edge × List Int)) ((order20, i21, c22, c23, c24, r25, r26, c27) : (List Int) × Int × (List Int) × (List Int) × (List api_Edge) × (List Int) × (List api_Edge) × (List Int)) => (if (i21 < (order20.length : Int)) then ((((((getO order20 i21).bind fun x30 => ((g_slices_BinarySearch_int a.Marked x30).bind fun (r33, r34) => (if r34 then ((appO r25 [i21]).bind fun x36 => some x36) else some r25)))).bind fun (r38 : List Int) => ((getO order20 i21).bind fun x39 => ((g_automaton_out a x39).bind fun x42 => iterF (fun k47 ((order43, x44, r45, c46) : (List Int) × Int × (List api_Edge) × (List Int)) => (if (x44 < (x42.length : Int)) then ((getO x42 x44).bind fun x49 => ((((inO (Int.toNat a.States) x49.To).bind fun u51 => ((getO c46 x49.To).bind fun x53 => (if (x53 < 0) then ((inO (Int.toNat a.States) x49.To).bind fun u56 => ((setO c46 x49.To (order43.length : Int)).bind fun x58 => ((appO order43 [x49.To]).bind fun x60 => some (x60, x58)))) else some (order43, c46))))).bind fun ((order62, c63) : (List Int) × (List Int)) => ((inO (Int.toNat a.States) x49.To).bind fun u64 => ((getO c63 x49.To).bind fun x66 => ((appO r45 [(api_Edge.mk i21 x49.Event x66)]).bind fun x68 => k47 (order62, (IntKind.wrap .i64 (x44 + 1)), x68, c63)))))) else some (order43, r38, r45, c46))) fuel (order20, 0, r26, c27))))).bind fun ((order70, r71, r72, c73) : (List Int) × (List Int) × (List api_Edge) × (List Int)) => k28 (order70, (IntKind.wrap .i64 (i21 + 1)), c22, c23, c24, r71, r72, c73)) else some (order20, c22, c23, c24, r25, r26, c27))))
    (fun x => ∃ (i : Nat) (o ms : List Int) (es : List api_Edge) (num : List Int), x = (o, (i : Int), [], [], [], ms, es, num) ∧ i ≤ o.length ∧ Fnd a o ∧ Num a o num ∧ ms.length ≤ i ∧ es.length ≤ 32 * i ∧ (∀ j s, j < i → o[j]? = some s → ∀ t ∈ succP a s, t ∈ o)) (fun x => a.States.toNat + 1 - x.2.1.toNat)
    (fun x r => ∀ (i : Nat) (o ms : List Int) (es : List api_Edge) (num : List Int), x = (o, (i : Int), [], [], [], ms, es, num) → ∃ num', r = some (bfs a (a.States.toNat + 1 - i) i o, [], [], [], ms ++ marksP a.Marked i ((bfs a (a.States.toNat + 1 - i) i o).drop i), es ++ edgesP a (bfs a (a.States.toNat + 1 - i) i o) i ((bfs a (a.States.toNat + 1 - i) i o).drop i), num')) (by
      rintro k _ ⟨i, o, ms, es, num, rfl, hi, hf, hnm, hml, hel, hcl⟩ ih i' o' ms' es' num' he
      obtain ⟨rfl, he2⟩ := Prod.mk.inj he
      obtain ⟨hii, he3⟩ := Prod.mk.inj he2
      obtain ⟨_, he4⟩ := Prod.mk.inj he3
      obtain ⟨_, he5⟩ := Prod.mk.inj he4
      obtain ⟨_, he6⟩ := Prod.mk.inj he5
      obtain ⟨rfl, he7⟩ := Prod.mk.inj he6
      obtain ⟨rfl, rfl⟩ := Prod.mk.inj he7
      obtain rfl : i = i' := by omega
      have hfl := hf.len
      dsimp only
      by_cases hlt : i < o.length
      · have hrg := hf.rg _ (List.getElem_mem hlt)
        rw [if_pos (by omega), getO_nat hlt]
        simp only [Option.bind_some]
        obtain ⟨n, hsr⟩ := search_ok (v := o[i]) h.ma hs.2.1
        rw [hsr]
        simp only [Option.bind_some]
        rw [out_ok h hs (by omega) (by omega)]
        have hto : ∀ x ∈ outP a o[i], 0 ≤ x.To ∧ x.To < a.States := fun x hx => by
          unfold outP at hx
          have := h.ed0 x (List.mem_filter.1 hx).1; omega
        have hol : (outP a o[i]).length ≤ 200000 := Nat.le_trans (List.length_filter_le _ _) (by omega)
        have hrow := rowP_len h (F := o) (i := i) (s := o[i])
        have hrl : (outP a o[i]).length ≤ 32 := by simpa [rowP] using hrow
        obtain ⟨q1, q2, q3, _⟩ := foldl_ins hf (succP_range h o[i])
        have hle := q2.length_le
        have hcl' : ∀ j s, j < i + 1 → ((succP a o[i]).foldl ins o)[j]? = some s → ∀ t ∈ succP a s, t ∈ (succP a o[i]).foldl ins o := by
          intro j s hj hs' t ht
          by_cases hji : j < i
          · have hjl : j < o.length := by omega
            have : o[j]? = some s := by
              have := prefix_get q2 (List.getElem?_eq_getElem hjl)
              rw [hs'] at this; rw [List.getElem?_eq_getElem hjl]; exact this.symm
            exact q2.subset (hcl j s hji this t ht)
          · obtain rfl : j = i := by omega
            have := prefix_get q2 (List.getElem?_eq_getElem hlt)
            rw [hs'] at this; cases this
            exact q3 t ht
        have hF := bfs_spec h (a.States.toNat + 1 - (i + 1)) (i + 1) ((succP a o[i]).foldl ins o) q1 (by omega) (by omega) hcl'
        have hget : (bfs a (a.States.toNat + 1 - (i + 1)) (i + 1) ((succP a o[i]).foldl ins o))[i]? = some o[i] := prefix_get (q2.trans hF.2.1) (List.getElem?_eq_getElem hlt)
        rw [show a.States.toNat + 1 - i = (a.States.toNat + 1 - (i + 1)) + 1 from by omega, bfs_succ hlt]
        have hdrop : (bfs a (a.States.toNat + 1 - (i + 1)) (i + 1) ((succP a o[i]).foldl ins o)).drop i = o[i] :: (bfs a (a.States.toNat + 1 - (i + 1)) (i + 1) ((succP a o[i]).foldl ins o)).drop (i + 1) := by
          obtain ⟨w1, w2⟩ := List.getElem?_eq_some_iff.1 hget
          rw [List.drop_eq_getElem_cons w1, w2]
        rw [hdrop]
        simp only [marksP, edgesP]
        have hidx : ∀ x ∈ outP a o[i], (bfs a (a.States.toNat + 1 - (i + 1)) (i + 1) ((succP a o[i]).foldl ins o)).idxOf x.To = ((succP a o[i]).foldl ins o).idxOf x.To := fun x hx =>
          idxOf_pre hF.2.1 (q3 x.To (List.mem_map.2 ⟨x, hx, rfl⟩))
        have hrow2 : rowP a (bfs a (a.States.toNat + 1 - (i + 1)) (i + 1) ((succP a o[i]).foldl ins o)) i o[i] = (outP a o[i]).map fun x => ⟨(i : Int), x.Event, (((succP a o[i]).foldl ins o).idxOf x.To : Int)⟩ :=
          List.map_congr_left fun x hx => by rw [hidx x hx]
        rw [hrow2]
        generalize hFe : bfs a (a.States.toNat + 1 - (i + 1)) (i + 1) ((succP a o[i]).foldl ins o) = F at *
        have hstep : ∀ ms1 : List Int, ms1.length ≤ i + 1 → ∃ num', (Option.bind (iterF (fun (k47 : List Int × Int × List api_Edge × List Int → Option (List Int × List Int × List api_Edge × List Int)) ((order43, x44, r45, c46) : (List Int) × Int × (List api_Edge) × (List Int)) => (if (x44 < ((outP a o[i]).length : Int)) then ((getO (outP a o[i]) x44).bind fun x49 => ((((inO (Int.toNat a.States) x49.To).bind fun u51 => ((getO c46 x49.To).bind fun x53 => (if (x53 < 0) then ((inO (Int.toNat a.States) x49.To).bind fun u56 => ((setO c46 x49.To (order43.length : Int)).bind fun x58 => ((appO order43 [x49.To]).bind fun x60 => some (x60, x58)))) else some (order43, c46))))).bind fun ((order62, c63) : (List Int) × (List Int)) => ((inO (Int.toNat a.States) x49.To).bind fun u64 => ((getO c63 x49.To).bind fun x66 => ((appO r45 [(api_Edge.mk (i : Int) x49.Event x66)]).bind fun x68 => k47 (order62, (IntKind.wrap .i64 (x44 + 1)), x68, c63)))))) else some (order43, ms1, r45, c46))) fuel (o, 0, es, num)) fun x => k (x.1, IntKind.wrap .i64 ((i : Int) + 1), [], [], [], x.2.1, x.2.2.1, x.2.2.2)) = some (F, [], [], [], ms1 ++ marksP a.Marked (i + 1) (F.drop (i + 1)), (es ++ (outP a o[i]).map (fun x => ⟨(i : Int), x.Event, (((succP a o[i]).foldl ins o).idxOf x.To : Int)⟩)) ++ edgesP a F (i + 1) (F.drop (i + 1)), num') := by
          intro ms1 hms1
          obtain ⟨num1, n1, n2⟩ := canon_row h fuel hfu hol hto (ms := ms1) (i := i) hf hnm (es := es) (by omega)
          rw [n2]
          simp only [Option.bind_some]
          rw [wrap_succ (by omega)]
          have hel2 : (es ++ (outP a o[i]).map (fun x => (⟨(i : Int), x.Event, (((succP a o[i]).foldl ins o).idxOf x.To : Int)⟩ : api_Edge))).length ≤ 32 * (i + 1) := by simp only [List.length_append, List.length_map]; omega
          have hfin := ih _ ⟨i + 1, (succP a o[i]).foldl ins o, ms1, _, num1, rfl, by omega, q1, n1, hms1, hel2, hcl'⟩ (by simp only; omega) (i + 1) _ ms1 _ num1 rfl
          rw [hFe] at hfin
          exact hfin
        by_cases hm : o[i] ∈ a.Marked
        · simp only [hm, decide_true, if_true]
          rw [appO_some (by simp only [List.length_cons, List.length_nil]; unfold lim; omega)]
          simp only [Option.bind_some]
          obtain ⟨num1, n1⟩ := hstep (ms ++ [(i : Int)]) (by simp only [List.length_append, List.length_cons, List.length_nil]; omega)
          refine ⟨num1, Eq.trans ?_ (n1.trans ?_)⟩
          · rfl
          · simp only [List.append_assoc]
        · simp only [hm, decide_false, Bool.false_eq_true, if_false, Option.bind_some]
          obtain ⟨num1, n1⟩ := hstep ms (by omega)
          refine ⟨num1, Eq.trans ?_ (n1.trans ?_)⟩
          · rfl
          · simp only [List.append_assoc, List.nil_append]
      · rw [if_neg (by omega)]
        obtain rfl : i = o.length := by omega
        rw [bfs_end]
        exact ⟨num, by simp [marksP, edgesP]⟩) fuel ([0], 0, [], [], [], [], [], num) ⟨0, [0], [], [], num, rfl, by simp, ⟨by simp, fun s hs => by simp at hs; omega⟩, hn, by simp, by simp, fun j s hj => by omega⟩ (by simp only; omega) 0 [0] [] [] num rfl
  obtain ⟨num', hk⟩ := key
  refine ⟨num', ?_⟩
  rw [hk]
  simp [foundP, h0]
theorem canonical_form : g_automaton_canonical a = some (canonP a) := by
  have hst := h.st
  have hsb := h.small.2
  unfold g_automaton_canonical f_automaton_canonical
  obtain ⟨fuel, hfu, hge⟩ : ∃ f, fuel0 = f ∧ 1099511627776 ≤ f := ⟨_, rfl, Nat.le_refl _⟩
  rw [hfu, clone_ok (by unfold lim; omega), Option.bind_some]
  by_cases h0 : a.States = 0
  · rw [if_pos (by simpa using h0)]
    unfold canonP foundP
    rw [if_neg (by omega)]
    rw [h0]; rfl
  · rw [if_neg (by simpa using h0), show mkO a.States (0 : Int) = some (List.replicate a.States.toNat 0) from by unfold mkO; rw [if_pos ⟨by omega, by unfold lim; omega⟩], Option.bind_some]
    have hfill := iterF_inv (len := a.States.toNat) (F := fun (k9 : Int × List Int → Option (List Int)) ((x7, c8) : Int × (List Int)) => (if (x7 < ((Int.toNat a.States) : Int)) then ((inO (Int.toNat a.States) x7).bind fun u11 => ((setO c8 x7 (-1)).bind fun x13 => k9 ((IntKind.wrap .i64 (x7 + 1)), x13))) else some c8))
      (fun n (c : List Int) => ((n : Int), c)) (fun n c => c.length = a.States.toNat ∧ c.take n = List.replicate n (-1)) (fun _ _ => some (List.replicate a.States.toNat (-1))) (by
        rintro k n c hn ⟨k1, k2⟩ ih
        dsimp only
        rw [if_pos (by omega), show inO (Int.toNat a.States) (n : Int) = some () from by unfold inO; rw [if_pos (by omega)], Option.bind_some, show setO c (n : Int) (-1) = some (c.set n (-1)) from by unfold setO; rw [if_pos ⟨by omega, by rw [k1]; simpa using hn⟩]; rfl, Option.bind_some, wrap_succ (by omega)]
        refine ih _ ⟨by rw [List.length_set]; exact k1, ?_⟩
        rw [List.take_add_one, List.take_set_of_le (Nat.le_refl _), k2, List.getElem?_set_self (by omega)]
        rw [List.replicate_succ']; rfl) (by
        rintro k c ⟨k1, k2⟩
        dsimp only
        rw [if_neg (by omega)]
        rw [← k1, List.take_length, k1] at k2
        rw [k2]) fuel 0 (List.replicate a.States.toNat 0) (Nat.zero_le _) (by omega) ⟨by simp, by simp⟩
    refine (congrArg (fun w => Option.bind w _) hfill).trans ?_
    rw [Option.bind_some, show inO (Int.toNat a.States) 0 = some () from by unfold inO; rw [if_pos (by omega)], Option.bind_some]
    have hn : Num a [0] ((List.replicate a.States.toNat (-1)).set 0 0) := ⟨by simp, fun s hs => by
      rw [List.getElem?_set]
      cases s with
      | zero => simp; omega
      | succ s => simp [hs]; omega⟩
    rw [show setO (List.replicate a.States.toNat (-1 : Int)) 0 0 = some ((List.replicate a.States.toNat (-1)).set 0 0) from by unfold setO; rw [if_pos ⟨by omega, by simp; omega⟩]; rfl, Option.bind_some]
    obtain ⟨num', hk⟩ := canon_loop h fuel hge (by omega) hn
    rw [hk]
    rfl
end
end Go.Abs
end
section
namespace Go.Abs
open Go
theorem known_ok : g_overseerlaw03_known = some true := by kernel_rfl
theorem few_ok (a : api_Automaton) : g_overseerlaw03_few a = some (decide (a.Alphabet.length ≤ 12 ∧ a.Marked.length ≤ 12 ∧ a.Edges.length ≤ 12)) := by
  unfold g_overseerlaw03_few f_overseerlaw03_few
  by_cases h1 : a.Alphabet.length ≤ 12
  · rw [if_pos (by omega)]
    by_cases h2 : a.Marked.length ≤ 12
    · rw [if_pos (by omega)]; congr 1; apply decide_eq_decide.2; omega
    · rw [if_neg (by omega)]; simp [h2]
  · rw [if_neg (by omega)]; simp [h1]
end Go.Abs
end
section
namespace Go.Abs
open Go
set_option linter.unusedSimpArgs false
set_option linter.unusedVariables false
theorem Canonical_ok {a : api_Automaton} (h : Right a) : g_automaton_Canonical a = some (canonP a, 0) := by
  unfold g_automaton_Canonical f_automaton_Canonical
  rw [check_right h, canonical_form h]; rfl
theorem automatonLanguages_ok (a : api_Automaton) (w : List Int) : g_overseerlaw03_AutomatonLanguages a w = some true := by
  unfold g_overseerlaw03_AutomatonLanguages f_overseerlaw03_AutomatonLanguages
  obtain ⟨fuel, hfu, hge⟩ : ∃ f, fuel0 = f ∧ 1099511627776 ≤ f := ⟨_, rfl, Nat.le_refl _⟩
  rw [hfu, known_ok, few_ok]
  simp only [Option.bind_some, if_true]
  by_cases h1 : a.Alphabet.length ≤ 12 ∧ a.Marked.length ≤ 12 ∧ a.Edges.length ≤ 12
  · have hs : small a := ⟨by unfold big; omega, by unfold big; omega, by unfold big; omega⟩
    rw [refCheck_ok hs]
    by_cases h2 : a.States > 64
    · simp [h1, h2]
    by_cases h3 : checkErr a = 0
    · have h := right_iff.1 h3
      have hc := canonP_right h
      obtain ⟨z1, z2⟩ := canon_size h
      by_cases h4 : (w.length : Int) > 8
      · simp [h1, h2, h3, h4]
      have hw : w.length < big := by unfold big; omega
      rw [Canonical_ok h]
      simp only [Option.bind_some]
      rw [generates_ok h hw, generates_ok hc hw, accepts_ok h hw, accepts_ok hc hw, canon_gen h, canon_acc h]
      have e1 : ¬ (canonP a).States > a.States := by omega
      have e2 : ¬ ((canonP a).Edges.length : Int) > (a.Edges.length : Int) := by omega
      have e3 : (if accP a w = true then some (!genP a w) else some false) = some false := by
        by_cases hq : accP a w = true
        · rw [if_pos hq, acc_gen hq]; rfl
        · rw [if_neg hq]
      have hloop : iterF (fun k46 (k45 : Int) => (if (k45 < (w.length : Int)) then ((slcO w 0 k45).bind fun x48 => ((g_automaton_Generates a x48).bind fun (r51, r52) => (((if (r52 != 0) then some true else (if genP a w then some (!r51) else some false))).bind fun (x55 : Bool) => (if x55 then some false else k46 (IntKind.wrap .i64 (k45 + 1)))))) else some true)) fuel 0 = some true := by
        refine iterF_idx (len := w.length) (fun _ => some true) (by omega) ?_ ?_
        · intro k i hi ih
          rw [if_pos (by omega), show slcO w 0 (i : Int) = some ((w.take i).drop 0) from slcO_nat (Nat.zero_le _) (by omega)]
          simp only [Option.bind_some, List.drop_zero]
          have hl : (w.take i).length < big := by rw [List.length_take]; omega
          rw [generates_ok h hl]
          simp only [Option.bind_some, bne_self_eq_false, Bool.false_eq_true, if_false]
          have e4 : (if genP a w = true then some (!genP a (w.take i)) else some false) = some false := by
            by_cases hq : genP a w = true
            · rw [if_pos hq, gen_take hq]; rfl
            · rw [if_neg hq]
          rw [e4]
          simp only [Option.bind_some, Bool.false_eq_true, if_false]
          rw [wrap_succ (by omega)]; exact ih
        · intro k; rw [if_neg (by omega)]
      simp only [Option.bind_some, h1, and_self, decide_true, if_true, h2, if_false, h3, bne_self_eq_false, Bool.false_eq_true, h4, decide_false, e1, e2, beq_self_eq_true, e3]
      exact hloop
    · simp [h1, h2, h3]
  · simp [h1]
end Go.Abs
end
