/-
  Part 7 of the proof: see the last text.
-/
import Derived.Test.YtkikefkbidaiaaaP6
import Derived.KernelRfl
set_option linter.unusedVariables false
set_option linter.unusedSimpArgs false
set_option linter.unusedSectionVars false
section
namespace Go.Abs
open Go
set_option linter.unusedSimpArgs false
set_option linter.unusedVariables false
structure Evs (l : List Int) : Prop where
  rg : ∀ x ∈ l, 0 ≤ x ∧ x < 5
  so : l.Pairwise (· < ·)
theorem Evs.len {l : List Int} (h : Evs l) : l.length ≤ 5 := by have := sorted_len h.so h.rg; simpa using this
def riseB : List Int → Bool
  | [] => true
  | x :: xs => xs.all (fun y => decide (x < y)) && riseB xs
theorem riseB_iff : ∀ {l : List Int}, riseB l = true → l.Pairwise (· < ·)
  | [], _ => .nil
  | x :: xs, h => by
    simp only [riseB, Bool.and_eq_true, List.all_eq_true, decide_eq_true_eq] at h
    exact List.pairwise_cons.2 ⟨h.1, riseB_iff h.2⟩
def evB (s : Nat) : Bool := match g_overseerlaw03_Set_Events (s : Int) with
  | some l => riseB l && l.all fun x => decide (0 ≤ x) && decide (x < 5)
  | none => false
theorem evB_all : (List.range 256).all evB = true := by kernel_rfl
theorem events_ok {s : Int} (h0 : 0 ≤ s) (h1 : s < 256) : ∃ l, g_overseerlaw03_Set_Events s = some l ∧ Evs l := by
  have := List.all_eq_true.1 evB_all s.toNat (List.mem_range.2 (by omega))
  unfold evB at this
  rw [show ((s.toNat : Nat) : Int) = s from by omega] at this
  split at this
  · rename_i l hl
    simp only [Bool.and_eq_true, List.all_eq_true, decide_eq_true_eq] at this
    exact ⟨l, hl, fun x hx => this.2 x hx, riseB_iff this.1⟩
  · cases this
structure Mks (n : Nat) (ms : List Int) : Prop where
  rg : ∀ x ∈ ms, 0 ≤ x ∧ x < n
  so : ms.Pairwise (· < ·)
structure Eds (al : List Int) (N : Int) (i k : Nat) (es : List api_Edge) : Prop where
  rg : ∀ x ∈ es, 0 ≤ x.From ∧ 0 ≤ x.To ∧ x.To < N ∧ x.Event ∈ al ∧ (x.From < i ∨ x.From = i ∧ ∃ j : Nat, j < k ∧ al[j]? = some x.Event)
  so : es.Pairwise keyLt
  ln : es.length ≤ 5 * i + k
theorem Mks.up {n : Nat} {ms : List Int} (h : Mks n ms) : Mks (n + 1) ms := ⟨fun x hx => by have := h.rg x hx; omega, h.so⟩
theorem Mks.add {n : Nat} {ms : List Int} (h : Mks n ms) : Mks (n + 1) (ms ++ [(n : Int)]) := by
  refine ⟨fun x hx => ?_, ?_⟩
  · rcases List.mem_append.1 hx with hx | hx
    · have := h.rg x hx; omega
    · simp at hx; omega
  · rw [List.pairwise_append]
    exact ⟨h.so, by simp, fun x hx y hy => by simp at hy; have := h.rg x hx; omega⟩
theorem Mks.len {n : Nat} {ms : List Int} (h : Mks n ms) : ms.length ≤ n := by have := sorted_len h.so h.rg; simpa using this
section
variable {al : List Int} (hal : Evs al) {N : Int} {i k : Nat} {es : List api_Edge}
theorem Eds.up (h : Eds al N i k es) : Eds al N i (k + 1) es := ⟨fun x hx => by
  obtain ⟨h1, h2, h3, h4, h5⟩ := h.rg x hx
  refine ⟨h1, h2, h3, h4, ?_⟩
  rcases h5 with h5 | ⟨h5, j, h6, h7⟩
  · exact .inl h5
  · exact .inr ⟨h5, j, by omega, h7⟩, h.so, by have := h.ln; omega⟩
theorem Eds.next (h : Eds al N i k es) (hk : k ≤ 5) : Eds al N (i + 1) 0 es := ⟨fun x hx => by
  obtain ⟨h1, h2, h3, h4, h5⟩ := h.rg x hx
  exact ⟨h1, h2, h3, h4, .inl (by rcases h5 with h5 | ⟨h5, _⟩ <;> omega)⟩, h.so, by have := h.ln; omega⟩
include hal in
theorem Eds.add (h : Eds al N i k es) (hk : k < al.length) {t : Int} (ht : 0 ≤ t ∧ t < N) : Eds al N i (k + 1) (es ++ [⟨(i : Int), al[k], t⟩]) := by
  refine ⟨fun x hx => ?_, ?_, by have := h.ln; simp only [List.length_append, List.length_cons, List.length_nil]; omega⟩
  · rcases List.mem_append.1 hx with hx | hx
    · exact h.up.rg x hx
    · simp at hx; subst hx
      exact ⟨by simp only; omega, ht.1, ht.2, List.getElem_mem hk, .inr ⟨rfl, k, by omega, List.getElem?_eq_getElem hk⟩⟩
  · rw [List.pairwise_append]
    refine ⟨h.so, by simp, fun x hx y hy => ?_⟩
    simp at hy; subst hy
    obtain ⟨_, _, _, _, h5⟩ := h.rg x hx
    rcases h5 with h5 | ⟨h5, j, h6, h7⟩
    · exact .inl h5
    · refine .inr ⟨h5, ?_⟩
      obtain ⟨h8, h9⟩ := List.getElem?_eq_some_iff.1 h7
      rw [← h9]
      exact List.pairwise_iff_getElem.1 hal.so j k h8 hk h6
end
structure GraphW (g : overseerlaw03_Graph) : Prop where
  st : 0 ≤ g.States ∧ g.States < 256
  to : ∀ x ∈ [g.To.1.1, g.To.1.2.1, g.To.1.2.2.1, g.To.1.2.2.2.1, g.To.1.2.2.2.2, g.To.2.1.1, g.To.2.1.2.1, g.To.2.1.2.2.1, g.To.2.1.2.2.2.1, g.To.2.1.2.2.2.2, g.To.2.2.1.1, g.To.2.2.1.2.1, g.To.2.2.1.2.2.1, g.To.2.2.1.2.2.2.1, g.To.2.2.1.2.2.2.2, g.To.2.2.2.1.1, g.To.2.2.2.1.2.1, g.To.2.2.2.1.2.2.1, g.To.2.2.2.1.2.2.2.1, g.To.2.2.2.1.2.2.2.2, g.To.2.2.2.2.1, g.To.2.2.2.2.2.1, g.To.2.2.2.2.2.2.1, g.To.2.2.2.2.2.2.2.1, g.To.2.2.2.2.2.2.2.2], 0 ≤ x ∧ x < 256
theorem make_row {al : List Int} (hal : Evs al) (fuel : Nat) (hfu : 1099511627776 ≤ fuel) {L : List Int} (hL : L.length = 25) (hL2 : ∀ x ∈ L, 0 ≤ x ∧ x < 256) {N : Int} (hN : 1 ≤ N ∧ N ≤ 5) {i : Nat} (hi : (i : Int) < N) {ms : List Int} {es : List api_Edge} (hes : Eds al N i 0 es) :
    ∃ es', Eds al N (i + 1) 0 es' ∧ iterF (fun (k25 : Int × List api_Edge → Option (List Int × List api_Edge)) ((k23, a24) : Int × (List api_Edge)) => (((if (k23 < (al.length : Int)) then some (decide (k23 < 5)) else some false)).bind fun (x27 : Bool) => (if x27 then ((((inO 5 (i : Int)).bind fun _ => ((inO 5 k23).bind fun _ => ((rowO L (Int.toNat (i : Int) * 5 + Int.toNat k23 * 1)).bind fun x31 => ((remO .i64 (IntKind.wrap .i64 x31) (IntKind.wrap .i64 (N + 2))).bind fun s33 => (if (s33 < N) then ((getO al k23).bind fun x36 => ((appO a24 [(api_Edge.mk (i : Int) x36 s33)]).bind fun x38 => some x38)) else some a24)))))).bind fun (a40 : List api_Edge) => k25 ((IntKind.wrap .i64 (k23 + 1)), a40)) else some (ms, a24)))) fuel (0, es) = some (ms, es') := by
  have hl := hal.len
  have := iterF_rule (F := fun (k25 : Int × List api_Edge → Option (List Int × List api_Edge)) ((k23, a24) : Int × (List api_Edge)) => (((if (k23 < (al.length : Int)) then some (decide (k23 < 5)) else some false)).bind fun (x27 : Bool) => (if x27 then ((((inO 5 (i : Int)).bind fun _ => ((inO 5 k23).bind fun _ => ((rowO L (Int.toNat (i : Int) * 5 + Int.toNat k23 * 1)).bind fun x31 => ((remO .i64 (IntKind.wrap .i64 x31) (IntKind.wrap .i64 (N + 2))).bind fun s33 => (if (s33 < N) then ((getO al k23).bind fun x36 => ((appO a24 [(api_Edge.mk (i : Int) x36 s33)]).bind fun x38 => some x38)) else some a24)))))).bind fun (a40 : List api_Edge) => k25 ((IntKind.wrap .i64 (k23 + 1)), a40)) else some (ms, a24))))
    (fun x => ∃ k : Nat, x.1 = (k : Int) ∧ k ≤ al.length ∧ Eds al N i k x.2) (fun x => al.length - x.1.toNat) (fun _ r => ∃ es', r = some (ms, es') ∧ Eds al N (i + 1) 0 es') (by
      rintro kk ⟨k, es⟩ ⟨k, rfl, hk, he⟩ ih
      replace he : Eds al N i k es := he
      replace hk : k ≤ al.length := hk
      dsimp only
      by_cases hlt : k < al.length
      · rw [if_pos (by omega)]
        simp only [Option.bind_some, show decide ((k : Int) < 5) = true from by simp; omega, if_true]
        rw [show inO 5 (i : Int) = some () from by unfold inO; rw [if_pos (by omega)], show inO 5 (k : Int) = some () from by unfold inO; rw [if_pos (by omega)]]
        simp only [Option.bind_some, Int.toNat_natCast]
        have hidx : i * 5 + k * 1 < L.length := by omega
        have hx := hL2 _ (List.getElem_mem hidx)
        rw [show rowO L (i * 5 + k * 1) = some L[i * 5 + k * 1] from by unfold rowO; exact List.getElem?_eq_getElem hidx]
        simp only [Option.bind_some]
        rw [wrap_id (x := L[i * 5 + k * 1]) (by omega) (by omega), wrap_id (x := N + 2) (by omega) (by omega), show remO .i64 L[i * 5 + k * 1] (N + 2) = some (L[i * 5 + k * 1].tmod (N + 2)) from by unfold remO; rw [if_neg (by omega)]]
        simp only [Option.bind_some]
        have hmod : 0 ≤ L[i * 5 + k * 1].tmod (N + 2) := Int.tmod_nonneg _ hx.1
        have hln := he.ln
        by_cases hm : L[i * 5 + k * 1].tmod (N + 2) < N
        · rw [if_pos hm, getO_nat hlt]
          simp only [Option.bind_some]
          rw [appO_some (by simp only [List.length_cons, List.length_nil]; unfold lim; omega)]
          simp only [Option.bind_some]
          rw [wrap_succ (by omega)]
          exact ih _ ⟨k + 1, rfl, hlt, he.add hal hlt ⟨hmod, hm⟩⟩ (by simp only; omega)
        · rw [if_neg hm]
          simp only [Option.bind_some]
          rw [wrap_succ (by omega)]
          exact ih _ ⟨k + 1, rfl, hlt, he.up⟩ (by simp only; omega)
      · rw [if_neg (by omega)]
        exact ⟨es, rfl, he.next (by omega)⟩) fuel (0, es) ⟨0, rfl, Nat.zero_le _, hes⟩ (by simp only; omega)
  obtain ⟨es', h1, h2⟩ := this
  exact ⟨es', h2, h1⟩
theorem empty_right {al : List Int} (hal : Evs al) : Right ⟨al, 0, [], []⟩ :=
  ⟨fun x hx => by have := hal.rg x hx; omega, hal.so, ⟨by simp, by simp⟩, by simp, .nil, by simp, .nil⟩
theorem canon_empty {al : List Int} : canonP ⟨al, 0, [], []⟩ = ⟨al, 0, [], []⟩ := rfl
theorem make_ok {al : List Int} (hal : Evs al) {g : overseerlaw03_Graph} (hg : GraphW g) : ∃ m, Right m ∧ m.Alphabet = al ∧ g_overseerlaw03_Make al g = some (canonP m) := by
  have hl := hal.len
  obtain ⟨hst, hto⟩ := hg
  unfold g_overseerlaw03_Make f_overseerlaw03_Make
  obtain ⟨fuel, hfu, hge⟩ : ∃ f, fuel0 = f ∧ 1099511627776 ≤ f := ⟨_, rfl, Nat.le_refl _⟩
  rw [hfu, empty_ok (by unfold lim; omega)]
  simp only [Option.bind_some]
  by_cases h250 : g.States ≥ 250
  · rw [if_pos h250]
    exact ⟨⟨al, 0, [], []⟩, empty_right hal, rfl, rfl⟩
  rw [if_neg h250]
  have hL : [g.To.1.1, g.To.1.2.1, g.To.1.2.2.1, g.To.1.2.2.2.1, g.To.1.2.2.2.2, g.To.2.1.1, g.To.2.1.2.1, g.To.2.1.2.2.1, g.To.2.1.2.2.2.1, g.To.2.1.2.2.2.2, g.To.2.2.1.1, g.To.2.2.1.2.1, g.To.2.2.1.2.2.1, g.To.2.2.1.2.2.2.1, g.To.2.2.1.2.2.2.2, g.To.2.2.2.1.1, g.To.2.2.2.1.2.1, g.To.2.2.2.1.2.2.1, g.To.2.2.2.1.2.2.2.1, g.To.2.2.2.1.2.2.2.2, g.To.2.2.2.2.1, g.To.2.2.2.2.2.1, g.To.2.2.2.2.2.2.1, g.To.2.2.2.2.2.2.2.1, g.To.2.2.2.2.2.2.2.2].length = 25 := rfl
  generalize [g.To.1.1, g.To.1.2.1, g.To.1.2.2.1, g.To.1.2.2.2.1, g.To.1.2.2.2.2, g.To.2.1.1, g.To.2.1.2.1, g.To.2.1.2.2.1, g.To.2.1.2.2.2.1, g.To.2.1.2.2.2.2, g.To.2.2.1.1, g.To.2.2.1.2.1, g.To.2.2.1.2.2.1, g.To.2.2.1.2.2.2.1, g.To.2.2.1.2.2.2.2, g.To.2.2.2.1.1, g.To.2.2.2.1.2.1, g.To.2.2.2.1.2.2.1, g.To.2.2.2.1.2.2.2.1, g.To.2.2.2.1.2.2.2.2, g.To.2.2.2.2.1, g.To.2.2.2.2.2.1, g.To.2.2.2.2.2.2.1, g.To.2.2.2.2.2.2.2.1, g.To.2.2.2.2.2.2.2.2] = L at hto hL ⊢
  have hmod : 0 ≤ g.States.tmod 5 ∧ g.States.tmod 5 < 5 := ⟨Int.tmod_nonneg _ hst.1, Int.tmod_lt_of_pos _ (by omega)⟩
  have hN : 1 ≤ IntKind.wrap .i64 (1 + (IntKind.wrap .i64 (Int.tmod g.States 5))) ∧ IntKind.wrap .i64 (1 + (IntKind.wrap .i64 (Int.tmod g.States 5))) ≤ 5 := by
    rw [wrap_id (x := g.States.tmod 5) (by omega) (by omega), wrap_id (by omega) (by omega)]; omega
  generalize IntKind.wrap .i64 (1 + (IntKind.wrap .i64 (Int.tmod g.States 5))) = N at hN ⊢
  have hloop := iterF_rule (F := (fun (k15 : Int × List Int × List Int × List api_Edge × Int × List Int × List api_Edge → Option (List Int × List Int × List api_Edge × Int × List Int × List api_Edge)) ((i8, c9, c10, c11, a12, a13, a14) : Int × (List Int) × (List Int) × (List api_Edge) × Int × (List Int) × (List api_Edge)) => (if (i8 < a12) then ((((((shrO .u8 g.Marks i8).bind fun s17 => (if ((andI .u8 s17 1) == 1) then ((appO a13 [i8]).bind fun x20 => some x20) else some a13))).bind fun (a22 : List Int) => iterF (fun k25 ((k23, a24) : Int × (List api_Edge)) => (((if (k23 < (al.length : Int)) then some (decide (k23 < 5)) else some false)).bind fun (x27 : Bool) => (if x27 then ((((inO 5 i8).bind fun _ => ((inO 5 k23).bind fun _ => ((rowO L (Int.toNat i8 * 5 + Int.toNat k23 * 1)).bind fun x31 => ((remO .i64 (IntKind.wrap .i64 x31) (IntKind.wrap .i64 (a12 + 2))).bind fun s33 => (if (s33 < a12) then ((getO al k23).bind fun x36 => ((appO a24 [(api_Edge.mk i8 x36 s33)]).bind fun x38 => some x38)) else some a24)))))).bind fun (a40 : List api_Edge) => k25 ((IntKind.wrap .i64 (k23 + 1)), a40)) else some (a22, a24)))) fuel (0, a14))).bind fun ((a41, a42) : (List Int) × (List api_Edge)) => k15 ((IntKind.wrap .i64 (i8 + 1)), c9, c10, c11, a12, a41, a42)) else some (c9, c10, c11, a12, a13, a14))))
    (fun x => ∃ (i : Nat) (ms : List Int) (es : List api_Edge), x = ((i : Int), [], [], [], N, ms, es) ∧ (i : Int) ≤ N ∧ Mks i ms ∧ Eds al N i 0 es) (fun x => (N - x.1).toNat)
    (fun _ r => ∃ (i : Nat) (ms : List Int) (es : List api_Edge), r = some ([], [], [], N, ms, es) ∧ (i : Int) = N ∧ Mks i ms ∧ Eds al N i 0 es) (by
      rintro k _ ⟨i, ms, es, rfl, hi, hm, he⟩ ih
      dsimp only
      by_cases hlt : (i : Int) < N
      · rw [if_pos hlt, show shrO .u8 g.Marks (i : Int) = some (g.Marks.fdiv (2 ^ (min (Int.toNat (i : Int)) (IntKind.bits .u8)))) from by unfold shrO; rw [if_neg (by omega)]]
        simp only [Option.bind_some]
        have hml := hm.len
        by_cases hb : (andI .u8 (g.Marks.fdiv (2 ^ (min (Int.toNat (i : Int)) (IntKind.bits .u8)))) 1 == 1) = true
        · rw [if_pos hb, appO_some (by simp only [List.length_cons, List.length_nil]; unfold lim; omega)]
          simp only [Option.bind_some]
          obtain ⟨es', h1, h2⟩ := make_row hal fuel hge hL hto hN hlt (ms := ms ++ [(i : Int)]) he
          rw [h2]
          simp only [Option.bind_some]
          rw [wrap_succ (by omega)]
          exact ih _ ⟨i + 1, _, _, rfl, by omega, hm.add, h1⟩ (by simp only; omega)
        · rw [if_neg hb]
          simp only [Option.bind_some]
          obtain ⟨es', h1, h2⟩ := make_row hal fuel hge hL hto hN hlt (ms := ms) he
          rw [h2]
          simp only [Option.bind_some]
          rw [wrap_succ (by omega)]
          exact ih _ ⟨i + 1, _, _, rfl, by omega, hm.up, h1⟩ (by simp only; omega)
      · rw [if_neg hlt]
        exact ⟨i, ms, es, rfl, by omega, hm, he⟩) fuel (0, [], [], [], N, [], []) ⟨0, [], [], rfl, by omega, ⟨by simp, .nil⟩, ⟨by simp, .nil, by simp⟩⟩ (by simp only; omega)
  obtain ⟨i, ms, es, h1, h2, h3, h4⟩ := hloop
  rw [h1]
  simp only [Option.bind_some]
  have hr : Right ⟨al, N, ms, es⟩ := ⟨fun x hx => by have := hal.rg x hx; omega, hal.so, ⟨by simp only; omega, by simp only; omega⟩, fun x hx => by have := h3.rg x hx; simp only; omega, h3.so, fun x hx => by
    obtain ⟨k1, k2, k3, k4, k5⟩ := h4.rg x hx
    refine ⟨k1, ?_, k2, k3, k4⟩
    rcases k5 with k5 | ⟨_, j, k6, _⟩
    · simp only; omega
    · omega, h4.so⟩
  rw [refCanonical_ok hr]
  exact ⟨_, hr, rfl, rfl⟩
end Go.Abs
end
section
namespace Go.Abs
open Go
theorem known_ok : g_overseerlaw03_known = some true := by kernel_rfl
theorem same_loop {α : Type} [DecidableEq α] {s t : List α} {ne : α → α → Bool} (hne : ∀ x y, ne x y = decide (x ≠ y)) (hl : s.length = t.length) (h : s.length < 1000000000000) :
    iterF (fun k5 (i4 : Int) => (if (i4 < (s.length : Int)) then ((getO s i4).bind fun x7 => ((getO t i4).bind fun x9 => (if ne x7 x9 then some false else k5 (IntKind.wrap .i64 (i4 + 1))))) else some true)) fuel0 0 = some (decide (s = t)) := by
  refine iterF_to (fun i : Int => ∃ n : Nat, i = n ∧ n ≤ s.length ∧ s.take n = t.take n) (fun i => s.length - i.toNat) _ ⟨0, rfl, by omega, by simp⟩ (by unfold fuel0; omega) ?_
  rintro k _ ⟨n, rfl, hn, he⟩ ih
  by_cases hlt : n < s.length
  · rw [if_pos (by omega), getO_nat hlt, getO_nat (by omega : n < t.length)]
    simp only [Option.bind_some, hne]
    by_cases hx : s[n] = t[n]
    · rw [if_neg (by simp [hx]), wrap_succ (by omega)]
      exact ih _ ⟨n + 1, rfl, by omega, take_eq_succ hlt (by omega) he hx⟩ (by omega)
    · rw [if_pos (by simp [hx])]
      have : s ≠ t := fun e => hx (by subst e; rfl)
      simp [this]
  · rw [if_neg (by omega)]
    have e : n = s.length := by omega
    have : s = t := by
      rw [e, List.take_length, hl, List.take_length] at he; exact he
    simp [this]
theorem edge_ne (x y : api_Edge) : (!((x.From == y.From) && ((x.Event == y.Event) && ((x.To == y.To) && true)))) = decide (x ≠ y) := by
  cases x; cases y
  simp only [api_Edge.mk.injEq, Bool.and_true, ne_eq, decide_not]
  congr 1
  rw [Bool.eq_iff_iff]; simp
theorem equal_int {s t : List Int} (h : s.length < 1000000000000) : g_slices_Equal_int s t = some (decide (s = t)) := by
  unfold g_slices_Equal_int f_slices_Equal_int
  by_cases hl : s.length = t.length
  · rw [if_neg (by simp [hl])]
    exact same_loop (ne := fun x y => x != y) (fun x y => by rw [Bool.eq_iff_iff]; simp) hl h
  · rw [if_pos (by simp; omega)]
    have : s ≠ t := fun e => hl (by rw [e])
    simp [this]
theorem sameInts {s t : List Int} (h : s.length < 1000000000000) : g_overseerref03_SameInts s t = some (decide (s = t)) := equal_int h
theorem if_not {R : Type} (b : Bool) (A B : R) : (if b then A else B) = if (!b) then B else A := by cases b <;> rfl
theorem equal_edge {s t : List api_Edge} (h : s.length < 1000000000000) : g_slices_Equal_Edge s t = some (decide (s = t)) := by
  unfold g_slices_Equal_Edge f_slices_Equal_Edge
  by_cases hl : s.length = t.length
  · rw [if_neg (by simp [hl])]
    have := same_loop (ne := fun x y => !((x.From == y.From) && ((x.Event == y.Event) && ((x.To == y.To) && true)))) edge_ne hl h
    simp only [← if_not] at this
    exact this
  · rw [if_pos (by simp; omega)]
    have : s ≠ t := fun e => hl (by rw [e])
    simp [this]
theorem equal_ok {a b : api_Automaton} (h : small a) : g_automaton_Equal a b = some (decide (a = b)) := by
  unfold g_automaton_Equal f_automaton_Equal
  rw [equal_int h.1, equal_int h.2.1, equal_edge h.2.2]
  obtain ⟨al, s, m, e⟩ := a
  obtain ⟨al', s', m', e'⟩ := b
  simp only [Option.bind_some, api_Automaton.mk.injEq]
  by_cases h1 : s = s' <;> by_cases h2 : al = al' <;> by_cases h3 : m = m' <;> by_cases h4 : e = e' <;> simp [h1, h2, h3, h4]
theorem same_ok {a b : api_Automaton} (h : small a) : g_overseerref03_Same a b = some (decide (a = b)) := by
  unfold g_overseerref03_Same f_overseerref03_Same
  rw [sameInts h.1, sameInts h.2.1]
  obtain ⟨al, s, m, e⟩ := a
  obtain ⟨al', s', m', e'⟩ := b
  have hlen : e.length ≠ e'.length → ¬ e = e' := fun h k => h (by rw [k])
  have hlen2 : ((e.length : Int) != (e'.length : Int)) = decide (e.length ≠ e'.length) := by
    rw [Bool.eq_iff_iff]; simp; omega
  by_cases hl : e.length = e'.length
  · have := same_loop (ne := fun x y => !((x.From == y.From) && ((x.Event == y.Event) && ((x.To == y.To) && true)))) edge_ne hl h.2.2
    simp only [← if_not] at this
    rw [this]
    simp only [Option.bind_some, api_Automaton.mk.injEq, hlen2]
    by_cases h1 : s = s' <;> by_cases h2 : al = al' <;> by_cases h3 : m = m' <;> simp [h1, h2, h3, hl]
  · generalize iterF _ fuel0 0 = L
    simp only [Option.bind_some, api_Automaton.mk.injEq, hlen2]
    by_cases h1 : s = s' <;> by_cases h2 : al = al' <;> by_cases h3 : m = m' <;> simp [h1, h2, h3, hl, hlen hl]
theorem few_ok (a : api_Automaton) : g_overseerlaw03_few a = some (decide (a.Alphabet.length ≤ 12 ∧ a.Marked.length ≤ 12 ∧ a.Edges.length ≤ 12)) := by
  unfold g_overseerlaw03_few f_overseerlaw03_few
  by_cases h1 : a.Alphabet.length ≤ 12
  · rw [if_pos (by omega)]
    by_cases h2 : a.Marked.length ≤ 12
    · rw [if_pos (by omega)]; congr 1; apply decide_eq_decide.2; omega
    · rw [if_neg (by omega)]; simp [h2]
  · rw [if_neg (by omega)]; simp [h1]
end Go.Abs
end
section
namespace Go.Abs
open Go
set_option linter.unusedSimpArgs false
theorem automatonSteps_ok (s : Int) (g : overseerlaw03_Graph) (at2 : Int × Int) (hs : 0 ≤ s ∧ s < 256) (hg : GraphW g) : g_overseerlaw03_AutomatonSteps s g at2 = some true := by
  unfold g_overseerlaw03_AutomatonSteps f_overseerlaw03_AutomatonSteps
  obtain ⟨al, hE, hal⟩ := events_ok hs.1 hs.2
  obtain ⟨m, hm, _, hM⟩ := make_ok hal hg
  have ha := canonP_right hm
  rw [known_ok]
  simp only [Option.bind_some, if_true]
  rw [hE]
  simp only [Option.bind_some]
  rw [show (overseerlaw03_Graph.mk g.States g.Marks ((g.To.1.1, g.To.1.2.1, g.To.1.2.2.1, g.To.1.2.2.2.1, g.To.1.2.2.2.2), (g.To.2.1.1, g.To.2.1.2.1, g.To.2.1.2.2.1, g.To.2.1.2.2.2.1, g.To.2.1.2.2.2.2), (g.To.2.2.1.1, g.To.2.2.1.2.1, g.To.2.2.1.2.2.1, g.To.2.2.1.2.2.2.1, g.To.2.2.1.2.2.2.2), (g.To.2.2.2.1.1, g.To.2.2.2.1.2.1, g.To.2.2.2.1.2.2.1, g.To.2.2.2.1.2.2.2.1, g.To.2.2.2.1.2.2.2.2), (g.To.2.2.2.2.1, g.To.2.2.2.2.2.1, g.To.2.2.2.2.2.2.1, g.To.2.2.2.2.2.2.2.1, g.To.2.2.2.2.2.2.2.2))) = g from rfl, hM]
  simp only [Option.bind_some]
  generalize canonP m = a at ha
  rw [step_ok ha, enabled_ok ha]
  have hsm := ha.small.1
  by_cases h1 : 0 ≤ at2.1 ∧ at2.1 < a.States
  · have hl : ((outP a at2.1).map (·.Event)).length < 1000000000000 := by
      rw [List.length_map]; exact Nat.lt_of_le_of_lt (List.length_filter_le _ _) hsm.2.2
    rw [refEnabled_ok ha]
    simp only [if_pos h1, Option.bind_some]
    rw [sameInts hl, Has_ok hsm.1, refStep_ok hsm]
    have h2 : ¬ at2.1 < 0 := by omega
    have h3 : ¬ at2.1 ≥ a.States := by omega
    simp only [h2, h3, if_false, decide_false, Option.bind_some, Bool.false_eq_true, decide_true, if_true, bne_self_eq_false]
    by_cases h4 : at2.2 ∈ a.Alphabet
    · by_cases h5 : 0 ≤ stepP a at2.1 at2.2
      · have h6 : ¬ stepP a at2.1 at2.2 < 0 := by omega
        simp [h4, h5, h6]
      · have h6 : stepP a at2.1 at2.2 < 0 := by omega
        simp [h4, h5, h6]
    · simp [h4]
  · simp only [if_neg h1, Option.bind_some]
    by_cases h2 : at2.1 < 0
    · simp [h2]
    · have h3 : at2.1 ≥ a.States := by omega
      simp [h2, h3]
end Go.Abs
end
section
namespace Go.Proofs
open Go Go.Abs
theorem wf_u8 {x : Int} (h : wfI .u8 x) : 0 ≤ x ∧ x < 256 := by
  unfold wfI at h
  simp [Lit.wf, IntKind.min, IntKind.max, IntKind.bits, IntKind.signed] at h
  omega
theorem graph_wf {g : overseerlaw03_Graph} (h : W_26 g) : GraphW g := by
  unfold W_26 W_24 W_23 W_5 at h
  obtain ⟨h1, h2, ⟨a1, a2, a3, a4, a5⟩, ⟨b1, b2, b3, b4, b5⟩, ⟨c1, c2, c3, c4, c5⟩, ⟨d1, d2, d3, d4, d5⟩, ⟨e1, e2, e3, e4, e5⟩⟩ := h
  refine ⟨wf_u8 h1, fun x hx => ?_⟩
  simp only [List.mem_cons, List.not_mem_nil, or_false] at hx
  rcases hx with rfl | rfl | rfl | rfl | rfl | rfl | rfl | rfl | rfl | rfl | rfl | rfl | rfl | rfl | rfl | rfl | rfl | rfl | rfl | rfl | rfl | rfl | rfl | rfl | rfl <;> exact wf_u8 (by assumption)
end Go.Proofs
end
