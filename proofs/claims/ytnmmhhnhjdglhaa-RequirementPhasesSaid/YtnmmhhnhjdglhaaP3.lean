/-
  Part 3 of the proof: see the last text.
-/
import Derived.Test.YtnmmhhnhjdglhaaP2
import Derived.Sort.Grow
set_option linter.unusedVariables false
set_option linter.unusedSimpArgs false
set_option linter.unusedSectionVars false
section
namespace Go.Abs
open Go
set_option linter.unusedVariables false
set_option linter.unusedSimpArgs false
set_option linter.unusedSectionVars false
mutual
def frzV (k : Nat) (ds : List D) : V → V
  | .und => .und
  | .d x => .d x
  | .agg cs => .agg (frzVs k ds cs)
  | .tup cs => .tup (frzVs k ds cs)
  | .own sz l => .own sz l
  | .ptr k' o => if k' = k then .cref (ds.drop o) else .ptr k' o
  | .nilp => .nilp
  | .f x => .f x
  | .nils sz => .nils sz
  | .cref cs => .cref cs
  | .sl sz k' o n c => if k' = k then (if o + n * sz ≤ ds.length ∧ n ≤ c then .d (.lst sz (chunks sz n ((ds.drop o).take (n * sz)))) else .und) else .sl sz k' o n c
  | .clo f cs => .clo f (frzVs k ds cs)
  | .mp k' => if k' = k then .und else .mp k'
def frzVs (k : Nat) (ds : List D) : List V → List V
  | [] => []
  | v :: vs => frzV k ds v :: frzVs k ds vs
end
theorem frzVs_map (k : Nat) (ds : List D) : ∀ vs, frzVs k ds vs = vs.map (frzV k ds)
  | [] => rfl
  | v :: vs => by simp [frzVs, frzVs_map k ds vs]
mutual
theorem on_frz {p : Nat → Prop} (k : Nat) (ds : List D) : ∀ v : V, v.on p → (frzV k ds v).on fun j => p j ∧ j ≠ k
  | .und, _ => trivial
  | .d _, _ => trivial
  | .agg cs, h => ons_frz k ds cs h
  | .tup cs, h => ons_frz k ds cs h
  | .own .., _ => trivial
  | .ptr k' o, h => by
    simp only [frzV]; split
    · trivial
    · rename_i hne; exact ⟨h, hne⟩
  | .nilp, _ => trivial
  | .f _, _ => trivial
  | .nils _, _ => trivial
  | .cref _, _ => trivial
  | .sl sz k' o n c, h => by
    simp only [frzV]; split
    · split <;> trivial
    · rename_i hne; exact ⟨h, hne⟩
  | .clo _ cs, h => ons_frz k ds cs h
  | .mp k', h => by
    simp only [frzV]; split
    · trivial
    · rename_i hne; exact ⟨h, hne⟩
theorem ons_frz {p : Nat → Prop} (k : Nat) (ds : List D) : ∀ vs : List V, V.ons p vs → V.ons (fun j => p j ∧ j ≠ k) (frzVs k ds vs)
  | [], _ => trivial
  | v :: vs, h => ⟨on_frz k ds v h.1, ons_frz k ds vs h.2⟩
end
theorem RDc_drop {imm : Nat → Nat → Prop} {w : World} {b : Nat} : ∀ (j : Nat) {ds : List D} {o : Nat}, RDc imm w b ds o → RDc imm w b (ds.drop j) (o + j)
  | 0, _, _, h => h
  | j + 1, [], o, h => by simp [RDc]
  | j + 1, d :: ds, o, h => by
    simp only [RDc] at h
    have := RDc_drop j h.2.2
    rw [show o + 1 + j = o + (j + 1) from by omega] at this
    simpa using this
def G.frz (g : G) (k n : Nat) [DecidablePred fun b => b = g.box k] : G := ⟨g.box, fun b o => g.imm b o ∨ (b = g.box k ∧ o < n), fun b => if b = g.box k then .ext else g.own b⟩
section
variable {g : G} {w : World} {k : Nat} {ds : List D} (hB : g.own (g.box k) = .box k) (hD : RDc (g.frz k ds.length).imm w (g.box k) ds 0)
include hB hD
theorem imm_frz : Imm g.imm (g.frz k ds.length).imm w w := ⟨fun _ _ h => .inl h, fun _ _ _ => rfl⟩
mutual
theorem RV_frz : ∀ (v : V) (ℓ : Owner) (u : Value), ℓ ≠ .box k → RV g w v ℓ u → RV (g.frz k ds.length) w (frzV k ds v) ℓ u
  | .und, _, _, _, _ => by simp [frzV, RV]
  | .d x, _, _, _, h => by
    simp only [frzV, RV] at h ⊢
    exact RD_mono (imm_frz hB hD) x _ h
  | .agg cs, ℓ, u, hl, h => by
    simp only [frzV, RV] at h ⊢
    obtain ⟨vs, rfl, h, h1⟩ := h
    exact ⟨vs, rfl, RVs_frz cs ℓ 0 vs h, h1⟩
  | .tup cs, ℓ, u, hl, h => by
    simp only [frzV, RV] at h ⊢
    obtain ⟨vs, rfl, h⟩ := h
    exact ⟨vs, rfl, RVs_frz cs ℓ 0 vs h⟩
  | .own sz l, ℓ, u, hl, h => by
    simp only [frzV, RV] at h ⊢
    rcases h with h | ⟨b, cap, vals, e, h1, h2, h3, h4, h5, h6, h7, h8⟩
    · exact .inl h
    · have hne : b ≠ g.box k := by rintro rfl; rw [hB] at h2; exact hl h2.symm
      refine .inr ⟨b, cap, vals, e, h1, by simp [G.frz, hne, h2], h3, h4, h5, h6, fun o => ?_, RDL_mono (imm_frz hB hD) sz b l 0 h8⟩
      rw [← h7 o]
      simp [G.frz, hne]
  | .ptr k' o, ℓ, u, hl, h => by
    simp only [frzV]
    split
    · rename_i he
      subst he
      simp only [RV] at h ⊢
      have := RDc_drop o hD
      rw [Nat.zero_add] at this
      exact ⟨_, _, h, this⟩
    · simpa [RV, G.frz] using h
  | .nilp, _, _, _, h => by simpa [frzV, RV] using h
  | .f x, _, u, _, h => by
    simp only [frzV, RV] at h ⊢
    exact RD_mono (immf_g (g := g) (g' := g.frz k ds.length) fun b o h1 h2 => ⟨.inl h1, by simp only [G.frz]; split <;> first | rfl | exact h2⟩) x u h
  | .nils _, _, _, _, h => by simpa [frzV, RV] using h
  | .cref cs, ℓ, u, hl, h => by
    simp only [frzV, RV] at h ⊢
    obtain ⟨b, o, rfl, h⟩ := h
    exact ⟨b, o, rfl, RDc_mono (imm_frz hB hD) b cs o h⟩
  | .sl sz k' o n c, ℓ, u, hl, h => by
    simp only [frzV]
    split
    · rename_i he
      subst he
      split
      · rename_i hc
        have hlen : ((ds.drop o).take (n * sz)).length = n * sz := by simp; omega
        obtain ⟨h1, h2, h3⟩ := chunks_get n sz _ hlen
        simp only [RV] at h
        simp only [RV, RD]
        refine ⟨_, c, by rw [h1]; exact h, by rw [h1]; exact hc.2, .inr ⟨_, o, rfl, RDL_mk fun i x hx => ⟨h2 x (List.mem_of_getElem? hx), RDc_mk fun j y hy => ?_⟩⟩⟩
        have h4 := h3 i x j y hx hy
        rw [List.getElem?_take] at h4
        split at h4
        · rw [List.getElem?_drop] at h4
          have := RDc_get hD _ y h4
          rw [show 0 + (o + (i * sz + j)) = o + i * sz + j from by omega] at this
          exact this
        · cases h4
      · simp [RV]
    · simpa [RV, G.frz] using h
  | .clo f cs, ℓ, u, hl, h => by
    simp only [frzV, RV] at h ⊢
    obtain ⟨vs, rfl, h⟩ := h
    exact ⟨vs, rfl, RVs_frz cs .ext 0 vs h⟩
  | .mp k', ℓ, u, hl, h => by
    simp only [frzV]
    split
    · simp [RV]
    · simpa [RV, G.frz] using h
theorem RVs_frz : ∀ (cs : List V) (ℓ : Owner) (i : Nat) (us : List Value), RVs g w cs ℓ i us → RVs (g.frz k ds.length) w (frzVs k ds cs) ℓ i us
  | [], _, _, _, h => by simpa [frzVs, RVs] using h
  | c :: cs, ℓ, i, us, h => by
    simp only [frzVs, RVs] at h ⊢
    obtain ⟨u, us', rfl, h1, h2⟩ := h
    have hne : ℓ.sub i ≠ .box k := by cases ℓ <;> simp [Owner.sub]
    exact ⟨u, us', rfl, RV_frz c (ℓ.sub i) u hne h1, RVs_frz cs ℓ (i + 1) us' h2⟩
end
end
def PreD (cs : List V) (ds : List D) : Prop := ds.length ≤ cs.length ∧ ∀ (j : Nat) v d, cs[j]? = some v → ds[j]? = some d → v.toD = some d
theorem PreD.of {cs : List V} {ds : List D} (h : toDs cs = some ds) : PreD cs ds := ⟨Nat.le_of_eq (toDs_get h).1, (toDs_get h).2⟩
theorem PreD.app {cs tl : List V} {ds : List D} (h : toDs cs = some ds) : PreD (cs ++ tl) ds := by
  obtain ⟨h1, h2⟩ := toDs_get h
  refine ⟨by simp; omega, fun j v d hv hd => ?_⟩
  have := (List.getElem?_eq_some_iff.1 hd).1
  rw [List.getElem?_append_left (by omega)] at hv
  exact h2 j v d hv hd
theorem frz_cells {g : G} {w : World} {M : Mem} {nb k : Nat} {cs : List V} {ds : List D} [DecidablePred fun b => b = g.box k] (hm : MR g w M nb) (hM : M k = some (.cells cs)) (hd : PreD cs ds) : RDc (g.frz k ds.length).imm w (g.box k) ds 0 := by
  obtain ⟨hl, hg⟩ := hd
  refine RDc_mk fun j y hj => ?_
  have hlt := (List.getElem?_eq_some_iff.1 hj).1
  have hc : cs[j]? = some (cs[j]'(by omega)) := List.getElem?_eq_getElem _
  obtain ⟨u, h1, h2, h3⟩ := box_cell hm hM hc
  refine ⟨.inr ⟨rfl, by omega⟩, u, by simpa using h1, ?_⟩
  exact RD_mono ⟨fun _ _ h => .inl h, fun _ _ _ => rfl⟩ y u (RD_of_toD (hg j _ y hc hj) h2)
def frzSt (n0 k : Nat) (ds : List D) (σ : St) : St :=
  { s := fun t => frzV k ds (σ.s t)
    M := fun j => if j = k then none else if j < n0 then σ.M j else
      match σ.M j with
      | some (.cells cs) => some (.cells (cs.map (frzV k ds)))
      | b => b
    nb := σ.nb }
variable {Γ : Env} {σ : St}
open Classical in
theorem weak_frz {k : Nat} {cs : List V} {ds : List D} (hk : Γ.n0 ≤ k) (hM : σ.M k = some (.cells cs)) (hd : PreD cs ds) : WeakSt Γ σ (frzSt Γ.n0 k ds σ) := by
  intro a w g hs
  have hB : g.own (g.box k) = .box k := (hs.mem.box k _ hM).2.1
  have hD := frz_cells hs.mem hM hd
  have hsub : ∀ ℓ i, ℓ ≠ Owner.box k → ℓ.sub i ≠ .box k := by intro ℓ i _; cases ℓ <;> simp [Owner.sub]
  have hkept : Kept g w (g.frz k ds.length) w (fun j => j ≠ k) (fun o => o ≠ .box k) := by
    refine ⟨⟨fun _ _ h => .inl h, fun _ _ _ => rfl⟩, fun _ _ => rfl, fun b hb _ => ?_⟩
    have hne : b ≠ g.box k := by rintro rfl; exact hb hB
    exact ⟨by simp [G.frz, hne], rfl, fun o => by simp [G.frz, hne]⟩
  have hthere : ∀ j, (There σ.M j ∧ j ≠ k) → There (frzSt Γ.n0 k ds σ).M j := by
    rintro j ⟨h1, h2⟩
    simp only [There, frzSt, h2, if_false] at h1 ⊢
    split
    · exact h1
    · cases hj : σ.M j with
      | none => simp [hj] at h1
      | some b => cases b <;> rfl
  have hown : ∀ j, j ≠ k → g.own (g.box j) = .box j → (g.frz k ds.length).own (g.box j) = .box j := by
    intro j hj ho
    have hne : g.box j ≠ g.box k := by
      intro e
      rw [e, hB] at ho
      cases ho; exact hj rfl
    simp [G.frz, hne, ho]
  refine ⟨g.frz k ds.length, ⟨⟨fun j b hb => ?_, fun b o hbo => ?_⟩, fun t => RV_frz hB hD _ _ _ (by simp) (hs.slots t), hs.size, hs.defers, fun t => on_mono hthere _ (on_frz k ds _ (hs.onS t)), fun j cs' hb => ?_, hs.top, ?_⟩⟩
  · simp only [frzSt] at hb
    split at hb
    · cases hb
    · rename_i hjk
      split at hb
      · rename_i hlt
        obtain ⟨h1, h2, h3⟩ := hs.mem.box j b hb
        refine ⟨h1, hown j hjk h2, ?_⟩
        cases b with
        | mp es c =>
          obtain ⟨ents, k1, k2⟩ := h3
          exact ⟨ents, k1, RM_imm (g := g) (g' := g.frz k ds.length) hkept.imm k2⟩
        | cells cs2 =>
          obtain ⟨vals, e, k1, k2, k3⟩ := h3
          have hon := (hs.onM j cs2 hb).2 hlt
          exact ⟨vals, e, k1, RVs_mono hkept hsub (by simp) _ _ _ _ (by intro e; cases e; exact hjk rfl) (ons_mono (fun i hi => by omega) _ hon) k2, k3⟩
      · split at hb
        · rename_i hlt _ cs2 hcs
          cases hb
          obtain ⟨h1, h2, vals, e, k1, k2, k3⟩ := hs.mem.box j _ hcs
          refine ⟨h1, hown j hjk h2, vals, e, k1, ?_, k3⟩
          rw [← frzVs_map]
          exact RVs_frz hB hD _ _ _ _ k2
        · rename_i hne
          obtain ⟨h1, h2, h3⟩ := hs.mem.box j b hb
          cases b with
          | mp es c =>
            obtain ⟨ents, k1, k2⟩ := h3
            exact ⟨h1, hown j hjk h2, ents, k1, RM_imm (g := g) (g' := g.frz k ds.length) hkept.imm k2⟩
          | cells cs2 => exact absurd hb (hne cs2)
  · rcases hbo with hbo | ⟨rfl, hlt⟩
    · obtain ⟨h1, h2⟩ := hs.mem.imm b o hbo
      refine ⟨h1, fun j => ?_⟩
      simp only [G.frz]
      split
      · simp
      · exact h2 j
    · refine ⟨?_, fun j => by simp [G.frz]⟩
      obtain ⟨_, _, vals, e, k1, _, _⟩ := hs.mem.box k _ hM
      exact (Array.getElem?_eq_some_iff.1 k1).1
  · simp only [frzSt] at hb
    split at hb
    · cases hb
    · rename_i hjk
      split at hb
      · rename_i hlt
        obtain ⟨h1, h2⟩ := hs.onM j cs' hb
        refine ⟨ons_mono (fun i hi => hthere i ⟨hi.1, ?_⟩) _ (ons_and cs' h1 (h2 hlt)), h2⟩
        have := hi.2; omega
      · split at hb
        · rename_i hlt _ cs2 hcs
          cases hb
          refine ⟨?_, fun h => absurd h hlt⟩
          rw [← frzVs_map]
          exact ons_mono hthere _ (ons_frz k ds _ (hs.onM j cs2 hcs).1)
        · rename_i hne; exact absurd hb (hne cs')
  · have hf := hs.fr
    refine ⟨hf.os, hf.tape, hf.output, hf.size, ⟨fun b o h => .inl (hf.imm.mono b o h), hf.imm.cell⟩, hf.box, fun b hb ho => ?_⟩
    obtain ⟨h1, h2, h3⟩ := hf.old b hb ho
    have hne : b ≠ g.box k := by
      rintro rfl
      rw [hB] at h1
      rw [← h1] at ho
      exact ho
    exact ⟨by simp [G.frz, hne, h1], h2, fun o => by simp [G.frz, hne, h3]⟩
def FE (f : V → V) (s : Sl) : List (Nat × V) → Prop
  | [] => True
  | (t, v) :: E => WkV (f (s t)) v ∧ FE f s E
theorem FE.at {f : V → V} {s : Sl} : ∀ {E : List (Nat × V)}, FE f s E → ∀ t, WkV (f (s t)) (look E t)
  | [], _, t => .und _
  | (u, v) :: E, h, t => by
    simp only [look]
    cases hb : Nat.beq t u with
    | true => have := Nat.eq_of_beq_eq_true hb; subst this; exact h.1
    | false => exact FE.at h.2 t
def FB (f : V → V) (t0 : Nat) (L : List (Nat × Bx)) : List (Nat × Bx) → Prop
  | [] => True
  | (t, .cells cs') :: L' => (∃ cs, lookB L t = some (.cells cs) ∧ Nat.beq t t0 = false ∧ WkVs (cs.map f) cs') ∧ FB f t0 L L'
  | (t, .mp es c) :: L' => (lookB L t = some (.mp es c) ∧ Nat.beq t t0 = false) ∧ FB f t0 L L'
theorem FB.at {f : V → V} {t0 : Nat} {L : List (Nat × Bx)} : ∀ {L' : List (Nat × Bx)}, FB f t0 L L' → ∀ t b, lookB L' t = some b → Nat.beq t t0 = false ∧
    ((∃ cs' cs, b = .cells cs' ∧ lookB L t = some (.cells cs) ∧ WkVs (cs.map f) cs') ∨ ∃ es c, b = .mp es c ∧ lookB L t = some (.mp es c))
  | [], _, t, b, hb => by simp [lookB] at hb
  | (u, .cells cs') :: L', h, t, b, hb => by
    simp only [lookB] at hb
    cases hbe : Nat.beq t u with
    | true =>
      have := Nat.eq_of_beq_eq_true hbe
      subst this
      rw [hbe] at hb
      simp only [cond_true, Option.some.injEq] at hb
      obtain ⟨cs, h1, h2, h3⟩ := h.1
      exact ⟨h2, .inl ⟨cs', cs, hb.symm, h1, h3⟩⟩
    | false =>
      rw [hbe] at hb
      exact FB.at h.2 t b hb
  | (u, .mp es c) :: L', h, t, b, hb => by
    simp only [lookB] at hb
    cases hbe : Nat.beq t u with
    | true =>
      have := Nat.eq_of_beq_eq_true hbe
      subst this
      rw [hbe] at hb
      simp only [cond_true, Option.some.injEq] at hb
      exact ⟨h.1.2, .inr ⟨es, c, hb.symm, h.1.1⟩⟩
    | false =>
      rw [hbe] at hb
      exact FB.at h.2 t b hb
theorem weak_freezeG (t : Nat) {E E' : List (Nat × V)} {L : List (Nat × Bx)} {L' : List (Nat × Bx)} {M0 : Mem} {nb : Nat} {cs : List V} (ds : List D) (hM : lookB L t = some (.cells cs)) (hd : PreD cs ds)
    (hE : FE (frzV (Γ.n0 + t) ds) (look E) E') (hL : FB (frzV (Γ.n0 + t) ds) t L L') (hk : (L.all fun p => Nat.beq p.1 t || L'.any fun q => Nat.beq p.1 q.1) = true) :
    WeakSt Γ ⟨look E, memOf Γ.n0 L M0, nb⟩ ⟨look E', memOf Γ.n0 (bxs L') M0, nb⟩ := by
  refine WeakSt.trans (weak_frz (σ := ⟨look E, memOf Γ.n0 L M0, nb⟩) (k := Γ.n0 + t) (by omega) (by show memOf Γ.n0 L M0 (Γ.n0 + t) = _; rw [memOf_own]; exact hM) hd) ?_
  intro a w g hs
  have hbase : ∀ k, k < Γ.n0 → (frzSt Γ.n0 (Γ.n0 + t) ds ⟨look E, memOf Γ.n0 L M0, nb⟩).M k = M0 k := by
    intro k hk
    have h1 : k ≠ Γ.n0 + t := by omega
    simp only [frzSt, h1, if_false, hk, if_true]
    exact memOf_base hk
  have hown : ∀ u cs, Nat.beq u t = false → lookB L u = some (.cells cs) → (frzSt Γ.n0 (Γ.n0 + t) ds ⟨look E, memOf Γ.n0 L M0, nb⟩).M (Γ.n0 + u) = some (.cells (cs.map (frzV (Γ.n0 + t) ds))) := by
    intro u cs h1 h2
    have h3 : u ≠ t := fun e => by subst e; simp at h1
    have h4 : Γ.n0 + u ≠ Γ.n0 + t := by omega
    have h5 : ¬ Γ.n0 + u < Γ.n0 := by omega
    have h6 : memOf Γ.n0 L M0 (Γ.n0 + u) = some (.cells cs) := by rw [memOf_own]; exact h2
    simp only [frzSt, h4, if_false, h5, h6]
  have hownm : ∀ u es c, Nat.beq u t = false → lookB L u = some (.mp es c) → (frzSt Γ.n0 (Γ.n0 + t) ds ⟨look E, memOf Γ.n0 L M0, nb⟩).M (Γ.n0 + u) = some (.mp es c) := by
    intro u es c h1 h2
    have h3 : u ≠ t := fun e => by subst e; simp at h1
    have h4 : Γ.n0 + u ≠ Γ.n0 + t := by omega
    have h5 : ¬ Γ.n0 + u < Γ.n0 := by omega
    have h6 : memOf Γ.n0 L M0 (Γ.n0 + u) = some (.mp es c) := by rw [memOf_own]; exact h2
    simp only [frzSt, h4, if_false, h5, h6]
  have hsplit : ∀ k, k < Γ.n0 ∨ ∃ u, k = Γ.n0 + u := fun k => by
    rcases Nat.lt_or_ge k Γ.n0 with h | h
    · exact .inl h
    · exact .inr ⟨k - Γ.n0, by omega⟩
  have hthere : ∀ k, There (frzSt Γ.n0 (Γ.n0 + t) ds ⟨look E, memOf Γ.n0 L M0, nb⟩).M k → There (memOf Γ.n0 (bxs L') M0) k := by
    intro k hk'
    rcases hsplit k with h | ⟨u, rfl⟩
    · simp only [There, hbase k h] at hk'
      simp only [There, memOf_base h, hk']
    · simp only [There, memOf_own]
      have h5 : ¬ Γ.n0 + u < Γ.n0 := by omega
      have h4 : Γ.n0 + u ≠ Γ.n0 + t := by
        intro e
        simp [There, frzSt, e] at hk'
      have h7 : ∃ b, lookB L u = some b := by
        cases hb : lookB L u with
        | some b => exact ⟨b, rfl⟩
        | none =>
          have h6 : memOf Γ.n0 L M0 (Γ.n0 + u) = none := by rw [memOf_own]; exact hb
          simp only [There, frzSt, h4, if_false, h5, h6] at hk'
          cases hk'
      obtain ⟨b, hb⟩ := h7
      obtain ⟨p, hp, rfl⟩ := lookB_mem hb
      have := List.all_eq_true.1 hk p hp
      rw [Bool.or_eq_true] at this
      rcases this with h8 | h8
      · have := Nat.eq_of_beq_eq_true h8; omega
      · obtain ⟨q, hq, he⟩ := List.any_eq_true.1 h8
        have he := Nat.eq_of_beq_eq_true he
        have := lookB_some hq
        rw [he]; exact this
  refine ⟨g, ⟨⟨fun k b hb => ?_, hs.mem.imm⟩, fun t => (hE.at t).rd _ _ _ _ (hs.slots t), hs.size, hs.defers, fun t => on_mono hthere _ ((hE.at t).on _ (hs.onS t)), fun k cs hb => ?_, hs.top, hs.fr⟩⟩
  · rcases hsplit k with h | ⟨u, rfl⟩
    · have hb' : (frzSt Γ.n0 (Γ.n0 + t) ds ⟨look E, memOf Γ.n0 L M0, nb⟩).M k = some b := by rw [hbase k h]; rw [← hb]; exact (memOf_base h).symm
      exact hs.mem.box k b hb'
    · have hb' : lookB (bxs L') u = some b := by rw [← hb]; exact memOf_own.symm
      obtain ⟨h2, ⟨cs', cs, rfl, h1, h3⟩ | ⟨es, c, rfl, h1⟩⟩ := hL.at u b hb'
      · obtain ⟨k1, k2, vals, e, k3, k4, k5⟩ := hs.mem.box _ _ (hown u cs h2 h1)
        exact ⟨k1, k2, vals, e, k3, h3.rd _ _ _ _ _ k4, k5⟩
      · exact hs.mem.box _ _ (hownm u es c h2 h1)
  · rcases hsplit k with h | ⟨u, rfl⟩
    · have hb' : (frzSt Γ.n0 (Γ.n0 + t) ds ⟨look E, memOf Γ.n0 L M0, nb⟩).M k = some (.cells cs) := by rw [hbase k h]; rw [← hb]; exact (memOf_base h).symm
      obtain ⟨k1, k2⟩ := hs.onM k cs hb'
      exact ⟨ons_mono hthere _ k1, k2⟩
    · have hb' : lookB (bxs L') u = some (.cells cs) := by rw [← hb]; exact memOf_own.symm
      obtain ⟨h2, ⟨cs', cs0, he, h1, h3⟩ | ⟨es, c, he, h1⟩⟩ := hL.at u _ hb' <;> cases he
      obtain ⟨k1, k2⟩ := hs.onM _ _ (hown u cs0 h2 h1)
      exact ⟨ons_mono hthere _ (h3.on _ k1), fun hlt => absurd hlt (by omega)⟩
theorem weak_freeze (t : Nat) {E E' : List (Nat × V)} {L : List (Nat × Bx)} {L' : List (Nat × Bx)} {M0 : Mem} {nb : Nat} {cs : List V} (ds : List D) (hM : lookB L t = some (.cells cs)) (hd : toDs cs = some ds)
    (hE : FE (frzV (Γ.n0 + t) ds) (look E) E') (hL : FB (frzV (Γ.n0 + t) ds) t L L') (hk : (L.all fun p => Nat.beq p.1 t || L'.any fun q => Nat.beq p.1 q.1) = true) :
    WeakSt Γ ⟨look E, memOf Γ.n0 L M0, nb⟩ ⟨look E', memOf Γ.n0 (bxs L') M0, nb⟩ :=
  weak_freezeG t ds hM (.of hd) hE hL hk
theorem fPtr {n0 t u o : Nat} {ds : List D} (h : Nat.beq u t = false) : WkV (frzV (n0 + t) ds (.ptr (n0 + u) o)) (.ptr (n0 + u) o) := by
  have : ¬ n0 + u = n0 + t := by
    intro e
    have : u = t := by omega
    subst this; simp at h
  exact .same (by simp only [frzV]; rw [if_neg this])
theorem fSlO {n0 t u sz o n c : Nat} {ds : List D} (h : Nat.beq u t = false) : WkV (frzV (n0 + t) ds (.sl sz (n0 + u) o n c)) (.sl sz (n0 + u) o n c) := by
  have : ¬ n0 + u = n0 + t := by
    intro e
    have : u = t := by omega
    subst this; simp at h
  exact .same (by simp only [frzV]; rw [if_neg this])
theorem fSl {n0 t sz o n c : Nat} {ds : List D} {l : List (List D)} (h : (Nat.ble (o + n * sz) ds.length && Nat.ble n c) = true) (hl : chunks sz n ((ds.drop o).take (n * sz)) = l) : WkV (frzV (n0 + t) ds (.sl sz (n0 + t) o n c)) (.d (.lst sz l)) := by
  simp only [Bool.and_eq_true] at h
  have h1 := Nat.le_of_ble_eq_true h.1
  have h2 := Nat.le_of_ble_eq_true h.2
  exact .same (by simp [frzV, h1, h2, hl])
def nilO {α R : Type} [DecidableEq R] (l : List α) (K : Bool → Option R) : Option R :=
  match l with
  | [] => if K true = K false then K false else none
  | _ :: _ => K false
theorem nilO_spec {α R : Type} [DecidableEq R] {l : List α} {K : Bool → Option R} {r : R} (h : nilO l K = some r) (b : Bool) (hb : b = true → l.length = 0) : K b = some r := by
  cases l with
  | nil =>
    simp only [nilO] at h
    split at h
    · rename_i he
      cases b with
      | true => rw [he]; exact h
      | false => exact h
    · cases h
  | cons x l =>
    cases b with
    | true => simp at hb
    | false => exact h
variable {pc d nb : Nat} {os : List COp} {E : List (Nat × V)} {M : Mem} {Q : St → Prop} {gd : Option (Nat × Bool)} {a : Arg}
theorem Rn.isnil {α R : Type} [DecidableEq R] {e : α → List D} {sz : Nat} {xs : List α} {neg : Bool} {J : Bool → Option R} {r : R} (hw : Wn E gd) (ha : (a.val (look E)).dem = .d (.lst sz (xs.map e))) (h : nilO xs J = some r)
    (hk : ∀ b, J b = some r → Rn Γ 9 os ⟨look ((d, .d (.bool (bif neg then !b else b))) :: E), M, nb⟩ Q) : Rn Γ 9 (⟨some d, .isnil neg, [a], false, gd⟩ :: os) ⟨look E, M, nb⟩ Q := by
  refine Rn.cons ?_
  unfold COp.run
  rw [hw.wanted]
  simp only [show (Abs.K.isnil neg).isCall = false from rfl, show (Abs.K.isnil neg).isNil = true from rfl, Bool.false_eq_true, if_false, if_true, COp.xs, List.map_cons, List.map_nil, V.dems, ha, nilLen, List.length_map, Abs.K.negNil]
  intro b hb
  have e1 : ∀ v, putDst (look E) (some d) v = look ((d, v) :: E) := fun v => put_look E d v
  have h2 := hk b (nilO_spec h b hb)
  cases neg with
  | true => exact (show Rn Γ 9 os ⟨putDst (look E) (some d) (.d (.bool (!b))), M, nb⟩ Q from by rw [e1]; exact h2)
  | false => exact (show Rn Γ 9 os ⟨putDst (look E) (some d) (.d (.bool b)), M, nb⟩ Q from by rw [e1]; exact h2)
end Go.Abs
end
section
namespace Go.Abs
open Go
set_option linter.unusedVariables false
set_option linter.unusedSimpArgs false
set_option linter.unusedSectionVars false
variable {Γ : Env} {σ : St}
def G.ow (g : G) (k n : Nat) (ℓ : Owner) [DecidablePred fun b => b = g.box k] : G := ⟨g.box, fun b o => g.imm b o ∨ (b = g.box k ∧ o < n), fun b => if b = g.box k then ℓ else g.own b⟩
section
variable {g : G} {w : World} {k n : Nat} {ℓ0 : Owner} (hB : g.own (g.box k) = .box k)
include hB
mutual
theorem RV_ow [DecidablePred fun b => b = g.box k] : ∀ (v : V) (ℓ : Owner) (u : Value), ℓ ≠ .box k → RV g w v ℓ u → RV (g.ow k n ℓ0) w v ℓ u
  | .und, _, _, _, _ => by simp [RV]
  | .d x, _, _, _, h => by
    simp only [RV] at h ⊢
    exact RD_mono ⟨fun _ _ h => .inl h, fun _ _ _ => rfl⟩ x _ h
  | .agg cs, ℓ, u, hl, h => by
    simp only [RV] at h ⊢
    obtain ⟨vs, rfl, h, h1⟩ := h
    exact ⟨vs, rfl, RVs_ow cs ℓ 0 vs h, h1⟩
  | .tup cs, ℓ, u, hl, h => by
    simp only [RV] at h ⊢
    obtain ⟨vs, rfl, h⟩ := h
    exact ⟨vs, rfl, RVs_ow cs ℓ 0 vs h⟩
  | .own sz l, ℓ, u, hl, h => by
    simp only [RV] at h ⊢
    rcases h with h | ⟨b, cap, vals, e, h1, h2, h3, h4, h5, h6, h7, h8⟩
    · exact .inl h
    · have hne : b ≠ g.box k := by rintro rfl; rw [hB] at h2; exact hl h2.symm
      refine .inr ⟨b, cap, vals, e, h1, by simp [G.ow, hne, h2], h3, h4, h5, h6, fun o => ?_, RDL_mono ⟨fun _ _ h => .inl h, fun _ _ _ => rfl⟩ sz b l 0 h8⟩
      rw [← h7 o]
      simp [G.ow, hne]
  | .ptr k' o, ℓ, u, hl, h => by simpa [RV, G.ow] using h
  | .nilp, _, _, _, h => by simpa [RV] using h
  | .f x, _, u, _, h => by
    simp only [RV] at h ⊢
    refine RD_mono (immf_g (g := g) (g' := g.ow k n ℓ0) fun b o h1 h2 => ⟨.inl h1, ?_⟩) x u h
    have hne : b ≠ g.box k := by rintro rfl; rw [hB] at h2; cases h2
    simp [G.ow, hne, h2]
  | .nils _, _, _, _, h => by simpa [RV] using h
  | .cref cs, ℓ, u, hl, h => by
    simp only [RV] at h ⊢
    obtain ⟨b, o, rfl, h⟩ := h
    exact ⟨b, o, rfl, RDc_mono ⟨fun _ _ h => .inl h, fun _ _ _ => rfl⟩ b cs o h⟩
  | .sl sz k' o n c, ℓ, u, hl, h => by simpa [RV, G.ow] using h
  | .clo f cs, ℓ, u, hl, h => by
    simp only [RV] at h ⊢
    obtain ⟨vs, rfl, h⟩ := h
    exact ⟨vs, rfl, RVs_ow cs .ext 0 vs h⟩
  | .mp k', ℓ, u, hl, h => by simpa [RV, G.ow] using h
theorem RVs_ow [DecidablePred fun b => b = g.box k] : ∀ (cs : List V) (ℓ : Owner) (i : Nat) (us : List Value), RVs g w cs ℓ i us → RVs (g.ow k n ℓ0) w cs ℓ i us
  | [], _, _, _, h => by simpa [RVs] using h
  | c :: cs, ℓ, i, us, h => by
    simp only [RVs] at h ⊢
    obtain ⟨u, us', rfl, h1, h2⟩ := h
    have hne : ℓ.sub i ≠ .box k := by cases ℓ <;> simp [Owner.sub]
    exact ⟨u, us', rfl, RV_ow c (ℓ.sub i) u hne h1, RVs_ow cs ℓ (i + 1) us' h2⟩
end
end
open Classical in
theorem weak_own {t t0 sz n : Nat} {cs : List V} {ds : List D} (hM : σ.M (Γ.n0 + t) = some (.cells cs)) (hd : toDs cs = some ds) (hs0 : σ.s t0 = .sl sz (Γ.n0 + t) 0 n n) (hn : (Nat.beq (n * sz) ds.length && Nat.ble n 65536) = true) :
    WeakSt Γ σ ⟨(clean Γ.n0 [t] σ).s.put t0 (.own sz (chunks sz n ds)), (clean Γ.n0 [t] σ).M, σ.nb⟩ := by
  intro a w g hs
  simp only [Bool.and_eq_true] at hn
  have hn1 : n * sz = ds.length := Nat.eq_of_beq_eq_true hn.1
  have hn2 := Nat.le_of_ble_eq_true hn.2
  have hc := SR_clean hs [t]
  have hB : g.own (g.box (Γ.n0 + t)) = .box (Γ.n0 + t) := (hs.mem.box _ _ hM).2.1
  obtain ⟨hl, hg⟩ := toDs_get hd
  have hself : siteP Γ.n0 [t] (Γ.n0 + t) = true := by simp [siteP]
  have hgone : ∀ j, There (clean Γ.n0 [t] σ).M j → j ≠ Γ.n0 + t := by
    rintro j hj rfl
    simp [There, clean, hself] at hj
  have hD : RDc (g.ow (Γ.n0 + t) (n * sz) (.slot t0 [])).imm w (g.box (Γ.n0 + t)) ds 0 := by
    refine RDc_mk fun j y hj => ?_
    have hlt := (List.getElem?_eq_some_iff.1 hj).1
    have hcj : cs[j]? = some (cs[j]'(by omega)) := List.getElem?_eq_getElem _
    obtain ⟨u, h1, h2, h3⟩ := box_cell hs.mem hM hcj
    refine ⟨.inr ⟨rfl, by omega⟩, u, by simpa using h1, ?_⟩
    exact RD_mono ⟨fun _ _ h => .inl h, fun _ _ _ => rfl⟩ y u (RD_of_toD (hg j _ y hcj hj) h2)
  refine ⟨g.ow (Γ.n0 + t) (n * sz) (.slot t0 []), ⟨⟨fun j b hb => ?_, fun b o hbo => ?_⟩, fun i => ?_, hs.size, hs.defers, fun i => ?_, hc.onM, hs.top, ?_⟩⟩
  · have hjk := hgone j (by simp [There, show (clean Γ.n0 [t] σ).M j = some b from hb])
    obtain ⟨h1, h2, h3⟩ := hc.mem.box j b hb
    have hne : g.box j ≠ g.box (Γ.n0 + t) := by
      intro e
      rw [e, hB] at h2
      cases h2; exact hjk rfl
    refine ⟨h1, by simp [G.ow, hne, h2], ?_⟩
    cases b with
    | mp es c =>
      obtain ⟨ents, k1, k2⟩ := h3
      exact ⟨ents, k1, RM_imm (g := g) (g' := g.ow (Γ.n0 + t) (n * sz) (.slot t0 [])) ⟨fun _ _ h => .inl h, fun _ _ _ => rfl⟩ k2⟩
    | cells cs2 =>
      obtain ⟨vals, e, k1, k2, k3⟩ := h3
      exact ⟨vals, e, k1, RVs_ow hB _ _ _ _ k2, k3⟩
  · rcases hbo with hbo | ⟨rfl, hlt⟩
    · obtain ⟨h1, h2⟩ := hs.mem.imm b o hbo
      refine ⟨h1, fun j => ?_⟩
      simp only [G.ow]
      split
      · simp
      · exact h2 j
    · refine ⟨?_, fun j => by simp [G.ow]⟩
      obtain ⟨_, _, vals, e, k1, _, _⟩ := hs.mem.box _ _ hM
      exact (Array.getElem?_eq_some_iff.1 k1).1
  · simp only [Sl.put]
    split
    · rename_i he
      subst he
      have h0 := hs.slots i
      rw [hs0] at h0
      simp only [RV] at h0 ⊢
      obtain ⟨_, _, vals, e, k1, k2, k3⟩ := hs.mem.box _ _ hM
      have hvl := RVs_length k2
      obtain ⟨q1, q2, q3⟩ := chunks_get n sz ds hn1.symm
      refine .inr ⟨g.box (Γ.n0 + t), n, vals.toArray, e, by rw [q1]; exact h0, by simp [G.ow], k1, by omega, by unfold maxLen; omega, ⟨by simp; omega, fun u hu => k3 u (by simpa using hu)⟩, fun o => ?_, RDL_mk fun i x hx => ⟨q2 x (List.mem_of_getElem? hx), RDc_mk fun j y hy => ?_⟩⟩
      · have hno : ¬ g.imm (g.box (Γ.n0 + t)) o := fun h => (hs.mem.imm _ _ h).2 _ hB
        simp [G.ow, hno, q1]
      · have h4 := q3 i x j y hx hy
        have := RDc_get hD _ y h4
        rw [show 0 + (i * sz + j) = 0 + i * sz + j from by omega] at this
        exact this
    · exact RV_ow hB _ _ _ (by simp) (hc.slots i)
  · simp only [Sl.put]
    split
    · trivial
    · exact hc.onS i
  · have hf := hs.fr
    refine ⟨hf.os, hf.tape, hf.output, hf.size, ⟨fun b o h => .inl (hf.imm.mono b o h), hf.imm.cell⟩, hf.box, fun b hb ho => ?_⟩
    obtain ⟨h1, h2, h3⟩ := hf.old b hb ho
    have hne : b ≠ g.box (Γ.n0 + t) := by
      rintro rfl
      rw [hB] at h1
      rw [← h1] at ho
      exact ho
    exact ⟨by simp [G.ow, hne, h1], h2, fun o => by simp [G.ow, hne, h3]⟩
theorem weak_ownL (t t0 : Nat) {sz n : Nat} {E E' : List (Nat × V)} {L : List (Nat × Bx)} {L' : List (Nat × Bx)} {M0 : Mem} {nb : Nat} {cs : List V} (ds : List D) (hM : lookB L t = some (.cells cs)) (hd : toDs cs = some ds) (hs0 : look E t0 = .sl sz (Γ.n0 + t) 0 n n)
    (hn : (Nat.beq (n * sz) ds.length && Nat.ble n 65536) = true) {l : List (List D)} (hl : chunks sz n ds = l) (hE : KL Γ.n0 [t] (look E) E') (hL : KB Γ.n0 [t] L L') (hk : (L.all fun p => [t].any (Nat.beq p.1) || L'.any fun q => Nat.beq p.1 q.1) = true) :
    WeakSt Γ ⟨look E, memOf Γ.n0 L M0, nb⟩ ⟨look ((t0, .own sz l) :: E'), memOf Γ.n0 (bxs L') M0, nb⟩ := by
  intro a w g hs
  subst hl
  have hwk : ∀ i, WkV ((clean Γ.n0 [t] ⟨look E, memOf Γ.n0 L M0, nb⟩).s.put t0 (.own sz (chunks sz n ds)) i) (look ((t0, .own sz (chunks sz n ds)) :: E') i) := by
    intro i
    simp only [Sl.put, look]
    cases hb : Nat.beq i t0 with
    | true => have := Nat.eq_of_beq_eq_true hb; subst this; simp; exact WkV.refl _
    | false =>
      have : i ≠ t0 := fun e => by subst e; simp at hb
      simp only [this, if_false, cond_false]
      exact hE.at i
  obtain ⟨g1, h1⟩ := weak_own (σ := ⟨look E, memOf Γ.n0 L M0, nb⟩) (t := t) (t0 := t0) (by show memOf Γ.n0 L M0 (Γ.n0 + t) = _; rw [memOf_own]; exact hM) hd hs0 hn a w g hs
  exact weak_mem (Γ := Γ) (sites := [t]) (E := E) hwk hL hk a w g1 h1
variable {pc d nb : Nat} {os : List COp} {E : List (Nat × V)} {M M0 : Mem} {L : List (Nat × Bx)} {Q : St → Prop} {gd : Option (Nat × Bool)} {b : Arg} {α : Type} {e : α → List D}
theorem Rn.app0 {t u sz bytes : Nat} {ys zs : List α} {src : V} {cs : List V} (hw : Wn E gd) (ha : look E t = .sl sz (Γ.n0 + u) 0 0 0) (hM : lookB L u = some (.cells cs)) (hb : b.val (look E) = src) (hf : src.dem = src) (hs : elems (memOf Γ.n0 L M0) sz src = some (ys.map e)) (hx : appO ([] : List α) ys = some zs) (hbd : (Nat.ble bytes 128 && Nat.ble 1 sz) = true)
    (h : Rn Γ pc os ⟨look ((d, .own sz (zs.map e)) :: E), memOf Γ.n0 L M0, nb⟩ Q) : Rn Γ pc (⟨some d, .append sz bytes, [.t t, b], true, gd⟩ :: os) ⟨look E, memOf Γ.n0 L M0, nb⟩ Q := by
  unfold appO at hx
  split at hx <;> cases hx
  rename_i hl
  simp only [Bool.and_eq_true] at hbd
  have h1 := Nat.le_of_ble_eq_true hbd.1
  have h2 : 0 < sz := Nat.le_of_ble_eq_true hbd.2
  have hm : [Arg.t t, b].map (fun x => x.val (look E)) = [V.sl sz (Γ.n0 + u) 0 0 0, src] := by
    simp only [List.map_cons, List.map_nil, hb]; rw [show (Arg.t t).val (look E) = _ from ha]
  have he : elems (memOf Γ.n0 L M0) sz (.sl sz (Γ.n0 + u) 0 0 0) = some [] := by simp [elems, boxOwn hM, toDs, chunks]
  refine Rn.kT hw rfl rfl (v := .own sz (([] ++ ys).map e)) ?_ (fun i => ?_) h
  · rw [hm]
    simp only [stepK, he, hs]
    by_cases hy : (ys.map e).length = 0
    · have : ys = [] := by simpa using hy
      subst this
      simp
    · simp only [hy, if_false]
      simp [h1, h2] at hl ⊢
      exact hl
  · rw [hm]
    simp only [takePost, hf, show (V.sl sz (Γ.n0 + u) 0 0 0).dem = .sl sz (Γ.n0 + u) 0 0 0 from rfl, putArgs, show ∀ s v, (Arg.t t).putTo s v = s.put t v from fun _ _ => rfl]
    have hz : ∀ (a : Arg) (v : V) (s : Sl), a.val s = v → a.putTo s v = s := by
      intro a v s hs
      cases a with
      | c v => rfl
      | t j =>
        simp only [Arg.val] at hs
        funext i; simp only [Arg.putTo, Sl.put]; split
        · rename_i e; subst e; exact hs.symm
        · rfl
    have e1 : (look E).put t (.sl sz (Γ.n0 + u) 0 0 0) = look E := hz (.t t) _ _ ha
    rw [e1, hz b src _ hb, put_look]
end Go.Abs
namespace Go.Abs
open Go
theorem WkV.nilsO (sz : Nat) : WkV (.nils sz) (.own sz []) := ⟨fun g w ℓ u h => by
  simp only [RV] at h
  simp only [RV]
  exact .inl ⟨h, trivial⟩, fun _ _ => trivial⟩
theorem WkV.nilsD (sz : Nat) : WkV (.nils sz) (.d (.lst sz [])) := ⟨fun g w ℓ u h => by
  simp only [RV] at h ⊢
  obtain ⟨a, rfl⟩ := h
  simp [RD], fun _ _ => trivial⟩
theorem WkVs.rf {g : G} {w : World} {vs vs' : List V} (h : WkVs vs vs') : ∀ {us : List Value}, RFs g w vs us → RFs g w vs' us := by
  induction h with
  | nil => exact fun h => h
  | cons h t ih =>
    rintro us ⟨u, us', e, h1, h2⟩
    exact ⟨u, us', e, fun ℓ => h.rd _ _ _ _ (h1 ℓ), ih h2⟩
theorem ACalls.weak {P : Program} {f : FuncId} {args args' : List V} {M M' : Mem} {nb nb' : Nat} {r : V} (h : ACalls P f args' M nb r M' nb') (hw : WkVs args args') (hf : V.dems args' = args') : ACalls P f args M nb r M' nb' := by
  refine ⟨h.1, h.2.1, fun w g us hm hMon hfr hus hfl hons => h.2.2 w g us hm hMon hfr (hw.rf hus) (fun x hx => ?_) (hw.on _ hons)⟩
  rw [← hf] at hx
  exact dems_flat x hx
end Go.Abs
end
section
namespace Go.Abs
open Go
set_option linter.unusedVariables false
set_option linter.unusedSimpArgs false
variable {α : Type}
def flatG (g : α → List V) (xs : List α) : List V := (xs.map g).flatten
theorem flatG_cons (g : α → List V) (x : α) (xs : List α) : flatG g (x :: xs) = g x ++ flatG g xs := by simp [flatG]
theorem flatG_length {g : α → List V} {sz : Nat} (hg : ∀ x, (g x).length = sz) : ∀ xs : List α, (flatG g xs).length = xs.length * sz
  | [] => by simp [flatG]
  | x :: xs => by rw [flatG_cons, List.length_append, hg, flatG_length hg xs, List.length_cons, Nat.add_mul]; omega
theorem flatG_rep (g : α → List V) (x : α) (n : Nat) : flatG g (List.replicate n x) = rep n (g x) := by simp [flatG, rep]
def mkO (n : Int) (x : α) : Option (List α) := if 0 ≤ n ∧ n ≤ lim then some (List.replicate n.toNat x) else none
def setO (l : List α) (i : Int) (y : α) : Option (List α) := if 0 ≤ i ∧ i.toNat < l.length then some (l.set i.toNat y) else none
variable {Γ : Env} {pc d nb : Nat} {os : List COp} {E : List (Nat × V)} {M M0 : Mem} {L : List (Nat × Bx)} {Q : St → Prop} {gd : Option (Nat × Bool)} {a b : Arg} {g : α → List V} {xs : List α} {sz : Nat}
theorem Rn.makes {bytes : Nat} {z : List V} {n : Int} {x : α} (hw : Wn E gd) (ha : a.val (look E) = .d (.int .i64 n)) (hb : b.val (look E) = .d (.int .i64 n)) (hf : (lookB L d).isNone = true) (hz : g x = z) (hc : (Nat.ble bytes 128 && Nat.beq z.length sz && Nat.ble 1 sz) = true) (hx : mkO n x = some xs)
    (h : Rn Γ pc os ⟨look ((d, .sl sz (Γ.n0 + d) 0 n.toNat n.toNat) :: E), memOf Γ.n0 ((d, .cells (flatG g xs)) :: L) M0, nb⟩ Q) : Rn Γ pc (⟨some d, .makes sz bytes z, [a, b], false, gd⟩ :: os) ⟨look E, memOf Γ.n0 L M0, nb⟩ Q := by
  unfold mkO at hx
  split at hx <;> cases hx
  rename_i hn
  simp only [Bool.and_eq_true] at hc
  have h1 := Nat.le_of_ble_eq_true hc.1.1
  have h2 : z.length = sz := Nat.eq_of_beq_eq_true hc.1.2
  have h3 : 0 < sz := Nat.le_of_ble_eq_true hc.2
  refine Rn.k hw rfl rfl ?_ h
  simp only [List.map_cons, List.map_nil, V.dems, ha, hb, V.dem, stepK]
  have hfr := memOf_fresh (Γ := Γ) (M0 := M0) hf
  rw [if_pos (by simp [hn.1, hn.2, h1, h2, h3, hfr]), memOf_put, flatG_rep, hz]
theorem chunks_flat {e : α → List D} {sz : Nat} (h : ∀ x, (e x).length = sz) : ∀ xs : List α, chunks sz xs.length ((xs.map e).flatten) = xs.map e
  | [] => rfl
  | x :: xs => by
    simp only [List.length_cons, chunks, List.map_cons, List.flatten_cons]
    have h1 : (e x ++ (xs.map e).flatten).take sz = e x := by rw [← h x]; simp
    have h2 : (e x ++ (xs.map e).flatten).drop sz = (xs.map e).flatten := by rw [← h x]; simp
    rw [h1, h2, chunks_flat h xs]
theorem flat_length {e : α → List D} {sz : Nat} (h : ∀ x, (e x).length = sz) : ∀ xs : List α, ((xs.map e).flatten).length = xs.length * sz
  | [] => by simp
  | x :: xs => by simp only [List.map_cons, List.flatten_cons, List.length_append, h, flat_length h xs, List.length_cons, Nat.add_mul]; omega
end Go.Abs
end
section
namespace Go.Abs
open Go
set_option linter.unusedVariables false
set_option linter.unusedSimpArgs false
set_option linter.unusedSectionVars false
def plainD : D → Bool
  | .lst _ l => l.isEmpty
  | _ => true
def plainDs (l : List (List D)) : Bool := l.all fun x => x.all plainD
def plainV : V → Bool
  | .d x => plainD x
  | .own _ l => plainDs l
  | .cref cs => cs.isEmpty
  | .agg cs => go cs
  | .tup vs => go vs
  | .clo _ vs => go vs
  | _ => true
where go : List V → Bool
  | [] => true
  | v :: vs => plainV v && go vs
theorem plain_go : ∀ vs : List V, plainV.go vs = true ↔ ∀ v ∈ vs, plainV v = true
  | [] => by simp [plainV.go]
  | v :: vs => by simp [plainV.go, plain_go vs]
theorem RD_plain {imm imm' : Nat → Nat → Prop} {w : World} {x : D} {u : Value} (hp : plainD x = true) (h : RD imm w x u) : RD imm' w x u := by
  cases x with
  | int k n => simpa [RD] using h
  | bool b => simpa [RD] using h
  | str s => simpa [RD] using h
  | lst sz l =>
    simp only [plainD, List.isEmpty_iff] at hp
    subst hp
    simp only [RD] at h ⊢
    obtain ⟨a, cap, h1, h2, _⟩ := h
    exact ⟨a, cap, h1, h2, .inl trivial⟩
theorem RDc_plain {imm imm' : Nat → Nat → Prop} {w : World} {b : Nat} (hi : ∀ o, imm b o → imm' b o) : ∀ {xs : List D} {o : Nat}, xs.all plainD = true → RDc imm w b xs o → RDc imm' w b xs o
  | [], _, _, _ => by simp [RDc]
  | x :: xs, o, hp, h => by
    simp only [List.all_cons, Bool.and_eq_true] at hp
    simp only [RDc] at h ⊢
    obtain ⟨h1, ⟨u, h2, h3⟩, h4⟩ := h
    exact ⟨hi _ h1, ⟨u, h2, RD_plain hp.1 h3⟩, RDc_plain hi hp.2 h4⟩
theorem RDL_plain {imm imm' : Nat → Nat → Prop} {w : World} {sz b : Nat} (hi : ∀ o, imm b o → imm' b o) : ∀ {l : List (List D)} {o : Nat}, plainDs l = true → RDL imm w sz b l o → RDL imm' w sz b l o
  | [], _, _, _ => by simp [RDL]
  | x :: l, o, hp, h => by
    simp only [plainDs, List.all_cons, Bool.and_eq_true] at hp
    simp only [RDL] at h ⊢
    exact ⟨h.1, RDc_plain hi hp.1 h.2.1, RDL_plain hi (by simpa [plainDs] using hp.2) h.2.2⟩
theorem RDL_flat {imm : Nat → Nat → Prop} {w : World} {sz b : Nat} : ∀ {l : List (List D)} {o : Nat}, RDL imm w sz b l o → l.flatten.length = l.length * sz ∧ ∀ (j : Nat) y, l.flatten[j]? = some y → ∃ u, w.cell? ⟨b, o + j, none⟩ = some u ∧ RD imm w y u
  | [], o, _ => by simp
  | x :: l, o, h => by
    simp only [RDL] at h
    obtain ⟨h1, h2, h3⟩ := h
    obtain ⟨h4, h5⟩ := RDL_flat h3
    refine ⟨by simp [h1, h4, Nat.add_mul]; omega, fun j y hj => ?_⟩
    simp only [List.flatten_cons] at hj
    by_cases hlt : j < x.length
    · rw [List.getElem?_append_left hlt] at hj
      obtain ⟨_, u, h6, h7⟩ := RDc_get h2 j y hj
      exact ⟨u, h6, h7⟩
    · rw [List.getElem?_append_right (by omega)] at hj
      obtain ⟨u, h6, h7⟩ := h5 _ y hj
      exact ⟨u, by rw [show o + j = o + sz + (j - x.length) from by omega]; exact h6, h7⟩
def G.th (g : G) (b κ : Nat) [DecidablePred fun b' => b' = b] : G := ⟨fun k => if k = κ then b else g.box k, fun b' o => g.imm b' o ∧ b' ≠ b, fun b' => if b' = b then .box κ else g.own b'⟩
section
variable {g : G} {w : World} {b κ : Nat} {keep : Owner → Prop} (hB : ¬ keep (g.own b)) (hs : ∀ ℓ i, keep ℓ → keep (ℓ.sub i)) (he : keep .ext)
include hB hs he
mutual
theorem RV_th [DecidablePred fun b' => b' = b] : ∀ (v : V) (ℓ : Owner) (u : Value), plainV v = true → v.on (· ≠ κ) → keep ℓ → RV g w v ℓ u → RV (g.th b κ) w v ℓ u
  | .und, _, _, _, _, _, _ => by simp [RV]
  | .d x, _, _, hp, _, _, h => by
    simp only [RV, plainV] at hp h ⊢
    exact RD_plain hp h
  | .agg cs, ℓ, u, hp, ho, hl, h => by
    simp only [RV, plainV] at hp h ⊢
    obtain ⟨vs, rfl, h, h1⟩ := h
    exact ⟨vs, rfl, RVs_th cs ℓ 0 vs hp ho hl h, h1⟩
  | .tup cs, ℓ, u, hp, ho, hl, h => by
    simp only [RV, plainV] at hp h ⊢
    obtain ⟨vs, rfl, h⟩ := h
    exact ⟨vs, rfl, RVs_th cs ℓ 0 vs hp ho hl h⟩
  | .own sz l, ℓ, u, hp, ho, hl, h => by
    simp only [RV, plainV] at hp h ⊢
    rcases h with h | ⟨b', cap, vals, e, h1, h2, h3, h4, h5, h6, h7, h8⟩
    · exact .inl h
    · have hne : b' ≠ b := by rintro rfl; rw [h2] at hB; exact hB hl
      refine .inr ⟨b', cap, vals, e, h1, by simp [G.th, hne, h2], h3, h4, h5, h6, fun o => ?_, RDL_plain (fun o ho => ⟨ho, hne⟩) hp h8⟩
      rw [← h7 o]
      simp [G.th, hne]
  | .ptr k' o, ℓ, u, _, ho, hl, h => by
    have : k' ≠ κ := ho
    simpa [RV, G.th, this] using h
  | .nilp, _, _, _, _, _, h => by simpa [RV] using h
  | .f x, _, u, _, _, _, h => by
    simp only [RV] at h ⊢
    refine RD_mono (immf_g (g := g) (g' := g.th b κ) fun b' o h1 h2 => ?_) x u h
    have hne : b' ≠ b := by rintro rfl; rw [h2] at hB; exact hB he
    exact ⟨⟨h1, hne⟩, by simp [G.th, hne, h2]⟩
  | .nils _, _, _, _, _, _, h => by simpa [RV] using h
  | .cref cs, ℓ, u, hp, _, hl, h => by
    simp only [plainV, List.isEmpty_iff] at hp
    subst hp
    simp only [RV] at h ⊢
    obtain ⟨b', o, rfl, _⟩ := h
    exact ⟨b', o, rfl, by simp [RDc]⟩
  | .sl sz k' o n c, ℓ, u, _, ho, hl, h => by
    have : k' ≠ κ := ho
    simpa [RV, G.th, this] using h
  | .clo f cs, ℓ, u, hp, ho, hl, h => by
    simp only [RV, plainV] at hp h ⊢
    obtain ⟨vs, rfl, h⟩ := h
    exact ⟨vs, rfl, RVs_th cs .ext 0 vs hp ho he h⟩
  | .mp k', ℓ, u, _, ho, hl, h => by
    have : k' ≠ κ := ho
    simpa [RV, G.th, this] using h
theorem RVs_th [DecidablePred fun b' => b' = b] : ∀ (cs : List V) (ℓ : Owner) (i : Nat) (us : List Value), plainV.go cs = true → V.ons (· ≠ κ) cs → keep ℓ → RVs g w cs ℓ i us → RVs (g.th b κ) w cs ℓ i us
  | [], _, _, _, _, _, _, h => by simpa [RVs] using h
  | c :: cs, ℓ, i, us, hp, ho, hl, h => by
    simp only [plainV.go, Bool.and_eq_true] at hp
    simp only [RVs] at h ⊢
    obtain ⟨u, us', rfl, h1, h2⟩ := h
    exact ⟨u, us', rfl, RV_th c (ℓ.sub i) u hp.1 ho.1 (hs _ _ hl) h1, RVs_th cs ℓ (i + 1) us' hp.2 ho.2 hl h2⟩
end
end
variable {Γ : Env} {σ : St}
def thCells (l : List (List D)) (room : Nat) : List V := l.flatten.map V.d ++ List.replicate room .und
structure Lone (Γ : Env) : Prop where
  prot : ∀ b, Prot (Γ.g0.own b)
  imm : ∀ b o, Γ.g0.imm b o → b < Γ.w0.heap.size
theorem Lone.old {Γ : Env} (h : Lone Γ) {g : G} {w : World} (hf : Fr Γ.n0 Γ.g0 Γ.w0 g w) {b : Nat} (hb : ¬ Prot (g.own b)) : ¬ b < Γ.w0.heap.size := by
  intro hlt
  obtain ⟨h1, _, _⟩ := hf.old b hlt (h.prot b)
  rw [h1] at hb
  exact hb (h.prot b)
open Classical in
theorem thaw_core (hG : Lone Γ) {a : Act} {w : World} {g : G} (hs : SR Γ.n0 Γ.nt Γ.g0 Γ.w0 σ a w g) {κ sz : Nat} {l : List (List D)} {ℓ : Owner} {u : Value} (keep : Owner → Prop) (hkeep : ¬ keep ℓ) (hsub : ∀ o i, keep o → keep (o.sub i)) (he : keep .ext) (hℓ : ¬ Prot ℓ)
    (hown : RV g w (.own sz l) ℓ u) (hl : l ≠ []) (hpl : plainDs l = true) (hκ : Γ.n0 ≤ κ) (hκ2 : κ < σ.nb) (hκM : σ.M κ = none) :
    ∃ c b, l.length ≤ c ∧ c ≤ maxLen ∧ u = .slice (some ⟨b, 0, none⟩) l.length c ∧ g.own b = ℓ ∧ (g.th b κ).box κ = b ∧ BR (g.th b κ) w κ (.cells (thCells l ((c - l.length) * sz))) ∧ Fr Γ.n0 Γ.g0 Γ.w0 (g.th b κ) w ∧
      (∀ b' o, (g.th b κ).imm b' o → b' < w.heap.size ∧ ∀ k, (g.th b κ).own b' ≠ .box k) ∧ ∀ k, There σ.M k → k ≠ κ := by
  simp only [RV] at hown
  rcases hown with ⟨_, h⟩ | ⟨b, cap, vals, e, rfl, hb, hh, h4, h5, ⟨h6, h6'⟩, h7, h8⟩
  · exact absurd h hl
  have hnp : ¬ Prot (g.own b) := by rw [hb]; exact hℓ
  have hnew := hG.old hs.fr hnp
  have hk' : ¬ keep (g.own b) := by rw [hb]; exact hkeep
  refine ⟨cap, b, h4, h5, rfl, hb, by simp [G.th], ⟨vals.toList, e, by simpa [G.th] using hh, ?_, h6'⟩, ?_, ?_, ?_⟩
  · have h8' : RDL (g.th b κ).imm w sz b l 0 → False ∨ True := fun _ => .inr trivial
    obtain ⟨hfl, hfg⟩ := RDL_flat h8
    have hlen : vals.toList.length = (thCells l ((cap - l.length) * sz)).length := by
      simp only [thCells, List.length_append, List.length_map, List.length_replicate, hfl, Array.length_toList, h6]
      rw [← Nat.add_mul]; congr 1; omega
    refine (RVs_iff _ _ _ _).2 ⟨hlen, fun j c x hc hx => ?_⟩
    simp only [thCells] at hc
    by_cases hj : j < l.flatten.length
    · rw [List.getElem?_append_left (by rw [List.length_map]; exact hj), List.getElem?_map] at hc
      obtain ⟨y, hy, rfl⟩ := Option.map_eq_some_iff.1 hc
      obtain ⟨x', hx1, hx2⟩ := hfg j y hy
      have hcell : w.cell? ⟨b, 0 + j, none⟩ = vals[j]? := by simp [World.cell?, hh]
      rw [hcell] at hx1
      have : x = x' := by
        have h9 : vals[j]? = some x := by simpa using hx
        rw [h9] at hx1; exact Option.some.inj hx1
      subst this
      have hmem : y ∈ l.flatten := List.mem_of_getElem? hy
      obtain ⟨r, hr1, hr2⟩ := List.mem_flatten.1 hmem
      have hp : plainD y = true := List.all_eq_true.1 (List.all_eq_true.1 hpl r hr1) y hr2
      simp only [RV]
      exact RD_plain hp hx2
    · rw [List.getElem?_append_right (by rw [List.length_map]; omega)] at hc
      have : c = .und := by
        have := List.mem_of_getElem? hc
        exact (List.mem_replicate.1 this).2
      subst this; simp [RV]
  · have hf := hs.fr
    refine ⟨hf.os, hf.tape, hf.output, hf.size, ⟨fun b' o hi => ⟨hf.imm.mono b' o hi, ?_⟩, hf.imm.cell⟩, fun k hk => ?_, fun b' hb' ho => ?_⟩
    · rintro rfl; exact hnew (hG.imm _ _ hi)
    · have : k ≠ κ := by omega
      simp only [G.th, this, if_false]; exact hf.box k hk
    · have hne : b' ≠ b := by rintro rfl; exact hnew hb'
      obtain ⟨k1, k2, k3⟩ := hf.old b' hb' ho
      exact ⟨by simp [G.th, hne, k1], k2, fun o => by simp [G.th, hne, k3]⟩
  · rintro b' o ⟨hi, hne⟩
    obtain ⟨k1, k2⟩ := hs.mem.imm b' o hi
    exact ⟨k1, fun k => by simp only [G.th, hne, if_false]; exact k2 k⟩
  · rintro k hk rfl
    simp [There, hκM] at hk
theorem on_ne {M : Mem} {κ : Nat} (hκ : ∀ k, There M k → k ≠ κ) {v : V} (h : v.on fun k => (M k).isSome = true) : v.on (· ≠ κ) := on_mono (fun k hk => hκ k hk) v h
open Classical in
theorem Tr.thawS {cc : CC} {Q : Ex → St → Prop} (hG : Lone Γ) {t κ sz : Nat} {l : List (List D)} (hl : l ≠ []) (hpl : plainDs l = true) (hs0 : σ.s t = .own sz l) (hκ : Γ.n0 ≤ κ) (hκ2 : κ < σ.nb) (hκM : σ.M κ = none)
    (hps : ∀ t', t' ≠ t → plainV (σ.s t') = true) (hpm : ∀ k cs, σ.M k = some (.cells cs) → plainV.go cs = true) (hpn : ∀ k es c, σ.M k ≠ some (.mp es c))
    (h : ∀ c, l.length ≤ c → c ≤ maxLen → Tr Γ cc ⟨σ.s.put t (.sl sz κ 0 l.length c), σ.M.put κ (.cells (thCells l ((c - l.length) * sz))), σ.nb⟩ Q) : Tr Γ cc σ Q := by
  intro code hcode a w g hs
  have hslot := hs.slots t
  rw [hs0] at hslot
  have hsub : ∀ (o : Owner) i, o ≠ .slot t [] → o.sub i ≠ .slot t [] := by intro o i ho; cases o <;> simp_all [Owner.sub]
  obtain ⟨c, b, h1, h2, hu, hb, hbox, hbr, hfr, himm, hne⟩ := thaw_core hG hs (fun o => o ≠ .slot t []) (by simp) hsub (by simp) (by simp [Prot]) hslot hl hpl hκ hκ2 hκM
  have hk' : ¬ (fun o => o ≠ Owner.slot t []) (g.own b) := by simp [hb]
  refine h c h1 h2 code hcode a w (g.th b κ) ⟨⟨fun k bx hk => ?_, himm⟩, fun t' => ?_, hs.size, hs.defers, fun t' => ?_, fun k cs hk => ?_, hs.top, hfr⟩
  · replace hk : (σ.M.put κ (.cells (thCells l ((c - l.length) * sz)))) k = some bx := hk
    by_cases hkk : k = κ
    · subst hkk
      rw [put_same] at hk; cases hk
      exact ⟨hκ2, by rw [hbox]; simp [G.th], hbr⟩
    · rw [put_other _ _ hkk] at hk
      obtain ⟨k1, k2, k3⟩ := hs.mem.box k bx hk
      have hbx : (g.th b κ).box k = g.box k := by simp [G.th, hkk]
      have hne' : g.box k ≠ b := by
        rintro rfl
        rw [k2] at hb; cases hb
      refine ⟨k1, by rw [hbx]; simp [G.th, hne', k2], ?_⟩
      cases bx with
      | mp es c => exact absurd hk (hpn k es c)
      | cells cs =>
        obtain ⟨vals, e, q1, q2, q3⟩ := k3
        refine ⟨vals, e, by rw [hbx]; exact q1, RVs_th hk' hsub (by simp) cs (.box k) 0 vals (hpm k cs hk) ?_ (by simp) q2, q3⟩
        exact ons_mono (fun j hj => hne j hj) _ (hs.onM k cs hk).1
  · simp only [Sl.put]
    split
    · rename_i he; subst he
      simp only [RV]; rw [hbox]; exact hu
    · rename_i hne2
      refine RV_th hk' hsub (by simp) _ _ _ (hps t' hne2) (on_ne hne (hs.onS t')) ?_ (hs.slots t')
      simp; exact hne2
  · simp only [Sl.put]
    split
    · show There _ κ; exact There.self
    · exact on_mono (fun k hk => There.put hk) _ (hs.onS t')
  · replace hk : (σ.M.put κ (.cells (thCells l ((c - l.length) * sz)))) k = some (.cells cs) := hk
    by_cases hkk : k = κ
    · subst hkk
      rw [put_same] at hk; cases hk
      have hno : ∀ p : Nat → Prop, V.ons p (thCells l ((c - l.length) * sz)) := by
        intro p
        rw [ons_iff]
        intro v hv
        simp only [thCells, List.mem_append, List.mem_map, List.mem_replicate] at hv
        rcases hv with ⟨x, _, rfl⟩ | ⟨_, rfl⟩ <;> trivial
      exact ⟨hno _, fun _ => hno _⟩
    · rw [put_other _ _ hkk] at hk
      obtain ⟨q1, q2⟩ := hs.onM k cs hk
      exact ⟨ons_mono (fun j hj => There.put hj) _ q1, q2⟩
open Classical in
theorem Tr.thawC {cc : CC} {Q : Ex → St → Prop} (hG : Lone Γ) {k0 i κ sz : Nat} {l : List (List D)} {cs0 : List V} (hl : l ≠ []) (hpl : plainDs l = true) (hk0 : Γ.n0 ≤ k0) (hM0 : σ.M k0 = some (.cells cs0)) (hi : cs0[i]? = some (.own sz l)) (hκ : Γ.n0 ≤ κ) (hκ2 : κ < σ.nb) (hκM : σ.M κ = none)
    (hps : ∀ t', plainV (σ.s t') = true) (hpm : ∀ k cs, σ.M k = some (.cells cs) → plainV.go (if k = k0 then cs.set i .und else cs) = true) (hpn : ∀ k es c, σ.M k ≠ some (.mp es c))
    (h : ∀ c, l.length ≤ c → c ≤ maxLen → Tr Γ cc ⟨σ.s, (σ.M.put k0 (.cells (cs0.set i (.sl sz κ 0 l.length c)))).put κ (.cells (thCells l ((c - l.length) * sz))), σ.nb⟩ Q) : Tr Γ cc σ Q := by
  intro code hcode a w g hs
  obtain ⟨u0, hcell, hrv0, _⟩ := box_cell hs.mem hM0 hi
  have hsub : ∀ (o : Owner) j, (o ≠ .cell k0 i ∧ o ≠ .box k0) → (o.sub j ≠ .cell k0 i ∧ o.sub j ≠ .box k0) := by
    rintro o j ⟨h1, h2⟩
    cases o <;> simp_all [Owner.sub]
  have hnk : k0 ≠ κ := by rintro rfl; rw [hM0] at hκM; cases hκM
  obtain ⟨c, b, h1, h2, hu, hb, hbox, hbr, hfr, himm, hne⟩ := thaw_core hG hs (fun o => o ≠ .cell k0 i ∧ o ≠ .box k0) (by simp) hsub (by simp) (by simp [Prot]) hrv0 hl hpl hκ hκ2 hκM
  have hk' : ¬ (fun o => o ≠ Owner.cell k0 i ∧ o ≠ .box k0) (g.own b) := by simp [hb]
  have hther : ∀ j, There σ.M j → There ((σ.M.put k0 (.cells (cs0.set i (.sl sz κ 0 l.length c)))).put κ (.cells (thCells l ((c - l.length) * sz)))) j := fun j hj => There.put (There.put hj)
  refine h c h1 h2 code hcode a w (g.th b κ) ⟨⟨fun k bx hk => ?_, himm⟩, fun t' => ?_, hs.size, hs.defers, fun t' => ?_, fun k cs hk => ?_, hs.top, hfr⟩
  · replace hk : ((σ.M.put k0 (.cells (cs0.set i (.sl sz κ 0 l.length c)))).put κ (.cells (thCells l ((c - l.length) * sz)))) k = some bx := hk
    by_cases hkk : k = κ
    · subst hkk
      rw [put_same] at hk; cases hk
      exact ⟨hκ2, by rw [hbox]; simp [G.th], hbr⟩
    · rw [put_other _ _ hkk] at hk
      have hbx : (g.th b κ).box k = g.box k := by simp [G.th, hkk]
      by_cases hkz : k = k0
      · subst hkz
        rw [put_same] at hk; cases hk
        obtain ⟨k1, k2, vals, e, q1, q2, q3⟩ := hs.mem.box k _ hM0
        have hne' : g.box k ≠ b := by
          rintro rfl
          rw [k2] at hb; cases hb
        refine ⟨k1, by rw [hbx]; simp [G.th, hne', k2], vals, e, by rw [hbx]; exact q1, (RVs_iff _ _ _ _).2 ⟨?_, fun j d x hd hx => ?_⟩, q3⟩
        · rw [List.length_set]; exact RVs_length q2
        · obtain ⟨r1, r2⟩ := (RVs_iff _ _ _ _).1 q2
          by_cases hj : j = i
          · subst hj
            have hlt := (List.getElem?_eq_some_iff.1 hi).1
            rw [List.getElem?_set_self hlt] at hd; cases hd
            have hcx : w.cell? ⟨g.box k, j, none⟩ = some x := by
              have h9 : vals.toArray[j]? = some x := by simpa using hx
              simp [World.cell?, q1]; simpa using hx
            rw [hcell] at hcx; cases hcx
            simp only [RV]; rw [hbox]; exact hu
          · rw [List.getElem?_set_ne (Ne.symm hj)] at hd
            have hpl2 := hpm k cs0 hM0
            rw [if_pos rfl, plain_go] at hpl2
            have hmem : d ∈ cs0.set i .und := by
              have : (cs0.set i .und)[j]? = some d := by rw [List.getElem?_set_ne (Ne.symm hj)]; exact hd
              exact List.mem_of_getElem? this
            refine RV_th hk' hsub (by simp) d _ x (hpl2 d hmem) ?_ ?_ (r2 j d x hd hx)
            · exact on_mono (fun j hj => hne j hj) _ (ons_get (hs.onM k cs0 hM0).1 hd)
            · simp [Owner.sub]; omega
      · rw [put_other _ _ hkz] at hk
        obtain ⟨k1, k2, k3⟩ := hs.mem.box k bx hk
        have hne' : g.box k ≠ b := by
          rintro rfl
          rw [k2] at hb; cases hb
        refine ⟨k1, by rw [hbx]; simp [G.th, hne', k2], ?_⟩
        cases bx with
        | mp es c => exact absurd hk (hpn k es c)
        | cells cs =>
          obtain ⟨vals, e, q1, q2, q3⟩ := k3
          have hp := hpm k cs hk
          rw [if_neg hkz] at hp
          refine ⟨vals, e, by rw [hbx]; exact q1, RVs_th hk' hsub (by simp) cs (.box k) 0 vals hp ?_ ⟨by simp, by simpa using hkz⟩ q2, q3⟩
          exact ons_mono (fun j hj => hne j hj) _ (hs.onM k cs hk).1
  · exact RV_th hk' hsub (by simp) _ _ _ (hps t') (on_ne hne (hs.onS t')) (by simp) (hs.slots t')
  · exact on_mono hther _ (hs.onS t')
  · replace hk : ((σ.M.put k0 (.cells (cs0.set i (.sl sz κ 0 l.length c)))).put κ (.cells (thCells l ((c - l.length) * sz)))) k = some (.cells cs) := hk
    by_cases hkk : k = κ
    · subst hkk
      rw [put_same] at hk; cases hk
      have hno : ∀ p : Nat → Prop, V.ons p (thCells l ((c - l.length) * sz)) := by
        intro p
        rw [ons_iff]
        intro v hv
        simp only [thCells, List.mem_append, List.mem_map, List.mem_replicate] at hv
        rcases hv with ⟨x, _, rfl⟩ | ⟨_, rfl⟩ <;> trivial
      exact ⟨hno _, fun _ => hno _⟩
    · rw [put_other _ _ hkk] at hk
      by_cases hkz : k = k0
      · subst hkz
        rw [put_same] at hk; cases hk
        obtain ⟨q1, q2⟩ := hs.onM k cs0 hM0
        refine ⟨ons_set i (ons_mono hther _ q1) ?_, fun hlt => absurd hlt (by omega)⟩
        show There _ κ; exact There.self
      · rw [put_other _ _ hkz] at hk
        obtain ⟨q1, q2⟩ := hs.onM k cs hk
        exact ⟨ons_mono hther _ q1, q2⟩
end Go.Abs
end
section
namespace Go.Abs
open Go Go.Sort
set_option linter.unusedVariables false
set_option linter.unusedSimpArgs false
set_option linter.unusedSectionVars false
def D.val : D → Value
  | .int k n => .int k n
  | .bool b => .bool b
  | .str s => .string s
  | .lst _ _ => .slice none 0 0
def D.scalar : D → Bool
  | .lst _ _ => false
  | _ => true
theorem RD_val {imm : Nat → Nat → Prop} {w : World} {x : D} {u : Value} (hs : x.scalar = true) : RD imm w x u ↔ u = x.val := by
  cases x <;> simp [RD, D.val, D.scalar] at hs ⊢
theorem val_one {x : D} (hs : x.scalar = true) : x.val.oneCell' = true := by cases x <;> simp [D.scalar, D.val] at hs ⊢ <;> rfl
def rowV {α : Type} (e : α → List D) (xs : List α) : List Value := (xs.map e).flatten.map D.val
theorem heap_putRow (w : World) (n blk : Nat) (F : Array Value) (os : Array Obj) {c : Array Value} {e : TypeId} (h : w.heap[blk]? = some (.cells c e (0, 0))) : (grow (putRow id (Sort.ahead w n) blk 0 F) os).heap[blk]? = some (.cells (putCells id 0 F c) e (0, 0)) := by
  have hlt : blk < w.heap.size := (Array.getElem?_eq_some_iff.1 h).1
  have hsz : (putRow id (Sort.ahead w n) blk 0 F).heap.size = w.heap.size := by simp [putRow, mapBlock, Sort.ahead]
  rw [heap_grow_old _ _ (by rw [hsz]; exact hlt)]
  show (w.heap.modify blk (onCells (putCells id 0 F)))[blk]? = _
  rw [Array.getElem?_modify, if_pos rfl, h]
  rfl
theorem heap_putRow_other (w : World) (n blk : Nat) (F : Array Value) (os : Array Obj) {b : Nat} (hb : b ≠ blk) (hlt : b < w.heap.size) : (grow (putRow id (Sort.ahead w n) blk 0 F) os).heap[b]? = w.heap[b]? := by
  have hsz : (putRow id (Sort.ahead w n) blk 0 F).heap.size = w.heap.size := by simp [putRow, mapBlock, Sort.ahead]
  rw [heap_grow_old _ _ (by rw [hsz]; exact hlt)]
  show (w.heap.modify blk (onCells (putCells id 0 F)))[b]? = _
  rw [Array.getElem?_modify, if_neg (Ne.symm hb)]
def RowFn {α : Type} (P : Program) (f : FuncId) (e : α → List D) (ex : Array Value) (srt : List α → List α) : Prop :=
  ∀ (blk cap : Nat) (xs : List α) (w : World), (∀ j, j < (rowV e xs).length → w.cell? ⟨blk, j, none⟩ = (rowV e xs)[j]? ∧ w.frozen? ⟨blk, j, none⟩ = false) → blk < w.heap.size → xs.length < 4611686018427387904 →
    Calls P f (#[.slice (some ⟨blk, 0, none⟩) xs.length cap] ++ ex) w fun e' w' => e' = .returned (.tuple #[]) ∧ ∃ n os, w' = grow (putRow id (Sort.ahead w n) blk 0 (rowV e (srt xs)).toArray) os
theorem rowV_len {α : Type} {e : α → List D} {sz : Nat} (hlen : ∀ x, (e x).length = sz) (xs : List α) : (rowV e xs).length = xs.length * sz := by
  simp only [rowV, List.length_map]
  induction xs with
  | nil => simp
  | cons x xs ih => simp [hlen, ih, Nat.add_mul]; omega
theorem acalls_row {α : Type} {P : Program} {f : FuncId} {e : α → List D} {sz : Nat} (hlen : ∀ x, (e x).length = sz) (hsc : ∀ x, (e x).all D.scalar = true) {srt : List α → List α} (hsl : ∀ xs, (srt xs).length = xs.length)
    {ex : Array Value} {exV : List V} (hex : ∀ g w us, RFs g w exV us → us = ex.toList) (hb : HasBody P f = true) (hK : RowFn P f e ex srt)
    (xs : List α) (c k0 : Nat) (M : Mem) (nb : Nat) (hM : M k0 = some (.cells (thCells (xs.map e) ((c - xs.length) * sz)))) (hsz : xs.length < 4611686018427387904) :
    ACalls P f (.sl sz k0 0 xs.length c :: exV) M nb (.tup []) (M.put k0 (.cells (thCells ((srt xs).map e) ((c - xs.length) * sz)))) nb := by
  refine ⟨hb, Nat.le_refl _, fun w g us hm hMon hfresh hus hfl hons => ?_⟩
  obtain ⟨u0, us', rfl, hu0, hus'⟩ := hus
  have h0 := RF_sl.1 hu0
  subst h0
  have h1 := hex _ _ _ hus'
  obtain ⟨hk0, hown, vals, et, hh, hrv, hone⟩ := hm.box k0 _ hM
  have hlt : g.box k0 < w.heap.size := (Array.getElem?_eq_some_iff.1 hh).1
  obtain ⟨hvl, hvr⟩ := (RVs_iff _ _ _ _).1 hrv
  have hscf : ∀ (l : List α), ∀ y ∈ (l.map e).flatten, y.scalar = true := by
    intro l y hy
    obtain ⟨r, hr, hy⟩ := List.mem_flatten.1 hy
    obtain ⟨x, _, rfl⟩ := List.mem_map.1 hr
    exact List.all_eq_true.1 (hsc x) y hy
  have hfl' : ∀ l : List α, (l.map e).flatten.length = l.length * sz := fun l => by have := rowV_len hlen l; rw [rowV, List.length_map] at this; exact this
  have hcell : ∀ j, j < (rowV e xs).length → vals[j]? = (rowV e xs)[j]? := by
    intro j hj
    rw [rowV_len hlen] at hj
    have hjf : j < (xs.map e).flatten.length := by rw [hfl']; exact hj
    have hjv : j < vals.length := by
      rw [hvl]; simp only [thCells, List.length_append, List.length_map]; omega
    have hc : (thCells (xs.map e) ((c - xs.length) * sz))[j]? = some (.d (xs.map e).flatten[j]) := by
      simp only [thCells]
      rw [List.getElem?_append_left (by rw [List.length_map]; exact hjf), List.getElem?_map, List.getElem?_eq_getElem hjf]; rfl
    have := hvr j _ _ hc (List.getElem?_eq_getElem hjv)
    simp only [RV] at this
    rw [RD_val (hscf xs _ (List.getElem_mem hjf))] at this
    rw [List.getElem?_eq_getElem hjv, this]
    simp only [rowV, List.getElem?_map, List.getElem?_eq_getElem hjf, Option.map_some]
  have hcall := hK (g.box k0) c xs w (fun j hj => ⟨by rw [← hcell j hj]; simp [World.cell?, hh], by simp [World.frozen?, hh]⟩) hlt hsz
  have hus2 : (Value.slice (some ⟨g.box k0, 0, none⟩) xs.length c :: us').toArray = #[.slice (some ⟨g.box k0, 0, none⟩) xs.length c] ++ ex := by
    rw [h1]; apply Array.ext'; simp
  rw [hus2]
  refine hcall.mono ?_
  rintro e' w' ⟨rfl, n, os, rfl⟩
  generalize hF : (rowV e (srt xs)).toArray = F
  have hFs : F.size = xs.length * sz := by rw [← hF]; simp [rowV_len hlen, hsl]
  have hblk := heap_putRow w n (g.box k0) F os hh
  have hoth : ∀ b, b ≠ g.box k0 → b < w.heap.size → (grow (putRow id (Sort.ahead w n) (g.box k0) 0 F) os).heap[b]? = w.heap[b]? := fun b hb hlt => heap_putRow_other w n _ F os hb hlt
  have hsize : w.heap.size ≤ (grow (putRow id (Sort.ahead w n) (g.box k0) 0 F) os).heap.size := by
    simp [putRow, mapBlock, Sort.ahead]
  generalize hw' : grow (putRow id (Sort.ahead w n) (g.box k0) 0 F) os = w' at hblk hoth hsize
  have himm : Imm g.imm g.imm w w' := by
    refine ⟨fun _ _ h => h, fun b o h => ?_⟩
    obtain ⟨k1, k2⟩ := hm.imm b o h
    have hne : b ≠ g.box k0 := by rintro rfl; exact k2 k0 hown
    simp only [World.cell?, hoth b hne k1]
  have hkept : Kept g w g w' (There M) (fun o => o ≠ .box k0) := ⟨himm, fun _ _ => rfl, fun b hb hl => ⟨rfl, hoth b (by rintro rfl; exact hb hown) hl, fun _ => Iff.rfl⟩⟩
  have hsub : ∀ (o : Owner) i, o ≠ .box k0 → o.sub i ≠ .box k0 := by intro o i _; cases o <;> simp [Owner.sub]
  have hnew : ∀ p : Nat → Prop, V.ons p (thCells ((srt xs).map e) ((c - xs.length) * sz)) := by
    intro p
    rw [ons_iff]
    intro v hv
    simp only [thCells, List.mem_append, List.mem_map, List.mem_replicate] at hv
    rcases hv with ⟨x, _, rfl⟩ | ⟨_, rfl⟩ <;> trivial
  refine ⟨_, g, rfl, ⟨fun k b hk => ?_, fun b o h => ⟨Nat.lt_of_lt_of_le (hm.imm b o h).1 hsize, (hm.imm b o h).2⟩⟩, ⟨[], rfl, rfl⟩, trivial, fun k cs hk => ?_, ?_⟩
  · by_cases hkk : k = k0
    · subst hkk
      rw [put_same] at hk; cases hk
      refine ⟨hk0, hown, (putCells id 0 F vals.toArray).toList, et, by simpa using hblk, (RVs_iff _ _ _ _).2 ⟨?_, fun j cc x hc hx => ?_⟩, fun x hx => ?_⟩
      · have e1 : (thCells (xs.map e) ((c - xs.length) * sz)).length = xs.length * sz + (c - xs.length) * sz := by
          simp only [thCells, List.length_append, List.length_map, List.length_replicate, hfl']
        have e2 : (thCells ((srt xs).map e) ((c - xs.length) * sz)).length = xs.length * sz + (c - xs.length) * sz := by
          simp only [thCells, List.length_append, List.length_map, List.length_replicate, hfl', hsl]
        rw [e2, ← e1, ← hvl]
        simp [putCells]
      · have hx' : (putCells id 0 F vals.toArray)[j]? = some x := by simpa using hx
        simp only [putCells, Array.getElem?_mapIdx, List.getElem?_toArray, Option.map_eq_some_iff] at hx'
        obtain ⟨y, hy, rfl⟩ := hx'
        simp only [thCells] at hc
        by_cases hj : j < ((srt xs).map e).flatten.length
        · rw [List.getElem?_append_left (by rw [List.length_map]; exact hj), List.getElem?_map, List.getElem?_eq_getElem hj, Option.map_some, Option.some.injEq] at hc
          subst hc
          rw [hfl', hsl] at hj
          have hjF : j < F.size := by rw [hFs]; exact hj
          rw [if_pos ⟨Nat.zero_le _, by omega⟩]
          have hj2 : j < ((srt xs).map e).flatten.length := by rw [hfl', hsl]; exact hj
          simp only [RV]
          rw [RD_val (hscf (srt xs) _ (List.getElem_mem hj2))]
          simp only [Nat.sub_zero, id]
          rw [getElem!_pos F j hjF]
          subst hF
          simp only [rowV, List.getElem_toArray, List.getElem_map]
        · rw [List.getElem?_append_right (by rw [List.length_map]; omega)] at hc
          have : cc = .und := (List.mem_replicate.1 (List.mem_of_getElem? hc)).2
          subst this; simp [RV]
      · obtain ⟨j, hj⟩ := List.getElem?_of_mem hx
        have hx' : (putCells id 0 F vals.toArray)[j]? = some x := by simpa using hj
        simp only [putCells, Array.getElem?_mapIdx, List.getElem?_toArray, Option.map_eq_some_iff] at hx'
        obtain ⟨y, hy, rfl⟩ := hx'
        split
        · rename_i hr
          have hjF : j - 0 < F.size := by omega
          simp only [id]
          rw [getElem!_pos F _ hjF]
          subst hF
          simp only [rowV, List.getElem_toArray, List.getElem_map]
          exact val_one (hscf (srt xs) _ (List.getElem_mem _))
        · exact hone y (List.mem_of_getElem? hy)
    · rw [put_other _ _ hkk] at hk
      obtain ⟨k1, k2, k3⟩ := hm.box k b hk
      cases b with
      | mp es c =>
        obtain ⟨ents, q1, q2⟩ := k3
        have hne : g.box k ≠ g.box k0 := by
          intro h; rw [h, hown] at k2; cases k2; exact hkk rfl
        exact ⟨k1, k2, ents, (hoth _ hne (Array.getElem?_eq_some_iff.1 q1).1).trans q1, RM_imm (g := g) (g' := g) hkept.imm q2⟩
      | cells cs =>
        obtain ⟨vals2, e2, q1, q2, q3⟩ := k3
        have hne : g.box k ≠ g.box k0 := by
          intro h; rw [h, hown] at k2; cases k2; exact hkk rfl
        refine ⟨k1, k2, vals2, e2, (hoth _ hne (Array.getElem?_eq_some_iff.1 q1).1).trans q1, ?_, q3⟩
        exact RVs_mono hkept hsub (by simp) cs (.box k) 0 vals2 (by simpa using hkk) (hMon k cs hk) q2
  · by_cases hkk : k = k0
    · subst hkk
      rw [put_same] at hk; cases hk
      exact hnew _
    · rw [put_other _ _ hkk] at hk
      exact ons_mono (fun j hj => There.put hj) _ (hMon k cs hk)
  · refine ⟨by rw [← hw']; rfl, by rw [← hw']; rfl, by rw [← hw']; rfl, hsize, himm, fun _ _ => rfl, fun b hb ho => ⟨rfl, hoth b ?_ hb, fun _ => Iff.rfl⟩⟩
    rintro rfl
    rw [hown] at ho
    exact ho
end Go.Abs
end
section
namespace Go.Abs
open Go
set_option linter.unusedVariables false
set_option linter.unusedSimpArgs false
set_option linter.unusedSectionVars false
variable {Γ : Env} {σ : St} {α : Type}
section
variable {g : G} {w : World} (hx : ∀ b, g.own b = .ext)
include hx
mutual
theorem RV_toF : ∀ (v : V) (ℓ : Owner) (u : Value), RV g w v ℓ u → RV g w v.toF ℓ u
  | .d (.lst sz l), _, u, h => by
    simp only [V.toF, RV] at h ⊢
    exact RD_str (fun b o h1 h2 => ⟨h1, hx b, h2⟩) _ u h
  | .d (.int ..), _, _, h => by simpa [V.toF] using h
  | .d (.bool _), _, _, h => by simpa [V.toF] using h
  | .d (.str _), _, _, h => by simpa [V.toF] using h
  | .agg cs, ℓ, u, h => by
    simp only [V.toF, RV] at h ⊢
    obtain ⟨vs, rfl, h, h1⟩ := h
    exact ⟨vs, rfl, RVs_toF cs ℓ 0 vs h, h1⟩
  | .und, _, _, h => h
  | .tup _, _, _, h => h
  | .own .., _, _, h => h
  | .ptr .., _, _, h => h
  | .nilp, _, _, h => h
  | .f _, _, _, h => h
  | .nils _, _, _, h => h
  | .cref _, _, _, h => h
  | .sl .., _, _, h => h
  | .clo .., _, _, h => h
  | .mp _, _, _, h => h
theorem RVs_toF : ∀ (cs : List V) (ℓ : Owner) (i : Nat) (us : List Value), RVs g w cs ℓ i us → RVs g w (V.toFs cs) ℓ i us
  | [], _, _, _, h => h
  | c :: cs, ℓ, i, us, h => by
    simp only [RVs, V.toFs] at h ⊢
    obtain ⟨u, us', rfl, h1, h2⟩ := h
    exact ⟨u, us', rfl, RV_toF c _ u h1, RVs_toF cs ℓ (i + 1) us' h2⟩
end
theorem RFs_toF : ∀ {cs : List V} {us : List Value}, RFs g w cs us → RFs g w (V.toFs cs) us
  | [], _, h => h
  | c :: cs, _, ⟨u, us', e, r, h⟩ => ⟨u, us', e, fun ℓ => RV_toF hx c ℓ u (r ℓ), RFs_toF h⟩
end
theorem fn_trT {P : Program} {f : FuncId} {cf : CFn} (hcf : compFn P f = some cf) {args args' : List V} {r : V} (hargs : Nat.beq args'.length cf.np = true) (hr0 : r.lt 0 = true) (hr1 : resOK r = true) (ha : V.toFs args = args') (hfl : V.dems args' = args') (hlt : V.lt.go 0 args' = true)
    (hrun : ∀ (Γ : Env) (M : Mem), Γ.P = P → Γ.nt = cf.nt → Lone Γ → M = (fun _ => none) → (∀ k, Γ.n0 ≤ k → M k = none) → Tr Γ cf.body ⟨initS args', memOf Γ.n0 [] M, Γ.n0 + cf.nt⟩ (FinP cf.res r Γ.n0 M)) : ∀ M nb, ACalls P f args M nb r M nb := by
  intro M nb
  have hflat : ∀ x ∈ args', Flat x := by
    rw [← hfl]; exact dems_flat
  refine fn_tr3 hcf hr0 hr1 (fun g0 w0 us hp hi hus => ⟨args', by rw [← ha]; exact RFs_toF hp hus, hflat, hlt, Nat.eq_of_beq_eq_true hargs, fun Γ k1 k2 k3 k4 k5 => ?_⟩) M
  have h := hrun Γ _ k1 k3 ⟨fun b => by rw [k4, hp b]; trivial, fun b o hb => by rw [k5]; rw [k4] at hb; exact hi b o hb⟩ rfl (fun _ _ => rfl)
  rw [memOf_nil (fun _ _ => rfl), k2] at h
  refine h.mono ?_
  rintro e σ' ⟨he, r', q1, q2, q3, q4⟩
  exact ⟨he, r', q1, q2, fun k b hk => (by cases hk), fun _ _ _ => ⟨q3, fun k cs hk => (by cases hk), fun k hk => (by cases hk)⟩⟩
theorem fToD {x : D} : WkV (.f x) (.d x) := ⟨fun g w ℓ u h => by
    simp only [RV] at h ⊢
    exact RD_mono ⟨fun b o h => h.1, fun _ _ _ => rfl⟩ x u h, fun _ _ => trivial⟩
open Classical in
theorem ACalls.frz {P : Program} {f : FuncId} {args : List V} {M M' : Mem} {nb nb' sz : Nat} {l : List (List D)} (h : ACalls P f args M nb (.own sz l) M' nb') (hpl : plainDs l = true) : ACalls P f args M nb (.f (.lst sz l)) M' nb' := by
  obtain ⟨h1, h2, h3⟩ := h
  refine ⟨h1, h2, fun w g us k1 k2 k3 k4 k5 k6 => (h3 w g us k1 k2 k3 k4 k5 k6).mono ?_⟩
  rintro e w' ⟨v, g', rfl, hm, hv, _, hon, hf⟩
  let g2 : G := ⟨g'.box, g'.imm, fun b => if g'.own b = .res [] then .ext else g'.own b⟩
  have hown : ∀ b, g'.own b ≠ .res [] → g2.own b = g'.own b := fun b hb => by simp [g2, hb]
  have hkept : Kept g' w' g2 w' (fun _ => True) (fun o => o ≠ .res []) := ⟨⟨fun _ _ h => h, fun _ _ _ => rfl⟩, fun _ _ => rfl, fun b hb _ => ⟨hown b hb, rfl, fun _ => Iff.rfl⟩⟩
  have hsub : ∀ (o : Owner) i, o ≠ .res [] → o.sub i ≠ .res [] := by intro o i _; cases o <;> simp [Owner.sub]
  refine ⟨v, g2, rfl, ⟨fun k b hk => ?_, fun b o hb => ?_⟩, ?_, trivial, hon, ?_⟩
  · obtain ⟨q1, q2, q3⟩ := hm.box k b hk
    refine ⟨q1, (hown _ (by rw [q2]; simp)).trans q2, ?_⟩
    cases b with
    | mp es c =>
      obtain ⟨ents, p1, p2⟩ := q3
      exact ⟨ents, p1, RM_imm (g := g') (g' := g2) hkept.imm p2⟩
    | cells cs =>
      obtain ⟨vals, e, p1, p2, p3⟩ := q3
      exact ⟨vals, e, p1, RVs_mono hkept hsub (by simp) cs (.box k) 0 vals (by simp) (by rw [ons_iff]; intro v _; exact on_true v) p2, p3⟩
  · obtain ⟨q1, q2⟩ := hm.imm b o hb
    refine ⟨q1, fun k => ?_⟩
    simp only [g2]
    split
    · simp
    · exact q2 k
  · have hrd := RD_of_own hv
    simp only [RV] at hv ⊢
    rcases hv with ⟨⟨a, rfl⟩, rfl⟩ | ⟨b, cap, vals, e, rfl, hb, hh, h4, h5, h6, h7, h8⟩
    · simp only [RD]; exact ⟨a, 0, rfl, Nat.le_refl _, .inl trivial⟩
    · simp only [RD]
      refine ⟨_, cap, rfl, h4, .inr ⟨b, 0, rfl, ?_⟩⟩
      have h9 := RDL_strong sz b l 0 h8
      exact RDL_plain (fun o ho => ⟨ho.1, by simp [g2, hb], ho.2⟩) hpl h9
  · refine ⟨hf.os, hf.tape, hf.output, hf.size, hf.imm, hf.box, fun b hb ho => ?_⟩
    obtain ⟨q1, q2, q3⟩ := hf.old b hb ho
    exact ⟨(hown b (by rw [q1]; intro e; rw [e] at ho; exact ho)).trans q1, q2, q3⟩
theorem plainOwn {e : α → List D} (h : ∀ x, (e x).all plainD = true) {sz : Nat} {xs : List α} : plainV (.own sz (List.map e xs)) = true := by
  simp only [plainV, plainDs, List.all_map]
  exact List.all_eq_true.2 fun x _ => h x
theorem plainDsM {e : α → List D} (h : ∀ x, (e x).all plainD = true) {xs : List α} : plainDs (List.map e xs) = true := by
  simp only [plainDs, List.all_map]
  exact List.all_eq_true.2 fun x _ => h x
def PL : List (Nat × V) → Prop
  | [] => True
  | (_, v) :: E => plainV v = true ∧ PL E
theorem PL.at : ∀ {E : List (Nat × V)}, PL E → ∀ t, plainV (look E t) = true
  | [], _, t => rfl
  | (u, v) :: E, h, t => by
    simp only [look]
    cases hb : Nat.beq t u with
    | true => exact h.1
    | false => exact PL.at h.2 t
def PV : List V → Prop
  | [] => True
  | v :: vs => plainV v = true ∧ PV vs
theorem PV.go : ∀ {vs : List V}, PV vs → plainV.go vs = true
  | [], _ => rfl
  | v :: vs, h => by simp only [plainV.go, Bool.and_eq_true]; exact ⟨h.1, PV.go h.2⟩
def PB (t0 i : Nat) : List (Nat × Bx) → Prop
  | [] => True
  | (t, .cells cs) :: L => PV (bif Nat.beq t t0 then cs.set i .und else cs) ∧ PB t0 i L
  | (_, .mp ..) :: _ => False
theorem PB.at {t0 i : Nat} : ∀ {L : List (Nat × Bx)}, PB t0 i L → ∀ t cs, lookB L t = some (.cells cs) → plainV.go (if t = t0 then cs.set i .und else cs) = true
  | [], _, t, cs, h => by cases h
  | (u, .cells ds) :: L, hp, t, cs, h => by
    simp only [lookB] at h
    cases hb : Nat.beq t u with
    | true =>
      have := Nat.eq_of_beq_eq_true hb; subst this
      rw [hb] at h; cases h
      have := hp.1.go
      by_cases ht : t = t0
      · subst ht; rw [show Nat.beq t t = true from by simp] at this; rw [if_pos rfl]; exact this
      · have hf : Nat.beq t t0 = false := by
          cases hq : Nat.beq t t0 with
          | false => rfl
          | true => exact absurd (Nat.eq_of_beq_eq_true hq) ht
        rw [hf] at this; rw [if_neg ht]; exact this
    | false => rw [hb] at h; exact PB.at hp.2 t cs h
  | (u, .mp ..) :: L, hp, t, cs, h => hp.elim
theorem PB.nomp {t0 i : Nat} : ∀ {L : List (Nat × Bx)}, PB t0 i L → ∀ t es c, lookB L t ≠ some (.mp es c)
  | [], _, t, es, c, h => by cases h
  | (u, .cells ds) :: L, hp, t, es, c, h => by
    simp only [lookB] at h
    cases hb : Nat.beq t u with
    | true => rw [hb] at h; cases h
    | false => rw [hb] at h; exact PB.nomp hp.2 t es c h
  | (u, .mp ..) :: L, hp, t, es, c, h => hp.elim
theorem PB.nomem {t0 i n0 : Nat} {L : List (Nat × Bx)} (h : PB t0 i L) : ∀ k es c, memOf n0 L (fun _ => none) k ≠ some (.mp es c) := by
  intro k es c hk
  rcases Nat.lt_or_ge k n0 with hlt | hge
  · rw [memOf_base hlt] at hk; cases hk
  · obtain ⟨u, rfl⟩ : ∃ u, k = n0 + u := ⟨k - n0, by omega⟩
    rw [memOf_own] at hk
    exact h.nomp u es c hk
theorem thawCL {cc : CC} {Q : Ex → St → Prop} (hG : Lone Γ) {M0 : Mem} (hMe : M0 = fun _ => none) (t0 i κ : Nat) {sz m : Nat} {e : α → List D} {xs : List α} {E : List (Nat × V)} {L : List (Nat × Bx)} {cs0 : List V} (hxs : ¬ xs = []) (hpl : ∀ x, (e x).all plainD = true) (hM0 : lookB L t0 = some (.cells cs0))
    (hi : cs0[i]? = some (.own sz (List.map e xs))) (hκ2 : Nat.blt κ m = true) (hκM : lookB L κ = none) (hE : PL E) (hL : PB t0 i L)
    (h : ∀ c, xs.length ≤ c → xs.length ≤ maxLen → Tr Γ cc ⟨look E, memOf Γ.n0 ((κ, .cells (thCells (List.map e xs) ((c - xs.length) * sz))) :: (t0, .cells (cs0.set i (.sl sz (Γ.n0 + κ) 0 xs.length c))) :: L) M0, Γ.n0 + m⟩ Q) : Tr Γ cc ⟨look E, memOf Γ.n0 L M0, Γ.n0 + m⟩ Q := by
  subst hMe
  have hlt : κ < m := Nat.le_of_ble_eq_true hκ2
  refine Tr.thawC (σ := ⟨look E, memOf Γ.n0 L (fun _ => none), Γ.n0 + m⟩) hG (k0 := Γ.n0 + t0) (i := i) (κ := Γ.n0 + κ) (l := List.map e xs) (by simpa using hxs) (plainDsM hpl) (by omega) ((memOf_own (n0 := Γ.n0) (L := L) (M0 := fun _ => none)).trans hM0) hi (by omega) (by show _ < Γ.n0 + m; omega) ((memOf_own (n0 := Γ.n0) (L := L) (M0 := fun _ => none)).trans hκM) (fun t => hE.at t) ?_ hL.nomem ?_
  · intro k cs hk
    have hk : memOf Γ.n0 L (fun _ => none) k = some (.cells cs) := hk
    rcases Nat.lt_or_ge k Γ.n0 with hlt | hge
    · rw [memOf_base hlt] at hk; cases hk
    · obtain ⟨t, rfl⟩ : ∃ t, k = Γ.n0 + t := ⟨k - Γ.n0, by omega⟩
      rw [memOf_own] at hk
      have := hL.at t cs hk
      by_cases ht : t = t0
      · subst ht; simpa using this
      · have h2 : ¬ Γ.n0 + t = Γ.n0 + t0 := by omega
        simpa [ht, h2] using this
  · intro c hc hm
    have := h c (by simpa using hc) (by simp at hc; omega)
    rw [← memOf_put, ← memOf_put] at this
    simpa using this
theorem thawSL {cc : CC} {Q : Ex → St → Prop} (hG : Lone Γ) {M0 : Mem} (hMe : M0 = fun _ => none) (t κ : Nat) {sz m : Nat} {e : α → List D} {xs : List α} {E : List (Nat × V)} {L : List (Nat × Bx)} (hxs : ¬ xs = []) (hpl : ∀ x, (e x).all plainD = true) (hs0 : look E t = .own sz (List.map e xs))
    (hκ2 : Nat.blt κ m = true) (hκM : lookB L κ = none) (hE : PL ((t, .und) :: E)) (hL : PB κ 0 L)
    (h : ∀ c, xs.length ≤ c → xs.length ≤ maxLen → Tr Γ cc ⟨look ((t, .sl sz (Γ.n0 + κ) 0 xs.length c) :: E), memOf Γ.n0 ((κ, .cells (thCells (List.map e xs) ((c - xs.length) * sz))) :: L) M0, Γ.n0 + m⟩ Q) : Tr Γ cc ⟨look E, memOf Γ.n0 L M0, Γ.n0 + m⟩ Q := by
  subst hMe
  have hlt : κ < m := Nat.le_of_ble_eq_true hκ2
  refine Tr.thawS (σ := ⟨look E, memOf Γ.n0 L (fun _ => none), Γ.n0 + m⟩) hG (t := t) (κ := Γ.n0 + κ) (l := List.map e xs) (by simpa using hxs) (plainDsM hpl) hs0 (by omega) (by show _ < Γ.n0 + m; omega) ((memOf_own (n0 := Γ.n0) (L := L) (M0 := fun _ => none)).trans hκM) (fun t' ht => ?_) ?_ hL.nomem ?_
  · have := hE.at t'
    simp only [look] at this
    have hf : Nat.beq t' t = false := by
      cases hq : Nat.beq t' t with
      | false => rfl
      | true => exact absurd (Nat.eq_of_beq_eq_true hq) ht
    rw [hf] at this; exact this
  · intro k cs hk
    have hk : memOf Γ.n0 L (fun _ => none) k = some (.cells cs) := hk
    rcases Nat.lt_or_ge k Γ.n0 with hlt | hge
    · rw [memOf_base hlt] at hk; cases hk
    · obtain ⟨u, rfl⟩ : ∃ u, k = Γ.n0 + u := ⟨k - Γ.n0, by omega⟩
      rw [memOf_own] at hk
      have hne : u ≠ κ := by rintro rfl; rw [hκM] at hk; cases hk
      have := hL.at u cs hk
      rwa [if_neg hne] at this
  · intro c hc hm
    have := h c (by simpa using hc) (by simp at hc; omega)
    rw [← memOf_put, ← put_look] at this
    simpa using this
def RowK (P : Program) (c : Nat) (e : α → List D) (sz : Nat) (ex : List V) (f : List α → Option (List α)) : Prop :=
  ∀ xs ys, f xs = some ys → ys.length = xs.length ∧ (xs = [] → ys = xs ∧ ∀ M nb, ACalls P c (.d (.lst sz (List.map e xs)) :: ex) M nb (.tup []) M nb) ∧
    (xs.length ≤ maxLen → ∀ cap k0 M nb, M k0 = some (.cells (thCells (List.map e xs) ((cap - xs.length) * sz))) → ACalls P c (.sl sz k0 0 xs.length cap :: ex) M nb (.tup []) (M.put k0 (.cells (thCells (List.map e ys) ((cap - xs.length) * sz)))) nb)
section
variable {pc d nb : Nat} {os : List COp} {E : List (Nat × V)} {M0 : Mem} {L : List (Nat × Bx)} {Q : St → Prop} {gd : Option (Nat × Bool)}
theorem Rn.callRow {f : FuncId} {as : List Arg} {args : List V} {r : V} {t : Nat} {cs cs' : List V} (hw : Wn E gd) (ha : V.dems (as.map (·.val (look E))) = args) (ht : lookB L t = some (.cells cs)) (hC : ∀ M, M (Γ.n0 + t) = some (.cells cs) → ACalls Γ.P f args M nb r (M.put (Γ.n0 + t) (.cells cs')) nb)
    (hpc : pcOf pc = 0) (h : Rn Γ pc os ⟨look ((d, r) :: E), memOf Γ.n0 ((t, .cells cs') :: L) M0, nb⟩ Q) : Rn Γ pc (⟨some d, .call f, as, false, gd⟩ :: os) ⟨look E, memOf Γ.n0 L M0, nb⟩ Q := by
  refine Rn.cons ?_
  unfold COp.run
  rw [hw.wanted]
  simp only [show (K.call f).isCall = true from rfl, if_true, COp.callee, ha]
  rw [hpc]
  refine ⟨r, (memOf Γ.n0 L M0).put (Γ.n0 + t) (.cells cs'), nb, hC _ (by rw [memOf_own]; exact ht), fun k hk => ?_, fun k cs2 hk hM => .inl ?_, ?_⟩
  · simp only [Mem.put]; split
    · rfl
    · exact hk
  · rw [put_other _ _ (by omega)]
  · rw [show putDst (look E) (some d) r = look ((d, r) :: E) from put_look E d r, memOf_put]
    exact h
end
theorem fSlT {n0 t n c sz : Nat} {e : α → List D} {ys : List α} (h : ∀ x, (e x).length = sz) (hn : ys.length = n) (hc : n ≤ c) : WkV (frzV (n0 + t) ((ys.map e).flatten) (.sl sz (n0 + t) 0 n c)) (.d (.lst sz (ys.map e))) := by
  subst hn
  have h1 := flat_length h ys
  have h2 : ((ys.map e).flatten.drop 0).take (ys.length * sz) = (ys.map e).flatten := by rw [List.drop_zero, List.take_of_length_le (by omega)]
  refine .same ?_
  simp only [frzV, if_true]
  rw [if_pos ⟨by omega, hc⟩, h2, chunks_flat h ys]
theorem toDs_map_d : ∀ ds : List D, toDs (ds.map V.d) = some ds
  | [] => rfl
  | d :: ds => by simp only [List.map_cons, toDs, V.toD, toDs_map_d ds]
theorem preTh {e : α → List D} {ys : List α} {room : Nat} : PreD (thCells (List.map e ys) room) ((List.map e ys).flatten) := PreD.app (toDs_map_d _)
theorem Tr.seqW {x y : CC} {Q : Ex → St → Prop} (σ2 : St) (hx : Tr Γ x σ fun e σ' => e = .norm ∧ WeakSt Γ σ' σ2) (hy : Tr Γ y σ2 Q) : Tr Γ (.seq x y) σ Q := by
  refine Tr.seq (hx.mono ?_)
  rintro e σ' ⟨rfl, hw⟩
  exact hy.weak hw
end Go.Abs
end
section
namespace Go.Abs
open Go
set_option linter.unusedVariables false
set_option linter.unusedSimpArgs false
variable {κ β : Type} [BEq κ]
def mapE (ek : κ → V) (ev : β → V) : Nat → List (κ × β) → List (V × V × Nat)
  | _, [] => []
  | i, (k, v) :: m => (ek k, ev v, i) :: mapE ek ev (i + 1) m
def idxS (m : List (κ × β)) (k : κ) : Nat := match m with
  | [] => 0
  | (k', _) :: m => if k == k' then 0 else idxS m k + 1
def hasM (m : List (κ × β)) (k : κ) : Bool := m.any fun p => k == p.1
def getM (m : List (κ × β)) (k : κ) (z : β) : β := match m with
  | [] => z
  | (k', v) :: m => if k == k' then v else getM m k z
def setM (m : List (κ × β)) (k : κ) (v : β) : List (κ × β) := match m with
  | [] => [(k, v)]
  | (k', v') :: m => if k == k' then (k, v) :: m else (k', v') :: setM m k v
def putM (m : List (κ × β)) (i : Nat) (v : β) : List (κ × β) := m.modify i fun p => (p.1, v)
theorem hasM_cons {k k' : κ} {v : β} {m : List (κ × β)} : hasM ((k', v) :: m) k = ((k == k') || hasM m k) := rfl
theorem mapE_length {ek : κ → V} {ev : β → V} : ∀ (i : Nat) (m : List (κ × β)), (mapE ek ev i m).length = m.length
  | _, [] => rfl
  | i, _ :: m => by simp [mapE, mapE_length (i + 1) m]
theorem mapE_get {ek : κ → V} {ev : β → V} : ∀ (i j : Nat) (m : List (κ × β)), (mapE ek ev i m)[j]? = (m[j]?).map fun p => (ek p.1, ev p.2, i + j)
  | _, j, [] => by simp [mapE]
  | i, 0, _ :: m => by simp [mapE]
  | i, j + 1, _ :: m => by
    simp only [mapE, List.getElem?_cons_succ, mapE_get (i + 1) j m]
    rw [show i + 1 + j = i + (j + 1) from by omega]
theorem mapE_append {ek : κ → V} {ev : β → V} : ∀ (i : Nat) (m n : List (κ × β)), mapE ek ev i (m ++ n) = mapE ek ev i m ++ mapE ek ev (i + m.length) n
  | _, [], n => by simp [mapE]
  | i, (k, v) :: m, n => by simp [mapE, mapE_append (i + 1) m n]; congr 1; omega
theorem mapE_all {ek : κ → V} {ev : β → V} {kd : MK} (hk : ∀ a, kd.ok (ek a) = true) : ∀ (i : Nat) (m : List (κ × β)), kd.all (mapE ek ev i m) = true
  | _, [] => rfl
  | i, (k, v) :: m => by
    have := mapE_all (ev := ev) hk (i + 1) m
    simp only [MK.all] at *
    simp [mapE, hk, this]
section
variable {ek : κ → V} {ev : β → V} (hs : ∀ a b, keySame (ek a) (ek b) = (a == b))
include hs
theorem find_mapE {k : κ} : ∀ (i : Nat) (m : List (κ × β)) (z : β), findM (ek k) (mapE ek ev i m) = if hasM m k then some (idxS m k, ev (getM m k z)) else none
  | _, [], z => rfl
  | i, (k', v) :: m, z => by
    simp only [mapE, findM, hs, find_mapE (i + 1) m z, hasM_cons, idxS, getM]
    by_cases hb : (k == k') = true
    · simp [hb]
    · simp only [hb, Bool.false_eq_true, if_false, Bool.false_or]
      by_cases hq : hasM m k = true
      · rw [if_pos hq, if_pos hq]; rfl
      · rw [if_neg hq, if_neg hq]; rfl
omit hs in
theorem idxS_lt {k : κ} : ∀ {m : List (κ × β)}, hasM m k = true → idxS m k < m.length
  | [], h => by cases h
  | (k', v) :: m, h => by
    simp only [idxS, hasM, List.any_cons] at *
    cases hb : (k == k') with
    | true => simp
    | false =>
      rw [hb] at h
      have := idxS_lt (m := m) (by simpa [hasM] using h)
      simp; exact this
omit hs in
theorem idxS_none {k : κ} : ∀ {m : List (κ × β)}, hasM m k = false → idxS m k = m.length
  | [], h => rfl
  | (k', v) :: m, h => by
    simp only [hasM, List.any_cons, Bool.or_eq_false_iff] at h
    simp only [idxS, h.1, Bool.false_eq_true, if_false, List.length_cons]
    rw [idxS_none (m := m) h.2]
omit hs in
theorem setM_none {k : κ} {v : β} : ∀ {m : List (κ × β)}, hasM m k = false → setM m k v = m ++ [(k, v)]
  | [], h => rfl
  | (k', v') :: m, h => by
    simp only [hasM, List.any_cons, Bool.or_eq_false_iff] at h
    simp only [setM, h.1, Bool.false_eq_true, if_false, List.cons_append]
    rw [setM_none (m := m) h.2]
omit hs in
theorem mod_mapE {k : κ} {v : β} : ∀ (i : Nat) {m : List (κ × β)}, hasM m k = true → modM (ek k) (ev v) (idxS m k) (mapE ek ev i m) = mapE ek ev i (setM m k v)
  | _, [], h => by cases h
  | i, (k', v') :: m, h => by
    simp only [idxS, setM, mapE, hasM, List.any_cons] at *
    cases hb : (k == k') with
    | true => simp [modM, mapE]
    | false =>
      rw [hb] at h
      simp only [Bool.false_eq_true, if_false, modM, mapE]
      rw [mod_mapE (i + 1) (by simpa [hasM] using h)]
omit hs in
theorem setM_length {k : κ} {v : β} : ∀ {m : List (κ × β)}, hasM m k = true → (setM m k v).length = m.length
  | [], h => by cases h
  | (k', v') :: m, h => by
    simp only [setM, hasM, List.any_cons] at *
    cases hb : (k == k') with
    | true => simp
    | false =>
      rw [hb] at h
      simp [setM_length (m := m) (by simpa [hasM] using h)]
omit hs in
theorem mod_put {v : β} : ∀ (i j : Nat) {m : List (κ × β)} {p : κ × β}, m[j]? = some p → modM (ek p.1) (ev v) j (mapE ek ev i m) = mapE ek ev i (putM m j v)
  | i, 0, q :: m, p, h => by simp at h; subst h; simp [putM, mapE, modM]
  | i, j + 1, q :: m, p, h => by
    simp at h
    have := mod_put (v := v) (i + 1) j h
    simp only [putM, mapE, modM, List.modify_succ_cons] at *
    rw [this]
  | i, j, [], p, h => by simp at h
omit hs in
theorem born_mapE : ∀ (i j : Nat) (m : List (κ × β)), j < m.length → bornM ((i + j : Nat) : Int) (mapE ek ev i m) = some j
  | i, j, [], h => by simp at h
  | i, 0, _ :: m, h => by simp [mapE, bornM]
  | i, j + 1, _ :: m, h => by
    have := born_mapE (i + 1) j m (by simpa using h)
    simp only [mapE, bornM]
    have hne : ((i : Int) == ((i + (j + 1) : Nat) : Int)) = false := by simp; omega
    rw [hne, show i + (j + 1) = i + 1 + j from by omega, this]; rfl
end
variable {Γ : Env} {pc d nb : Nat} {os : List COp} {E : List (Nat × V)} {M M' M0 : Mem} {L : List (Nat × Bx)} {Q : St → Prop} {gd : Option (Nat × Bool)} {a b c : Arg} {ek : κ → V} {ev : β → V} {m : List (κ × β)}
theorem Rn.k0 {k : K} {as : List Arg} {v : V} (hw : Wn E gd) (hc : k.isCall = false) (hn : k.isNil = false) (hk : stepK Γ.n0 (Γ.n0 + 0) k (V.dems (as.map (·.val (look E)))) M = some (v, M'))
    (h : Rn Γ pc os ⟨look E, M', nb⟩ Q) : Rn Γ pc (⟨none, k, as, false, gd⟩ :: os) ⟨look E, M, nb⟩ Q := by
  refine Rn.cons ?_
  unfold COp.run
  rw [hw.wanted]
  simp only [hc, hn, Bool.false_eq_true, if_false, COp.step, COp.xs, Option.getD_none, hk, putDst]
  exact h
theorem Rn.mkmap (hw : Wn E gd) (hf : (lookB L d).isNone = true) (ek : κ → V) (ev : β → V) (h : Rn Γ pc os ⟨look ((d, .mp (Γ.n0 + d)) :: E), memOf Γ.n0 ((d, .mp (mapE ek ev 0 []) 0) :: L) M0, nb⟩ Q) :
    Rn Γ pc (⟨some d, .mkmap, [], false, gd⟩ :: os) ⟨look E, memOf Γ.n0 L M0, nb⟩ Q := by
  refine Rn.k hw rfl rfl ?_ h
  simp only [List.map_nil, V.dems, stepK]
  rw [if_pos (by simp [memOf_fresh (Γ := Γ) (M0 := M0) hf]), memOf_put]; rfl
theorem Rn.lenm {t : Nat} (hw : Wn E gd) (ha : a.val (look E) = .mp (Γ.n0 + t)) (hM : lookB L t = some (.mp (mapE ek ev 0 m) m.length)) (h : Rn Γ pc os ⟨look ((d, .d (.int .i64 m.length)) :: E), memOf Γ.n0 L M0, nb⟩ Q) :
    Rn Γ pc (⟨some d, .lenm, [a], false, gd⟩ :: os) ⟨look E, memOf Γ.n0 L M0, nb⟩ Q := by
  refine Rn.k hw rfl rfl ?_ h
  simp only [List.map_cons, List.map_nil, V.dems, ha, V.dem, stepK, boxOwn hM, mapE_length]
section
variable (hs : ∀ a b, keySame (ek a) (ek b) = (a == b)) {kd : MK} (hk : ∀ a, kd.ok (ek a) = true) (hv : ∀ b, (ev b).dat = true)
include hs hk hv
theorem Rn.lookup {t : Nat} {z : V} {k : κ} (zb : β) (hz : ev zb = z) (hw : Wn E gd) (ha : a.val (look E) = .mp (Γ.n0 + t)) (hb : (b.val (look E)).dem = ek k) (hM : lookB L t = some (.mp (mapE ek ev 0 m) m.length))
    (h : Rn Γ pc os ⟨look ((d, ev (getM m k zb)) :: E), memOf Γ.n0 L M0, nb⟩ Q) : Rn Γ pc (⟨some d, .lookup kd false z, [a, b], false, gd⟩ :: os) ⟨look E, memOf Γ.n0 L M0, nb⟩ Q := by
  subst hz
  refine Rn.k hw rfl rfl ?_ h
  simp only [List.map_cons, List.map_nil, V.dems, ha, hb, V.dem, stepK, boxOwn hM, hk, mapE_all hk, Bool.and_self, if_true, find_mapE hs 0 m zb]
  cases hh : hasM m k with
  | true => simp [hv]
  | false =>
    have : getM m k zb = zb := by
      clear hM h
      induction m with
      | nil => rfl
      | cons p m ih =>
        simp only [hasM, List.any_cons, Bool.or_eq_false_iff] at hh
        simp only [getM, hh.1, Bool.false_eq_true, if_false]
        exact ih hh.2
    simp [hv, this]
theorem Rn.lookupC {t : Nat} {z : V} {k : κ} (zb : β) (hz : ev zb = z) (hw : Wn E gd) (ha : a.val (look E) = .mp (Γ.n0 + t)) (hb : (b.val (look E)).dem = ek k) (hM : lookB L t = some (.mp (mapE ek ev 0 m) m.length))
    (h : Rn Γ pc os ⟨look ((d, .tup [ev (getM m k zb), .d (.bool (hasM m k))]) :: E), memOf Γ.n0 L M0, nb⟩ Q) : Rn Γ pc (⟨some d, .lookup kd true z, [a, b], false, gd⟩ :: os) ⟨look E, memOf Γ.n0 L M0, nb⟩ Q := by
  subst hz
  refine Rn.k hw rfl rfl ?_ h
  simp only [List.map_cons, List.map_nil, V.dems, ha, hb, V.dem, stepK, boxOwn hM, hk, mapE_all hk, Bool.and_self, if_true, find_mapE hs 0 m zb]
  cases hh : hasM m k with
  | true => simp [hv]
  | false =>
    have : getM m k zb = zb := by
      clear hM h
      induction m with
      | nil => rfl
      | cons p m ih =>
        simp only [hasM, List.any_cons, Bool.or_eq_false_iff] at hh
        simp only [getM, hh.1, Bool.false_eq_true, if_false]
        exact ih hh.2
    simp [hv, this]
theorem Rn.mapset {t : Nat} {k : κ} {v : β} (hw : Wn E gd) (ha : a.val (look E) = .mp (Γ.n0 + t)) (hb : (b.val (look E)).dem = ek k) (hc : (c.val (look E)).dem = ev v) (hM : lookB L t = some (.mp (mapE ek ev 0 m) m.length))
    (h : Rn Γ pc os ⟨look E, memOf Γ.n0 ((t, .mp (mapE ek ev 0 (setM m k v)) (setM m k v).length) :: L) M0, nb⟩ Q) : Rn Γ pc (⟨none, .mapset kd, [a, b, c], false, gd⟩ :: os) ⟨look E, memOf Γ.n0 L M0, nb⟩ Q := by
  refine Rn.k0 (v := .und) hw rfl rfl ?_ h
  simp only [List.map_cons, List.map_nil, V.dems, ha, hb, hc, V.dem, stepK, boxOwn hM, hk, hv, mapE_all hk, Bool.and_self, if_true]
  rw [find_mapE hs 0 m v, ← memOf_put]
  cases hh : hasM m k with
  | true => simp only [if_true]; rw [mod_mapE 0 hh, setM_length hh]
  | false =>
    simp only [Bool.false_eq_true, if_false]
    rw [setM_none hh, mapE_append]
    simp [mapE]
theorem Rn.mapentry {t : Nat} {z : V} {k : κ} (zb : β) (hz : ev zb = z) (hw : Wn E gd) (ha : a.val (look E) = .mp (Γ.n0 + t)) (hb : (b.val (look E)).dem = ek k) (hM : lookB L t = some (.mp (mapE ek ev 0 m) m.length))
    (h : Rn Γ pc os ⟨look ((d, .tup [ev (getM m k zb), .d (.int .i64 (idxS m k))]) :: E), memOf Γ.n0 ((t, .mp (mapE ek ev 0 (setM m k (getM m k zb))) (setM m k (getM m k zb)).length) :: L) M0, nb⟩ Q) : Rn Γ pc (⟨some d, .mapentry kd z, [a, b], false, gd⟩ :: os) ⟨look E, memOf Γ.n0 L M0, nb⟩ Q := by
  subst hz
  refine Rn.k hw rfl rfl ?_ h
  simp only [List.map_cons, List.map_nil, V.dems, ha, hb, V.dem, stepK, boxOwn hM, hk, hv, mapE_all hk, Bool.and_self, if_true, find_mapE hs 0 m zb]
  rw [← memOf_put]
  cases hh : hasM m k with
  | true =>
    have hlt := idxS_lt hh
    simp only [if_true, hv, mapE_get, List.getElem?_eq_getElem hlt, Option.map_some, Nat.zero_add]
    rw [mod_mapE 0 hh, setM_length hh]
  | false =>
    have : getM m k zb = zb := by
      clear hM h
      induction m with
      | nil => rfl
      | cons p m ih =>
        simp only [hasM, List.any_cons, Bool.or_eq_false_iff] at hh
        simp only [getM, hh.1, Bool.false_eq_true, if_false]
        exact ih hh.2
    simp only [Bool.false_eq_true, if_false]
    rw [this, setM_none hh, mapE_append, idxS_none hh]
    simp [mapE]
omit hs hk in
theorem Rn.entrystore {t i : Nat} {v : β} (hi : i < m.length) (hw : Wn E gd) (ha : a.val (look E) = .mp (Γ.n0 + t)) (hb : b.val (look E) = .d (.int .i64 (i : Int))) (hc : (c.val (look E)).dem = ev v) (hM : lookB L t = some (.mp (mapE ek ev 0 m) m.length))
    (h : Rn Γ pc os ⟨look E, memOf Γ.n0 ((t, .mp (mapE ek ev 0 (putM m i v)) (putM m i v).length) :: L) M0, nb⟩ Q) : Rn Γ pc (⟨none, .entrystore, [a, b, c], false, gd⟩ :: os) ⟨look E, memOf Γ.n0 L M0, nb⟩ Q := by
  refine Rn.k0 (v := .und) hw rfl rfl ?_ h
  have hbn := born_mapE (ek := ek) (ev := ev) 0 i m hi
  rw [Nat.zero_add] at hbn
  simp only [List.map_cons, List.map_nil, V.dems, ha, hb, hc, V.dem, stepK, boxOwn hM, hv, if_true, hbn, mapE_get, List.getElem?_eq_getElem hi, Option.map_some]
  rw [← memOf_put, mod_put 0 i (List.getElem?_eq_getElem hi)]
  simp [putM]
end
theorem Rn.idxvalV {α : Type} {e : α → D} {xs : List α} {i : Int} {x : α} {k : IntKind} {len : Nat} (hw : Wn E gd) (ha : (a.val (look E)).dem = .agg (xs.map fun x => .d (e x))) (hb : b.val (look E) = .d (.int k i)) (hl : xs.length = len) (hx : getO xs i = some x)
    (h : Rn Γ pc os ⟨look ((d, .d (e x)) :: E), M, nb⟩ Q) : Rn Γ pc (⟨some d, .idxval false 1 len, [a, b], false, gd⟩ :: os) ⟨look E, M, nb⟩ Q := by
  unfold getO at hx
  split at hx <;> try (cases hx; done)
  rename_i h0
  obtain ⟨hlt, hx'⟩ := List.getElem?_eq_some_iff.1 hx
  refine Rn.k hw rfl rfl ?_ h
  subst hl
  simp only [List.map_cons, List.map_nil, V.dems, ha, hb, V.dem, stepK]
  have h1 : i < (xs.length : Int) := by omega
  simp [h0, h1, hx, hx']
theorem kgNil {P : Nat → Bool} : killV.go P [] = [] := rfl
theorem kgPtr {n0 t o : Nat} {sites : List Nat} {cs : List V} (h : sites.any (fun u => Nat.beq t u) = false) (r : killV.go (siteP n0 sites) cs = cs) : killV.go (siteP n0 sites) (.ptr (n0 + t) o :: cs) = .ptr (n0 + t) o :: cs := by
  simp [killV.go, killV, siteP_own, h, r]
theorem kClo {P : Nat → Bool} {f : FuncId} {cs : List V} (h : killV.go P cs = cs) : WkV (killV P (.clo f cs)) (.clo f cs) := .same (by simp [killV, h])
theorem kMp {n0 t : Nat} {sites : List Nat} (h : sites.any (fun u => Nat.beq t u) = false) : WkV (killV (siteP n0 sites) (.mp (n0 + t))) (.mp (n0 + t)) := by
  refine .same ?_
  simp [killV, siteP_own, h]
end Go.Abs
end
section
namespace Go.Abs
open Go
abbrev oo (d : Nat) (k : K) (as : List Arg) : COp := ⟨some d, k, as, false, none⟩
abbrev ot (d : Nat) (k : K) (as : List Arg) : COp := ⟨some d, k, as, true, none⟩
universe u
variable {α : Type u} {Γ : Env} {pc d nb : Nat} {os : List COp} {E : List (Nat × V)} {M : Mem} {Q : St → Prop} {gd : Option (Nat × Bool)} {a b : Arg} {sz : Nat}
theorem si {β : Type u} {x y : β} (h : some x = some y) : x = y := Option.some.inj h
theorem sr {cs : List COp} {y : CC} {σ : St} {Q : Ex → St → Prop} (h : Rn Γ 9 cs σ (thenN Γ y Q .norm)) : Tr Γ (.seq (.region cs 9 []) y) σ Q := Tr.seq (Tr.rgn h)
theorem nt {y : CC} {σ : St} {Q : Ex → St → Prop} (h : Tr Γ y σ Q) : Rn Γ 9 [] σ (thenN Γ y Q .norm) := Rn.nil (toN h)
theorem md {x : D} (ha : a.val (look E) = .d x) (h : Rn Γ pc os ⟨look ((d, .d x) :: E), M, nb⟩ Q) : Rn Γ pc (⟨some d, .mov, [a], false, none⟩ :: os) ⟨look E, M, nb⟩ Q := Rn.movD trivial ha h
end Go.Abs
end
section
namespace Go.Abs
open Go
set_option linter.unusedVariables false
def CompK (P : Program) (c : Nat) (f : List Int → Option (List Int)) : Prop :=
  ∀ xs ys, f xs = some ys → ys.length ≤ xs.length ∧ (xs = [] → ys = xs ∧ ∀ M nb, ACalls P c [.d (.lst 1 (List.map (eI .i64) xs))] M nb (.d (.lst 1 (List.map (eI .i64) xs))) M nb) ∧
    (∀ cap k0 M nb, xs.length ≤ cap → M k0 = some (.cells (thCells (List.map (eI .i64) xs) ((cap - xs.length) * 1))) →
      ACalls P c [.sl 1 k0 0 xs.length cap] M nb (.sl 1 k0 0 ys.length cap) (M.put k0 (.cells (thCells (List.map (eI .i64) ys) ((cap - ys.length) * 1)))) nb)
theorem compK_at {P : Program} {c : Nat} {xs ys : List Int} {n cap k0 nb : Nat} {M : Mem}
    (h : ∀ cap k0 M nb, xs.length ≤ cap → M k0 = some (.cells (thCells (List.map (eI .i64) xs) ((cap - xs.length) * 1))) →
      ACalls P c [.sl 1 k0 0 xs.length cap] M nb (.sl 1 k0 0 ys.length cap) (M.put k0 (.cells (thCells (List.map (eI .i64) ys) ((cap - ys.length) * 1)))) nb)
    (hl : xs.length = n) (hc : n ≤ cap) (hM : M k0 = some (.cells (thCells (List.map (eI .i64) xs) ((cap - n) * 1)))) :
    ACalls P c [.sl 1 k0 0 n cap] M nb (.sl 1 k0 0 ys.length cap) (M.put k0 (.cells (thCells (List.map (eI .i64) ys) ((cap - ys.length) * 1)))) nb := by
  subst hl
  exact h _ _ _ _ hc hM
theorem Tr.seqW2 {Γ : Env} {x y r : CC} {σ : St} {Q : Ex → St → Prop} (σ2 : St) (hx : Tr Γ x σ (thenN Γ y fun e σ' => e = .norm ∧ WeakSt Γ σ' σ2)) (hr : Tr Γ r σ2 Q) : Tr Γ (.seq x (.seq y r)) σ Q := by
  refine Tr.seq (hx.mono ?_)
  intro e σ' h
  cases e with
  | norm => exact Tr.seqW σ2 h hr
  | exit i => exact absurd h.1 (by simp)
  | ret => exact absurd h.1 (by simp)
end Go.Abs
end
section
namespace Go.Abs
open Go
set_option linter.unusedVariables false
set_option maxRecDepth 10000
set_option maxHeartbeats 4000000
structure api_Edge where
  From : Int
  Event : Int
  To : Int
  deriving DecidableEq
def e_api_Edge (x : api_Edge) : List D := [.int .i64 x.From, .int .i64 x.Event, .int .i64 x.To]
def v_api_Edge (x : api_Edge) : V := .agg [.d (.int .i64 x.From), .d (.int .i64 x.Event), .d (.int .i64 x.To)]
structure api_Automaton where
  Alphabet : List Int
  States : Int
  Marked : List Int
  Edges : List api_Edge
  deriving DecidableEq
def e_api_Automaton (x : api_Automaton) : List D := [.lst 1 (List.map (eI .i64) x.Alphabet), .int .i64 x.States, .lst 1 (List.map (eI .i64) x.Marked), .lst 3 (List.map e_api_Edge x.Edges)]
def v_api_Automaton (x : api_Automaton) : V := .agg [.d (.lst 1 (List.map (eI .i64) x.Alphabet)), .d (.int .i64 x.States), .d (.lst 1 (List.map (eI .i64) x.Marked)), .d (.lst 3 (List.map e_api_Edge x.Edges))]
structure requirement_Phase where
  Enter : Int
  Leave : Int
  deriving DecidableEq
def e_requirement_Phase (x : requirement_Phase) : List D := [.int .i64 x.Enter, .int .i64 x.Leave]
def v_requirement_Phase (x : requirement_Phase) : V := .agg [.d (.int .i64 x.Enter), .d (.int .i64 x.Leave)]
end Go.Abs
end
section
namespace Go.Abs
open Go
set_option linter.unusedVariables false
set_option maxRecDepth 10000
set_option maxHeartbeats 4000000
def K_slices_Index_int (P : Program) (c : Nat) (f : (List Int) → Int → Option Int) : Prop := ∀ s1 v2 r, f s1 v2 = some r → ∀ M nb, ACalls P c [.d (.lst 1 (List.map (eI .i64) s1)), .d (.int .i64 v2)] M nb (.d (.int .i64 r)) M nb
def R_slices_Index_int_0 : List COp := [oo 4 .mov [.c (.d (.int .i64 0))]]
def R_slices_Index_int_1 : List COp := [oo 6 .mov [.t 0], oo 7 .len [.t 6], oo 8 .mov [.c (.d (.int .i64 0))]]
def R_slices_Index_int_2 : List COp := [oo 9 (.bin .lss false) [.t 8, .t 7]]
def R_slices_Index_int_3 : List COp := [oo 10 .mov [.t 8], oo 5 .mov [.t 10]]
def R_slices_Index_int_4 : List COp := [oo 11 .mov [.t 1], oo 12 .mov [.t 0], oo 13 .mov [.t 5], oo 14 (.idx 1) [.t 12, .t 13], oo 15 (.load false 1) [.t 14], oo 16 (.bin .eql false) [.t 11, .t 15]]
def R_slices_Index_int_5 : List COp := [oo 17 .mov [.t 5], oo 4 .mov [.t 17]]
def R_slices_Index_int_6 : List COp := [oo 18 (.bin .add false) [.t 8, .c (.d (.int .i64 1))], oo 8 .mov [.t 18]]
def R_slices_Index_int_7 : List COp := [oo 4 .mov [.c (.d (.int .i64 (-1)))]]
def F_slices_Index_int : CFn := ⟨2, 19, [.t 4], .seq (.region R_slices_Index_int_0 9 []) (.seq (.seq (.region R_slices_Index_int_1 9 []) (.block 0 (.loop [] (.seq (.region R_slices_Index_int_2 9 []) (.seq (.cond (.t 9) (.skip) (.exit 0)) (.seq (.block 1 (.seq (.region R_slices_Index_int_3 9 []) (.seq (.region R_slices_Index_int_4 9 []) (.cond (.t 16) (.seq (.region R_slices_Index_int_5 9 []) (.ret)) (.skip))))) (.region R_slices_Index_int_6 9 []))))))) (.seq (.region R_slices_Index_int_7 9 []) (.ret)))⟩
def f_slices_Index_int (fuel : Nat) (s1 : (List Int)) (v2 : Int) : Option Int :=
  iterF (fun k4 (x3 : Int) => (if (x3 < (s1.length : Int)) then ((getO s1 x3).bind fun x6 => (if (v2 == x6) then some x3 else k4 (IntKind.wrap .i64 (x3 + 1)))) else some (-1))) fuel 0
def K_slices_Contains_int (P : Program) (c : Nat) (f : (List Int) → Int → Option Bool) : Prop := ∀ s1 v2 r, f s1 v2 = some r → ∀ M nb, ACalls P c [.d (.lst 1 (List.map (eI .i64) s1)), .d (.int .i64 v2)] M nb (.d (.bool r)) M nb
def R_slices_Contains_int_0 : List COp := [oo 4 .mov [.c (.d (.bool false))]]
def R_slices_Contains_int_1 : List COp := [oo 5 .mov [.t 0], oo 6 .mov [.t 1], oo 7 (.call 52) [.t 5, .t 6], oo 8 (.bin .geq false) [.t 7, .c (.d (.int .i64 0))], oo 4 .mov [.t 8]]
def F_slices_Contains_int : CFn := ⟨2, 9, [.t 4], .seq (.region R_slices_Contains_int_0 9 []) (.seq (.region R_slices_Contains_int_1 9 []) (.ret))⟩
def f_slices_Contains_int (f_slices_Index_int : (List Int) → Int → Option Int) (s1 : (List Int)) (v2 : Int) : Option Bool :=
  ((f_slices_Index_int s1 v2).bind fun x4 => some (decide (x4 ≥ 0)))
def K_requirement_distinct (P : Program) (c : Nat) (f : (List Int) → Option Int) : Prop := ∀ l1 r, f l1 = some r → ∀ M nb, ACalls P c [.d (.lst 1 (List.map (eI .i64) l1))] M nb (.d (.int .i64 r)) M nb
def R_requirement_distinct_0 : List COp := [oo 2 .mov [.c (.d (.int .i64 0))]]
def R_requirement_distinct_1 : List COp := [oo 5 .mov [.t 0], oo 6 .len [.t 5], oo 7 .mov [.c (.d (.int .i64 0))]]
def R_requirement_distinct_2 : List COp := [oo 8 (.bin .lss false) [.t 7, .t 6]]
def R_requirement_distinct_3 : List COp := [oo 9 .mov [.t 7], oo 10 (.idx 1) [.t 5, .t 7], oo 11 (.load false 1) [.t 10], oo 3 .mov [.t 9], oo 4 .mov [.t 11]]
def R_requirement_distinct_4 : List COp := [oo 12 .mov [.t 4], oo 13 (.bin .lss false) [.t 12, .c (.d (.int .i64 0))], oo 14 .mov [.t 13], ⟨some 15, .mov, [.t 4], false, some (14, false)⟩, ⟨some 16, .bin .geq false, [.t 15, .c (.d (.int .i64 32))], false, some (14, false)⟩, oo 17 .pick [.t 14, .c (.d (.bool true)), .t 16]]
def R_requirement_distinct_5 : List COp := [oo 2 .mov [.c (.d (.int .i64 2))]]
def R_requirement_distinct_6 : List COp := [oo 18 .mov [.t 0], oo 19 .mov [.t 3], oo 20 (.slice 1 false true) [.t 18, .t 19], oo 21 .mov [.t 4], oo 22 (.call 13) [.t 20, .t 21]]
def R_requirement_distinct_7 : List COp := [oo 2 .mov [.c (.d (.int .i64 8))]]
def R_requirement_distinct_8 : List COp := [oo 23 (.bin .add false) [.t 7, .c (.d (.int .i64 1))], oo 7 .mov [.t 23]]
def R_requirement_distinct_9 : List COp := [oo 2 .mov [.c (.d (.int .i64 0))]]
def F_requirement_distinct : CFn := ⟨1, 24, [.t 2], .seq (.region R_requirement_distinct_0 9 []) (.seq (.seq (.region R_requirement_distinct_1 9 []) (.block 0 (.loop [] (.seq (.region R_requirement_distinct_2 9 []) (.seq (.cond (.t 8) (.skip) (.exit 0)) (.seq (.block 1 (.seq (.region R_requirement_distinct_3 9 []) (.seq (.seq (.region R_requirement_distinct_4 9 []) (.cond (.t 17) (.seq (.region R_requirement_distinct_5 9 []) (.ret)) (.skip))) (.seq (.region R_requirement_distinct_6 9 []) (.cond (.t 22) (.seq (.region R_requirement_distinct_7 9 []) (.ret)) (.skip)))))) (.region R_requirement_distinct_8 9 []))))))) (.seq (.region R_requirement_distinct_9 9 []) (.ret)))⟩
def f_requirement_distinct (f_slices_Contains_int : (List Int) → Int → Option Bool) (fuel : Nat) (l1 : (List Int)) : Option Int :=
  iterF (fun k3 (x2 : Int) => (if (x2 < (l1.length : Int)) then ((getO l1 x2).bind fun x5 => (((if (x5 < 0) then some true else some (decide (x5 ≥ 32)))).bind fun (x8 : Bool) => (if x8 then some 2 else ((slcO l1 0 x2).bind fun x10 => ((f_slices_Contains_int x10 x5).bind fun x13 => (if x13 then some 8 else k3 (IntKind.wrap .i64 (x2 + 1)))))))) else some 0)) fuel 0
def K_slices_Clone_int (P : Program) (c : Nat) (f : (List Int) → Option ((List Int))) : Prop := ∀ s1 r, f s1 = some r → ∀ M nb, ACalls P c [.d (.lst 1 (List.map (eI .i64) s1))] M nb (.own 1 (List.map (eI .i64) r)) M nb
def R_slices_Clone_int_0 : List COp := [ot 2 .mov [.c (.nils 1)]]
def R_slices_Clone_int_1 : List COp := [oo 3 .mov [.t 0], oo 4 (.isnil false) [.t 3]]
def R_slices_Clone_int_2 : List COp := [ot 2 .mov [.c (.nils 1)]]
def R_slices_Clone_int_3 : List COp := [oo 5 (.bslice 1 0 [.d (.int .i64 0)] []) [], oo 6 .mov [.t 0], ot 7 (.append 1 8) [.t 5, .t 6], ot 2 .mov [.t 7]]
def F_slices_Clone_int : CFn := ⟨1, 8, [.t 2], .seq (.region R_slices_Clone_int_0 9 []) (.seq (.seq (.region R_slices_Clone_int_1 9 []) (.cond (.t 4) (.seq (.region R_slices_Clone_int_2 9 []) (.ret)) (.skip))) (.seq (.region R_slices_Clone_int_3 9 []) (.ret)))⟩
def f_slices_Clone_int (s1 : (List Int)) : Option ((List Int)) :=
  (nilO s1 fun b2 => (if b2 then some [] else ((appO [] s1).bind fun x4 => some x4)))
def K_requirement_sorted (P : Program) (c : Nat) (f : (List Int) → Option ((List Int))) : Prop := ∀ l1 r, f l1 = some r → ∀ M nb, ACalls P c [.d (.lst 1 (List.map (eI .i64) l1))] M nb (.d (.lst 1 (List.map (eI .i64) r))) M nb
def R_requirement_sorted_0 : List COp := [ot 2 .mov [.c (.nils 1)]]
def R_requirement_sorted_1 : List COp := [oo 4 .mov [.t 0], oo 5 (.call 23) [.t 4], ot 3 .mov [.t 5]]
def R_requirement_sorted_2 : List COp := [oo 6 .mov [.t 3], oo 7 (.call 56) [.t 6]]
def R_requirement_sorted_3 : List COp := [ot 8 .mov [.t 3], ot 2 .mov [.t 8]]
def F_requirement_sorted : CFn := ⟨1, 9, [.t 2], .seq (.region R_requirement_sorted_0 9 []) (.seq (.region R_requirement_sorted_1 9 []) (.seq (.region R_requirement_sorted_2 9 []) (.seq (.region R_requirement_sorted_3 9 []) (.ret))))⟩
def f_requirement_sorted (f_slices_Clone_int : (List Int) → Option ((List Int))) (f_slices_Sort_int : List Int → Option (List Int)) (l1 : (List Int)) : Option ((List Int)) :=
  ((f_slices_Clone_int l1).bind fun x3 => ((f_slices_Sort_int x3).bind fun out4 => some out4))
def K_requirement_Alternate_1 (P : Program) (c : Nat) (f : Int → Int → (List Int) → Option (Int × Bool)) : Prop := ∀ state1 event2 x3 (k4 : Nat) r, f state1 event2 x3 = some r → ∀ M nb, (M k4 = some (.cells [.d (.lst 1 (List.map (eI .i64) x3))])) → ACalls P c [.d (.int .i64 state1), .d (.int .i64 event2), .ptr k4 0] M nb (.tup [.d (.int .i64 r.1), .d (.bool r.2)]) M nb
def R_requirement_Alternate_1_0 : List COp := [oo 5 .mov [.c (.d (.int .i64 0))], oo 6 .mov [.c (.d (.bool false))]]
def R_requirement_Alternate_1_1 : List COp := [oo 7 .mov [.t 0], oo 8 (.bin .add false) [.t 7, .c (.d (.int .i64 1))], oo 9 (.load false 1) [.t 2], oo 10 .len [.t 9], oo 11 (.bin .rem false) [.t 8, .t 10], oo 12 (.load false 1) [.t 2], oo 13 .mov [.t 0], oo 14 (.idx 1) [.t 12, .t 13], oo 15 (.load false 1) [.t 14], oo 16 .mov [.t 1], oo 17 (.bin .eql false) [.t 15, .t 16], oo 5 .mov [.t 11], oo 6 .mov [.t 17]]
def F_requirement_Alternate_1 : CFn := ⟨3, 18, [.t 5, .t 6], .seq (.region R_requirement_Alternate_1_0 9 []) (.seq (.region R_requirement_Alternate_1_1 0 []) (.ret))⟩
def f_requirement_Alternate_1 (state1 : Int) (event2 : Int) (x3 : (List Int)) : Option (Int × Bool) :=
  ((remO .i64 (IntKind.wrap .i64 (state1 + 1)) (x3.length : Int)).bind fun s6 => ((getO x3 state1).bind fun x8 => some (s6, (x8 == event2))))
def K_requirement_explore (P : Program) (c : Nat) (f : (List Int) → (Int → Option Bool) → (Int → Int → Option (Int × Bool)) → Option api_Automaton) : Prop := ∀ events1 marked2 next9 (g3 : Nat) (cp4 : List V) (g10 : Nat) (cp11 : List V) r, f events1 marked2 next9 = some r → ∀ M nb, (V.dems cp4 = cp4) → (V.ons (There M) cp4) → (∀ a8 r, marked2 a8 = some r → ∀ M2 nb2, nb ≤ nb2 → Ext M M2 → ACalls P g3 ([.d (.int .i64 a8)] ++ cp4) M2 nb2 (.d (.bool r)) M2 nb2) → (V.dems cp11 = cp11) → (V.ons (There M) cp11) → (∀ a15 a16 r, next9 a15 a16 = some r → ∀ M2 nb2, nb ≤ nb2 → Ext M M2 → ACalls P g10 ([.d (.int .i64 a15), .d (.int .i64 a16)] ++ cp11) M2 nb2 (.tup [.d (.int .i64 r.1), .d (.bool r.2)]) M2 nb2) → ACalls P c [.d (.lst 1 (List.map (eI .i64) events1)), .clo g3 cp4, .clo g10 cp11] M nb (.agg [.d (.lst 1 (List.map (eI .i64) r.Alphabet)), .d (.int .i64 r.States), .d (.lst 1 (List.map (eI .i64) r.Marked)), .d (.lst 3 (List.map e_api_Edge r.Edges))]) M nb
def R_requirement_explore_0 : List COp := [oo 6 (.alloc [.nils 1, .d (.int .i64 0), .nils 1, .nils 3]) []]
def R_requirement_explore_1 : List COp := [oo 17 .mov [.t 0], oo 18 (.build [.nils 1, .d (.int .i64 0), .nils 1, .nils 3] [(0, 1)]) [.t 17], oo 7 (.alloc [.nils 1, .d (.int .i64 0), .nils 1, .nils 3]) [], ⟨none, .store 4, [.t 7, .t 18], false, none⟩]
def R_requirement_explore_2 : List COp := [oo 19 (.bslice 1 1 [.d (.int .i64 0)] [0]) [.c (.d (.int .i64 0))], oo 20 .mkmap [], ⟨none, .mapset (.int .i64), [.t 20, .c (.d (.int .i64 0)), .c (.d (.int .i64 0))], false, none⟩, oo 21 .mov [.t 20], ot 8 .mov [.t 19], oo 9 .mov [.t 21]]
def R_requirement_explore_3 : List COp := [oo 10 .mov [.c (.d (.int .i64 0))]]
def R_requirement_explore_4 : List COp := [oo 22 .mov [.t 10], oo 23 .mov [.t 8], oo 24 .len [.t 23], oo 25 (.bin .lss false) [.t 22, .t 24]]
def R_requirement_explore_5 : List COp := [oo 28 .mov [.t 1], oo 29 .mov [.t 8], oo 30 .mov [.t 10], oo 31 (.idx 1) [.t 29, .t 30], oo 32 (.load false 1) [.t 31], oo 33 .callv [.t 28, .t 32]]
def R_requirement_explore_6 : List COp := [oo 34 (.fld 2) [.t 7], oo 35 .loadT [.t 34], oo 36 .mov [.t 10], oo 37 (.bslice 1 1 [.d (.int .i64 0)] [0]) [.t 36], ot 38 (.append 1 8) [.t 35, .t 37], oo 39 (.fld 2) [.t 7], ⟨none, .store 1, [.t 39, .t 38], true, none⟩]
def R_requirement_explore_7 : List COp := [oo 40 .mov [.t 0], oo 41 .len [.t 40], oo 42 .mov [.c (.d (.int .i64 0))]]
def R_requirement_explore_8 : List COp := [oo 43 (.bin .lss false) [.t 42, .t 41]]
def R_requirement_explore_9 : List COp := [oo 44 (.idx 1) [.t 40, .t 42], oo 45 (.load false 1) [.t 44], oo 12 .mov [.t 45]]
def R_requirement_explore_10 : List COp := [oo 47 .mov [.t 2], oo 48 .mov [.t 8], oo 49 .mov [.t 10], oo 50 (.idx 1) [.t 48, .t 49], oo 51 (.load false 1) [.t 50], oo 52 .mov [.t 12], oo 53 .callv [.t 47, .t 51, .t 52], oo 46 .mov [.t 53], oo 54 (.extract 0) [.t 46], oo 55 (.extract 1) [.t 46], oo 13 .mov [.t 54], oo 14 .mov [.t 55]]
def R_requirement_explore_11 : List COp := [oo 56 .mov [.t 14], oo 57 (.un .not) [.t 56]]
def R_requirement_explore_12 : List COp := [oo 59 .mov [.t 9], oo 60 .mov [.t 13], oo 61 (.lookup (.int .i64) true (.d (.int .i64 0))) [.t 59, .t 60], oo 58 .mov [.t 61], oo 62 (.extract 0) [.t 58], oo 63 (.extract 1) [.t 58], oo 15 .mov [.t 62], oo 16 .mov [.t 63]]
def R_requirement_explore_13 : List COp := [oo 64 .mov [.t 16], oo 65 (.un .not) [.t 64]]
def R_requirement_explore_14 : List COp := [oo 66 .mov [.t 8], oo 67 .len [.t 66], oo 15 .mov [.t 67]]
def R_requirement_explore_15 : List COp := [oo 68 .mov [.t 9], oo 69 .mov [.t 13], oo 70 .mov [.t 15], ot 71 .mov [.t 8], oo 72 .mov [.t 13], oo 73 (.bslice 1 1 [.d (.int .i64 0)] [0]) [.t 72], ot 74 (.append 1 8) [.t 71, .t 73], ⟨none, .mapset (.int .i64), [.t 68, .t 69, .t 70], false, none⟩, ot 8 .mov [.t 74]]
def R_requirement_explore_16 : List COp := [oo 75 (.fld 3) [.t 7], oo 76 .loadT [.t 75], oo 77 .mov [.t 10], oo 78 .mov [.t 12], oo 79 .mov [.t 15], oo 80 (.build [.d (.int .i64 0), .d (.int .i64 0), .d (.int .i64 0)] [(0, 1), (1, 1), (2, 1)]) [.t 77, .t 78, .t 79], oo 81 (.bslice 3 1 [.d (.int .i64 0), .d (.int .i64 0), .d (.int .i64 0)] [0]) [.t 80], ot 82 (.append 3 24) [.t 76, .t 81], oo 83 (.fld 3) [.t 7], ⟨none, .store 1, [.t 83, .t 82], true, none⟩]
def R_requirement_explore_17 : List COp := [oo 84 (.bin .add false) [.t 42, .c (.d (.int .i64 1))], oo 42 .mov [.t 84]]
def R_requirement_explore_18 : List COp := [oo 26 .mov [.t 10], oo 27 (.bin .add false) [.t 26, .c (.d (.int .i64 1))], oo 10 .mov [.t 27]]
def R_requirement_explore_19 : List COp := [oo 85 .mov [.t 8], oo 86 .len [.t 85], oo 87 (.fld 1) [.t 7], ⟨none, .store 1, [.t 87, .t 86], false, none⟩]
def R_requirement_explore_20 : List COp := [oo 88 (.load true 4) [.t 7], ⟨none, .store 4, [.t 6, .t 88], false, none⟩]
def F_requirement_explore : CFn := ⟨3, 89, [.cell 6 true 4], .seq (.region R_requirement_explore_0 9 []) (.seq (.region R_requirement_explore_1 9 []) (.seq (.region R_requirement_explore_2 9 []) (.seq (.seq (.region R_requirement_explore_3 9 []) (.block 0 (.loop [37, 73, 81] (.seq (.seq (.region R_requirement_explore_4 9 []) (.cond (.t 25) (.skip) (.exit 0))) (.seq (.block 1 (.seq (.seq (.region R_requirement_explore_5 9 []) (.cond (.t 33) (.region R_requirement_explore_6 9 []) (.skip))) (.seq (.region R_requirement_explore_7 9 []) (.block 2 (.loop [73, 81] (.seq (.region R_requirement_explore_8 9 []) (.seq (.cond (.t 43) (.skip) (.exit 2)) (.seq (.block 3 (.seq (.region R_requirement_explore_9 9 []) (.seq (.region R_requirement_explore_10 9 []) (.seq (.seq (.region R_requirement_explore_11 9 []) (.cond (.t 57) (.exit 3) (.skip))) (.seq (.region R_requirement_explore_12 9 []) (.seq (.seq (.region R_requirement_explore_13 9 []) (.cond (.t 65) (.seq (.region R_requirement_explore_14 9 []) (.region R_requirement_explore_15 9 [])) (.skip))) (.region R_requirement_explore_16 9 []))))))) (.region R_requirement_explore_17 9 []))))))))) (.region R_requirement_explore_18 9 [])))))) (.seq (.region R_requirement_explore_19 9 []) (.seq (.region R_requirement_explore_20 9 []) (.ret))))))⟩
def f_requirement_explore (fuel : Nat) (events1 : (List Int)) (marked2 : (Int → Option Bool)) (next9 : (Int → Int → Option (Int × Bool))) : Option api_Automaton :=
  ((iterF (fun k25 ((states17, i18, c19, c20, c21, a22, a23, c24) : (List Int) × Int × (List Int) × (List Int) × (List api_Edge) × (List Int) × (List api_Edge) × (List (Int × Int))) => (if (i18 < (states17.length : Int)) then ((((((getO states17 i18).bind fun x27 => ((marked2 x27).bind fun x30 => (if x30 then ((appO a22 [i18]).bind fun x32 => some x32) else some a22)))).bind fun (a34 : List Int) => iterF (fun k39 ((states35, x36, a37, c38) : (List Int) × Int × (List api_Edge) × (List (Int × Int))) => (if (x36 < (events1.length : Int)) then ((((getO events1 x36).bind fun x41 => ((getO states35 i18).bind fun x43 => ((next9 x43 x41).bind fun (r47, r48) => (if r48 then (((if (hasM c38 r47) then some (states35, (getM c38 r47 0), c38) else ((appO states35 [r47]).bind fun x51 => some (x51, (states35.length : Int), (setM c38 r47 (states35.length : Int)))))).bind fun ((states53, k54, c55) : (List Int) × Int × (List (Int × Int))) => ((appO a37 [(api_Edge.mk i18 x41 k54)]).bind fun x56 => some (states53, x56, c55))) else some (states35, a37, c38)))))).bind fun ((states58, a59, c60) : (List Int) × (List api_Edge) × (List (Int × Int))) => k39 (states58, (IntKind.wrap .i64 (x36 + 1)), a59, c60)) else some (states35, a34, a37, c38))) fuel (states17, 0, a23, c24))).bind fun ((states61, a62, a63, c64) : (List Int) × (List Int) × (List api_Edge) × (List (Int × Int))) => k25 (states61, (IntKind.wrap .i64 (i18 + 1)), c19, c20, c21, a62, a63, c64)) else some (states17, c19, c20, c21, a22, a23, c24))) fuel ([0], 0, [], [], [], [], [], (setM ([] : List (Int × Int)) 0 0))).bind fun ((states65, c66, c67, c68, a69, a70, c71) : (List Int) × (List Int) × (List Int) × (List api_Edge) × (List Int) × (List api_Edge) × (List (Int × Int))) => some (api_Automaton.mk events1 (states65.length : Int) a69 a70))
def K_requirement_first (P : Program) (c : Nat) (f : Int → Option Bool) : Prop := ∀ state1 r, f state1 = some r → ∀ M nb, ACalls P c [.d (.int .i64 state1)] M nb (.d (.bool r)) M nb
def R_requirement_first_0 : List COp := [oo 2 .mov [.c (.d (.bool false))]]
def R_requirement_first_1 : List COp := [oo 3 .mov [.t 0], oo 4 (.bin .eql false) [.t 3, .c (.d (.int .i64 0))], oo 2 .mov [.t 4]]
def F_requirement_first : CFn := ⟨1, 5, [.t 2], .seq (.region R_requirement_first_0 9 []) (.seq (.region R_requirement_first_1 9 []) (.ret))⟩
def f_requirement_first (state1 : Int) : Option Bool :=
  some (state1 == 0)
def K_requirement_Alternate (P : Program) (c : Nat) (f : (List Int) → Option (api_Automaton × Int)) : Prop := ∀ events1 r, f events1 = some r → ∀ M nb, ACalls P c [.d (.lst 1 (List.map (eI .i64) events1))] M nb (.tup [.agg [.d (.lst 1 (List.map (eI .i64) r.1.Alphabet)), .d (.int .i64 r.1.States), .d (.lst 1 (List.map (eI .i64) r.1.Marked)), .d (.lst 3 (List.map e_api_Edge r.1.Edges))], .d (.int .i64 r.2)]) M nb
def R_requirement_Alternate_0 : List COp := [oo 1 (.box 1) [.t 0], oo 2 (.alloc [.nils 1, .d (.int .i64 0), .nils 1, .nils 3]) [], oo 3 .mov [.c (.d (.int .i64 0))]]
def R_requirement_Alternate_1 : List COp := [oo 5 (.load false 1) [.t 1], oo 6 .len [.t 5], oo 7 (.bin .eql false) [.t 6, .c (.d (.int .i64 0))]]
def R_requirement_Alternate_2 : List COp := [oo 8 (.build [.nils 1, .d (.int .i64 0), .nils 1, .nils 3] []) [], ⟨none, .store 4, [.t 2, .t 8], false, none⟩, oo 3 .mov [.c (.d (.int .i64 12))]]
def R_requirement_Alternate_3 : List COp := [oo 9 (.load false 1) [.t 1], oo 10 (.call 47) [.t 9], oo 4 .mov [.t 10]]
def R_requirement_Alternate_4 : List COp := [oo 11 .mov [.t 4], oo 12 (.bin .neq false) [.t 11, .c (.d (.int .i64 0))]]
def R_requirement_Alternate_5 : List COp := [oo 13 (.build [.nils 1, .d (.int .i64 0), .nils 1, .nils 3] []) [], oo 14 .mov [.t 4], ⟨none, .store 4, [.t 2, .t 13], false, none⟩, oo 3 .mov [.t 14]]
def R_requirement_Alternate_6 : List COp := [oo 15 (.load false 1) [.t 1], oo 16 (.call 49) [.t 15], oo 17 (.func 67) [.t 1], oo 18 (.call 48) [.t 16, .c (.clo 60 []), .t 17], ⟨none, .store 4, [.t 2, .t 18], false, none⟩, oo 3 .mov [.c (.d (.int .i64 0))]]
def F_requirement_Alternate : CFn := ⟨1, 19, [.cell 2 true 4, .t 3], .seq (.region R_requirement_Alternate_0 9 []) (.seq (.seq (.region R_requirement_Alternate_1 9 []) (.cond (.t 7) (.seq (.region R_requirement_Alternate_2 9 []) (.ret)) (.skip))) (.seq (.seq (.region R_requirement_Alternate_3 9 []) (.seq (.region R_requirement_Alternate_4 9 []) (.cond (.t 12) (.seq (.region R_requirement_Alternate_5 9 []) (.ret)) (.skip)))) (.seq (.region R_requirement_Alternate_6 9 []) (.ret))))⟩
def f_requirement_Alternate (f_requirement_distinct : (List Int) → Option Int) (f_requirement_explore : (List Int) → (Int → Option Bool) → (Int → Int → Option (Int × Bool)) → Option api_Automaton) (f_requirement_sorted : (List Int) → Option ((List Int))) (f_requirement_first : Int → Option Bool) (f_requirement_Alternate_1 : Int → Int → (List Int) → Option (Int × Bool)) (events1 : (List Int)) : Option (api_Automaton × Int) :=
  (if ((events1.length : Int) == 0) then some ((api_Automaton.mk [] 0 [] []), 12) else ((f_requirement_distinct events1).bind fun x4 => (if (x4 != 0) then some ((api_Automaton.mk [] 0 [] []), x4) else ((f_requirement_sorted events1).bind fun x7 => ((f_requirement_explore x7 f_requirement_first (fun a11 a12 => f_requirement_Alternate_1 a11 a12 events1)).bind fun x16 => some (x16, 0))))))
def K_alphabet_CheckSet (P : Program) (c : Nat) (f : (List Int) → Int → Option Int) : Prop := ∀ xset1 n2 r, f xset1 n2 = some r → ∀ M nb, ACalls P c [.d (.lst 1 (List.map (eI .i64) xset1)), .d (.int .i64 n2)] M nb (.d (.int .i64 r)) M nb
def R_alphabet_CheckSet_0 : List COp := [oo 4 .mov [.c (.d (.int .i64 0))]]
def R_alphabet_CheckSet_1 : List COp := [oo 7 .mov [.t 0], oo 8 .len [.t 7], oo 9 .mov [.c (.d (.int .i64 0))]]
def R_alphabet_CheckSet_2 : List COp := [oo 10 (.bin .lss false) [.t 9, .t 8]]
def R_alphabet_CheckSet_3 : List COp := [oo 11 .mov [.t 9], oo 12 (.idx 1) [.t 7, .t 9], oo 13 (.load false 1) [.t 12], oo 5 .mov [.t 11], oo 6 .mov [.t 13]]
def R_alphabet_CheckSet_4 : List COp := [oo 14 .mov [.t 6], oo 15 (.bin .lss false) [.t 14, .c (.d (.int .i64 0))], oo 16 .mov [.t 15], ⟨some 17, .mov, [.t 6], false, some (16, false)⟩, ⟨some 18, .mov, [.t 1], false, some (16, false)⟩, ⟨some 19, .bin .geq false, [.t 17, .t 18], false, some (16, false)⟩, oo 20 .pick [.t 16, .c (.d (.bool true)), .t 19]]
def R_alphabet_CheckSet_5 : List COp := [oo 4 .mov [.c (.d (.int .i64 2))]]
def R_alphabet_CheckSet_6 : List COp := [oo 21 .mov [.t 5], oo 22 (.bin .gtr false) [.t 21, .c (.d (.int .i64 0))], oo 23 .mov [.t 22], ⟨some 24, .mov, [.t 6], false, some (23, true)⟩, ⟨some 25, .mov, [.t 0], false, some (23, true)⟩, ⟨some 26, .mov, [.t 5], false, some (23, true)⟩, ⟨some 27, .bin .sub false, [.t 26, .c (.d (.int .i64 1))], false, some (23, true)⟩, ⟨some 28, .idx 1, [.t 25, .t 27], false, some (23, true)⟩, ⟨some 29, .load false 1, [.t 28], false, some (23, true)⟩, ⟨some 30, .bin .leq false, [.t 24, .t 29], false, some (23, true)⟩, oo 31 .pick [.t 23, .t 30, .c (.d (.bool false))]]
def R_alphabet_CheckSet_7 : List COp := [oo 4 .mov [.c (.d (.int .i64 5))]]
def R_alphabet_CheckSet_8 : List COp := [oo 32 (.bin .add false) [.t 9, .c (.d (.int .i64 1))], oo 9 .mov [.t 32]]
def R_alphabet_CheckSet_9 : List COp := [oo 4 .mov [.c (.d (.int .i64 0))]]
def F_alphabet_CheckSet : CFn := ⟨2, 33, [.t 4], .seq (.region R_alphabet_CheckSet_0 9 []) (.seq (.seq (.region R_alphabet_CheckSet_1 9 []) (.block 0 (.loop [] (.seq (.region R_alphabet_CheckSet_2 9 []) (.seq (.cond (.t 10) (.skip) (.exit 0)) (.seq (.block 1 (.seq (.region R_alphabet_CheckSet_3 9 []) (.seq (.seq (.region R_alphabet_CheckSet_4 9 []) (.cond (.t 20) (.seq (.region R_alphabet_CheckSet_5 9 []) (.ret)) (.skip))) (.seq (.region R_alphabet_CheckSet_6 9 []) (.cond (.t 31) (.seq (.region R_alphabet_CheckSet_7 9 []) (.ret)) (.skip)))))) (.region R_alphabet_CheckSet_8 9 []))))))) (.seq (.region R_alphabet_CheckSet_9 9 []) (.ret)))⟩
def f_alphabet_CheckSet (fuel : Nat) (xset1 : (List Int)) (n2 : Int) : Option Int :=
  iterF (fun k4 (x3 : Int) => (if (x3 < (xset1.length : Int)) then ((getO xset1 x3).bind fun x6 => (((if (x6 < 0) then some true else some (decide (x6 ≥ n2)))).bind fun (x9 : Bool) => (if x9 then some 2 else (((if (x3 > 0) then ((getO xset1 (IntKind.wrap .i64 (x3 - 1))).bind fun x12 => some (decide (x6 ≤ x12))) else some false)).bind fun (x14 : Bool) => (if x14 then some 5 else k4 (IntKind.wrap .i64 (x3 + 1))))))) else some 0)) fuel 0
def K_alphabet_merge (P : Program) (c : Nat) (f : (List Int) → (List Int) → (Bool → Bool → Option Bool) → Option ((List Int))) : Prop := ∀ a1 b2 keep3 (g4 : Nat) (cp5 : List V) r, f a1 b2 keep3 = some r → ∀ M nb, (V.dems cp5 = cp5) → (V.ons (There M) cp5) → (∀ a9 a10 r, keep3 a9 a10 = some r → ∀ M2 nb2, nb ≤ nb2 → Ext M M2 → ACalls P g4 ([.d (.bool a9), .d (.bool a10)] ++ cp5) M2 nb2 (.d (.bool r)) M2 nb2) → ACalls P c [.d (.lst 1 (List.map (eI .i64) a1)), .d (.lst 1 (List.map (eI .i64) b2)), .clo g4 cp5] M nb (.own 1 (List.map (eI .i64) r)) M nb
def R_alphabet_merge_0 : List COp := [ot 6 .mov [.c (.nils 1)]]
def R_alphabet_merge_1 : List COp := [ot 7 .mov [.c (.nils 1)]]
def R_alphabet_merge_2 : List COp := [oo 11 .mov [.t 0], oo 12 .len [.t 11], oo 13 (.bin .gtr false) [.t 12, .c (.d (.int .i64 0))], oo 14 .mov [.t 13], ⟨some 15, .mov, [.t 1], false, some (14, false)⟩, ⟨some 16, .len, [.t 15], false, some (14, false)⟩, ⟨some 17, .bin .gtr false, [.t 16, .c (.d (.int .i64 0))], false, some (14, false)⟩, oo 18 .pick [.t 14, .c (.d (.bool true)), .t 17]]
def R_alphabet_merge_3 : List COp := [oo 19 .mov [.t 0], oo 20 .len [.t 19], oo 21 (.bin .gtr false) [.t 20, .c (.d (.int .i64 0))], oo 22 .mov [.t 21], ⟨some 23, .mov, [.t 1], false, some (22, true)⟩, ⟨some 24, .len, [.t 23], false, some (22, true)⟩, ⟨some 25, .bin .eql false, [.t 24, .c (.d (.int .i64 0))], false, some (22, true)⟩, ⟨some 26, .mov, [.t 25], false, some (22, true)⟩, ⟨some 27, .mov, [.t 0], false, some (26, false)⟩, ⟨some 28, .idx 1, [.t 27, .c (.d (.int .i64 0))], false, some (26, false)⟩, ⟨some 29, .load false 1, [.t 28], false, some (26, false)⟩, ⟨some 30, .mov, [.t 1], false, some (26, false)⟩, ⟨some 31, .idx 1, [.t 30, .c (.d (.int .i64 0))], false, some (26, false)⟩, ⟨some 32, .load false 1, [.t 31], false, some (26, false)⟩, ⟨some 33, .bin .leq false, [.t 29, .t 32], false, some (26, false)⟩, ⟨some 34, .pick, [.t 26, .c (.d (.bool true)), .t 33], false, some (22, true)⟩, oo 35 .pick [.t 22, .t 34, .c (.d (.bool false))], oo 8 .mov [.t 35]]
def R_alphabet_merge_4 : List COp := [oo 36 .mov [.t 1], oo 37 .len [.t 36], oo 38 (.bin .gtr false) [.t 37, .c (.d (.int .i64 0))], oo 39 .mov [.t 38], ⟨some 40, .mov, [.t 0], false, some (39, true)⟩, ⟨some 41, .len, [.t 40], false, some (39, true)⟩, ⟨some 42, .bin .eql false, [.t 41, .c (.d (.int .i64 0))], false, some (39, true)⟩, ⟨some 43, .mov, [.t 42], false, some (39, true)⟩, ⟨some 44, .mov, [.t 1], false, some (43, false)⟩, ⟨some 45, .idx 1, [.t 44, .c (.d (.int .i64 0))], false, some (43, false)⟩, ⟨some 46, .load false 1, [.t 45], false, some (43, false)⟩, ⟨some 47, .mov, [.t 0], false, some (43, false)⟩, ⟨some 48, .idx 1, [.t 47, .c (.d (.int .i64 0))], false, some (43, false)⟩, ⟨some 49, .load false 1, [.t 48], false, some (43, false)⟩, ⟨some 50, .bin .leq false, [.t 46, .t 49], false, some (43, false)⟩, ⟨some 51, .pick, [.t 43, .c (.d (.bool true)), .t 50], false, some (39, true)⟩, oo 52 .pick [.t 39, .t 51, .c (.d (.bool false))], oo 9 .mov [.t 52]]
def R_alphabet_merge_5 : List COp := [oo 10 .mov [.c (.d (.int .i64 0))]]
def R_alphabet_merge_6 : List COp := [oo 53 .mov [.t 8]]
def R_alphabet_merge_7 : List COp := [oo 54 .mov [.t 0], oo 55 (.idx 1) [.t 54, .c (.d (.int .i64 0))], oo 56 (.load false 1) [.t 55], oo 57 .mov [.t 0], oo 58 (.slice 1 true false) [.t 57, .c (.d (.int .i64 1))], oo 10 .mov [.t 56], ot 0 .mov [.t 58]]
def R_alphabet_merge_8 : List COp := [oo 59 .mov [.t 9]]
def R_alphabet_merge_9 : List COp := [oo 60 .mov [.t 1], oo 61 (.idx 1) [.t 60, .c (.d (.int .i64 0))], oo 62 (.load false 1) [.t 61], oo 63 .mov [.t 1], oo 64 (.slice 1 true false) [.t 63, .c (.d (.int .i64 1))], oo 10 .mov [.t 62], ot 1 .mov [.t 64]]
def R_alphabet_merge_10 : List COp := [oo 65 .mov [.t 2], oo 66 .mov [.t 8], oo 67 .mov [.t 9], oo 68 .callv [.t 65, .t 66, .t 67]]
def R_alphabet_merge_11 : List COp := [ot 69 .mov [.t 7], oo 70 .mov [.t 10], oo 71 (.bslice 1 1 [.d (.int .i64 0)] [0]) [.t 70], ot 72 (.append 1 8) [.t 69, .t 71], ot 7 .mov [.t 72]]
def R_alphabet_merge_12 : List COp := [ot 73 .mov [.t 7], ot 6 .mov [.t 73]]
def F_alphabet_merge : CFn := ⟨3, 74, [.t 6], .seq (.region R_alphabet_merge_0 9 []) (.seq (.region R_alphabet_merge_1 9 []) (.seq (.block 0 (.loop [71] (.seq (.seq (.region R_alphabet_merge_2 9 []) (.cond (.t 18) (.skip) (.exit 0))) (.block 1 (.seq (.region R_alphabet_merge_3 0 []) (.seq (.region R_alphabet_merge_4 0 []) (.seq (.region R_alphabet_merge_5 9 []) (.seq (.seq (.region R_alphabet_merge_6 9 []) (.cond (.t 53) (.region R_alphabet_merge_7 0 []) (.skip))) (.seq (.seq (.region R_alphabet_merge_8 9 []) (.cond (.t 59) (.region R_alphabet_merge_9 0 []) (.skip))) (.seq (.region R_alphabet_merge_10 9 []) (.cond (.t 68) (.region R_alphabet_merge_11 9 []) (.skip)))))))))))) (.seq (.region R_alphabet_merge_12 9 []) (.ret))))⟩
def f_alphabet_merge (fuel : Nat) (a1 : (List Int)) (b2 : (List Int)) (keep3 : (Bool → Bool → Option Bool)) : Option ((List Int)) :=
  ((iterF (fun k14 ((a11, b12, out13) : (List Int) × (List Int) × (List Int)) => (((if ((a11.length : Int) > 0) then some true else some (decide ((b12.length : Int) > 0)))).bind fun (x16 : Bool) => (if x16 then (((if ((a11.length : Int) > 0) then (if ((b12.length : Int) == 0) then some true else ((getO a11 0).bind fun x20 => ((getO b12 0).bind fun x22 => some (decide (x20 ≤ x22))))) else some false)).bind fun (inA24 : Bool) => (((if ((b12.length : Int) > 0) then (if ((a11.length : Int) == 0) then some true else ((getO b12 0).bind fun x27 => ((getO a11 0).bind fun x29 => some (decide (x27 ≤ x29))))) else some false)).bind fun (inB31 : Bool) => (((if inA24 then ((getO a11 0).bind fun x33 => ((slcO a11 1 (a11.length : Int)).bind fun x35 => some (x35, x33))) else some (a11, 0))).bind fun ((a37, x38) : (List Int) × Int) => (((if inB31 then ((getO b12 0).bind fun x40 => ((slcO b12 1 (b12.length : Int)).bind fun x42 => some (x42, x40))) else some (b12, x38))).bind fun ((b44, x45) : (List Int) × Int) => ((keep3 inA24 inB31).bind fun x47 => (if x47 then ((appO out13 [x45]).bind fun x49 => k14 (a37, b44, x49)) else k14 (a37, b44, out13))))))) else some out13))) fuel (a1, b2, [])).bind fun (out51 : List Int) => some out51)
def K_alphabet_Intersect_1 (P : Program) (c : Nat) (f : Bool → Bool → Option Bool) : Prop := ∀ inA1 inB2 r, f inA1 inB2 = some r → ∀ M nb, ACalls P c [.d (.bool inA1), .d (.bool inB2)] M nb (.d (.bool r)) M nb
def R_alphabet_Intersect_1_0 : List COp := [oo 4 .mov [.c (.d (.bool false))]]
def R_alphabet_Intersect_1_1 : List COp := [oo 5 .mov [.t 0], oo 6 .mov [.t 5], ⟨some 7, .mov, [.t 1], false, some (6, true)⟩, oo 8 .pick [.t 6, .t 7, .c (.d (.bool false))], oo 4 .mov [.t 8]]
def F_alphabet_Intersect_1 : CFn := ⟨2, 9, [.t 4], .seq (.region R_alphabet_Intersect_1_0 9 []) (.seq (.region R_alphabet_Intersect_1_1 9 []) (.ret))⟩
def f_alphabet_Intersect_1 (inA1 : Bool) (inB2 : Bool) : Option Bool :=
  (if inA1 then some inB2 else some false)
def K_alphabet_Intersect (P : Program) (c : Nat) (f : (List Int) → (List Int) → Option ((List Int))) : Prop := ∀ a1 b2 r, f a1 b2 = some r → ∀ M nb, ACalls P c [.d (.lst 1 (List.map (eI .i64) a1)), .d (.lst 1 (List.map (eI .i64) b2))] M nb (.own 1 (List.map (eI .i64) r)) M nb
def R_alphabet_Intersect_0 : List COp := [ot 4 .mov [.c (.nils 1)]]
def R_alphabet_Intersect_1 : List COp := [oo 5 .mov [.t 0], oo 6 .mov [.t 1], oo 7 (.call 83) [.t 5, .t 6, .c (.clo 113 [])], ot 4 .mov [.t 7]]
def F_alphabet_Intersect : CFn := ⟨2, 8, [.t 4], .seq (.region R_alphabet_Intersect_0 9 []) (.seq (.region R_alphabet_Intersect_1 9 []) (.ret))⟩
def f_alphabet_Intersect (f_alphabet_merge : (List Int) → (List Int) → (Bool → Bool → Option Bool) → Option ((List Int))) (f_alphabet_Intersect_1 : Bool → Bool → Option Bool) (a1 : (List Int)) (b2 : (List Int)) : Option ((List Int)) :=
  ((f_alphabet_merge a1 b2 f_alphabet_Intersect_1).bind fun x8 => some x8)
def K_requirement_sets (P : Program) (c : Nat) (f : (List Int) → (List Int) → Option Int) : Prop := ∀ a1 b2 r, f a1 b2 = some r → ∀ M nb, ACalls P c [.d (.lst 1 (List.map (eI .i64) a1)), .d (.lst 1 (List.map (eI .i64) b2))] M nb (.d (.int .i64 r)) M nb
def R_requirement_sets_0 : List COp := [oo 4 .mov [.c (.d (.int .i64 0))]]
def R_requirement_sets_1 : List COp := [oo 8 .mov [.t 0], oo 9 .mov [.t 1], oo 10 (.build [.nils 1, .nils 1] [(0, 1), (1, 1)]) [.t 8, .t 9], oo 11 .mov [.c (.d (.int .i64 0))]]
def R_requirement_sets_2 : List COp := [oo 12 (.bin .lss false) [.t 11, .c (.d (.int .i64 2))]]
def R_requirement_sets_3 : List COp := [oo 13 (.idxval false 1 2) [.t 10, .t 11], ot 6 .mov [.t 13]]
def R_requirement_sets_4 : List COp := [oo 14 .mov [.t 6], oo 15 (.call 20) [.t 14, .c (.d (.int .i64 32))], oo 7 .mov [.t 15]]
def R_requirement_sets_5 : List COp := [oo 16 .mov [.t 7], oo 17 (.bin .neq false) [.t 16, .c (.d (.int .i64 0))]]
def R_requirement_sets_6 : List COp := [oo 18 .mov [.t 7], oo 4 .mov [.t 18]]
def R_requirement_sets_7 : List COp := [oo 19 (.bin .add false) [.t 11, .c (.d (.int .i64 1))], oo 11 .mov [.t 19]]
def R_requirement_sets_8 : List COp := [oo 20 .mov [.t 0], oo 21 .mov [.t 1], oo 22 (.call 82) [.t 20, .t 21], oo 23 .len [.t 22], oo 24 (.bin .gtr false) [.t 23, .c (.d (.int .i64 0))]]
def R_requirement_sets_9 : List COp := [oo 4 .mov [.c (.d (.int .i64 13))]]
def R_requirement_sets_10 : List COp := [oo 4 .mov [.c (.d (.int .i64 0))]]
def F_requirement_sets : CFn := ⟨2, 25, [.t 4], .seq (.region R_requirement_sets_0 9 []) (.seq (.seq (.region R_requirement_sets_1 9 []) (.block 0 (.loop [] (.seq (.region R_requirement_sets_2 9 []) (.seq (.cond (.t 12) (.skip) (.exit 0)) (.seq (.block 1 (.seq (.region R_requirement_sets_3 9 []) (.seq (.region R_requirement_sets_4 9 []) (.seq (.region R_requirement_sets_5 9 []) (.cond (.t 17) (.seq (.region R_requirement_sets_6 9 []) (.ret)) (.skip)))))) (.region R_requirement_sets_7 9 []))))))) (.seq (.seq (.region R_requirement_sets_8 9 []) (.cond (.t 24) (.seq (.region R_requirement_sets_9 9 []) (.ret)) (.skip))) (.seq (.region R_requirement_sets_10 9 []) (.ret))))⟩
def f_requirement_sets (f_alphabet_CheckSet : (List Int) → Int → Option Int) (f_alphabet_Intersect : (List Int) → (List Int) → Option ((List Int))) (fuel : Nat) (a1 : (List Int)) (b2 : (List Int)) : Option Int :=
  iterF (fun k4 (x3 : Int) => (if (x3 < 2) then ((getO [a1, b2] x3).bind fun x6 => ((f_alphabet_CheckSet x6 32).bind fun x9 => (if (x9 != 0) then some x9 else k4 (IntKind.wrap .i64 (x3 + 1))))) else ((f_alphabet_Intersect a1 b2).bind fun x12 => (if ((x12.length : Int) > 0) then some 13 else some 0)))) fuel 0
def K_alphabet_Union_1 (P : Program) (c : Nat) (f : Bool → Bool → Option Bool) : Prop := ∀ inA1 inB2 r, f inA1 inB2 = some r → ∀ M nb, ACalls P c [.d (.bool inA1), .d (.bool inB2)] M nb (.d (.bool r)) M nb
def R_alphabet_Union_1_0 : List COp := [oo 4 .mov [.c (.d (.bool false))]]
def R_alphabet_Union_1_1 : List COp := [oo 5 .mov [.t 0], oo 6 .mov [.t 5], ⟨some 7, .mov, [.t 1], false, some (6, false)⟩, oo 8 .pick [.t 6, .c (.d (.bool true)), .t 7], oo 4 .mov [.t 8]]
def F_alphabet_Union_1 : CFn := ⟨2, 9, [.t 4], .seq (.region R_alphabet_Union_1_0 9 []) (.seq (.region R_alphabet_Union_1_1 9 []) (.ret))⟩
def f_alphabet_Union_1 (inA1 : Bool) (inB2 : Bool) : Option Bool :=
  (if inA1 then some true else some inB2)
def K_alphabet_Union (P : Program) (c : Nat) (f : (List Int) → (List Int) → Option ((List Int))) : Prop := ∀ a1 b2 r, f a1 b2 = some r → ∀ M nb, ACalls P c [.d (.lst 1 (List.map (eI .i64) a1)), .d (.lst 1 (List.map (eI .i64) b2))] M nb (.own 1 (List.map (eI .i64) r)) M nb
def R_alphabet_Union_0 : List COp := [ot 4 .mov [.c (.nils 1)]]
def R_alphabet_Union_1 : List COp := [oo 5 .mov [.t 0], oo 6 .mov [.t 1], oo 7 (.call 83) [.t 5, .t 6, .c (.clo 84 [])], ot 4 .mov [.t 7]]
def F_alphabet_Union : CFn := ⟨2, 8, [.t 4], .seq (.region R_alphabet_Union_0 9 []) (.seq (.region R_alphabet_Union_1 9 []) (.ret))⟩
def f_alphabet_Union (f_alphabet_merge : (List Int) → (List Int) → (Bool → Bool → Option Bool) → Option ((List Int))) (f_alphabet_Union_1 : Bool → Bool → Option Bool) (a1 : (List Int)) (b2 : (List Int)) : Option ((List Int)) :=
  ((f_alphabet_merge a1 b2 f_alphabet_Union_1).bind fun x8 => some x8)
def K_cmp_isNaN_int (P : Program) (c : Nat) (f : Int → Option Bool) : Prop := ∀ x1 r, f x1 = some r → ∀ M nb, ACalls P c [.d (.int .i64 x1)] M nb (.d (.bool r)) M nb
def R_cmp_isNaN_int_0 : List COp := [oo 2 .mov [.c (.d (.bool false))]]
def R_cmp_isNaN_int_1 : List COp := [oo 3 .mov [.t 0], oo 4 .mov [.t 0], oo 5 (.bin .neq false) [.t 3, .t 4], oo 2 .mov [.t 5]]
def F_cmp_isNaN_int : CFn := ⟨1, 6, [.t 2], .seq (.region R_cmp_isNaN_int_0 9 []) (.seq (.region R_cmp_isNaN_int_1 9 []) (.ret))⟩
def f_cmp_isNaN_int (x1 : Int) : Option Bool :=
  some (x1 != x1)
def K_cmp_Less_int (P : Program) (c : Nat) (f : Int → Int → Option Bool) : Prop := ∀ x1 y2 r, f x1 y2 = some r → ∀ M nb, ACalls P c [.d (.int .i64 x1), .d (.int .i64 y2)] M nb (.d (.bool r)) M nb
def R_cmp_Less_int_0 : List COp := [oo 4 .mov [.c (.d (.bool false))]]
def R_cmp_Less_int_1 : List COp := [oo 5 .mov [.t 0], oo 6 (.call 128) [.t 5], oo 7 .mov [.t 6], ⟨some 8, .mov, [.t 1], false, some (7, true)⟩, ⟨some 9, .call 128, [.t 8], false, some (7, true)⟩, ⟨some 10, .un .not, [.t 9], false, some (7, true)⟩, oo 11 .pick [.t 7, .t 10, .c (.d (.bool false))], oo 12 .mov [.t 11], ⟨some 13, .mov, [.t 0], false, some (12, false)⟩, ⟨some 14, .mov, [.t 1], false, some (12, false)⟩, ⟨some 15, .bin .lss false, [.t 13, .t 14], false, some (12, false)⟩, oo 16 .pick [.t 12, .c (.d (.bool true)), .t 15], oo 4 .mov [.t 16]]
def F_cmp_Less_int : CFn := ⟨2, 17, [.t 4], .seq (.region R_cmp_Less_int_0 9 []) (.seq (.region R_cmp_Less_int_1 9 []) (.ret))⟩
def f_cmp_Less_int (f_cmp_isNaN_int : Int → Option Bool) (x1 : Int) (y2 : Int) : Option Bool :=
  ((f_cmp_isNaN_int x1).bind fun x4 => (if x4 then ((f_cmp_isNaN_int y2).bind fun x7 => (if x7 then some (decide (x1 < y2)) else some true)) else some (decide (x1 < y2))))
def K_slices_isNaN_int (P : Program) (c : Nat) (f : Int → Option Bool) : Prop := ∀ x1 r, f x1 = some r → ∀ M nb, ACalls P c [.d (.int .i64 x1)] M nb (.d (.bool r)) M nb
def R_slices_isNaN_int_0 : List COp := [oo 2 .mov [.c (.d (.bool false))]]
def R_slices_isNaN_int_1 : List COp := [oo 3 .mov [.t 0], oo 4 .mov [.t 0], oo 5 (.bin .neq false) [.t 3, .t 4], oo 2 .mov [.t 5]]
def F_slices_isNaN_int : CFn := ⟨1, 6, [.t 2], .seq (.region R_slices_isNaN_int_0 9 []) (.seq (.region R_slices_isNaN_int_1 9 []) (.ret))⟩
def f_slices_isNaN_int (x1 : Int) : Option Bool :=
  some (x1 != x1)
def K_slices_BinarySearch_int (P : Program) (c : Nat) (f : (List Int) → Int → Option (Int × Bool)) : Prop := ∀ x1 target2 r, f x1 target2 = some r → ∀ M nb, ACalls P c [.d (.lst 1 (List.map (eI .i64) x1)), .d (.int .i64 target2)] M nb (.tup [.d (.int .i64 r.1), .d (.bool r.2)]) M nb
def R_slices_BinarySearch_int_0 : List COp := [oo 4 .mov [.c (.d (.int .i64 0))], oo 5 .mov [.c (.d (.bool false))]]
def R_slices_BinarySearch_int_1 : List COp := [oo 10 .mov [.t 0], oo 11 .len [.t 10], oo 6 .mov [.t 11]]
def R_slices_BinarySearch_int_2 : List COp := [oo 12 .mov [.t 6], oo 7 .mov [.c (.d (.int .i64 0))], oo 8 .mov [.t 12]]
def R_slices_BinarySearch_int_3 : List COp := [oo 13 .mov [.t 7], oo 14 .mov [.t 8], oo 15 (.bin .lss false) [.t 13, .t 14]]
def R_slices_BinarySearch_int_4 : List COp := [oo 16 .mov [.t 7], oo 17 .mov [.t 8], oo 18 (.bin .add false) [.t 16, .t 17], oo 19 (.conv .u64) [.t 18], oo 20 (.bin .shr false) [.t 19, .c (.d (.int .u64 1))], oo 21 (.conv .i64) [.t 20], oo 9 .mov [.t 21]]
def R_slices_BinarySearch_int_5 : List COp := [oo 22 .mov [.t 0], oo 23 .mov [.t 9], oo 24 (.idx 1) [.t 22, .t 23], oo 25 (.load false 1) [.t 24], oo 26 .mov [.t 1], oo 27 (.call 108) [.t 25, .t 26]]
def R_slices_BinarySearch_int_6 : List COp := [oo 28 .mov [.t 9], oo 29 (.bin .add false) [.t 28, .c (.d (.int .i64 1))], oo 7 .mov [.t 29]]
def R_slices_BinarySearch_int_7 : List COp := [oo 30 .mov [.t 9], oo 8 .mov [.t 30]]
def R_slices_BinarySearch_int_8 : List COp := [oo 31 .mov [.t 7], oo 32 .mov [.t 7], oo 33 .mov [.t 6], oo 34 (.bin .lss false) [.t 32, .t 33], oo 35 .mov [.t 34], ⟨some 36, .mov, [.t 0], false, some (35, true)⟩, ⟨some 37, .mov, [.t 7], false, some (35, true)⟩, ⟨some 38, .idx 1, [.t 36, .t 37], false, some (35, true)⟩, ⟨some 39, .load false 1, [.t 38], false, some (35, true)⟩, ⟨some 40, .mov, [.t 1], false, some (35, true)⟩, ⟨some 41, .bin .eql false, [.t 39, .t 40], false, some (35, true)⟩, ⟨some 42, .mov, [.t 41], false, some (35, true)⟩, ⟨some 43, .mov, [.t 0], false, some (42, false)⟩, ⟨some 44, .mov, [.t 7], false, some (42, false)⟩, ⟨some 45, .idx 1, [.t 43, .t 44], false, some (42, false)⟩, ⟨some 46, .load false 1, [.t 45], false, some (42, false)⟩, ⟨some 47, .call 114, [.t 46], false, some (42, false)⟩, ⟨some 48, .mov, [.t 47], false, some (42, false)⟩, ⟨some 49, .mov, [.t 1], false, some (48, true)⟩, ⟨some 50, .call 114, [.t 49], false, some (48, true)⟩, ⟨some 51, .pick, [.t 48, .t 50, .c (.d (.bool false))], false, some (42, false)⟩, ⟨some 52, .pick, [.t 42, .c (.d (.bool true)), .t 51], false, some (35, true)⟩, oo 53 .pick [.t 35, .t 52, .c (.d (.bool false))], oo 4 .mov [.t 31], oo 5 .mov [.t 53]]
def F_slices_BinarySearch_int : CFn := ⟨2, 54, [.t 4, .t 5], .seq (.region R_slices_BinarySearch_int_0 9 []) (.seq (.region R_slices_BinarySearch_int_1 9 []) (.seq (.region R_slices_BinarySearch_int_2 9 []) (.seq (.block 0 (.loop [] (.seq (.seq (.region R_slices_BinarySearch_int_3 9 []) (.cond (.t 15) (.skip) (.exit 0))) (.block 1 (.seq (.region R_slices_BinarySearch_int_4 9 []) (.seq (.region R_slices_BinarySearch_int_5 9 []) (.cond (.t 27) (.region R_slices_BinarySearch_int_6 9 []) (.region R_slices_BinarySearch_int_7 9 [])))))))) (.seq (.region R_slices_BinarySearch_int_8 9 []) (.ret)))))⟩
def f_slices_BinarySearch_int (f_cmp_Less_int : Int → Int → Option Bool) (f_slices_isNaN_int : Int → Option Bool) (fuel : Nat) (x1 : (List Int)) (target2 : Int) : Option (Int × Bool) :=
  ((iterF (fun k5 ((i3, j4) : Int × Int) => (if (i3 < j4) then ((getO x1 (IntKind.wrap .i64 (Int.fdiv (IntKind.wrap .u64 (IntKind.wrap .i64 (i3 + j4))) (2 ^ (min (Int.toNat 1) (IntKind.bits .u64)))))).bind fun x7 => ((f_cmp_Less_int x7 target2).bind fun x10 => (if x10 then k5 ((IntKind.wrap .i64 ((IntKind.wrap .i64 (Int.fdiv (IntKind.wrap .u64 (IntKind.wrap .i64 (i3 + j4))) (2 ^ (min (Int.toNat 1) (IntKind.bits .u64))))) + 1)), j4) else k5 (i3, (IntKind.wrap .i64 (Int.fdiv (IntKind.wrap .u64 (IntKind.wrap .i64 (i3 + j4))) (2 ^ (min (Int.toNat 1) (IntKind.bits .u64))))))))) else some i3)) fuel (0, (x1.length : Int))).bind fun (i12 : Int) => (if (i12 < (x1.length : Int)) then ((getO x1 i12).bind fun x14 => (if (x14 == target2) then some (i12, true) else ((getO x1 i12).bind fun x17 => ((f_slices_isNaN_int x17).bind fun x20 => (if x20 then ((f_slices_isNaN_int target2).bind fun x23 => some (i12, x23)) else some (i12, false)))))) else some (i12, false)))
def K_alphabet_Contains (P : Program) (c : Nat) (f : (List Int) → Int → Option Bool) : Prop := ∀ xset1 x2 r, f xset1 x2 = some r → ∀ M nb, ACalls P c [.d (.lst 1 (List.map (eI .i64) xset1)), .d (.int .i64 x2)] M nb (.d (.bool r)) M nb
def R_alphabet_Contains_0 : List COp := [oo 4 .mov [.c (.d (.bool false))]]
def R_alphabet_Contains_1 : List COp := [oo 8 .mov [.t 0], oo 9 .mov [.t 1], oo 10 (.call 85) [.t 8, .t 9], oo 7 .mov [.t 10], oo 11 (.extract 0) [.t 7], oo 12 (.extract 1) [.t 7], oo 5 .mov [.t 11], oo 6 .mov [.t 12]]
def R_alphabet_Contains_2 : List COp := [oo 13 .mov [.t 6], oo 4 .mov [.t 13]]
def F_alphabet_Contains : CFn := ⟨2, 14, [.t 4], .seq (.region R_alphabet_Contains_0 9 []) (.seq (.region R_alphabet_Contains_1 9 []) (.seq (.region R_alphabet_Contains_2 9 []) (.ret)))⟩
def f_alphabet_Contains (f_slices_BinarySearch_int : (List Int) → Int → Option (Int × Bool)) (xset1 : (List Int)) (x2 : Int) : Option Bool :=
  ((f_slices_BinarySearch_int xset1 x2).bind fun (r4, r5) => some r5)
def K_requirement_Buffer_1 (P : Program) (c : Nat) (f : Int → Int → (List Int) → Int → Option (Int × Bool)) : Prop := ∀ state1 event2 x3 x6 (k4 : Nat) (k7 : Nat) r, f state1 event2 x3 x6 = some r → ∀ M nb, (M k4 = some (.cells [.d (.lst 1 (List.map (eI .i64) x3))])) → (M k7 = some (.cells [.d (.int .i64 x6)])) → ACalls P c [.d (.int .i64 state1), .d (.int .i64 event2), .ptr k4 0, .ptr k7 0] M nb (.tup [.d (.int .i64 r.1), .d (.bool r.2)]) M nb
def R_requirement_Buffer_1_0 : List COp := [oo 6 .mov [.c (.d (.int .i64 0))], oo 7 .mov [.c (.d (.bool false))]]
def R_requirement_Buffer_1_1 : List COp := [oo 8 (.load false 1) [.t 2], oo 9 .mov [.t 1], oo 10 (.call 62) [.t 8, .t 9]]
def R_requirement_Buffer_1_2 : List COp := [oo 11 .mov [.t 0], oo 12 (.bin .add false) [.t 11, .c (.d (.int .i64 1))], oo 13 .mov [.t 0], oo 14 (.load false 1) [.t 3], oo 15 (.bin .lss false) [.t 13, .t 14], oo 6 .mov [.t 12], oo 7 .mov [.t 15]]
def R_requirement_Buffer_1_3 : List COp := [oo 16 .mov [.t 0], oo 17 (.bin .sub false) [.t 16, .c (.d (.int .i64 1))], oo 18 .mov [.t 0], oo 19 (.bin .gtr false) [.t 18, .c (.d (.int .i64 0))], oo 6 .mov [.t 17], oo 7 .mov [.t 19]]
def F_requirement_Buffer_1 : CFn := ⟨4, 20, [.t 6, .t 7], .seq (.region R_requirement_Buffer_1_0 9 []) (.seq (.seq (.region R_requirement_Buffer_1_1 9 []) (.cond (.t 10) (.seq (.region R_requirement_Buffer_1_2 0 []) (.ret)) (.skip))) (.seq (.region R_requirement_Buffer_1_3 9 []) (.ret)))⟩
def f_requirement_Buffer_1 (f_alphabet_Contains : (List Int) → Int → Option Bool) (state1 : Int) (event2 : Int) (x3 : (List Int)) (x6 : Int) : Option (Int × Bool) :=
  ((f_alphabet_Contains x3 event2).bind fun x10 => (if x10 then some ((IntKind.wrap .i64 (state1 + 1)), decide (state1 < x6)) else some ((IntKind.wrap .i64 (state1 - 1)), decide (state1 > 0))))
def K_requirement_Buffer (P : Program) (c : Nat) (f : (List Int) → (List Int) → Int → Option (api_Automaton × Int)) : Prop := ∀ put1 take2 capacity3 r, f put1 take2 capacity3 = some r → ∀ M nb, ACalls P c [.d (.lst 1 (List.map (eI .i64) put1)), .d (.lst 1 (List.map (eI .i64) take2)), .d (.int .i64 capacity3)] M nb (.tup [.agg [.d (.lst 1 (List.map (eI .i64) r.1.Alphabet)), .d (.int .i64 r.1.States), .d (.lst 1 (List.map (eI .i64) r.1.Marked)), .d (.lst 3 (List.map e_api_Edge r.1.Edges))], .d (.int .i64 r.2)]) M nb
def R_requirement_Buffer_0 : List COp := [oo 3 (.box 1) [.t 0], oo 5 (.box 1) [.t 2], oo 6 (.alloc [.nils 1, .d (.int .i64 0), .nils 1, .nils 3]) [], oo 7 .mov [.c (.d (.int .i64 0))]]
def R_requirement_Buffer_1 : List COp := [oo 9 (.load false 1) [.t 3], oo 10 .mov [.t 1], oo 11 (.call 58) [.t 9, .t 10], oo 8 .mov [.t 11]]
def R_requirement_Buffer_2 : List COp := [oo 12 .mov [.t 8], oo 13 (.bin .neq false) [.t 12, .c (.d (.int .i64 0))]]
def R_requirement_Buffer_3 : List COp := [oo 14 (.build [.nils 1, .d (.int .i64 0), .nils 1, .nils 3] []) [], oo 15 .mov [.t 8], ⟨none, .store 4, [.t 6, .t 14], false, none⟩, oo 7 .mov [.t 15]]
def R_requirement_Buffer_4 : List COp := [oo 16 (.load false 1) [.t 5], oo 17 (.bin .lss false) [.t 16, .c (.d (.int .i64 1))], oo 18 .mov [.t 17], ⟨some 19, .load false 1, [.t 5], false, some (18, false)⟩, ⟨some 20, .bin .gtr false, [.t 19, .c (.d (.int .i64 1024))], false, some (18, false)⟩, oo 21 .pick [.t 18, .c (.d (.bool true)), .t 20]]
def R_requirement_Buffer_5 : List COp := [oo 22 (.build [.nils 1, .d (.int .i64 0), .nils 1, .nils 3] []) [], ⟨none, .store 4, [.t 6, .t 22], false, none⟩, oo 7 .mov [.c (.d (.int .i64 2))]]
def R_requirement_Buffer_6 : List COp := [oo 23 (.load false 1) [.t 3], oo 24 .mov [.t 1], oo 25 (.call 59) [.t 23, .t 24], oo 26 (.func 61) [.t 3, .t 5], oo 27 (.call 48) [.t 25, .c (.clo 60 []), .t 26], ⟨none, .store 4, [.t 6, .t 27], false, none⟩, oo 7 .mov [.c (.d (.int .i64 0))]]
def F_requirement_Buffer : CFn := ⟨3, 28, [.cell 6 true 4, .t 7], .seq (.region R_requirement_Buffer_0 9 []) (.seq (.seq (.region R_requirement_Buffer_1 9 []) (.seq (.region R_requirement_Buffer_2 9 []) (.cond (.t 13) (.seq (.region R_requirement_Buffer_3 9 []) (.ret)) (.skip)))) (.seq (.seq (.region R_requirement_Buffer_4 9 []) (.cond (.t 21) (.seq (.region R_requirement_Buffer_5 9 []) (.ret)) (.skip))) (.seq (.region R_requirement_Buffer_6 9 []) (.ret))))⟩
def f_requirement_Buffer (f_requirement_explore : (List Int) → (Int → Option Bool) → (Int → Int → Option (Int × Bool)) → Option api_Automaton) (f_requirement_sets : (List Int) → (List Int) → Option Int) (f_alphabet_Union : (List Int) → (List Int) → Option ((List Int))) (f_requirement_first : Int → Option Bool) (f_requirement_Buffer_1 : Int → Int → (List Int) → Int → Option (Int × Bool)) (put1 : (List Int)) (take2 : (List Int)) (capacity3 : Int) : Option (api_Automaton × Int) :=
  ((f_requirement_sets put1 take2).bind fun x5 => (if (x5 != 0) then some ((api_Automaton.mk [] 0 [] []), x5) else (((if (capacity3 < 1) then some true else some (decide (capacity3 > 1024)))).bind fun (x8 : Bool) => (if x8 then some ((api_Automaton.mk [] 0 [] []), 2) else ((f_alphabet_Union put1 take2).bind fun x11 => ((f_requirement_explore x11 f_requirement_first (fun a15 a16 => f_requirement_Buffer_1 a15 a16 put1 capacity3)).bind fun x20 => some (x20, 0)))))))
def K_bits_OnesCount64 (P : Program) (c : Nat) (f : Int → Option Int) : Prop := ∀ x1 r, f x1 = some r → ∀ M nb, ACalls P c [.d (.int .u64 x1)] M nb (.d (.int .i64 r)) M nb
def R_bits_OnesCount64_0 : List COp := [oo 2 .mov [.c (.d (.int .i64 0))]]
def R_bits_OnesCount64_1 : List COp := [oo 3 .mov [.t 0], oo 4 (.bin .shr false) [.t 3, .c (.d (.int .u64 1))], oo 5 (.bin .and false) [.t 4, .c (.d (.int .u64 6148914691236517205))], oo 6 .mov [.t 0], oo 7 (.bin .and false) [.t 6, .c (.d (.int .u64 6148914691236517205))], oo 8 (.bin .add false) [.t 5, .t 7], oo 0 .mov [.t 8]]
def R_bits_OnesCount64_2 : List COp := [oo 9 .mov [.t 0], oo 10 (.bin .shr false) [.t 9, .c (.d (.int .u64 2))], oo 11 (.bin .and false) [.t 10, .c (.d (.int .u64 3689348814741910323))], oo 12 .mov [.t 0], oo 13 (.bin .and false) [.t 12, .c (.d (.int .u64 3689348814741910323))], oo 14 (.bin .add false) [.t 11, .t 13], oo 0 .mov [.t 14]]
def R_bits_OnesCount64_3 : List COp := [oo 15 .mov [.t 0], oo 16 (.bin .shr false) [.t 15, .c (.d (.int .u64 4))], oo 17 .mov [.t 0], oo 18 (.bin .add false) [.t 16, .t 17], oo 19 (.bin .and false) [.t 18, .c (.d (.int .u64 1085102592571150095))], oo 0 .mov [.t 19]]
def R_bits_OnesCount64_4 : List COp := [oo 20 .mov [.t 0], oo 21 .mov [.t 0], oo 22 (.bin .shr false) [.t 21, .c (.d (.int .u64 8))], oo 23 (.bin .add false) [.t 20, .t 22], oo 0 .mov [.t 23]]
def R_bits_OnesCount64_5 : List COp := [oo 24 .mov [.t 0], oo 25 .mov [.t 0], oo 26 (.bin .shr false) [.t 25, .c (.d (.int .u64 16))], oo 27 (.bin .add false) [.t 24, .t 26], oo 0 .mov [.t 27]]
def R_bits_OnesCount64_6 : List COp := [oo 28 .mov [.t 0], oo 29 .mov [.t 0], oo 30 (.bin .shr false) [.t 29, .c (.d (.int .u64 32))], oo 31 (.bin .add false) [.t 28, .t 30], oo 0 .mov [.t 31]]
def R_bits_OnesCount64_7 : List COp := [oo 32 .mov [.t 0], oo 33 (.conv .i64) [.t 32], oo 34 (.bin .and false) [.t 33, .c (.d (.int .i64 127))], oo 2 .mov [.t 34]]
def F_bits_OnesCount64 : CFn := ⟨1, 35, [.t 2], .seq (.region R_bits_OnesCount64_0 9 []) (.seq (.region R_bits_OnesCount64_1 9 []) (.seq (.region R_bits_OnesCount64_2 9 []) (.seq (.region R_bits_OnesCount64_3 9 []) (.seq (.region R_bits_OnesCount64_4 9 []) (.seq (.region R_bits_OnesCount64_5 9 []) (.seq (.region R_bits_OnesCount64_6 9 []) (.seq (.region R_bits_OnesCount64_7 9 []) (.ret))))))))⟩
def f_bits_OnesCount64 (x1 : Int) : Option Int :=
  some (andI .i64 (IntKind.wrap .i64 (IntKind.wrap .u64 ((IntKind.wrap .u64 ((IntKind.wrap .u64 ((andI .u64 (IntKind.wrap .u64 ((Int.fdiv (IntKind.wrap .u64 ((andI .u64 (Int.fdiv (IntKind.wrap .u64 ((andI .u64 (Int.fdiv x1 (2 ^ (min (Int.toNat 1) (IntKind.bits .u64)))) 6148914691236517205) + (andI .u64 x1 6148914691236517205))) (2 ^ (min (Int.toNat 2) (IntKind.bits .u64)))) 3689348814741910323) + (andI .u64 (IntKind.wrap .u64 ((andI .u64 (Int.fdiv x1 (2 ^ (min (Int.toNat 1) (IntKind.bits .u64)))) 6148914691236517205) + (andI .u64 x1 6148914691236517205))) 3689348814741910323))) (2 ^ (min (Int.toNat 4) (IntKind.bits .u64)))) + (IntKind.wrap .u64 ((andI .u64 (Int.fdiv (IntKind.wrap .u64 ((andI .u64 (Int.fdiv x1 (2 ^ (min (Int.toNat 1) (IntKind.bits .u64)))) 6148914691236517205) + (andI .u64 x1 6148914691236517205))) (2 ^ (min (Int.toNat 2) (IntKind.bits .u64)))) 3689348814741910323) + (andI .u64 (IntKind.wrap .u64 ((andI .u64 (Int.fdiv x1 (2 ^ (min (Int.toNat 1) (IntKind.bits .u64)))) 6148914691236517205) + (andI .u64 x1 6148914691236517205))) 3689348814741910323))))) 1085102592571150095) + (Int.fdiv (andI .u64 (IntKind.wrap .u64 ((Int.fdiv (IntKind.wrap .u64 ((andI .u64 (Int.fdiv (IntKind.wrap .u64 ((andI .u64 (Int.fdiv x1 (2 ^ (min (Int.toNat 1) (IntKind.bits .u64)))) 6148914691236517205) + (andI .u64 x1 6148914691236517205))) (2 ^ (min (Int.toNat 2) (IntKind.bits .u64)))) 3689348814741910323) + (andI .u64 (IntKind.wrap .u64 ((andI .u64 (Int.fdiv x1 (2 ^ (min (Int.toNat 1) (IntKind.bits .u64)))) 6148914691236517205) + (andI .u64 x1 6148914691236517205))) 3689348814741910323))) (2 ^ (min (Int.toNat 4) (IntKind.bits .u64)))) + (IntKind.wrap .u64 ((andI .u64 (Int.fdiv (IntKind.wrap .u64 ((andI .u64 (Int.fdiv x1 (2 ^ (min (Int.toNat 1) (IntKind.bits .u64)))) 6148914691236517205) + (andI .u64 x1 6148914691236517205))) (2 ^ (min (Int.toNat 2) (IntKind.bits .u64)))) 3689348814741910323) + (andI .u64 (IntKind.wrap .u64 ((andI .u64 (Int.fdiv x1 (2 ^ (min (Int.toNat 1) (IntKind.bits .u64)))) 6148914691236517205) + (andI .u64 x1 6148914691236517205))) 3689348814741910323))))) 1085102592571150095) (2 ^ (min (Int.toNat 8) (IntKind.bits .u64)))))) + (Int.fdiv (IntKind.wrap .u64 ((andI .u64 (IntKind.wrap .u64 ((Int.fdiv (IntKind.wrap .u64 ((andI .u64 (Int.fdiv (IntKind.wrap .u64 ((andI .u64 (Int.fdiv x1 (2 ^ (min (Int.toNat 1) (IntKind.bits .u64)))) 6148914691236517205) + (andI .u64 x1 6148914691236517205))) (2 ^ (min (Int.toNat 2) (IntKind.bits .u64)))) 3689348814741910323) + (andI .u64 (IntKind.wrap .u64 ((andI .u64 (Int.fdiv x1 (2 ^ (min (Int.toNat 1) (IntKind.bits .u64)))) 6148914691236517205) + (andI .u64 x1 6148914691236517205))) 3689348814741910323))) (2 ^ (min (Int.toNat 4) (IntKind.bits .u64)))) + (IntKind.wrap .u64 ((andI .u64 (Int.fdiv (IntKind.wrap .u64 ((andI .u64 (Int.fdiv x1 (2 ^ (min (Int.toNat 1) (IntKind.bits .u64)))) 6148914691236517205) + (andI .u64 x1 6148914691236517205))) (2 ^ (min (Int.toNat 2) (IntKind.bits .u64)))) 3689348814741910323) + (andI .u64 (IntKind.wrap .u64 ((andI .u64 (Int.fdiv x1 (2 ^ (min (Int.toNat 1) (IntKind.bits .u64)))) 6148914691236517205) + (andI .u64 x1 6148914691236517205))) 3689348814741910323))))) 1085102592571150095) + (Int.fdiv (andI .u64 (IntKind.wrap .u64 ((Int.fdiv (IntKind.wrap .u64 ((andI .u64 (Int.fdiv (IntKind.wrap .u64 ((andI .u64 (Int.fdiv x1 (2 ^ (min (Int.toNat 1) (IntKind.bits .u64)))) 6148914691236517205) + (andI .u64 x1 6148914691236517205))) (2 ^ (min (Int.toNat 2) (IntKind.bits .u64)))) 3689348814741910323) + (andI .u64 (IntKind.wrap .u64 ((andI .u64 (Int.fdiv x1 (2 ^ (min (Int.toNat 1) (IntKind.bits .u64)))) 6148914691236517205) + (andI .u64 x1 6148914691236517205))) 3689348814741910323))) (2 ^ (min (Int.toNat 4) (IntKind.bits .u64)))) + (IntKind.wrap .u64 ((andI .u64 (Int.fdiv (IntKind.wrap .u64 ((andI .u64 (Int.fdiv x1 (2 ^ (min (Int.toNat 1) (IntKind.bits .u64)))) 6148914691236517205) + (andI .u64 x1 6148914691236517205))) (2 ^ (min (Int.toNat 2) (IntKind.bits .u64)))) 3689348814741910323) + (andI .u64 (IntKind.wrap .u64 ((andI .u64 (Int.fdiv x1 (2 ^ (min (Int.toNat 1) (IntKind.bits .u64)))) 6148914691236517205) + (andI .u64 x1 6148914691236517205))) 3689348814741910323))))) 1085102592571150095) (2 ^ (min (Int.toNat 8) (IntKind.bits .u64)))))) (2 ^ (min (Int.toNat 16) (IntKind.bits .u64)))))) + (Int.fdiv (IntKind.wrap .u64 ((IntKind.wrap .u64 ((andI .u64 (IntKind.wrap .u64 ((Int.fdiv (IntKind.wrap .u64 ((andI .u64 (Int.fdiv (IntKind.wrap .u64 ((andI .u64 (Int.fdiv x1 (2 ^ (min (Int.toNat 1) (IntKind.bits .u64)))) 6148914691236517205) + (andI .u64 x1 6148914691236517205))) (2 ^ (min (Int.toNat 2) (IntKind.bits .u64)))) 3689348814741910323) + (andI .u64 (IntKind.wrap .u64 ((andI .u64 (Int.fdiv x1 (2 ^ (min (Int.toNat 1) (IntKind.bits .u64)))) 6148914691236517205) + (andI .u64 x1 6148914691236517205))) 3689348814741910323))) (2 ^ (min (Int.toNat 4) (IntKind.bits .u64)))) + (IntKind.wrap .u64 ((andI .u64 (Int.fdiv (IntKind.wrap .u64 ((andI .u64 (Int.fdiv x1 (2 ^ (min (Int.toNat 1) (IntKind.bits .u64)))) 6148914691236517205) + (andI .u64 x1 6148914691236517205))) (2 ^ (min (Int.toNat 2) (IntKind.bits .u64)))) 3689348814741910323) + (andI .u64 (IntKind.wrap .u64 ((andI .u64 (Int.fdiv x1 (2 ^ (min (Int.toNat 1) (IntKind.bits .u64)))) 6148914691236517205) + (andI .u64 x1 6148914691236517205))) 3689348814741910323))))) 1085102592571150095) + (Int.fdiv (andI .u64 (IntKind.wrap .u64 ((Int.fdiv (IntKind.wrap .u64 ((andI .u64 (Int.fdiv (IntKind.wrap .u64 ((andI .u64 (Int.fdiv x1 (2 ^ (min (Int.toNat 1) (IntKind.bits .u64)))) 6148914691236517205) + (andI .u64 x1 6148914691236517205))) (2 ^ (min (Int.toNat 2) (IntKind.bits .u64)))) 3689348814741910323) + (andI .u64 (IntKind.wrap .u64 ((andI .u64 (Int.fdiv x1 (2 ^ (min (Int.toNat 1) (IntKind.bits .u64)))) 6148914691236517205) + (andI .u64 x1 6148914691236517205))) 3689348814741910323))) (2 ^ (min (Int.toNat 4) (IntKind.bits .u64)))) + (IntKind.wrap .u64 ((andI .u64 (Int.fdiv (IntKind.wrap .u64 ((andI .u64 (Int.fdiv x1 (2 ^ (min (Int.toNat 1) (IntKind.bits .u64)))) 6148914691236517205) + (andI .u64 x1 6148914691236517205))) (2 ^ (min (Int.toNat 2) (IntKind.bits .u64)))) 3689348814741910323) + (andI .u64 (IntKind.wrap .u64 ((andI .u64 (Int.fdiv x1 (2 ^ (min (Int.toNat 1) (IntKind.bits .u64)))) 6148914691236517205) + (andI .u64 x1 6148914691236517205))) 3689348814741910323))))) 1085102592571150095) (2 ^ (min (Int.toNat 8) (IntKind.bits .u64)))))) + (Int.fdiv (IntKind.wrap .u64 ((andI .u64 (IntKind.wrap .u64 ((Int.fdiv (IntKind.wrap .u64 ((andI .u64 (Int.fdiv (IntKind.wrap .u64 ((andI .u64 (Int.fdiv x1 (2 ^ (min (Int.toNat 1) (IntKind.bits .u64)))) 6148914691236517205) + (andI .u64 x1 6148914691236517205))) (2 ^ (min (Int.toNat 2) (IntKind.bits .u64)))) 3689348814741910323) + (andI .u64 (IntKind.wrap .u64 ((andI .u64 (Int.fdiv x1 (2 ^ (min (Int.toNat 1) (IntKind.bits .u64)))) 6148914691236517205) + (andI .u64 x1 6148914691236517205))) 3689348814741910323))) (2 ^ (min (Int.toNat 4) (IntKind.bits .u64)))) + (IntKind.wrap .u64 ((andI .u64 (Int.fdiv (IntKind.wrap .u64 ((andI .u64 (Int.fdiv x1 (2 ^ (min (Int.toNat 1) (IntKind.bits .u64)))) 6148914691236517205) + (andI .u64 x1 6148914691236517205))) (2 ^ (min (Int.toNat 2) (IntKind.bits .u64)))) 3689348814741910323) + (andI .u64 (IntKind.wrap .u64 ((andI .u64 (Int.fdiv x1 (2 ^ (min (Int.toNat 1) (IntKind.bits .u64)))) 6148914691236517205) + (andI .u64 x1 6148914691236517205))) 3689348814741910323))))) 1085102592571150095) + (Int.fdiv (andI .u64 (IntKind.wrap .u64 ((Int.fdiv (IntKind.wrap .u64 ((andI .u64 (Int.fdiv (IntKind.wrap .u64 ((andI .u64 (Int.fdiv x1 (2 ^ (min (Int.toNat 1) (IntKind.bits .u64)))) 6148914691236517205) + (andI .u64 x1 6148914691236517205))) (2 ^ (min (Int.toNat 2) (IntKind.bits .u64)))) 3689348814741910323) + (andI .u64 (IntKind.wrap .u64 ((andI .u64 (Int.fdiv x1 (2 ^ (min (Int.toNat 1) (IntKind.bits .u64)))) 6148914691236517205) + (andI .u64 x1 6148914691236517205))) 3689348814741910323))) (2 ^ (min (Int.toNat 4) (IntKind.bits .u64)))) + (IntKind.wrap .u64 ((andI .u64 (Int.fdiv (IntKind.wrap .u64 ((andI .u64 (Int.fdiv x1 (2 ^ (min (Int.toNat 1) (IntKind.bits .u64)))) 6148914691236517205) + (andI .u64 x1 6148914691236517205))) (2 ^ (min (Int.toNat 2) (IntKind.bits .u64)))) 3689348814741910323) + (andI .u64 (IntKind.wrap .u64 ((andI .u64 (Int.fdiv x1 (2 ^ (min (Int.toNat 1) (IntKind.bits .u64)))) 6148914691236517205) + (andI .u64 x1 6148914691236517205))) 3689348814741910323))))) 1085102592571150095) (2 ^ (min (Int.toNat 8) (IntKind.bits .u64)))))) (2 ^ (min (Int.toNat 16) (IntKind.bits .u64)))))) (2 ^ (min (Int.toNat 32) (IntKind.bits .u64))))))) 127)
def K_bits_OnesCount (P : Program) (c : Nat) (f : Int → Option Int) : Prop := ∀ x1 r, f x1 = some r → ∀ M nb, ACalls P c [.d (.int .u64 x1)] M nb (.d (.int .i64 r)) M nb
def R_bits_OnesCount_0 : List COp := [oo 2 .mov [.c (.d (.int .i64 0))]]
def R_bits_OnesCount_1 : List COp := [oo 3 .mov [.t 0], oo 4 (.conv .u32) [.t 3], oo 5 (.call 77) [.t 4], oo 2 .mov [.t 5]]
def R_bits_OnesCount_2 : List COp := [oo 6 .mov [.t 0], oo 7 (.call 78) [.t 6], oo 2 .mov [.t 7]]
def F_bits_OnesCount : CFn := ⟨1, 8, [.t 2], .seq (.region R_bits_OnesCount_0 9 []) (.seq (.cond (.c (.d (.bool false))) (.seq (.region R_bits_OnesCount_1 9 []) (.ret)) (.skip)) (.seq (.region R_bits_OnesCount_2 9 []) (.ret)))⟩
def f_bits_OnesCount (f_bits_OnesCount64 : Int → Option Int) (x1 : Int) : Option Int :=
  ((f_bits_OnesCount64 x1).bind fun x3 => some x3)
def K_requirement_AtMost_1 (P : Program) (c : Nat) (f : Int → Int → (List Int) → Int → Option (Int × Bool)) : Prop := ∀ state1 event2 x3 x6 (k4 : Nat) (k7 : Nat) r, f state1 event2 x3 x6 = some r → ∀ M nb, (M k4 = some (.cells [.d (.lst 1 (List.map (eI .i64) x3))])) → (M k7 = some (.cells [.d (.int .i64 x6)])) → ACalls P c [.d (.int .i64 state1), .d (.int .i64 event2), .ptr k4 0, .ptr k7 0] M nb (.tup [.d (.int .i64 r.1), .d (.bool r.2)]) M nb
def R_requirement_AtMost_1_0 : List COp := [oo 6 .mov [.c (.d (.int .i64 0))], oo 7 .mov [.c (.d (.bool false))]]
def R_requirement_AtMost_1_1 : List COp := [oo 10 (.load false 1) [.t 2], oo 11 .mov [.t 1], oo 12 (.call 52) [.t 10, .t 11], oo 8 .mov [.t 12]]
def R_requirement_AtMost_1_2 : List COp := [oo 13 .mov [.t 8], oo 14 (.bin .quo false) [.t 13, .c (.d (.int .i64 2))], oo 15 (.bin .shl false) [.c (.d (.int .i64 1)), .t 14], oo 9 .mov [.t 15]]
def R_requirement_AtMost_1_3 : List COp := [oo 16 .mov [.t 8], oo 17 (.bin .rem false) [.t 16, .c (.d (.int .i64 2))], oo 18 (.bin .eql false) [.t 17, .c (.d (.int .i64 0))]]
def R_requirement_AtMost_1_4 : List COp := [oo 19 .mov [.t 0], oo 20 .mov [.t 9], oo 21 (.bin .or false) [.t 19, .t 20], oo 22 .mov [.t 0], oo 23 .mov [.t 9], oo 24 (.bin .and false) [.t 22, .t 23], oo 25 (.bin .eql false) [.t 24, .c (.d (.int .i64 0))], oo 26 .mov [.t 25], ⟨some 27, .mov, [.t 0], false, some (26, true)⟩, ⟨some 28, .conv .u64, [.t 27], false, some (26, true)⟩, ⟨some 29, .call 53, [.t 28], false, some (26, true)⟩, ⟨some 30, .load false 1, [.t 3], false, some (26, true)⟩, ⟨some 31, .bin .lss false, [.t 29, .t 30], false, some (26, true)⟩, oo 32 .pick [.t 26, .t 31, .c (.d (.bool false))], oo 6 .mov [.t 21], oo 7 .mov [.t 32]]
def R_requirement_AtMost_1_5 : List COp := [oo 33 .mov [.t 0], oo 34 .mov [.t 9], oo 35 (.bin .andNot false) [.t 33, .t 34], oo 36 .mov [.t 0], oo 37 .mov [.t 9], oo 38 (.bin .and false) [.t 36, .t 37], oo 39 (.bin .neq false) [.t 38, .c (.d (.int .i64 0))], oo 6 .mov [.t 35], oo 7 .mov [.t 39]]
def F_requirement_AtMost_1 : CFn := ⟨4, 40, [.t 6, .t 7], .seq (.region R_requirement_AtMost_1_0 9 []) (.seq (.region R_requirement_AtMost_1_1 9 []) (.seq (.region R_requirement_AtMost_1_2 9 []) (.seq (.seq (.region R_requirement_AtMost_1_3 9 []) (.cond (.t 18) (.seq (.region R_requirement_AtMost_1_4 1 []) (.ret)) (.skip))) (.seq (.region R_requirement_AtMost_1_5 9 []) (.ret)))))⟩
def f_requirement_AtMost_1 (f_slices_Index_int : (List Int) → Int → Option Int) (f_bits_OnesCount : Int → Option Int) (state1 : Int) (event2 : Int) (x3 : (List Int)) (x6 : Int) : Option (Int × Bool) :=
  ((f_slices_Index_int x3 event2).bind fun x10 => ((shlO .i64 1 (IntKind.wrap .i64 (Int.tdiv x10 2))).bind fun s11 => (if ((Int.tmod x10 2) == 0) then (if ((andI .i64 state1 s11) == 0) then ((f_bits_OnesCount (IntKind.wrap .u64 state1)).bind fun x16 => some ((orI .i64 state1 s11), decide (x16 < x6))) else some ((orI .i64 state1 s11), false)) else some ((andNotI .i64 state1 s11), ((andI .i64 state1 s11) != 0)))))
def K_requirement_all (P : Program) (c : Nat) (f : Int → Option Bool) : Prop := ∀ x1 r, f x1 = some r → ∀ M nb, ACalls P c [.d (.int .i64 x1)] M nb (.d (.bool r)) M nb
def R_requirement_all_0 : List COp := [oo 2 .mov [.c (.d (.bool false))]]
def R_requirement_all_1 : List COp := [oo 2 .mov [.c (.d (.bool true))]]
def F_requirement_all : CFn := ⟨1, 3, [.t 2], .seq (.region R_requirement_all_0 9 []) (.seq (.region R_requirement_all_1 9 []) (.ret))⟩
def f_requirement_all (x1 : Int) : Option Bool :=
  some true
def K_requirement_AtMost (P : Program) (c : Nat) (f : (List requirement_Phase) → Int → Option (api_Automaton × Int)) : Prop := ∀ phases1 most2 r, f phases1 most2 = some r → ∀ M nb, ACalls P c [.d (.lst 2 (List.map e_requirement_Phase phases1)), .d (.int .i64 most2)] M nb (.tup [.agg [.d (.lst 1 (List.map (eI .i64) r.1.Alphabet)), .d (.int .i64 r.1.States), .d (.lst 1 (List.map (eI .i64) r.1.Marked)), .d (.lst 3 (List.map e_api_Edge r.1.Edges))], .d (.int .i64 r.2)]) M nb
def R_requirement_AtMost_0 : List COp := [oo 3 (.box 1) [.t 1], oo 4 (.alloc [.nils 1, .d (.int .i64 0), .nils 1, .nils 3]) [], oo 5 .mov [.c (.d (.int .i64 0))]]
def R_requirement_AtMost_1 : List COp := [oo 10 .mov [.t 0], oo 11 .len [.t 10], oo 12 (.bin .gtr false) [.t 11, .c (.d (.int .i64 10))]]
def R_requirement_AtMost_2 : List COp := [oo 13 (.build [.nils 1, .d (.int .i64 0), .nils 1, .nils 3] []) [], ⟨none, .store 4, [.t 4, .t 13], false, none⟩, oo 5 .mov [.c (.d (.int .i64 3))]]
def R_requirement_AtMost_3 : List COp := [oo 6 (.alloc [.nils 1]) []]
def R_requirement_AtMost_4 : List COp := [oo 14 .mov [.t 0], oo 15 .len [.t 14], oo 16 .mov [.c (.d (.int .i64 0))]]
def R_requirement_AtMost_5 : List COp := [oo 17 (.bin .lss false) [.t 16, .t 15]]
def R_requirement_AtMost_6 : List COp := [oo 18 (.idx 2) [.t 14, .t 16], oo 19 (.load true 2) [.t 18], oo 8 (.alloc [.d (.int .i64 0), .d (.int .i64 0)]) [], ⟨none, .store 2, [.t 8, .t 19], false, none⟩]
def R_requirement_AtMost_7 : List COp := [oo 20 .loadT [.t 6], oo 21 (.fld 0) [.t 8], oo 22 (.load false 1) [.t 21], oo 23 (.fld 1) [.t 8], oo 24 (.load false 1) [.t 23], oo 25 (.bslice 1 2 [.d (.int .i64 0)] [0, 1]) [.t 22, .t 24], ot 26 (.append 1 8) [.t 20, .t 25], ⟨none, .store 1, [.t 6, .t 26], true, none⟩]
def R_requirement_AtMost_8 : List COp := [oo 27 (.bin .add false) [.t 16, .c (.d (.int .i64 1))], oo 16 .mov [.t 27]]
def R_requirement_AtMost_9 : List COp := [oo 28 (.load false 1) [.t 6], oo 29 (.call 47) [.t 28], oo 9 .mov [.t 29]]
def R_requirement_AtMost_10 : List COp := [oo 30 .mov [.t 9], oo 31 (.bin .neq false) [.t 30, .c (.d (.int .i64 0))]]
def R_requirement_AtMost_11 : List COp := [oo 32 (.build [.nils 1, .d (.int .i64 0), .nils 1, .nils 3] []) [], oo 33 .mov [.t 9], ⟨none, .store 4, [.t 4, .t 32], false, none⟩, oo 5 .mov [.t 33]]
def R_requirement_AtMost_12 : List COp := [oo 34 (.load false 1) [.t 3], oo 35 (.bin .lss false) [.t 34, .c (.d (.int .i64 0))], oo 36 .mov [.t 35], ⟨some 37, .load false 1, [.t 3], false, some (36, false)⟩, ⟨some 38, .mov, [.t 0], false, some (36, false)⟩, ⟨some 39, .len, [.t 38], false, some (36, false)⟩, ⟨some 40, .bin .gtr false, [.t 37, .t 39], false, some (36, false)⟩, oo 41 .pick [.t 36, .c (.d (.bool true)), .t 40]]
def R_requirement_AtMost_13 : List COp := [oo 42 (.build [.nils 1, .d (.int .i64 0), .nils 1, .nils 3] []) [], ⟨none, .store 4, [.t 4, .t 42], false, none⟩, oo 5 .mov [.c (.d (.int .i64 2))]]
def R_requirement_AtMost_14 : List COp := [oo 43 (.load false 1) [.t 6], oo 44 (.call 49) [.t 43], oo 45 (.func 51) [.t 6, .t 3], oo 46 (.call 48) [.t 44, .c (.clo 50 []), .t 45], ⟨none, .store 4, [.t 4, .t 46], false, none⟩, oo 5 .mov [.c (.d (.int .i64 0))]]
def F_requirement_AtMost : CFn := ⟨2, 47, [.cell 4 true 4, .t 5], .seq (.region R_requirement_AtMost_0 9 []) (.seq (.seq (.region R_requirement_AtMost_1 9 []) (.cond (.t 12) (.seq (.region R_requirement_AtMost_2 9 []) (.ret)) (.skip))) (.seq (.region R_requirement_AtMost_3 9 []) (.seq (.seq (.region R_requirement_AtMost_4 9 []) (.block 0 (.loop [8, 25] (.seq (.region R_requirement_AtMost_5 9 []) (.seq (.cond (.t 17) (.skip) (.exit 0)) (.seq (.block 1 (.seq (.region R_requirement_AtMost_6 9 []) (.region R_requirement_AtMost_7 9 []))) (.region R_requirement_AtMost_8 9 []))))))) (.seq (.seq (.region R_requirement_AtMost_9 9 []) (.seq (.region R_requirement_AtMost_10 9 []) (.cond (.t 31) (.seq (.region R_requirement_AtMost_11 9 []) (.ret)) (.skip)))) (.seq (.seq (.region R_requirement_AtMost_12 9 []) (.cond (.t 41) (.seq (.region R_requirement_AtMost_13 9 []) (.ret)) (.skip))) (.seq (.region R_requirement_AtMost_14 9 []) (.ret)))))))⟩
def f_requirement_AtMost (f_requirement_distinct : (List Int) → Option Int) (f_requirement_explore : (List Int) → (Int → Option Bool) → (Int → Int → Option (Int × Bool)) → Option api_Automaton) (f_requirement_sorted : (List Int) → Option ((List Int))) (f_requirement_all : Int → Option Bool) (f_requirement_AtMost_1 : Int → Int → (List Int) → Int → Option (Int × Bool)) (fuel : Nat) (phases1 : (List requirement_Phase)) (most2 : Int) : Option (api_Automaton × Int) :=
  (if ((phases1.length : Int) > 10) then some ((api_Automaton.mk [] 0 [] []), 3) else ((iterF (fun k9 ((x4, c5, c6, c7, events8) : Int × (List Int) × (List Int) × (List api_Edge) × (List Int)) => (if (x4 < (phases1.length : Int)) then ((getO phases1 x4).bind fun x11 => ((appO events8 [x11.Enter, x11.Leave]).bind fun x13 => k9 ((IntKind.wrap .i64 (x4 + 1)), c5, c6, c7, x13))) else some (c5, c6, c7, events8))) fuel (0, [], [], [], [])).bind fun ((c15, c16, c17, events18) : (List Int) × (List Int) × (List api_Edge) × (List Int)) => ((f_requirement_distinct events18).bind fun x20 => (if (x20 != 0) then some ((api_Automaton.mk [] 0 [] []), x20) else (((if (most2 < 0) then some true else some (decide (most2 > (phases1.length : Int))))).bind fun (x23 : Bool) => (if x23 then some ((api_Automaton.mk [] 0 [] []), 2) else ((f_requirement_sorted events18).bind fun x26 => ((f_requirement_explore x26 f_requirement_all (fun a30 a31 => f_requirement_AtMost_1 a30 a31 events18 most2)).bind fun x35 => some (x35, 0)))))))))
def K_automaton_checkSet (P : Program) (c : Nat) (f : (List Int) → Int → Option Int) : Prop := ∀ l1 n2 r, f l1 n2 = some r → ∀ M nb, ACalls P c [.d (.lst 1 (List.map (eI .i64) l1)), .d (.int .i64 n2)] M nb (.d (.int .i64 r)) M nb
def R_automaton_checkSet_0 : List COp := [oo 4 .mov [.c (.d (.int .i64 0))]]
def R_automaton_checkSet_1 : List COp := [oo 7 .mov [.t 0], oo 8 .len [.t 7], oo 9 .mov [.c (.d (.int .i64 0))]]
def R_automaton_checkSet_2 : List COp := [oo 10 (.bin .lss false) [.t 9, .t 8]]
def R_automaton_checkSet_3 : List COp := [oo 11 .mov [.t 9], oo 12 (.idx 1) [.t 7, .t 9], oo 13 (.load false 1) [.t 12], oo 5 .mov [.t 11], oo 6 .mov [.t 13]]
def R_automaton_checkSet_4 : List COp := [oo 15 .mov [.t 6], oo 16 (.bin .lss false) [.t 15, .c (.d (.int .i64 0))], oo 17 .mov [.t 16], ⟨some 18, .mov, [.t 6], false, some (17, false)⟩, ⟨some 19, .mov, [.t 1], false, some (17, false)⟩, ⟨some 20, .bin .geq false, [.t 18, .t 19], false, some (17, false)⟩, oo 21 .pick [.t 17, .c (.d (.bool true)), .t 20], oo 14 .mov [.t 21]]
def R_automaton_checkSet_5 : List COp := [oo 4 .mov [.c (.d (.int .i64 2))]]
def R_automaton_checkSet_6 : List COp := [oo 23 .mov [.t 5], oo 24 (.bin .gtr false) [.t 23, .c (.d (.int .i64 0))], oo 25 .mov [.t 24], ⟨some 26, .mov, [.t 6], false, some (25, true)⟩, ⟨some 27, .mov, [.t 0], false, some (25, true)⟩, ⟨some 28, .mov, [.t 5], false, some (25, true)⟩, ⟨some 29, .bin .sub false, [.t 28, .c (.d (.int .i64 1))], false, some (25, true)⟩, ⟨some 30, .idx 1, [.t 27, .t 29], false, some (25, true)⟩, ⟨some 31, .load false 1, [.t 30], false, some (25, true)⟩, ⟨some 32, .bin .leq false, [.t 26, .t 31], false, some (25, true)⟩, oo 33 .pick [.t 25, .t 32, .c (.d (.bool false))], oo 22 .mov [.t 33]]
def R_automaton_checkSet_7 : List COp := [oo 4 .mov [.c (.d (.int .i64 5))]]
def R_automaton_checkSet_8 : List COp := [oo 34 (.bin .add false) [.t 9, .c (.d (.int .i64 1))], oo 9 .mov [.t 34]]
def R_automaton_checkSet_9 : List COp := [oo 4 .mov [.c (.d (.int .i64 0))]]
def F_automaton_checkSet : CFn := ⟨2, 35, [.t 4], .seq (.region R_automaton_checkSet_0 9 []) (.seq (.seq (.region R_automaton_checkSet_1 9 []) (.block 0 (.loop [] (.seq (.region R_automaton_checkSet_2 9 []) (.seq (.cond (.t 10) (.skip) (.exit 0)) (.seq (.block 1 (.seq (.region R_automaton_checkSet_3 9 []) (.block 2 (.seq (.region R_automaton_checkSet_4 9 []) (.cond (.t 14) (.seq (.region R_automaton_checkSet_5 9 []) (.ret)) (.seq (.region R_automaton_checkSet_6 9 []) (.cond (.t 22) (.seq (.region R_automaton_checkSet_7 9 []) (.ret)) (.skip)))))))) (.region R_automaton_checkSet_8 9 []))))))) (.seq (.region R_automaton_checkSet_9 9 []) (.ret)))⟩
def f_automaton_checkSet (fuel : Nat) (l1 : (List Int)) (n2 : Int) : Option Int :=
  iterF (fun k4 (x3 : Int) => (if (x3 < (l1.length : Int)) then ((getO l1 x3).bind fun x6 => (((if (x6 < 0) then some true else some (decide (x6 ≥ n2)))).bind fun (x9 : Bool) => (if x9 then some 2 else (((if (x3 > 0) then ((getO l1 (IntKind.wrap .i64 (x3 - 1))).bind fun x12 => some (decide (x6 ≤ x12))) else some false)).bind fun (x14 : Bool) => (if x14 then some 5 else k4 (IntKind.wrap .i64 (x3 + 1))))))) else some 0)) fuel 0
def K_automaton_checkEdges (P : Program) (c : Nat) (f : api_Automaton → Option Int) : Prop := ∀ a1 r, f a1 = some r → ∀ M nb, ACalls P c [.agg [.d (.lst 1 (List.map (eI .i64) a1.Alphabet)), .d (.int .i64 a1.States), .d (.lst 1 (List.map (eI .i64) a1.Marked)), .d (.lst 3 (List.map e_api_Edge a1.Edges))]] M nb (.d (.int .i64 r)) M nb
def R_automaton_checkEdges_0 : List COp := [oo 1 (.box 4) [.t 0], oo 2 .mov [.c (.d (.int .i64 0))]]
def R_automaton_checkEdges_1 : List COp := [oo 6 (.fld 3) [.t 1], oo 7 (.load false 1) [.t 6], oo 8 .len [.t 7], oo 9 .mov [.c (.d (.int .i64 0))]]
def R_automaton_checkEdges_2 : List COp := [oo 10 (.bin .lss false) [.t 9, .t 8]]
def R_automaton_checkEdges_3 : List COp := [oo 11 .mov [.t 9], oo 12 (.idx 3) [.t 7, .t 9], oo 13 (.load true 3) [.t 12], oo 4 (.alloc [.d (.int .i64 0), .d (.int .i64 0), .d (.int .i64 0)]) [], oo 3 .mov [.t 11], ⟨none, .store 3, [.t 4, .t 13], false, none⟩]
def R_automaton_checkEdges_4 : List COp := [oo 15 (.fld 0) [.t 4], oo 16 (.load false 1) [.t 15], oo 17 (.bin .lss false) [.t 16, .c (.d (.int .i64 0))], oo 18 .mov [.t 17], ⟨some 19, .fld 0, [.t 4], false, some (18, false)⟩, ⟨some 20, .load false 1, [.t 19], false, some (18, false)⟩, ⟨some 21, .fld 1, [.t 1], false, some (18, false)⟩, ⟨some 22, .load false 1, [.t 21], false, some (18, false)⟩, ⟨some 23, .bin .geq false, [.t 20, .t 22], false, some (18, false)⟩, oo 24 .pick [.t 18, .c (.d (.bool true)), .t 23], oo 25 .mov [.t 24], ⟨some 26, .fld 2, [.t 4], false, some (25, false)⟩, ⟨some 27, .load false 1, [.t 26], false, some (25, false)⟩, ⟨some 28, .bin .lss false, [.t 27, .c (.d (.int .i64 0))], false, some (25, false)⟩, oo 29 .pick [.t 25, .c (.d (.bool true)), .t 28], oo 30 .mov [.t 29], ⟨some 31, .fld 2, [.t 4], false, some (30, false)⟩, ⟨some 32, .load false 1, [.t 31], false, some (30, false)⟩, ⟨some 33, .fld 1, [.t 1], false, some (30, false)⟩, ⟨some 34, .load false 1, [.t 33], false, some (30, false)⟩, ⟨some 35, .bin .geq false, [.t 32, .t 34], false, some (30, false)⟩, oo 36 .pick [.t 30, .c (.d (.bool true)), .t 35], oo 14 .mov [.t 36]]
def R_automaton_checkEdges_5 : List COp := [oo 2 .mov [.c (.d (.int .i64 2))]]
def R_automaton_checkEdges_6 : List COp := [oo 38 (.fld 0) [.t 1], oo 39 (.load false 1) [.t 38], oo 40 (.fld 1) [.t 4], oo 41 (.load false 1) [.t 40], oo 42 (.call 13) [.t 39, .t 41], oo 43 (.un .not) [.t 42], oo 37 .mov [.t 43]]
def R_automaton_checkEdges_7 : List COp := [oo 2 .mov [.c (.d (.int .i64 9))]]
def R_automaton_checkEdges_8 : List COp := [oo 44 .mov [.t 3], oo 45 (.bin .eql false) [.t 44, .c (.d (.int .i64 0))]]
def R_automaton_checkEdges_9 : List COp := [oo 46 (.fld 3) [.t 1], oo 47 (.load false 1) [.t 46], oo 48 .mov [.t 3], oo 49 (.bin .sub false) [.t 48, .c (.d (.int .i64 1))], oo 50 (.idx 3) [.t 47, .t 49], oo 51 (.load true 3) [.t 50], oo 5 (.alloc [.d (.int .i64 0), .d (.int .i64 0), .d (.int .i64 0)]) [], ⟨none, .store 3, [.t 5, .t 51], false, none⟩]
def R_automaton_checkEdges_10 : List COp := [oo 52 (.fld 0) [.t 4], oo 53 (.load false 1) [.t 52], oo 54 (.fld 0) [.t 5], oo 55 (.load false 1) [.t 54], oo 56 (.bin .lss false) [.t 53, .t 55], oo 57 .mov [.t 56], ⟨some 58, .fld 0, [.t 4], false, some (57, false)⟩, ⟨some 59, .load false 1, [.t 58], false, some (57, false)⟩, ⟨some 60, .fld 0, [.t 5], false, some (57, false)⟩, ⟨some 61, .load false 1, [.t 60], false, some (57, false)⟩, ⟨some 62, .bin .eql false, [.t 59, .t 61], false, some (57, false)⟩, ⟨some 63, .mov, [.t 62], false, some (57, false)⟩, ⟨some 64, .fld 1, [.t 4], false, some (63, true)⟩, ⟨some 65, .load false 1, [.t 64], false, some (63, true)⟩, ⟨some 66, .fld 1, [.t 5], false, some (63, true)⟩, ⟨some 67, .load false 1, [.t 66], false, some (63, true)⟩, ⟨some 68, .bin .leq false, [.t 65, .t 67], false, some (63, true)⟩, ⟨some 69, .pick, [.t 63, .t 68, .c (.d (.bool false))], false, some (57, false)⟩, oo 70 .pick [.t 57, .c (.d (.bool true)), .t 69]]
def R_automaton_checkEdges_11 : List COp := [oo 2 .mov [.c (.d (.int .i64 5))]]
def R_automaton_checkEdges_12 : List COp := [oo 71 (.bin .add false) [.t 9, .c (.d (.int .i64 1))], oo 9 .mov [.t 71]]
def R_automaton_checkEdges_13 : List COp := [oo 2 .mov [.c (.d (.int .i64 0))]]
def F_automaton_checkEdges : CFn := ⟨1, 72, [.t 2], .seq (.region R_automaton_checkEdges_0 9 []) (.seq (.seq (.region R_automaton_checkEdges_1 9 []) (.block 0 (.loop [4, 5] (.seq (.region R_automaton_checkEdges_2 9 []) (.seq (.cond (.t 10) (.skip) (.exit 0)) (.seq (.block 1 (.seq (.region R_automaton_checkEdges_3 9 []) (.seq (.block 2 (.seq (.region R_automaton_checkEdges_4 9 []) (.cond (.t 14) (.seq (.region R_automaton_checkEdges_5 9 []) (.ret)) (.seq (.region R_automaton_checkEdges_6 9 []) (.cond (.t 37) (.seq (.region R_automaton_checkEdges_7 9 []) (.ret)) (.skip)))))) (.seq (.seq (.region R_automaton_checkEdges_8 9 []) (.cond (.t 45) (.exit 1) (.skip))) (.seq (.region R_automaton_checkEdges_9 9 []) (.seq (.region R_automaton_checkEdges_10 9 []) (.cond (.t 70) (.seq (.region R_automaton_checkEdges_11 9 []) (.ret)) (.skip)))))))) (.region R_automaton_checkEdges_12 9 []))))))) (.seq (.region R_automaton_checkEdges_13 9 []) (.ret)))⟩
def f_automaton_checkEdges (f_slices_Contains_int : (List Int) → Int → Option Bool) (fuel : Nat) (a1 : api_Automaton) : Option Int :=
  iterF (fun k3 (x2 : Int) => (if (x2 < (a1.Edges.length : Int)) then letJ (fun ((c22, c23, c24) : Int × Int × Int) => k3 (IntKind.wrap .i64 (x2 + 1))) fun J25 => ((getO a1.Edges x2).bind fun x5 => (((if (x5.From < 0) then some true else (if (x5.From ≥ a1.States) then some true else (if (x5.To < 0) then some true else some (decide (x5.To ≥ a1.States)))))).bind fun (x10 : Bool) => (if x10 then some 2 else ((f_slices_Contains_int a1.Alphabet x5.Event).bind fun x13 => (if x13 then (if (x2 == 0) then J25 (x5.From, x5.Event, x5.To) else ((getO a1.Edges (IntKind.wrap .i64 (x2 - 1))).bind fun x16 => (((if (x5.From < x16.From) then some true else (if (x5.From == x16.From) then some (decide (x5.Event ≤ x16.Event)) else some false))).bind fun (x20 : Bool) => (if x20 then some 5 else J25 (x5.From, x5.Event, x5.To))))) else some 9))))) else some 0)) fuel 0
def K_automaton_Check (P : Program) (c : Nat) (f : api_Automaton → Option Int) : Prop := ∀ a1 r, f a1 = some r → ∀ M nb, ACalls P c [.agg [.d (.lst 1 (List.map (eI .i64) a1.Alphabet)), .d (.int .i64 a1.States), .d (.lst 1 (List.map (eI .i64) a1.Marked)), .d (.lst 3 (List.map e_api_Edge a1.Edges))]] M nb (.d (.int .i64 r)) M nb
def R_automaton_Check_0 : List COp := [oo 1 (.box 4) [.t 0], oo 2 .mov [.c (.d (.int .i64 0))]]
def R_automaton_Check_1 : List COp := [oo 5 (.fld 0) [.t 1], oo 6 (.load false 1) [.t 5], oo 7 (.call 86) [.t 6, .c (.d (.int .i64 32))], oo 3 .mov [.t 7]]
def R_automaton_Check_2 : List COp := [oo 8 .mov [.t 3], oo 9 (.bin .neq false) [.t 8, .c (.d (.int .i64 0))]]
def R_automaton_Check_3 : List COp := [oo 10 .mov [.t 3], oo 2 .mov [.t 10]]
def R_automaton_Check_4 : List COp := [oo 12 (.fld 1) [.t 1], oo 13 (.load false 1) [.t 12], oo 14 (.bin .lss false) [.t 13, .c (.d (.int .i64 0))], oo 11 .mov [.t 14]]
def R_automaton_Check_5 : List COp := [oo 2 .mov [.c (.d (.int .i64 2))]]
def R_automaton_Check_6 : List COp := [oo 16 (.fld 1) [.t 1], oo 17 (.load false 1) [.t 16], oo 18 (.bin .gtr false) [.t 17, .c (.d (.int .i64 4096))], oo 15 .mov [.t 18]]
def R_automaton_Check_7 : List COp := [oo 2 .mov [.c (.d (.int .i64 3))]]
def R_automaton_Check_8 : List COp := [oo 19 (.fld 2) [.t 1], oo 20 (.load false 1) [.t 19], oo 21 (.fld 1) [.t 1], oo 22 (.load false 1) [.t 21], oo 23 (.call 86) [.t 20, .t 22], oo 4 .mov [.t 23]]
def R_automaton_Check_9 : List COp := [oo 24 .mov [.t 4], oo 25 (.bin .neq false) [.t 24, .c (.d (.int .i64 0))]]
def R_automaton_Check_10 : List COp := [oo 26 .mov [.t 4], oo 2 .mov [.t 26]]
def R_automaton_Check_11 : List COp := [oo 27 (.load true 4) [.t 1], oo 28 (.call 87) [.t 27], oo 2 .mov [.t 28]]
def F_automaton_Check : CFn := ⟨1, 29, [.t 2], .seq (.region R_automaton_Check_0 9 []) (.seq (.seq (.region R_automaton_Check_1 9 []) (.seq (.region R_automaton_Check_2 9 []) (.cond (.t 9) (.seq (.region R_automaton_Check_3 9 []) (.ret)) (.skip)))) (.seq (.block 0 (.seq (.region R_automaton_Check_4 9 []) (.cond (.t 11) (.seq (.region R_automaton_Check_5 9 []) (.ret)) (.seq (.region R_automaton_Check_6 9 []) (.cond (.t 15) (.seq (.region R_automaton_Check_7 9 []) (.ret)) (.skip)))))) (.seq (.seq (.region R_automaton_Check_8 9 []) (.seq (.region R_automaton_Check_9 9 []) (.cond (.t 25) (.seq (.region R_automaton_Check_10 9 []) (.ret)) (.skip)))) (.seq (.region R_automaton_Check_11 9 []) (.ret)))))⟩
def f_automaton_Check (f_automaton_checkSet : (List Int) → Int → Option Int) (f_automaton_checkEdges : api_Automaton → Option Int) (a1 : api_Automaton) : Option Int :=
  ((f_automaton_checkSet a1.Alphabet 32).bind fun x3 => (if (x3 != 0) then some x3 else (if (a1.States < 0) then some 2 else (if (a1.States > 4096) then some 3 else ((f_automaton_checkSet a1.Marked a1.States).bind fun x8 => (if (x8 != 0) then some x8 else ((f_automaton_checkEdges a1).bind fun x11 => some x11)))))))
def K_automaton_checkState (P : Program) (c : Nat) (f : api_Automaton → Int → Option Int) : Prop := ∀ a1 state2 r, f a1 state2 = some r → ∀ M nb, ACalls P c [.agg [.d (.lst 1 (List.map (eI .i64) a1.Alphabet)), .d (.int .i64 a1.States), .d (.lst 1 (List.map (eI .i64) a1.Marked)), .d (.lst 3 (List.map e_api_Edge a1.Edges))], .d (.int .i64 state2)] M nb (.d (.int .i64 r)) M nb
def R_automaton_checkState_0 : List COp := [oo 2 (.box 4) [.t 0], oo 4 .mov [.c (.d (.int .i64 0))]]
def R_automaton_checkState_1 : List COp := [oo 6 (.load true 4) [.t 2], oo 7 (.call 68) [.t 6], oo 5 .mov [.t 7]]
def R_automaton_checkState_2 : List COp := [oo 8 .mov [.t 5], oo 9 (.bin .neq false) [.t 8, .c (.d (.int .i64 0))]]
def R_automaton_checkState_3 : List COp := [oo 10 .mov [.t 5], oo 4 .mov [.t 10]]
def R_automaton_checkState_4 : List COp := [oo 11 .mov [.t 1], oo 12 (.bin .lss false) [.t 11, .c (.d (.int .i64 0))], oo 13 .mov [.t 12], ⟨some 14, .mov, [.t 1], false, some (13, false)⟩, ⟨some 15, .fld 1, [.t 2], false, some (13, false)⟩, ⟨some 16, .load false 1, [.t 15], false, some (13, false)⟩, ⟨some 17, .bin .geq false, [.t 14, .t 16], false, some (13, false)⟩, oo 18 .pick [.t 13, .c (.d (.bool true)), .t 17]]
def R_automaton_checkState_5 : List COp := [oo 4 .mov [.c (.d (.int .i64 2))]]
def R_automaton_checkState_6 : List COp := [oo 4 .mov [.c (.d (.int .i64 0))]]
def F_automaton_checkState : CFn := ⟨2, 19, [.t 4], .seq (.region R_automaton_checkState_0 9 []) (.seq (.seq (.region R_automaton_checkState_1 9 []) (.seq (.region R_automaton_checkState_2 9 []) (.cond (.t 9) (.seq (.region R_automaton_checkState_3 9 []) (.ret)) (.skip)))) (.seq (.seq (.region R_automaton_checkState_4 9 []) (.cond (.t 18) (.seq (.region R_automaton_checkState_5 9 []) (.ret)) (.skip))) (.seq (.region R_automaton_checkState_6 9 []) (.ret))))⟩
def f_automaton_checkState (f_automaton_Check : api_Automaton → Option Int) (a1 : api_Automaton) (state2 : Int) : Option Int :=
  ((f_automaton_Check a1).bind fun x4 => (if (x4 != 0) then some x4 else (((if (state2 < 0) then some true else some (decide (state2 ≥ a1.States)))).bind fun (x7 : Bool) => (if x7 then some 2 else some 0))))
def K_slices_BinarySearchFunc_int (P : Program) (c : Nat) (f : (List api_Edge) → Int → (api_Edge → Int → Option Int) → Option (Int × Bool)) : Prop := ∀ x1 target2 cmp3 (g4 : Nat) (cp5 : List V) r, f x1 target2 cmp3 = some r → ∀ M nb, (V.dems cp5 = cp5) → (V.ons (There M) cp5) → (∀ a9 a10 r, cmp3 a9 a10 = some r → ∀ M2 nb2, nb ≤ nb2 → Ext M M2 → ACalls P g4 ([.agg [.d (.int .i64 a9.From), .d (.int .i64 a9.Event), .d (.int .i64 a9.To)], .d (.int .i64 a10)] ++ cp5) M2 nb2 (.d (.int .i64 r)) M2 nb2) → ACalls P c [.d (.lst 3 (List.map e_api_Edge x1)), .d (.int .i64 target2), .clo g4 cp5] M nb (.tup [.d (.int .i64 r.1), .d (.bool r.2)]) M nb
def R_slices_BinarySearchFunc_int_0 : List COp := [oo 6 .mov [.c (.d (.int .i64 0))], oo 7 .mov [.c (.d (.bool false))]]
def R_slices_BinarySearchFunc_int_1 : List COp := [oo 12 .mov [.t 0], oo 13 .len [.t 12], oo 8 .mov [.t 13]]
def R_slices_BinarySearchFunc_int_2 : List COp := [oo 14 .mov [.t 8], oo 9 .mov [.c (.d (.int .i64 0))], oo 10 .mov [.t 14]]
def R_slices_BinarySearchFunc_int_3 : List COp := [oo 15 .mov [.t 9], oo 16 .mov [.t 10], oo 17 (.bin .lss false) [.t 15, .t 16]]
def R_slices_BinarySearchFunc_int_4 : List COp := [oo 18 .mov [.t 9], oo 19 .mov [.t 10], oo 20 (.bin .add false) [.t 18, .t 19], oo 21 (.conv .u64) [.t 20], oo 22 (.bin .shr false) [.t 21, .c (.d (.int .u64 1))], oo 23 (.conv .i64) [.t 22], oo 11 .mov [.t 23]]
def R_slices_BinarySearchFunc_int_5 : List COp := [oo 24 .mov [.t 2], oo 25 .mov [.t 0], oo 26 .mov [.t 11], oo 27 (.idx 3) [.t 25, .t 26], oo 28 (.load true 3) [.t 27], oo 29 .mov [.t 1], oo 30 .callv [.t 24, .t 28, .t 29], oo 31 (.bin .lss false) [.t 30, .c (.d (.int .i64 0))]]
def R_slices_BinarySearchFunc_int_6 : List COp := [oo 32 .mov [.t 11], oo 33 (.bin .add false) [.t 32, .c (.d (.int .i64 1))], oo 9 .mov [.t 33]]
def R_slices_BinarySearchFunc_int_7 : List COp := [oo 34 .mov [.t 11], oo 10 .mov [.t 34]]
def R_slices_BinarySearchFunc_int_8 : List COp := [oo 35 .mov [.t 9], oo 36 .mov [.t 9], oo 37 .mov [.t 8], oo 38 (.bin .lss false) [.t 36, .t 37], oo 39 .mov [.t 38], ⟨some 40, .mov, [.t 2], false, some (39, true)⟩, ⟨some 41, .mov, [.t 0], false, some (39, true)⟩, ⟨some 42, .mov, [.t 9], false, some (39, true)⟩, ⟨some 43, .idx 3, [.t 41, .t 42], false, some (39, true)⟩, ⟨some 44, .load true 3, [.t 43], false, some (39, true)⟩, ⟨some 45, .mov, [.t 1], false, some (39, true)⟩, ⟨some 46, .callv, [.t 40, .t 44, .t 45], false, some (39, true)⟩, ⟨some 47, .bin .eql false, [.t 46, .c (.d (.int .i64 0))], false, some (39, true)⟩, oo 48 .pick [.t 39, .t 47, .c (.d (.bool false))], oo 6 .mov [.t 35], oo 7 .mov [.t 48]]
def F_slices_BinarySearchFunc_int : CFn := ⟨3, 49, [.t 6, .t 7], .seq (.region R_slices_BinarySearchFunc_int_0 9 []) (.seq (.region R_slices_BinarySearchFunc_int_1 9 []) (.seq (.region R_slices_BinarySearchFunc_int_2 9 []) (.seq (.block 0 (.loop [] (.seq (.seq (.region R_slices_BinarySearchFunc_int_3 9 []) (.cond (.t 17) (.skip) (.exit 0))) (.block 1 (.seq (.region R_slices_BinarySearchFunc_int_4 9 []) (.seq (.region R_slices_BinarySearchFunc_int_5 9 []) (.cond (.t 31) (.region R_slices_BinarySearchFunc_int_6 9 []) (.region R_slices_BinarySearchFunc_int_7 9 [])))))))) (.seq (.region R_slices_BinarySearchFunc_int_8 9 []) (.ret)))))⟩
def f_slices_BinarySearchFunc_int (fuel : Nat) (x1 : (List api_Edge)) (target2 : Int) (cmp3 : (api_Edge → Int → Option Int)) : Option (Int × Bool) :=
  ((iterF (fun k13 ((i11, j12) : Int × Int) => (if (i11 < j12) then ((getO x1 (IntKind.wrap .i64 (Int.fdiv (IntKind.wrap .u64 (IntKind.wrap .i64 (i11 + j12))) (2 ^ (min (Int.toNat 1) (IntKind.bits .u64)))))).bind fun x15 => ((cmp3 x15 target2).bind fun x18 => (if (x18 < 0) then k13 ((IntKind.wrap .i64 ((IntKind.wrap .i64 (Int.fdiv (IntKind.wrap .u64 (IntKind.wrap .i64 (i11 + j12))) (2 ^ (min (Int.toNat 1) (IntKind.bits .u64))))) + 1)), j12) else k13 (i11, (IntKind.wrap .i64 (Int.fdiv (IntKind.wrap .u64 (IntKind.wrap .i64 (i11 + j12))) (2 ^ (min (Int.toNat 1) (IntKind.bits .u64))))))))) else some i11)) fuel (0, (x1.length : Int))).bind fun (i20 : Int) => (if (i20 < (x1.length : Int)) then ((getO x1 i20).bind fun x22 => ((cmp3 x22 target2).bind fun x25 => some (i20, (x25 == 0)))) else some (i20, false)))
def K_automaton_out_1 (P : Program) (c : Nat) (f : api_Edge → Int → Option Int) : Prop := ∀ x1 s2 r, f x1 s2 = some r → ∀ M nb, ACalls P c [.agg [.d (.int .i64 x1.From), .d (.int .i64 x1.Event), .d (.int .i64 x1.To)], .d (.int .i64 s2)] M nb (.d (.int .i64 r)) M nb
def R_automaton_out_1_0 : List COp := [oo 2 (.box 3) [.t 0], oo 4 .mov [.c (.d (.int .i64 0))]]
def R_automaton_out_1_1 : List COp := [oo 5 (.fld 0) [.t 2], oo 6 (.load false 1) [.t 5], oo 7 .mov [.t 1], oo 8 (.bin .sub false) [.t 6, .t 7], oo 4 .mov [.t 8]]
def F_automaton_out_1 : CFn := ⟨2, 9, [.t 4], .seq (.region R_automaton_out_1_0 9 []) (.seq (.region R_automaton_out_1_1 9 []) (.ret))⟩
def f_automaton_out_1 (x1 : api_Edge) (s2 : Int) : Option Int :=
  some (IntKind.wrap .i64 (x1.From - s2))
def K_automaton_out_2 (P : Program) (c : Nat) (f : api_Edge → Int → Option Int) : Prop := ∀ x1 s2 r, f x1 s2 = some r → ∀ M nb, ACalls P c [.agg [.d (.int .i64 x1.From), .d (.int .i64 x1.Event), .d (.int .i64 x1.To)], .d (.int .i64 s2)] M nb (.d (.int .i64 r)) M nb
def R_automaton_out_2_0 : List COp := [oo 2 (.box 3) [.t 0], oo 4 .mov [.c (.d (.int .i64 0))]]
def R_automaton_out_2_1 : List COp := [oo 5 (.fld 0) [.t 2], oo 6 (.load false 1) [.t 5], oo 7 .mov [.t 1], oo 8 (.bin .sub false) [.t 6, .t 7], oo 4 .mov [.t 8]]
def F_automaton_out_2 : CFn := ⟨2, 9, [.t 4], .seq (.region R_automaton_out_2_0 9 []) (.seq (.region R_automaton_out_2_1 9 []) (.ret))⟩
def f_automaton_out_2 (x1 : api_Edge) (s2 : Int) : Option Int :=
  some (IntKind.wrap .i64 (x1.From - s2))
def K_automaton_out (P : Program) (c : Nat) (f : api_Automaton → Int → Option ((List api_Edge))) : Prop := ∀ a1 state2 r, f a1 state2 = some r → ∀ M nb, ACalls P c [.agg [.d (.lst 1 (List.map (eI .i64) a1.Alphabet)), .d (.int .i64 a1.States), .d (.lst 1 (List.map (eI .i64) a1.Marked)), .d (.lst 3 (List.map e_api_Edge a1.Edges))], .d (.int .i64 state2)] M nb (.d (.lst 3 (List.map e_api_Edge r))) M nb
def R_automaton_out_0 : List COp := [oo 2 (.box 4) [.t 0], ot 4 .mov [.c (.nils 3)]]
def R_automaton_out_1 : List COp := [oo 10 (.fld 3) [.t 2], oo 11 (.load false 1) [.t 10], oo 12 .mov [.t 1], oo 13 (.call 116) [.t 11, .t 12, .c (.clo 117 [])], oo 9 .mov [.t 13], oo 14 (.extract 0) [.t 9], oo 15 (.extract 1) [.t 9], oo 5 .mov [.t 14], oo 6 .mov [.t 15]]
def R_automaton_out_2 : List COp := [oo 17 (.fld 3) [.t 2], oo 18 (.load false 1) [.t 17], oo 19 .mov [.t 1], oo 20 (.bin .add false) [.t 19, .c (.d (.int .i64 1))], oo 21 (.call 116) [.t 18, .t 20, .c (.clo 118 [])], oo 16 .mov [.t 21], oo 22 (.extract 0) [.t 16], oo 23 (.extract 1) [.t 16], oo 7 .mov [.t 22], oo 8 .mov [.t 23]]
def R_automaton_out_3 : List COp := [oo 24 (.fld 3) [.t 2], oo 25 (.load false 1) [.t 24], oo 26 .mov [.t 5], oo 27 .mov [.t 7], oo 28 (.slice 3 true true) [.t 25, .t 26, .t 27], ot 4 .mov [.t 28]]
def F_automaton_out : CFn := ⟨2, 29, [.t 4], .seq (.region R_automaton_out_0 9 []) (.seq (.region R_automaton_out_1 9 []) (.seq (.region R_automaton_out_2 9 []) (.seq (.region R_automaton_out_3 9 []) (.ret))))⟩
def f_automaton_out (f_slices_BinarySearchFunc_int : (List api_Edge) → Int → (api_Edge → Int → Option Int) → Option (Int × Bool)) (f_automaton_out_1 : api_Edge → Int → Option Int) (f_automaton_out_2 : api_Edge → Int → Option Int) (a1 : api_Automaton) (state2 : Int) : Option ((List api_Edge)) :=
  ((f_slices_BinarySearchFunc_int a1.Edges state2 f_automaton_out_1).bind fun (r8, r9) => ((f_slices_BinarySearchFunc_int a1.Edges (IntKind.wrap .i64 (state2 + 1)) f_automaton_out_2).bind fun (r15, r16) => ((slcO a1.Edges r8 r15).bind fun x17 => some x17)))
def K_automaton_Enabled (P : Program) (c : Nat) (f : api_Automaton → Int → Option ((List Int) × Int)) : Prop := ∀ a1 state2 r, f a1 state2 = some r → ∀ M nb, ACalls P c [.agg [.d (.lst 1 (List.map (eI .i64) a1.Alphabet)), .d (.int .i64 a1.States), .d (.lst 1 (List.map (eI .i64) a1.Marked)), .d (.lst 3 (List.map e_api_Edge a1.Edges))], .d (.int .i64 state2)] M nb (.tup [.own 1 (List.map (eI .i64) r.1), .d (.int .i64 r.2)]) M nb
def R_automaton_Enabled_0 : List COp := [oo 2 (.box 4) [.t 0], ot 4 .mov [.c (.nils 1)], oo 5 .mov [.c (.d (.int .i64 0))]]
def R_automaton_Enabled_1 : List COp := [oo 10 (.load true 4) [.t 2], oo 11 .mov [.t 1], oo 12 (.call 93) [.t 10, .t 11], oo 6 .mov [.t 12]]
def R_automaton_Enabled_2 : List COp := [oo 13 .mov [.t 6], oo 14 (.bin .neq false) [.t 13, .c (.d (.int .i64 0))]]
def R_automaton_Enabled_3 : List COp := [oo 15 .mov [.t 6], ot 4 .mov [.c (.nils 1)], oo 5 .mov [.t 15]]
def R_automaton_Enabled_4 : List COp := [ot 7 .mov [.c (.nils 1)]]
def R_automaton_Enabled_5 : List COp := [oo 16 (.load true 4) [.t 2], oo 17 .mov [.t 1], oo 18 (.call 94) [.t 16, .t 17], oo 19 .len [.t 18], oo 20 .mov [.c (.d (.int .i64 0))]]
def R_automaton_Enabled_6 : List COp := [oo 21 (.bin .lss false) [.t 20, .t 19]]
def R_automaton_Enabled_7 : List COp := [oo 22 (.idx 3) [.t 18, .t 20], oo 23 (.load true 3) [.t 22], oo 9 (.alloc [.d (.int .i64 0), .d (.int .i64 0), .d (.int .i64 0)]) [], ⟨none, .store 3, [.t 9, .t 23], false, none⟩]
def R_automaton_Enabled_8 : List COp := [ot 24 .mov [.t 7], oo 25 (.fld 1) [.t 9], oo 26 (.load false 1) [.t 25], oo 27 (.bslice 1 1 [.d (.int .i64 0)] [0]) [.t 26], ot 28 (.append 1 8) [.t 24, .t 27], ot 7 .mov [.t 28]]
def R_automaton_Enabled_9 : List COp := [oo 29 (.bin .add false) [.t 20, .c (.d (.int .i64 1))], oo 20 .mov [.t 29]]
def R_automaton_Enabled_10 : List COp := [ot 30 .mov [.t 7], ot 4 .mov [.t 30], oo 5 .mov [.c (.d (.int .i64 0))]]
def F_automaton_Enabled : CFn := ⟨2, 31, [.t 4, .t 5], .seq (.region R_automaton_Enabled_0 9 []) (.seq (.seq (.region R_automaton_Enabled_1 9 []) (.seq (.region R_automaton_Enabled_2 9 []) (.cond (.t 14) (.seq (.region R_automaton_Enabled_3 9 []) (.ret)) (.skip)))) (.seq (.region R_automaton_Enabled_4 9 []) (.seq (.seq (.region R_automaton_Enabled_5 9 []) (.block 0 (.loop [9, 27] (.seq (.region R_automaton_Enabled_6 9 []) (.seq (.cond (.t 21) (.skip) (.exit 0)) (.seq (.block 1 (.seq (.region R_automaton_Enabled_7 9 []) (.region R_automaton_Enabled_8 9 []))) (.region R_automaton_Enabled_9 9 []))))))) (.seq (.region R_automaton_Enabled_10 9 []) (.ret)))))⟩
def f_automaton_Enabled (f_automaton_checkState : api_Automaton → Int → Option Int) (f_automaton_out : api_Automaton → Int → Option ((List api_Edge))) (fuel : Nat) (a1 : api_Automaton) (state2 : Int) : Option ((List Int) × Int) :=
  ((f_automaton_checkState a1 state2).bind fun x4 => (if (x4 != 0) then some ([], x4) else ((((f_automaton_out a1 state2).bind fun x7 => iterF (fun k10 ((l8, x9) : (List Int) × Int) => (if (x9 < (x7.length : Int)) then ((getO x7 x9).bind fun x12 => ((appO l8 [x12.Event]).bind fun x14 => k10 (x14, (IntKind.wrap .i64 (x9 + 1))))) else some l8)) fuel ([], 0))).bind fun (l16 : List Int) => some (l16, 0))))
def K_alphabet_Minus_1 (P : Program) (c : Nat) (f : Bool → Bool → Option Bool) : Prop := ∀ inA1 inB2 r, f inA1 inB2 = some r → ∀ M nb, ACalls P c [.d (.bool inA1), .d (.bool inB2)] M nb (.d (.bool r)) M nb
def R_alphabet_Minus_1_0 : List COp := [oo 4 .mov [.c (.d (.bool false))]]
def R_alphabet_Minus_1_1 : List COp := [oo 5 .mov [.t 0], oo 6 .mov [.t 5], ⟨some 7, .mov, [.t 1], false, some (6, true)⟩, ⟨some 8, .un .not, [.t 7], false, some (6, true)⟩, oo 9 .pick [.t 6, .t 8, .c (.d (.bool false))], oo 4 .mov [.t 9]]
def F_alphabet_Minus_1 : CFn := ⟨2, 10, [.t 4], .seq (.region R_alphabet_Minus_1_0 9 []) (.seq (.region R_alphabet_Minus_1_1 9 []) (.ret))⟩
def f_alphabet_Minus_1 (inA1 : Bool) (inB2 : Bool) : Option Bool :=
  (if inA1 then some (!inB2) else some false)
def K_alphabet_Minus (P : Program) (c : Nat) (f : (List Int) → (List Int) → Option ((List Int))) : Prop := ∀ a1 b2 r, f a1 b2 = some r → ∀ M nb, ACalls P c [.d (.lst 1 (List.map (eI .i64) a1)), .d (.lst 1 (List.map (eI .i64) b2))] M nb (.own 1 (List.map (eI .i64) r)) M nb
def R_alphabet_Minus_0 : List COp := [ot 4 .mov [.c (.nils 1)]]
def R_alphabet_Minus_1 : List COp := [oo 5 .mov [.t 0], oo 6 .mov [.t 1], oo 7 (.call 83) [.t 5, .t 6, .c (.clo 95 [])], ot 4 .mov [.t 7]]
def F_alphabet_Minus : CFn := ⟨2, 8, [.t 4], .seq (.region R_alphabet_Minus_0 9 []) (.seq (.region R_alphabet_Minus_1 9 []) (.ret))⟩
def f_alphabet_Minus (f_alphabet_merge : (List Int) → (List Int) → (Bool → Bool → Option Bool) → Option ((List Int))) (f_alphabet_Minus_1 : Bool → Bool → Option Bool) (a1 : (List Int)) (b2 : (List Int)) : Option ((List Int)) :=
  ((f_alphabet_merge a1 b2 f_alphabet_Minus_1).bind fun x8 => some x8)
def K_requirement_Refused (P : Program) (c : Nat) (f : api_Automaton → Int → Option ((List Int) × Int)) : Prop := ∀ a1 state2 r, f a1 state2 = some r → ∀ M nb, ACalls P c [.agg [.d (.lst 1 (List.map (eI .i64) a1.Alphabet)), .d (.int .i64 a1.States), .d (.lst 1 (List.map (eI .i64) a1.Marked)), .d (.lst 3 (List.map e_api_Edge a1.Edges))], .d (.int .i64 state2)] M nb (.tup [.own 1 (List.map (eI .i64) r.1), .d (.int .i64 r.2)]) M nb
def R_requirement_Refused_0 : List COp := [oo 2 (.box 4) [.t 0], ot 4 .mov [.c (.nils 1)], oo 5 .mov [.c (.d (.int .i64 0))]]
def R_requirement_Refused_1 : List COp := [oo 9 (.load true 4) [.t 2], oo 10 .mov [.t 1], oo 11 (.call 72) [.t 9, .t 10], oo 8 .mov [.t 11], ot 12 (.extract 0) [.t 8], oo 13 (.extract 1) [.t 8], ot 6 .mov [.t 12], oo 7 .mov [.t 13]]
def R_requirement_Refused_2 : List COp := [oo 14 .mov [.t 7], oo 15 (.bin .neq false) [.t 14, .c (.d (.int .i64 0))]]
def R_requirement_Refused_3 : List COp := [oo 16 .mov [.t 7], ot 4 .mov [.c (.nils 1)], oo 5 .mov [.t 16]]
def R_requirement_Refused_4 : List COp := [oo 17 (.fld 0) [.t 2], oo 18 (.load false 1) [.t 17], oo 19 .mov [.t 6], oo 20 (.call 73) [.t 18, .t 19], ot 4 .mov [.t 20], oo 5 .mov [.c (.d (.int .i64 0))]]
def F_requirement_Refused : CFn := ⟨2, 21, [.t 4, .t 5], .seq (.region R_requirement_Refused_0 9 []) (.seq (.region R_requirement_Refused_1 9 []) (.seq (.seq (.region R_requirement_Refused_2 9 []) (.cond (.t 15) (.seq (.region R_requirement_Refused_3 9 []) (.ret)) (.skip))) (.seq (.region R_requirement_Refused_4 9 []) (.ret))))⟩
def f_requirement_Refused (f_automaton_Enabled : api_Automaton → Int → Option ((List Int) × Int)) (f_alphabet_Minus : (List Int) → (List Int) → Option ((List Int))) (a1 : api_Automaton) (state2 : Int) : Option ((List Int) × Int) :=
  ((f_automaton_Enabled a1 state2).bind fun (r4, r5) => (if (r5 != 0) then some ([], r5) else ((f_alphabet_Minus a1.Alphabet r4).bind fun x8 => some (x8, 0))))
def K_slices_Equal_int (P : Program) (c : Nat) (f : (List Int) → (List Int) → Option Bool) : Prop := ∀ s1 s2 r, f s1 s2 = some r → ∀ M nb, ACalls P c [.d (.lst 1 (List.map (eI .i64) s1)), .d (.lst 1 (List.map (eI .i64) s2))] M nb (.d (.bool r)) M nb
def R_slices_Equal_int_0 : List COp := [oo 4 .mov [.c (.d (.bool false))]]
def R_slices_Equal_int_1 : List COp := [oo 6 .mov [.t 0], oo 7 .len [.t 6], oo 8 .mov [.t 1], oo 9 .len [.t 8], oo 10 (.bin .neq false) [.t 7, .t 9]]
def R_slices_Equal_int_2 : List COp := [oo 4 .mov [.c (.d (.bool false))]]
def R_slices_Equal_int_3 : List COp := [oo 11 .mov [.t 0], oo 12 .len [.t 11], oo 13 .mov [.c (.d (.int .i64 0))]]
def R_slices_Equal_int_4 : List COp := [oo 14 (.bin .lss false) [.t 13, .t 12]]
def R_slices_Equal_int_5 : List COp := [oo 15 .mov [.t 13], oo 5 .mov [.t 15]]
def R_slices_Equal_int_6 : List COp := [oo 16 .mov [.t 0], oo 17 .mov [.t 5], oo 18 (.idx 1) [.t 16, .t 17], oo 19 (.load false 1) [.t 18], oo 20 .mov [.t 1], oo 21 .mov [.t 5], oo 22 (.idx 1) [.t 20, .t 21], oo 23 (.load false 1) [.t 22], oo 24 (.bin .neq false) [.t 19, .t 23]]
def R_slices_Equal_int_7 : List COp := [oo 4 .mov [.c (.d (.bool false))]]
def R_slices_Equal_int_8 : List COp := [oo 25 (.bin .add false) [.t 13, .c (.d (.int .i64 1))], oo 13 .mov [.t 25]]
def R_slices_Equal_int_9 : List COp := [oo 4 .mov [.c (.d (.bool true))]]
def F_slices_Equal_int : CFn := ⟨2, 26, [.t 4], .seq (.region R_slices_Equal_int_0 9 []) (.seq (.seq (.region R_slices_Equal_int_1 9 []) (.cond (.t 10) (.seq (.region R_slices_Equal_int_2 9 []) (.ret)) (.skip))) (.seq (.seq (.region R_slices_Equal_int_3 9 []) (.block 0 (.loop [] (.seq (.region R_slices_Equal_int_4 9 []) (.seq (.cond (.t 14) (.skip) (.exit 0)) (.seq (.block 1 (.seq (.region R_slices_Equal_int_5 9 []) (.seq (.region R_slices_Equal_int_6 0 []) (.cond (.t 24) (.seq (.region R_slices_Equal_int_7 9 []) (.ret)) (.skip))))) (.region R_slices_Equal_int_8 9 []))))))) (.seq (.region R_slices_Equal_int_9 9 []) (.ret))))⟩
def f_slices_Equal_int (fuel : Nat) (s1 : (List Int)) (s2 : (List Int)) : Option Bool :=
  (if ((s1.length : Int) != (s2.length : Int)) then some false else iterF (fun k5 (x4 : Int) => (if (x4 < (s1.length : Int)) then ((getO s1 x4).bind fun x7 => ((getO s2 x4).bind fun x9 => (if (x7 != x9) then some false else k5 (IntKind.wrap .i64 (x4 + 1))))) else some true)) fuel 0)
def K_slices_Equal_Edge (P : Program) (c : Nat) (f : (List api_Edge) → (List api_Edge) → Option Bool) : Prop := ∀ s1 s2 r, f s1 s2 = some r → ∀ M nb, ACalls P c [.d (.lst 3 (List.map e_api_Edge s1)), .d (.lst 3 (List.map e_api_Edge s2))] M nb (.d (.bool r)) M nb
def R_slices_Equal_Edge_0 : List COp := [oo 4 .mov [.c (.d (.bool false))]]
def R_slices_Equal_Edge_1 : List COp := [oo 6 .mov [.t 0], oo 7 .len [.t 6], oo 8 .mov [.t 1], oo 9 .len [.t 8], oo 10 (.bin .neq false) [.t 7, .t 9]]
def R_slices_Equal_Edge_2 : List COp := [oo 4 .mov [.c (.d (.bool false))]]
def R_slices_Equal_Edge_3 : List COp := [oo 11 .mov [.t 0], oo 12 .len [.t 11], oo 13 .mov [.c (.d (.int .i64 0))]]
def R_slices_Equal_Edge_4 : List COp := [oo 14 (.bin .lss false) [.t 13, .t 12]]
def R_slices_Equal_Edge_5 : List COp := [oo 15 .mov [.t 13], oo 5 .mov [.t 15]]
def R_slices_Equal_Edge_6 : List COp := [oo 16 .mov [.t 0], oo 17 .mov [.t 5], oo 18 (.idx 3) [.t 16, .t 17], oo 19 (.load true 3) [.t 18], oo 20 .mov [.t 1], oo 21 .mov [.t 5], oo 22 (.idx 3) [.t 20, .t 21], oo 23 (.load true 3) [.t 22], oo 24 (.eqa true [0, 0, 0]) [.t 19, .t 23]]
def R_slices_Equal_Edge_7 : List COp := [oo 4 .mov [.c (.d (.bool false))]]
def R_slices_Equal_Edge_8 : List COp := [oo 25 (.bin .add false) [.t 13, .c (.d (.int .i64 1))], oo 13 .mov [.t 25]]
def R_slices_Equal_Edge_9 : List COp := [oo 4 .mov [.c (.d (.bool true))]]
def F_slices_Equal_Edge : CFn := ⟨2, 26, [.t 4], .seq (.region R_slices_Equal_Edge_0 9 []) (.seq (.seq (.region R_slices_Equal_Edge_1 9 []) (.cond (.t 10) (.seq (.region R_slices_Equal_Edge_2 9 []) (.ret)) (.skip))) (.seq (.seq (.region R_slices_Equal_Edge_3 9 []) (.block 0 (.loop [] (.seq (.region R_slices_Equal_Edge_4 9 []) (.seq (.cond (.t 14) (.skip) (.exit 0)) (.seq (.block 1 (.seq (.region R_slices_Equal_Edge_5 9 []) (.seq (.region R_slices_Equal_Edge_6 0 []) (.cond (.t 24) (.seq (.region R_slices_Equal_Edge_7 9 []) (.ret)) (.skip))))) (.region R_slices_Equal_Edge_8 9 []))))))) (.seq (.region R_slices_Equal_Edge_9 9 []) (.ret))))⟩
def f_slices_Equal_Edge (fuel : Nat) (s1 : (List api_Edge)) (s2 : (List api_Edge)) : Option Bool :=
  (if ((s1.length : Int) != (s2.length : Int)) then some false else iterF (fun k5 (x4 : Int) => (if (x4 < (s1.length : Int)) then ((getO s1 x4).bind fun x7 => ((getO s2 x4).bind fun x9 => (if ((x7.From == x9.From) && ((x7.Event == x9.Event) && ((x7.To == x9.To) && true))) then k5 (IntKind.wrap .i64 (x4 + 1)) else some false))) else some true)) fuel 0)
def K_overseerlaw21_known (P : Program) (c : Nat) (f : Option Bool) : Prop := ∀ r, f = some r → ∀ M nb, ACalls P c [] M nb (.d (.bool r)) M nb
def R_overseerlaw21_known_0 : List COp := [oo 0 .mov [.c (.d (.bool false))]]
def R_overseerlaw21_known_1 : List COp := [oo 10 (.bslice 1 2 [.d (.int .i64 0)] [0, 1]) [.c (.d (.int .i64 3)), .c (.d (.int .i64 1))], oo 11 (.call 31) [.t 10], oo 9 .mov [.t 11], oo 12 (.extract 0) [.t 9], oo 13 (.extract 1) [.t 9], oo 1 (.alloc [.nils 1, .d (.int .i64 0), .nils 1, .nils 3]) [], ⟨none, .store 4, [.t 1, .t 12], false, none⟩, oo 2 .mov [.t 13]]
def R_overseerlaw21_known_2 : List COp := [oo 15 (.bslice 1 1 [.d (.int .i64 0)] [0]) [.c (.d (.int .i64 0))], oo 16 (.bslice 1 1 [.d (.int .i64 0)] [0]) [.c (.d (.int .i64 1))], oo 17 (.call 19) [.t 15, .t 16, .c (.d (.int .i64 2))], oo 14 .mov [.t 17], oo 18 (.extract 0) [.t 14], oo 19 (.extract 1) [.t 14], oo 3 (.alloc [.nils 1, .d (.int .i64 0), .nils 1, .nils 3]) [], ⟨none, .store 4, [.t 3, .t 18], false, none⟩, oo 4 .mov [.t 19]]
def R_overseerlaw21_known_3 : List COp := [oo 21 (.build [.d (.int .i64 0), .d (.int .i64 0)] [(0, 1), (1, 1)]) [.c (.d (.int .i64 0)), .c (.d (.int .i64 1))], oo 22 (.build [.d (.int .i64 0), .d (.int .i64 0)] [(0, 1), (1, 1)]) [.c (.d (.int .i64 2)), .c (.d (.int .i64 3))], oo 23 (.bslice 2 2 [.d (.int .i64 0), .d (.int .i64 0)] [0, 1]) [.t 21, .t 22], oo 24 (.call 11) [.t 23, .c (.d (.int .i64 1))], oo 20 .mov [.t 24], oo 25 (.extract 0) [.t 20], oo 26 (.extract 1) [.t 20], oo 5 (.alloc [.nils 1, .d (.int .i64 0), .nils 1, .nils 3]) [], ⟨none, .store 4, [.t 5, .t 25], false, none⟩, oo 6 .mov [.t 26]]
def R_overseerlaw21_known_4 : List COp := [oo 28 (.load true 4) [.t 5], oo 29 (.call 36) [.t 28, .c (.d (.int .i64 1))], oo 27 .mov [.t 29], ot 30 (.extract 0) [.t 27], oo 31 (.extract 1) [.t 27], ot 7 .mov [.t 30], oo 8 .mov [.t 31]]
def R_overseerlaw21_known_5 : List COp := [oo 32 .mov [.t 2], oo 33 (.bin .eql false) [.t 32, .c (.d (.int .i64 0))], oo 34 .mov [.t 33], ⟨some 35, .mov, [.t 4], false, some (34, true)⟩, ⟨some 36, .bin .eql false, [.t 35, .c (.d (.int .i64 0))], false, some (34, true)⟩, oo 37 .pick [.t 34, .t 36, .c (.d (.bool false))], oo 38 .mov [.t 37], ⟨some 39, .mov, [.t 6], false, some (38, true)⟩, ⟨some 40, .bin .eql false, [.t 39, .c (.d (.int .i64 0))], false, some (38, true)⟩, oo 41 .pick [.t 38, .t 40, .c (.d (.bool false))], oo 42 .mov [.t 41], ⟨some 43, .mov, [.t 8], false, some (42, true)⟩, ⟨some 44, .bin .eql false, [.t 43, .c (.d (.int .i64 0))], false, some (42, true)⟩, oo 45 .pick [.t 42, .t 44, .c (.d (.bool false))], oo 46 .mov [.t 45], ⟨some 47, .fld 0, [.t 1], false, some (46, true)⟩, ⟨some 48, .load false 1, [.t 47], false, some (46, true)⟩, ⟨some 49, .bslice 1 2 [.d (.int .i64 0)] [0, 1], [.c (.d (.int .i64 1)), .c (.d (.int .i64 3))], false, some (46, true)⟩, ⟨some 50, .call 40, [.t 48, .t 49], false, some (46, true)⟩, oo 51 .pick [.t 46, .t 50, .c (.d (.bool false))], oo 52 .mov [.t 51], ⟨some 53, .fld 3, [.t 1], false, some (52, true)⟩, ⟨some 54, .load false 1, [.t 53], false, some (52, true)⟩, ⟨some 55, .build [.d (.int .i64 0), .d (.int .i64 0), .d (.int .i64 0)] [(0, 1), (1, 1), (2, 1)], [.c (.d (.int .i64 0)), .c (.d (.int .i64 3)), .c (.d (.int .i64 1))], false, some (52, true)⟩, ⟨some 56, .build [.d (.int .i64 0), .d (.int .i64 0), .d (.int .i64 0)] [(0, 1), (1, 1), (2, 1)], [.c (.d (.int .i64 1)), .c (.d (.int .i64 1)), .c (.d (.int .i64 0))], false, some (52, true)⟩, ⟨some 57, .bslice 3 2 [.d (.int .i64 0), .d (.int .i64 0), .d (.int .i64 0)] [0, 1], [.t 55, .t 56], false, some (52, true)⟩, ⟨some 58, .call 46, [.t 54, .t 57], false, some (52, true)⟩, oo 59 .pick [.t 52, .t 58, .c (.d (.bool false))], oo 60 .mov [.t 59], ⟨some 61, .fld 1, [.t 3], false, some (60, true)⟩, ⟨some 62, .load false 1, [.t 61], false, some (60, true)⟩, ⟨some 63, .bin .eql false, [.t 62, .c (.d (.int .i64 3))], false, some (60, true)⟩, oo 64 .pick [.t 60, .t 63, .c (.d (.bool false))], oo 65 .mov [.t 64], ⟨some 66, .fld 1, [.t 5], false, some (65, true)⟩, ⟨some 67, .load false 1, [.t 66], false, some (65, true)⟩, ⟨some 68, .bin .eql false, [.t 67, .c (.d (.int .i64 3))], false, some (65, true)⟩, oo 69 .pick [.t 65, .t 68, .c (.d (.bool false))], oo 70 .mov [.t 69], ⟨some 71, .mov, [.t 7], false, some (70, true)⟩, ⟨some 72, .bslice 1 3 [.d (.int .i64 0)] [0, 1, 2], [.c (.d (.int .i64 0)), .c (.d (.int .i64 2)), .c (.d (.int .i64 3))], false, some (70, true)⟩, ⟨some 73, .call 40, [.t 71, .t 72], false, some (70, true)⟩, oo 74 .pick [.t 70, .t 73, .c (.d (.bool false))], oo 0 .mov [.t 74]]
def F_overseerlaw21_known : CFn := ⟨0, 75, [.t 0], .seq (.region R_overseerlaw21_known_0 9 []) (.seq (.region R_overseerlaw21_known_1 9 []) (.seq (.region R_overseerlaw21_known_2 9 []) (.seq (.region R_overseerlaw21_known_3 9 []) (.seq (.region R_overseerlaw21_known_4 9 []) (.seq (.region R_overseerlaw21_known_5 9 []) (.ret))))))⟩
def f_overseerlaw21_known (f_requirement_AtMost : (List requirement_Phase) → Int → Option (api_Automaton × Int)) (f_requirement_Buffer : (List Int) → (List Int) → Int → Option (api_Automaton × Int)) (f_requirement_Alternate : (List Int) → Option (api_Automaton × Int)) (f_requirement_Refused : api_Automaton → Int → Option ((List Int) × Int)) (f_slices_Equal_int : (List Int) → (List Int) → Option Bool) (f_slices_Equal_Edge : (List api_Edge) → (List api_Edge) → Option Bool) : Option Bool :=
  ((f_requirement_Alternate [3, 1]).bind fun (r2, r3) => ((f_requirement_Buffer [0] [1] 2).bind fun (r5, r6) => ((f_requirement_AtMost [(requirement_Phase.mk 0 1), (requirement_Phase.mk 2 3)] 1).bind fun (r8, r9) => ((f_requirement_Refused r8 1).bind fun (r11, r12) => (((if (r3 == 0) then (if (r6 == 0) then (if (r9 == 0) then (if (r12 == 0) then ((f_slices_Equal_int r2.Alphabet [1, 3]).bind fun x18 => (if x18 then ((f_slices_Equal_Edge r2.Edges [(api_Edge.mk 0 3 1), (api_Edge.mk 1 1 0)]).bind fun x21 => (if x21 then (if (r5.States == 3) then (if (r8.States == 3) then ((f_slices_Equal_int r11 [0, 2, 3]).bind fun x26 => some x26) else some false) else some false) else some false)) else some false)) else some false) else some false) else some false) else some false)).bind fun (x27 : Bool) => some x27)))))
def K_overseerlaw21_in (P : Program) (c : Nat) (f : Int → Option Bool) : Prop := ∀ e1 r, f e1 = some r → ∀ M nb, ACalls P c [.d (.int .i64 e1)] M nb (.d (.bool r)) M nb
def R_overseerlaw21_in_0 : List COp := [oo 2 .mov [.c (.d (.bool false))]]
def R_overseerlaw21_in_1 : List COp := [oo 3 .mov [.t 0], oo 4 (.bin .geq false) [.t 3, .c (.d (.int .i64 0))], oo 5 .mov [.t 4], ⟨some 6, .mov, [.t 0], false, some (5, true)⟩, ⟨some 7, .bin .lss false, [.t 6, .c (.d (.int .i64 32))], false, some (5, true)⟩, oo 8 .pick [.t 5, .t 7, .c (.d (.bool false))], oo 2 .mov [.t 8]]
def F_overseerlaw21_in : CFn := ⟨1, 9, [.t 2], .seq (.region R_overseerlaw21_in_0 9 []) (.seq (.region R_overseerlaw21_in_1 9 []) (.ret))⟩
def f_overseerlaw21_in (e1 : Int) : Option Bool :=
  (if (e1 ≥ 0) then some (decide (e1 < 32)) else some false)
def K_automaton_Equal (P : Program) (c : Nat) (f : api_Automaton → api_Automaton → Option Bool) : Prop := ∀ a1 b2 r, f a1 b2 = some r → ∀ M nb, ACalls P c [.agg [.d (.lst 1 (List.map (eI .i64) a1.Alphabet)), .d (.int .i64 a1.States), .d (.lst 1 (List.map (eI .i64) a1.Marked)), .d (.lst 3 (List.map e_api_Edge a1.Edges))], .agg [.d (.lst 1 (List.map (eI .i64) b2.Alphabet)), .d (.int .i64 b2.States), .d (.lst 1 (List.map (eI .i64) b2.Marked)), .d (.lst 3 (List.map e_api_Edge b2.Edges))]] M nb (.d (.bool r)) M nb
def R_automaton_Equal_0 : List COp := [oo 2 (.box 4) [.t 0], oo 3 (.box 4) [.t 1], oo 4 .mov [.c (.d (.bool false))]]
def R_automaton_Equal_1 : List COp := [oo 5 (.fld 1) [.t 2], oo 6 (.load false 1) [.t 5], oo 7 (.fld 1) [.t 3], oo 8 (.load false 1) [.t 7], oo 9 (.bin .eql false) [.t 6, .t 8], oo 10 .mov [.t 9], ⟨some 11, .fld 0, [.t 2], false, some (10, true)⟩, ⟨some 12, .load false 1, [.t 11], false, some (10, true)⟩, ⟨some 13, .fld 0, [.t 3], false, some (10, true)⟩, ⟨some 14, .load false 1, [.t 13], false, some (10, true)⟩, ⟨some 15, .call 40, [.t 12, .t 14], false, some (10, true)⟩, oo 16 .pick [.t 10, .t 15, .c (.d (.bool false))], oo 17 .mov [.t 16], ⟨some 18, .fld 2, [.t 2], false, some (17, true)⟩, ⟨some 19, .load false 1, [.t 18], false, some (17, true)⟩, ⟨some 20, .fld 2, [.t 3], false, some (17, true)⟩, ⟨some 21, .load false 1, [.t 20], false, some (17, true)⟩, ⟨some 22, .call 40, [.t 19, .t 21], false, some (17, true)⟩, oo 23 .pick [.t 17, .t 22, .c (.d (.bool false))], oo 24 .mov [.t 23], ⟨some 25, .fld 3, [.t 2], false, some (24, true)⟩, ⟨some 26, .load false 1, [.t 25], false, some (24, true)⟩, ⟨some 27, .fld 3, [.t 3], false, some (24, true)⟩, ⟨some 28, .load false 1, [.t 27], false, some (24, true)⟩, ⟨some 29, .call 46, [.t 26, .t 28], false, some (24, true)⟩, oo 30 .pick [.t 24, .t 29, .c (.d (.bool false))], oo 4 .mov [.t 30]]
def F_automaton_Equal : CFn := ⟨2, 31, [.t 4], .seq (.region R_automaton_Equal_0 9 []) (.seq (.region R_automaton_Equal_1 9 []) (.ret))⟩
def f_automaton_Equal (f_slices_Equal_int : (List Int) → (List Int) → Option Bool) (f_slices_Equal_Edge : (List api_Edge) → (List api_Edge) → Option Bool) (a1 : api_Automaton) (b2 : api_Automaton) : Option Bool :=
  (if (a1.States == b2.States) then ((f_slices_Equal_int a1.Alphabet b2.Alphabet).bind fun x5 => (if x5 then ((f_slices_Equal_int a1.Marked b2.Marked).bind fun x8 => (if x8 then ((f_slices_Equal_Edge a1.Edges b2.Edges).bind fun x11 => some x11) else some false)) else some false)) else some false)
def K_overseerlaw21_sorted (P : Program) (c : Nat) (f : (List Int) → Option ((List Int))) : Prop := ∀ l1 r, f l1 = some r → ∀ M nb, ACalls P c [.d (.lst 1 (List.map (eI .i64) l1))] M nb (.d (.lst 1 (List.map (eI .i64) r))) M nb
def R_overseerlaw21_sorted_0 : List COp := [ot 2 .mov [.c (.nils 1)]]
def R_overseerlaw21_sorted_1 : List COp := [oo 4 .mov [.t 0], oo 5 (.call 23) [.t 4], ot 3 .mov [.t 5]]
def R_overseerlaw21_sorted_2 : List COp := [oo 6 .mov [.t 3], oo 7 (.call 56) [.t 6]]
def R_overseerlaw21_sorted_3 : List COp := [oo 8 .mov [.t 3], oo 9 (.call 57) [.t 8], ot 2 .mov [.t 9]]
def F_overseerlaw21_sorted : CFn := ⟨1, 10, [.t 2], .seq (.region R_overseerlaw21_sorted_0 9 []) (.seq (.region R_overseerlaw21_sorted_1 9 []) (.seq (.region R_overseerlaw21_sorted_2 9 []) (.seq (.region R_overseerlaw21_sorted_3 9 []) (.ret))))⟩
def f_overseerlaw21_sorted (f_slices_Clone_int : (List Int) → Option ((List Int))) (f_slices_Sort_int : List Int → Option (List Int)) (f_slices_Compact_int : List Int → Option (List Int)) (l1 : (List Int)) : Option ((List Int)) :=
  ((f_slices_Clone_int l1).bind fun x3 => ((f_slices_Sort_int x3).bind fun out4 => ((f_slices_Compact_int out4).bind fun out10 => some out10)))
def K_overseerlaw21_RequirementPhases_1 (P : Program) (c : Nat) (f : Int → Int → (List requirement_Phase) → Int → Option (Int × Bool)) : Prop := ∀ n1 event2 x3 x6 (k4 : Nat) (k7 : Nat) r, f n1 event2 x3 x6 = some r → ∀ M nb, (M k4 = some (.cells [.d (.lst 2 (List.map e_requirement_Phase x3))])) → (M k7 = some (.cells [.d (.int .i64 x6)])) → ACalls P c [.d (.int .i64 n1), .d (.int .i64 event2), .ptr k4 0, .ptr k7 0] M nb (.tup [.d (.int .i64 r.1), .d (.bool r.2)]) M nb
def R_overseerlaw21_RequirementPhases_1_0 : List COp := [oo 6 .mov [.c (.d (.int .i64 0))], oo 7 .mov [.c (.d (.bool false))]]
def R_overseerlaw21_RequirementPhases_1_1 : List COp := [oo 8 .mov [.c (.d (.int .i64 0))]]
def R_overseerlaw21_RequirementPhases_1_2 : List COp := [oo 12 (.load false 1) [.t 2], oo 13 .len [.t 12], oo 14 .mov [.c (.d (.int .i64 0))]]
def R_overseerlaw21_RequirementPhases_1_3 : List COp := [oo 15 (.bin .lss false) [.t 14, .t 13]]
def R_overseerlaw21_RequirementPhases_1_4 : List COp := [oo 16 .mov [.t 14], oo 9 .mov [.t 16]]
def R_overseerlaw21_RequirementPhases_1_5 : List COp := [oo 17 .mov [.t 8], oo 18 .mov [.t 0], oo 19 .mov [.t 9], oo 20 (.bin .shr false) [.t 18, .t 19], oo 21 (.bin .and false) [.t 20, .c (.d (.int .i64 1))], oo 22 (.bin .add false) [.t 17, .t 21], oo 8 .mov [.t 22]]
def R_overseerlaw21_RequirementPhases_1_6 : List COp := [oo 23 (.bin .add false) [.t 14, .c (.d (.int .i64 1))], oo 14 .mov [.t 23]]
def R_overseerlaw21_RequirementPhases_1_7 : List COp := [oo 24 (.load false 1) [.t 2], oo 25 .len [.t 24], oo 26 .mov [.c (.d (.int .i64 0))]]
def R_overseerlaw21_RequirementPhases_1_8 : List COp := [oo 27 (.bin .lss false) [.t 26, .t 25]]
def R_overseerlaw21_RequirementPhases_1_9 : List COp := [oo 28 .mov [.t 26], oo 29 (.idx 2) [.t 24, .t 26], oo 30 (.load true 2) [.t 29], oo 11 (.alloc [.d (.int .i64 0), .d (.int .i64 0)]) [], oo 10 .mov [.t 28], ⟨none, .store 2, [.t 11, .t 30], false, none⟩]
def R_overseerlaw21_RequirementPhases_1_10 : List COp := [oo 31 .mov [.t 1], oo 32 (.fld 0) [.t 11], oo 33 (.load false 1) [.t 32], oo 34 (.bin .eql false) [.t 31, .t 33]]
def R_overseerlaw21_RequirementPhases_1_11 : List COp := [oo 35 .mov [.t 0], oo 36 .mov [.t 10], oo 37 (.bin .shl false) [.c (.d (.int .i64 1)), .t 36], oo 38 (.bin .or false) [.t 35, .t 37], oo 39 .mov [.t 0], oo 40 .mov [.t 10], oo 41 (.bin .shr false) [.t 39, .t 40], oo 42 (.bin .and false) [.t 41, .c (.d (.int .i64 1))], oo 43 (.bin .eql false) [.t 42, .c (.d (.int .i64 0))], oo 44 .mov [.t 43], ⟨some 45, .mov, [.t 8], false, some (44, true)⟩, ⟨some 46, .load false 1, [.t 3], false, some (44, true)⟩, ⟨some 47, .bin .lss false, [.t 45, .t 46], false, some (44, true)⟩, oo 48 .pick [.t 44, .t 47, .c (.d (.bool false))], oo 6 .mov [.t 38], oo 7 .mov [.t 48]]
def R_overseerlaw21_RequirementPhases_1_12 : List COp := [oo 49 .mov [.t 1], oo 50 (.fld 1) [.t 11], oo 51 (.load false 1) [.t 50], oo 52 (.bin .eql false) [.t 49, .t 51]]
def R_overseerlaw21_RequirementPhases_1_13 : List COp := [oo 53 .mov [.t 0], oo 54 .mov [.t 10], oo 55 (.bin .shl false) [.c (.d (.int .i64 1)), .t 54], oo 56 (.bin .andNot false) [.t 53, .t 55], oo 57 .mov [.t 0], oo 58 .mov [.t 10], oo 59 (.bin .shr false) [.t 57, .t 58], oo 60 (.bin .and false) [.t 59, .c (.d (.int .i64 1))], oo 61 (.bin .eql false) [.t 60, .c (.d (.int .i64 1))], oo 6 .mov [.t 56], oo 7 .mov [.t 61]]
def R_overseerlaw21_RequirementPhases_1_14 : List COp := [oo 62 (.bin .add false) [.t 26, .c (.d (.int .i64 1))], oo 26 .mov [.t 62]]
def R_overseerlaw21_RequirementPhases_1_15 : List COp := [oo 63 .mov [.t 0], oo 6 .mov [.t 63], oo 7 .mov [.c (.d (.bool false))]]
def F_overseerlaw21_RequirementPhases_1 : CFn := ⟨4, 64, [.t 6, .t 7], .seq (.region R_overseerlaw21_RequirementPhases_1_0 9 []) (.seq (.region R_overseerlaw21_RequirementPhases_1_1 9 []) (.seq (.seq (.region R_overseerlaw21_RequirementPhases_1_2 9 []) (.block 0 (.loop [] (.seq (.region R_overseerlaw21_RequirementPhases_1_3 9 []) (.seq (.cond (.t 15) (.skip) (.exit 0)) (.seq (.block 1 (.seq (.region R_overseerlaw21_RequirementPhases_1_4 9 []) (.region R_overseerlaw21_RequirementPhases_1_5 9 []))) (.region R_overseerlaw21_RequirementPhases_1_6 9 []))))))) (.seq (.seq (.region R_overseerlaw21_RequirementPhases_1_7 9 []) (.block 2 (.loop [11] (.seq (.region R_overseerlaw21_RequirementPhases_1_8 9 []) (.seq (.cond (.t 27) (.skip) (.exit 2)) (.seq (.block 3 (.seq (.region R_overseerlaw21_RequirementPhases_1_9 9 []) (.seq (.seq (.region R_overseerlaw21_RequirementPhases_1_10 9 []) (.cond (.t 34) (.seq (.region R_overseerlaw21_RequirementPhases_1_11 0 []) (.ret)) (.skip))) (.seq (.region R_overseerlaw21_RequirementPhases_1_12 9 []) (.cond (.t 52) (.seq (.region R_overseerlaw21_RequirementPhases_1_13 0 []) (.ret)) (.skip)))))) (.region R_overseerlaw21_RequirementPhases_1_14 9 []))))))) (.seq (.region R_overseerlaw21_RequirementPhases_1_15 9 []) (.ret)))))⟩
def f_overseerlaw21_RequirementPhases_1 (fuel : Nat) (n1 : Int) (event2 : Int) (x3 : (List requirement_Phase)) (x6 : Int) : Option (Int × Bool) :=
  ((iterF (fun k11 ((entered9, x10) : Int × Int) => (if (x10 < (x3.length : Int)) then ((shrO .i64 n1 x10).bind fun s13 => k11 ((IntKind.wrap .i64 (entered9 + (andI .i64 s13 1))), (IntKind.wrap .i64 (x10 + 1)))) else some entered9)) fuel (0, 0)).bind fun (entered15 : Int) => iterF (fun k17 (x16 : Int) => (if (x16 < (x3.length : Int)) then ((getO x3 x16).bind fun x19 => (if (event2 == x19.Enter) then ((shlO .i64 1 x16).bind fun s22 => ((shrO .i64 n1 x16).bind fun s24 => (if ((andI .i64 s24 1) == 0) then some ((orI .i64 n1 s22), decide (entered15 < x6)) else some ((orI .i64 n1 s22), false)))) else (if (event2 == x19.Leave) then ((shlO .i64 1 x16).bind fun s28 => ((shrO .i64 n1 x16).bind fun s30 => some ((andNotI .i64 n1 s28), ((andI .i64 s30 1) == 1)))) else k17 (IntKind.wrap .i64 (x16 + 1))))) else some (n1, false))) fuel 0)
def K_overseerlaw21_build_int_1 (P : Program) (c : Nat) (f : Int → (Int → Int → Option Bool) → Int → Option Bool) : Prop := ∀ s1 x2 x12 (k3 : Nat) (g5 : Nat) (cp6 : List V) (k13 : Nat) r, f s1 x2 x12 = some r → ∀ M nb, (M k3 = some (.cells [.clo g5 cp6])) → (V.dems cp6 = cp6) → (V.ons (There M) cp6) → (∀ a10 a11 r, x2 a10 a11 = some r → ∀ M2 nb2, nb ≤ nb2 → Ext M M2 → ACalls P g5 ([.d (.int .i64 a10), .d (.int .i64 a11)] ++ cp6) M2 nb2 (.d (.bool r)) M2 nb2) → (M k13 = some (.cells [.d (.int .i64 x12)])) → ACalls P c [.d (.int .i64 s1), .ptr k3 0, .ptr k13 0] M nb (.d (.bool r)) M nb
def R_overseerlaw21_build_int_1_0 : List COp := [oo 4 .mov [.c (.d (.bool false))]]
def R_overseerlaw21_build_int_1_1 : List COp := [oo 5 (.load false 1) [.t 1], oo 6 .mov [.t 0], oo 7 (.load false 1) [.t 2], oo 8 .callv [.t 5, .t 6, .t 7], oo 4 .mov [.t 8]]
def F_overseerlaw21_build_int_1 : CFn := ⟨3, 9, [.t 4], .seq (.region R_overseerlaw21_build_int_1_0 9 []) (.seq (.region R_overseerlaw21_build_int_1_1 9 []) (.ret))⟩
def f_overseerlaw21_build_int_1 (s1 : Int) (x2 : (Int → Int → Option Bool)) (x12 : Int) : Option Bool :=
  ((x2 s1 x12).bind fun x16 => some x16)
def K_slices_IndexFunc_int (P : Program) (c : Nat) (f : (List Int) → (Int → Option Bool) → Option Int) : Prop := ∀ s1 f2 (g3 : Nat) (cp4 : List V) r, f s1 f2 = some r → ∀ M nb, (V.dems cp4 = cp4) → (V.ons (There M) cp4) → (∀ a8 r, f2 a8 = some r → ∀ M2 nb2, nb ≤ nb2 → Ext M M2 → ACalls P g3 ([.d (.int .i64 a8)] ++ cp4) M2 nb2 (.d (.bool r)) M2 nb2) → ACalls P c [.d (.lst 1 (List.map (eI .i64) s1)), .clo g3 cp4] M nb (.d (.int .i64 r)) M nb
def R_slices_IndexFunc_int_0 : List COp := [oo 4 .mov [.c (.d (.int .i64 0))]]
def R_slices_IndexFunc_int_1 : List COp := [oo 6 .mov [.t 0], oo 7 .len [.t 6], oo 8 .mov [.c (.d (.int .i64 0))]]
def R_slices_IndexFunc_int_2 : List COp := [oo 9 (.bin .lss false) [.t 8, .t 7]]
def R_slices_IndexFunc_int_3 : List COp := [oo 10 .mov [.t 8], oo 5 .mov [.t 10]]
def R_slices_IndexFunc_int_4 : List COp := [oo 11 .mov [.t 1], oo 12 .mov [.t 0], oo 13 .mov [.t 5], oo 14 (.idx 1) [.t 12, .t 13], oo 15 (.load false 1) [.t 14], oo 16 .callv [.t 11, .t 15]]
def R_slices_IndexFunc_int_5 : List COp := [oo 17 .mov [.t 5], oo 4 .mov [.t 17]]
def R_slices_IndexFunc_int_6 : List COp := [oo 18 (.bin .add false) [.t 8, .c (.d (.int .i64 1))], oo 8 .mov [.t 18]]
def R_slices_IndexFunc_int_7 : List COp := [oo 4 .mov [.c (.d (.int .i64 (-1)))]]
def F_slices_IndexFunc_int : CFn := ⟨2, 19, [.t 4], .seq (.region R_slices_IndexFunc_int_0 9 []) (.seq (.seq (.region R_slices_IndexFunc_int_1 9 []) (.block 0 (.loop [] (.seq (.region R_slices_IndexFunc_int_2 9 []) (.seq (.cond (.t 9) (.skip) (.exit 0)) (.seq (.block 1 (.seq (.region R_slices_IndexFunc_int_3 9 []) (.seq (.region R_slices_IndexFunc_int_4 9 []) (.cond (.t 16) (.seq (.region R_slices_IndexFunc_int_5 9 []) (.ret)) (.skip))))) (.region R_slices_IndexFunc_int_6 9 []))))))) (.seq (.region R_slices_IndexFunc_int_7 9 []) (.ret)))⟩
def f_slices_IndexFunc_int (fuel : Nat) (s1 : (List Int)) (f2 : (Int → Option Bool)) : Option Int :=
  iterF (fun k10 (x9 : Int) => (if (x9 < (s1.length : Int)) then ((getO s1 x9).bind fun x12 => ((f2 x12).bind fun x15 => (if x15 then some x9 else k10 (IntKind.wrap .i64 (x9 + 1))))) else some (-1))) fuel 0
def K_overseerlaw21_build_int (P : Program) (c : Nat) (f : Int → (List Int) → (Int → Int → Option Bool) → (Int → Int → Option (Int × Bool)) → (Int → Option Bool) → Option api_Automaton) : Prop := ∀ start1 events2 same3 step11 marked19 (g4 : Nat) (cp5 : List V) (g12 : Nat) (cp13 : List V) (g20 : Nat) (cp21 : List V) r, f start1 events2 same3 step11 marked19 = some r → ∀ M nb, (V.dems cp5 = cp5) → (V.ons (There M) cp5) → (∀ a9 a10 r, same3 a9 a10 = some r → ∀ M2 nb2, nb ≤ nb2 → Ext M M2 → ACalls P g4 ([.d (.int .i64 a9), .d (.int .i64 a10)] ++ cp5) M2 nb2 (.d (.bool r)) M2 nb2) → (V.dems cp13 = cp13) → (V.ons (There M) cp13) → (∀ a17 a18 r, step11 a17 a18 = some r → ∀ M2 nb2, nb ≤ nb2 → Ext M M2 → ACalls P g12 ([.d (.int .i64 a17), .d (.int .i64 a18)] ++ cp13) M2 nb2 (.tup [.d (.int .i64 r.1), .d (.bool r.2)]) M2 nb2) → (V.dems cp21 = cp21) → (V.ons (There M) cp21) → (∀ a25 r, marked19 a25 = some r → ∀ M2 nb2, nb ≤ nb2 → Ext M M2 → ACalls P g20 ([.d (.int .i64 a25)] ++ cp21) M2 nb2 (.d (.bool r)) M2 nb2) → ACalls P c [.d (.int .i64 start1), .d (.lst 1 (List.map (eI .i64) events2)), .clo g4 cp5, .clo g12 cp13, .clo g20 cp21] M nb (.agg [.d (.lst 1 (List.map (eI .i64) r.Alphabet)), .d (.int .i64 r.States), .d (.lst 1 (List.map (eI .i64) r.Marked)), .d (.lst 3 (List.map e_api_Edge r.Edges))]) M nb
def R_overseerlaw21_build_int_0 : List COp := [oo 7 (.box 1) [.t 2], oo 10 (.alloc [.nils 1, .d (.int .i64 0), .nils 1, .nils 3]) []]
def R_overseerlaw21_build_int_1 : List COp := [oo 19 .mov [.t 1], oo 20 (.build [.nils 1, .d (.int .i64 0), .nils 1, .nils 3] [(0, 1)]) [.t 19], oo 11 (.alloc [.nils 1, .d (.int .i64 0), .nils 1, .nils 3]) [], ⟨none, .store 4, [.t 11, .t 20], false, none⟩]
def R_overseerlaw21_build_int_2 : List COp := [oo 21 .mov [.t 0], oo 22 (.bslice 1 1 [.d (.int .i64 0)] [0]) [.t 21], ot 12 .mov [.t 22]]
def R_overseerlaw21_build_int_3 : List COp := [oo 13 .mov [.c (.d (.int .i64 0))]]
def R_overseerlaw21_build_int_4 : List COp := [oo 23 .mov [.t 13], oo 24 .mov [.t 12], oo 25 .len [.t 24], oo 26 (.bin .lss false) [.t 23, .t 25]]
def R_overseerlaw21_build_int_5 : List COp := [oo 29 .mov [.t 4], oo 30 .mov [.t 12], oo 31 .mov [.t 13], oo 32 (.idx 1) [.t 30, .t 31], oo 33 (.load false 1) [.t 32], oo 34 .callv [.t 29, .t 33]]
def R_overseerlaw21_build_int_6 : List COp := [oo 35 (.fld 2) [.t 11], oo 36 .loadT [.t 35], oo 37 .mov [.t 13], oo 38 (.bslice 1 1 [.d (.int .i64 0)] [0]) [.t 37], ot 39 (.append 1 8) [.t 36, .t 38], oo 40 (.fld 2) [.t 11], ⟨none, .store 1, [.t 40, .t 39], true, none⟩]
def R_overseerlaw21_build_int_7 : List COp := [oo 41 .mov [.t 1], oo 42 .len [.t 41], oo 43 .mov [.c (.d (.int .i64 0))]]
def R_overseerlaw21_build_int_8 : List COp := [oo 44 (.bin .lss false) [.t 43, .t 42]]
def R_overseerlaw21_build_int_9 : List COp := [oo 45 (.idx 1) [.t 41, .t 43], oo 46 (.load false 1) [.t 45], oo 15 .mov [.t 46]]
def R_overseerlaw21_build_int_10 : List COp := [oo 48 .mov [.t 3], oo 49 .mov [.t 12], oo 50 .mov [.t 13], oo 51 (.idx 1) [.t 49, .t 50], oo 52 (.load false 1) [.t 51], oo 53 .mov [.t 15], oo 54 .callv [.t 48, .t 52, .t 53], oo 47 .mov [.t 54], oo 55 (.extract 0) [.t 47], oo 56 (.extract 1) [.t 47], oo 16 (.alloc [.d (.int .i64 0)]) [], ⟨none, .store 1, [.t 16, .t 55], false, none⟩, oo 17 .mov [.t 56]]
def R_overseerlaw21_build_int_11 : List COp := [oo 57 .mov [.t 17], oo 58 (.un .not) [.t 57]]
def R_overseerlaw21_build_int_12 : List COp := [oo 59 .mov [.t 12], oo 60 (.func 79) [.t 7, .t 16], oo 61 (.call 63) [.t 59, .t 60], oo 18 .mov [.t 61]]
def R_overseerlaw21_build_int_13 : List COp := [oo 62 .mov [.t 18], oo 63 (.bin .lss false) [.t 62, .c (.d (.int .i64 0))]]
def R_overseerlaw21_build_int_14 : List COp := [oo 64 .mov [.t 12], oo 65 .len [.t 64], oo 18 .mov [.t 65]]
def R_overseerlaw21_build_int_15 : List COp := [ot 66 .mov [.t 12], oo 67 (.load false 1) [.t 16], oo 68 (.bslice 1 1 [.d (.int .i64 0)] [0]) [.t 67], ot 69 (.append 1 8) [.t 66, .t 68], ot 12 .mov [.t 69]]
def R_overseerlaw21_build_int_16 : List COp := [oo 70 (.fld 3) [.t 11], oo 71 .loadT [.t 70], oo 72 .mov [.t 13], oo 73 .mov [.t 15], oo 74 .mov [.t 18], oo 75 (.build [.d (.int .i64 0), .d (.int .i64 0), .d (.int .i64 0)] [(0, 1), (1, 1), (2, 1)]) [.t 72, .t 73, .t 74], oo 76 (.bslice 3 1 [.d (.int .i64 0), .d (.int .i64 0), .d (.int .i64 0)] [0]) [.t 75], ot 77 (.append 3 24) [.t 71, .t 76], oo 78 (.fld 3) [.t 11], ⟨none, .store 1, [.t 78, .t 77], true, none⟩]
def R_overseerlaw21_build_int_17 : List COp := [oo 79 (.bin .add false) [.t 43, .c (.d (.int .i64 1))], oo 43 .mov [.t 79]]
def R_overseerlaw21_build_int_18 : List COp := [oo 27 .mov [.t 13], oo 28 (.bin .add false) [.t 27, .c (.d (.int .i64 1))], oo 13 .mov [.t 28]]
def R_overseerlaw21_build_int_19 : List COp := [oo 80 .mov [.t 12], oo 81 .len [.t 80], oo 82 (.fld 1) [.t 11], ⟨none, .store 1, [.t 82, .t 81], false, none⟩]
def R_overseerlaw21_build_int_20 : List COp := [oo 83 (.load true 4) [.t 11], ⟨none, .store 4, [.t 10, .t 83], false, none⟩]
def F_overseerlaw21_build_int : CFn := ⟨5, 84, [.cell 10 true 4], .seq (.region R_overseerlaw21_build_int_0 9 []) (.seq (.region R_overseerlaw21_build_int_1 9 []) (.seq (.region R_overseerlaw21_build_int_2 9 []) (.seq (.seq (.region R_overseerlaw21_build_int_3 9 []) (.block 0 (.loop [38, 16, 68, 76] (.seq (.seq (.region R_overseerlaw21_build_int_4 9 []) (.cond (.t 26) (.skip) (.exit 0))) (.seq (.block 1 (.seq (.seq (.region R_overseerlaw21_build_int_5 9 []) (.cond (.t 34) (.region R_overseerlaw21_build_int_6 9 []) (.skip))) (.seq (.region R_overseerlaw21_build_int_7 9 []) (.block 2 (.loop [16, 68, 76] (.seq (.region R_overseerlaw21_build_int_8 9 []) (.seq (.cond (.t 44) (.skip) (.exit 2)) (.seq (.block 3 (.seq (.region R_overseerlaw21_build_int_9 9 []) (.seq (.region R_overseerlaw21_build_int_10 9 []) (.seq (.seq (.region R_overseerlaw21_build_int_11 9 []) (.cond (.t 58) (.exit 3) (.skip))) (.seq (.region R_overseerlaw21_build_int_12 9 []) (.seq (.seq (.region R_overseerlaw21_build_int_13 9 []) (.cond (.t 63) (.seq (.region R_overseerlaw21_build_int_14 9 []) (.region R_overseerlaw21_build_int_15 9 [])) (.skip))) (.region R_overseerlaw21_build_int_16 9 []))))))) (.region R_overseerlaw21_build_int_17 9 []))))))))) (.region R_overseerlaw21_build_int_18 9 [])))))) (.seq (.region R_overseerlaw21_build_int_19 9 []) (.seq (.region R_overseerlaw21_build_int_20 9 []) (.ret))))))⟩
def f_overseerlaw21_build_int (f_slices_IndexFunc_int : (List Int) → (Int → Option Bool) → Option Int) (f_overseerlaw21_build_int_1 : Int → (Int → Int → Option Bool) → Int → Option Bool) (fuel : Nat) (start1 : Int) (events2 : (List Int)) (same3 : (Int → Int → Option Bool)) (step11 : (Int → Int → Option (Int × Bool))) (marked19 : (Int → Option Bool)) : Option api_Automaton :=
  ((iterF (fun k33 ((l26, i27, c28, c29, c30, a31, a32) : (List Int) × Int × (List Int) × (List Int) × (List api_Edge) × (List Int) × (List api_Edge)) => (if (i27 < (l26.length : Int)) then ((((((getO l26 i27).bind fun x35 => ((marked19 x35).bind fun x38 => (if x38 then ((appO a31 [i27]).bind fun x40 => some x40) else some a31)))).bind fun (a42 : List Int) => iterF (fun k46 ((l43, x44, a45) : (List Int) × Int × (List api_Edge)) => (if (x44 < (events2.length : Int)) then ((((getO events2 x44).bind fun x48 => ((getO l43 i27).bind fun x50 => ((step11 x50 x48).bind fun (r54, r55) => (if r55 then ((f_slices_IndexFunc_int l43 (fun a57 => f_overseerlaw21_build_int_1 a57 same3 r54)).bind fun x65 => (((if (x65 < 0) then ((appO l43 [r54]).bind fun x67 => some (x67, (l43.length : Int))) else some (l43, x65))).bind fun ((l69, to70) : (List Int) × Int) => ((appO a45 [(api_Edge.mk i27 x48 to70)]).bind fun x71 => some (l69, x71, r54)))) else some (l43, a45, r54)))))).bind fun ((l73, a74, next75) : (List Int) × (List api_Edge) × Int) => k46 (l73, (IntKind.wrap .i64 (x44 + 1)), a74)) else some (l43, a42, a45))) fuel (l26, 0, a32))).bind fun ((l76, a77, a78) : (List Int) × (List Int) × (List api_Edge)) => k33 (l76, (IntKind.wrap .i64 (i27 + 1)), c28, c29, c30, a77, a78)) else some (l26, c28, c29, c30, a31, a32))) fuel ([start1], 0, [], [], [], [], [])).bind fun ((l79, c80, c81, c82, a83, a84) : (List Int) × (List Int) × (List Int) × (List api_Edge) × (List Int) × (List api_Edge)) => some (api_Automaton.mk events2 (l79.length : Int) a83 a84))
def K_overseerlaw21_counter_1 (P : Program) (c : Nat) (f : Int → Int → Option Bool) : Prop := ∀ a1 b2 r, f a1 b2 = some r → ∀ M nb, ACalls P c [.d (.int .i64 a1), .d (.int .i64 b2)] M nb (.d (.bool r)) M nb
def R_overseerlaw21_counter_1_0 : List COp := [oo 4 .mov [.c (.d (.bool false))]]
def R_overseerlaw21_counter_1_1 : List COp := [oo 5 .mov [.t 0], oo 6 .mov [.t 1], oo 7 (.bin .eql false) [.t 5, .t 6], oo 4 .mov [.t 7]]
def F_overseerlaw21_counter_1 : CFn := ⟨2, 8, [.t 4], .seq (.region R_overseerlaw21_counter_1_0 9 []) (.seq (.region R_overseerlaw21_counter_1_1 9 []) (.ret))⟩
def f_overseerlaw21_counter_1 (a1 : Int) (b2 : Int) : Option Bool :=
  some (a1 == b2)
def K_overseerlaw21_counter (P : Program) (c : Nat) (f : (List Int) → (Int → Int → Option (Int × Bool)) → (Int → Option Bool) → Option api_Automaton) : Prop := ∀ events1 step2 marked10 (g3 : Nat) (cp4 : List V) (g11 : Nat) (cp12 : List V) r, f events1 step2 marked10 = some r → ∀ M nb, (V.dems cp4 = cp4) → (V.ons (There M) cp4) → (∀ a8 a9 r, step2 a8 a9 = some r → ∀ M2 nb2, nb ≤ nb2 → Ext M M2 → ACalls P g3 ([.d (.int .i64 a8), .d (.int .i64 a9)] ++ cp4) M2 nb2 (.tup [.d (.int .i64 r.1), .d (.bool r.2)]) M2 nb2) → (V.dems cp12 = cp12) → (V.ons (There M) cp12) → (∀ a16 r, marked10 a16 = some r → ∀ M2 nb2, nb ≤ nb2 → Ext M M2 → ACalls P g11 ([.d (.int .i64 a16)] ++ cp12) M2 nb2 (.d (.bool r)) M2 nb2) → ACalls P c [.d (.lst 1 (List.map (eI .i64) events1)), .clo g3 cp4, .clo g11 cp12] M nb (.agg [.d (.lst 1 (List.map (eI .i64) r.Alphabet)), .d (.int .i64 r.States), .d (.lst 1 (List.map (eI .i64) r.Marked)), .d (.lst 3 (List.map e_api_Edge r.Edges))]) M nb
def R_overseerlaw21_counter_0 : List COp := [oo 6 (.alloc [.nils 1, .d (.int .i64 0), .nils 1, .nils 3]) []]
def R_overseerlaw21_counter_1 : List COp := [oo 7 .mov [.t 0], oo 8 .mov [.t 1], oo 9 .mov [.t 2], oo 10 (.call 54) [.c (.d (.int .i64 0)), .t 7, .c (.clo 55 []), .t 8, .t 9], ⟨none, .store 4, [.t 6, .t 10], false, none⟩]
def F_overseerlaw21_counter : CFn := ⟨3, 11, [.cell 6 true 4], .seq (.region R_overseerlaw21_counter_0 9 []) (.seq (.region R_overseerlaw21_counter_1 9 []) (.ret))⟩
def f_overseerlaw21_counter (f_overseerlaw21_build_int : Int → (List Int) → (Int → Int → Option Bool) → (Int → Int → Option (Int × Bool)) → (Int → Option Bool) → Option api_Automaton) (f_overseerlaw21_counter_1 : Int → Int → Option Bool) (events1 : (List Int)) (step2 : (Int → Int → Option (Int × Bool))) (marked10 : (Int → Option Bool)) : Option api_Automaton :=
  ((f_overseerlaw21_build_int 0 events1 f_overseerlaw21_counter_1 step2 marked10).bind fun x29 => some x29)
def K_overseerlaw21_always_int (P : Program) (c : Nat) (f : Int → Option Bool) : Prop := ∀ x1 r, f x1 = some r → ∀ M nb, ACalls P c [.d (.int .i64 x1)] M nb (.d (.bool r)) M nb
def R_overseerlaw21_always_int_0 : List COp := [oo 2 .mov [.c (.d (.bool false))]]
def R_overseerlaw21_always_int_1 : List COp := [oo 2 .mov [.c (.d (.bool true))]]
def F_overseerlaw21_always_int : CFn := ⟨1, 3, [.t 2], .seq (.region R_overseerlaw21_always_int_0 9 []) (.seq (.region R_overseerlaw21_always_int_1 9 []) (.ret))⟩
def f_overseerlaw21_always_int (x1 : Int) : Option Bool :=
  some true
def K_overseerlaw21_RequirementPhases (P : Program) (c : Nat) (f : (List requirement_Phase) → Int → Option Bool) : Prop := ∀ l1 most2 r, f l1 most2 = some r → ∀ M nb, ACalls P c [.d (.lst 2 (List.map e_requirement_Phase l1)), .d (.int .i64 most2)] M nb (.d (.bool r)) M nb
def R_overseerlaw21_RequirementPhases_0 : List COp := [oo 2 (.box 1) [.t 0], oo 3 (.box 1) [.t 1], oo 4 .mov [.c (.d (.bool false))]]
def R_overseerlaw21_RequirementPhases_1 : List COp := [oo 14 (.call 10) [], oo 15 (.un .not) [.t 14], oo 16 .mov [.t 15], ⟨some 17, .load false 1, [.t 2], false, some (16, false)⟩, ⟨some 18, .len, [.t 17], false, some (16, false)⟩, ⟨some 19, .bin .gtr false, [.t 18, .c (.d (.int .i64 6))], false, some (16, false)⟩, ⟨some 20, .mov, [.t 19], false, some (16, false)⟩, ⟨some 21, .load false 1, [.t 2], false, some (20, true)⟩, ⟨some 22, .len, [.t 21], false, some (20, true)⟩, ⟨some 23, .bin .neq false, [.t 22, .c (.d (.int .i64 11))], false, some (20, true)⟩, ⟨some 24, .pick, [.t 20, .t 23, .c (.d (.bool false))], false, some (16, false)⟩, oo 25 .pick [.t 16, .c (.d (.bool true)), .t 24]]
def R_overseerlaw21_RequirementPhases_2 : List COp := [oo 26 (.call 10) [], oo 4 .mov [.t 26]]
def R_overseerlaw21_RequirementPhases_3 : List COp := [oo 28 (.load false 1) [.t 2], oo 29 (.load false 1) [.t 3], oo 30 (.call 11) [.t 28, .t 29], oo 27 .mov [.t 30], oo 31 (.extract 0) [.t 27], oo 32 (.extract 1) [.t 27], oo 5 (.alloc [.nils 1, .d (.int .i64 0), .nils 1, .nils 3]) [], ⟨none, .store 4, [.t 5, .t 31], false, none⟩, oo 6 .mov [.t 32]]
def R_overseerlaw21_RequirementPhases_4 : List COp := [oo 7 .mov [.c (.d (.int .i64 0))]]
def R_overseerlaw21_RequirementPhases_5 : List COp := [oo 33 (.load false 1) [.t 2], oo 34 .len [.t 33], oo 35 (.bin .gtr false) [.t 34, .c (.d (.int .i64 10))]]
def R_overseerlaw21_RequirementPhases_6 : List COp := [oo 7 .mov [.c (.d (.int .i64 3))]]
def R_overseerlaw21_RequirementPhases_7 : List COp := [ot 8 .mov [.c (.nils 1)]]
def R_overseerlaw21_RequirementPhases_8 : List COp := [oo 36 (.load false 1) [.t 2], oo 37 .len [.t 36], oo 38 .mov [.c (.d (.int .i64 0))]]
def R_overseerlaw21_RequirementPhases_9 : List COp := [oo 39 (.bin .lss false) [.t 38, .t 37]]
def R_overseerlaw21_RequirementPhases_10 : List COp := [oo 40 (.idx 2) [.t 36, .t 38], oo 41 (.load true 2) [.t 40], oo 10 (.alloc [.d (.int .i64 0), .d (.int .i64 0)]) [], ⟨none, .store 2, [.t 10, .t 41], false, none⟩]
def R_overseerlaw21_RequirementPhases_11 : List COp := [oo 42 (.fld 0) [.t 10], oo 43 (.load false 1) [.t 42], oo 44 (.fld 1) [.t 10], oo 45 (.load false 1) [.t 44], oo 46 (.bslice 1 2 [.d (.int .i64 0)] [0, 1]) [.t 43, .t 45], oo 47 .len [.t 46], oo 48 .mov [.c (.d (.int .i64 0))]]
def R_overseerlaw21_RequirementPhases_12 : List COp := [oo 49 (.bin .lss false) [.t 48, .t 47]]
def R_overseerlaw21_RequirementPhases_13 : List COp := [oo 50 (.idx 1) [.t 46, .t 48], oo 51 (.load false 1) [.t 50], oo 12 .mov [.t 51]]
def R_overseerlaw21_RequirementPhases_14 : List COp := [oo 52 .mov [.t 7], oo 53 (.bin .eql false) [.t 52, .c (.d (.int .i64 0))], oo 54 .mov [.t 53], ⟨some 55, .mov, [.t 12], false, some (54, true)⟩, ⟨some 56, .call 12, [.t 55], false, some (54, true)⟩, ⟨some 57, .un .not, [.t 56], false, some (54, true)⟩, oo 58 .pick [.t 54, .t 57, .c (.d (.bool false))]]
def R_overseerlaw21_RequirementPhases_15 : List COp := [oo 7 .mov [.c (.d (.int .i64 2))]]
def R_overseerlaw21_RequirementPhases_16 : List COp := [oo 59 .mov [.t 7], oo 60 (.bin .eql false) [.t 59, .c (.d (.int .i64 0))], oo 61 .mov [.t 60], ⟨some 62, .mov, [.t 8], false, some (61, true)⟩, ⟨some 63, .mov, [.t 12], false, some (61, true)⟩, ⟨some 64, .call 13, [.t 62, .t 63], false, some (61, true)⟩, oo 65 .pick [.t 61, .t 64, .c (.d (.bool false))]]
def R_overseerlaw21_RequirementPhases_17 : List COp := [oo 7 .mov [.c (.d (.int .i64 8))]]
def R_overseerlaw21_RequirementPhases_18 : List COp := [ot 66 .mov [.t 8], oo 67 .mov [.t 12], oo 68 (.bslice 1 1 [.d (.int .i64 0)] [0]) [.t 67], ot 69 (.append 1 8) [.t 66, .t 68], ot 8 .mov [.t 69]]
def R_overseerlaw21_RequirementPhases_19 : List COp := [oo 70 (.bin .add false) [.t 48, .c (.d (.int .i64 1))], oo 48 .mov [.t 70]]
def R_overseerlaw21_RequirementPhases_20 : List COp := [oo 71 (.bin .add false) [.t 38, .c (.d (.int .i64 1))], oo 38 .mov [.t 71]]
def R_overseerlaw21_RequirementPhases_21 : List COp := [oo 72 .mov [.t 7], oo 73 (.bin .eql false) [.t 72, .c (.d (.int .i64 0))], oo 74 .mov [.t 73], ⟨some 75, .load false 1, [.t 3], false, some (74, true)⟩, ⟨some 76, .bin .lss false, [.t 75, .c (.d (.int .i64 0))], false, some (74, true)⟩, ⟨some 77, .mov, [.t 76], false, some (74, true)⟩, ⟨some 78, .load false 1, [.t 3], false, some (77, false)⟩, ⟨some 79, .load false 1, [.t 2], false, some (77, false)⟩, ⟨some 80, .len, [.t 79], false, some (77, false)⟩, ⟨some 81, .bin .gtr false, [.t 78, .t 80], false, some (77, false)⟩, ⟨some 82, .pick, [.t 77, .c (.d (.bool true)), .t 81], false, some (74, true)⟩, oo 83 .pick [.t 74, .t 82, .c (.d (.bool false))]]
def R_overseerlaw21_RequirementPhases_22 : List COp := [oo 7 .mov [.c (.d (.int .i64 2))]]
def R_overseerlaw21_RequirementPhases_23 : List COp := [oo 84 .mov [.t 7], oo 85 (.bin .neq false) [.t 84, .c (.d (.int .i64 0))]]
def R_overseerlaw21_RequirementPhases_24 : List COp := [oo 86 .mov [.t 6], oo 87 .mov [.t 7], oo 88 (.bin .eql false) [.t 86, .t 87], oo 89 .mov [.t 88], ⟨some 90, .load true 4, [.t 5], false, some (89, true)⟩, ⟨some 91, .build [.nils 1, .d (.int .i64 0), .nils 1, .nils 3] [], [], false, some (89, true)⟩, ⟨some 92, .call 14, [.t 90, .t 91], false, some (89, true)⟩, oo 93 .pick [.t 89, .t 92, .c (.d (.bool false))], oo 4 .mov [.t 93]]
def R_overseerlaw21_RequirementPhases_25 : List COp := [oo 94 .mov [.t 8], oo 95 (.call 16) [.t 94], oo 96 (.func 17) [.t 2, .t 3], oo 97 (.call 15) [.t 95, .t 96, .c (.clo 18 [])], oo 13 (.alloc [.nils 1, .d (.int .i64 0), .nils 1, .nils 3]) [], ⟨none, .store 4, [.t 13, .t 97], false, none⟩]
def R_overseerlaw21_RequirementPhases_26 : List COp := [oo 98 .mov [.t 6], oo 99 (.bin .eql false) [.t 98, .c (.d (.int .i64 0))], oo 100 .mov [.t 99], ⟨some 101, .load true 4, [.t 5], false, some (100, true)⟩, ⟨some 102, .load true 4, [.t 13], false, some (100, true)⟩, ⟨some 103, .call 14, [.t 101, .t 102], false, some (100, true)⟩, oo 104 .pick [.t 100, .t 103, .c (.d (.bool false))], oo 4 .mov [.t 104]]
def F_overseerlaw21_RequirementPhases : CFn := ⟨2, 105, [.t 4], .seq (.region R_overseerlaw21_RequirementPhases_0 9 []) (.seq (.seq (.region R_overseerlaw21_RequirementPhases_1 9 []) (.cond (.t 25) (.seq (.region R_overseerlaw21_RequirementPhases_2 9 []) (.ret)) (.skip))) (.seq (.region R_overseerlaw21_RequirementPhases_3 9 []) (.seq (.region R_overseerlaw21_RequirementPhases_4 9 []) (.seq (.seq (.region R_overseerlaw21_RequirementPhases_5 9 []) (.cond (.t 35) (.region R_overseerlaw21_RequirementPhases_6 9 []) (.skip))) (.seq (.region R_overseerlaw21_RequirementPhases_7 9 []) (.seq (.seq (.region R_overseerlaw21_RequirementPhases_8 9 []) (.block 0 (.loop [10, 46, 68] (.seq (.region R_overseerlaw21_RequirementPhases_9 9 []) (.seq (.cond (.t 39) (.skip) (.exit 0)) (.seq (.block 1 (.seq (.region R_overseerlaw21_RequirementPhases_10 9 []) (.seq (.region R_overseerlaw21_RequirementPhases_11 9 []) (.block 2 (.loop [68] (.seq (.region R_overseerlaw21_RequirementPhases_12 9 []) (.seq (.cond (.t 49) (.skip) (.exit 2)) (.seq (.block 3 (.seq (.region R_overseerlaw21_RequirementPhases_13 9 []) (.seq (.seq (.region R_overseerlaw21_RequirementPhases_14 9 []) (.cond (.t 58) (.region R_overseerlaw21_RequirementPhases_15 9 []) (.skip))) (.seq (.seq (.region R_overseerlaw21_RequirementPhases_16 9 []) (.cond (.t 65) (.region R_overseerlaw21_RequirementPhases_17 9 []) (.skip))) (.region R_overseerlaw21_RequirementPhases_18 9 []))))) (.region R_overseerlaw21_RequirementPhases_19 9 []))))))))) (.region R_overseerlaw21_RequirementPhases_20 9 []))))))) (.seq (.seq (.region R_overseerlaw21_RequirementPhases_21 9 []) (.cond (.t 83) (.region R_overseerlaw21_RequirementPhases_22 9 []) (.skip))) (.seq (.seq (.region R_overseerlaw21_RequirementPhases_23 9 []) (.cond (.t 85) (.seq (.region R_overseerlaw21_RequirementPhases_24 9 []) (.ret)) (.skip))) (.seq (.region R_overseerlaw21_RequirementPhases_25 9 []) (.seq (.region R_overseerlaw21_RequirementPhases_26 9 []) (.ret)))))))))))⟩
def f_overseerlaw21_RequirementPhases (f_overseerlaw21_known : Option Bool) (f_requirement_AtMost : (List requirement_Phase) → Int → Option (api_Automaton × Int)) (f_overseerlaw21_in : Int → Option Bool) (f_slices_Contains_int : (List Int) → Int → Option Bool) (f_automaton_Equal : api_Automaton → api_Automaton → Option Bool) (f_overseerlaw21_counter : (List Int) → (Int → Int → Option (Int × Bool)) → (Int → Option Bool) → Option api_Automaton) (f_overseerlaw21_sorted : (List Int) → Option ((List Int))) (f_overseerlaw21_RequirementPhases_1 : Int → Int → (List requirement_Phase) → Int → Option (Int × Bool)) (f_overseerlaw21_always_int : Int → Option Bool) (fuel : Nat) (l1 : (List requirement_Phase)) (most2 : Int) : Option Bool :=
  (((f_overseerlaw21_known.bind fun x4 => (if x4 then (if ((l1.length : Int) > 6) then some ((l1.length : Int) != 11) else some false) else some true))).bind fun (x7 : Bool) => (if x7 then (f_overseerlaw21_known.bind fun x10 => some x10) else ((f_requirement_AtMost l1 most2).bind fun (r12, r13) => (((if ((l1.length : Int) > 10) then some 3 else some 0)).bind fun (want15 : Int) => ((iterF (fun k19 ((want16, all17, x18) : Int × (List Int) × Int) => (if (x18 < (l1.length : Int)) then ((((getO l1 x18).bind fun x21 => iterF (fun k26 ((want23, all24, x25) : Int × (List Int) × Int) => (if (x25 < 2) then ((getO [x21.Enter, x21.Leave] x25).bind fun x28 => (((((if (want23 == 0) then ((f_overseerlaw21_in x28).bind fun x32 => some (!x32)) else some false)).bind fun (x33 : Bool) => (if x33 then some 2 else some want23))).bind fun (want35 : Int) => (((((if (want35 == 0) then ((f_slices_Contains_int all24 x28).bind fun x38 => some x38) else some false)).bind fun (x39 : Bool) => (if x39 then some 8 else some want35))).bind fun (want41 : Int) => ((appO all24 [x28]).bind fun x42 => k26 (want41, x42, (IntKind.wrap .i64 (x25 + 1))))))) else some (want23, all24, x21.Enter, x21.Leave))) fuel (want16, all17, 0))).bind fun ((want44, all45, c46, c47) : Int × (List Int) × Int × Int) => k19 (want44, all45, (IntKind.wrap .i64 (x18 + 1)))) else some (want16, all17))) fuel (want15, [], 0)).bind fun ((want48, all49) : Int × (List Int)) => (((((if (want48 == 0) then (if (most2 < 0) then some true else some (decide (most2 > (l1.length : Int)))) else some false)).bind fun (x52 : Bool) => (if x52 then some 2 else some want48))).bind fun (want54 : Int) => (if (want54 != 0) then (if (r13 == want54) then ((f_automaton_Equal r12 (api_Automaton.mk [] 0 [] [])).bind fun x58 => some x58) else some false) else ((f_overseerlaw21_sorted all49).bind fun x60 => ((f_overseerlaw21_counter x60 (fun a61 a62 => f_overseerlaw21_RequirementPhases_1 a61 a62 l1 most2) f_overseerlaw21_always_int).bind fun x69 => (if (r13 == 0) then ((f_automaton_Equal r12 x69).bind fun x72 => some x72) else some false))))))))))
end Go.Abs
end
