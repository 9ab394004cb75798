/-
  Part 3 of the proof: see the last text.
-/
import Derived.Test.YtkikefkbidaiaaaP2
import Derived.Sort.Grow
set_option linter.unusedVariables false
set_option linter.unusedSimpArgs false
set_option linter.unusedSectionVars false
section
namespace Go.Abs
open Go
set_option linter.unusedVariables false
set_option linter.unusedSimpArgs false
set_option linter.unusedSectionVars false
variable {Γ : Env} {σ : St}
def G.ow (g : G) (k n : Nat) (ℓ : Owner) [DecidablePred fun b => b = g.box k] : G := ⟨g.box, fun b o => g.imm b o ∨ (b = g.box k ∧ o < n), fun b => if b = g.box k then ℓ else g.own b⟩
section
variable {g : G} {w : World} {k n : Nat} {ℓ0 : Owner} (hB : g.own (g.box k) = .box k)
include hB
mutual
theorem RV_ow [DecidablePred fun b => b = g.box k] : ∀ (v : V) (ℓ : Owner) (u : Value), ℓ ≠ .box k → RV g w v ℓ u → RV (g.ow k n ℓ0) w v ℓ u
  | .und, _, _, _, _ => by simp [RV]
  | .d x, _, _, _, h => by
    simp only [RV] at h ⊢
    exact RD_mono ⟨fun _ _ h => .inl h, fun _ _ _ => rfl⟩ x _ h
  | .agg cs, ℓ, u, hl, h => by
    simp only [RV] at h ⊢
    obtain ⟨vs, rfl, h, h1⟩ := h
    exact ⟨vs, rfl, RVs_ow cs ℓ 0 vs h, h1⟩
  | .tup cs, ℓ, u, hl, h => by
    simp only [RV] at h ⊢
    obtain ⟨vs, rfl, h⟩ := h
    exact ⟨vs, rfl, RVs_ow cs ℓ 0 vs h⟩
  | .own sz l, ℓ, u, hl, h => by
    simp only [RV] at h ⊢
    rcases h with h | ⟨b, cap, vals, e, h1, h2, h3, h4, h5, h6, h7, h8⟩
    · exact .inl h
    · have hne : b ≠ g.box k := by rintro rfl; rw [hB] at h2; exact hl h2.symm
      refine .inr ⟨b, cap, vals, e, h1, by simp [G.ow, hne, h2], h3, h4, h5, h6, fun o => ?_, RDL_mono ⟨fun _ _ h => .inl h, fun _ _ _ => rfl⟩ sz b l 0 h8⟩
      rw [← h7 o]
      simp [G.ow, hne]
  | .ptr k' o, ℓ, u, hl, h => by simpa [RV, G.ow] using h
  | .nilp, _, _, _, h => by simpa [RV] using h
  | .f x, _, u, _, h => by
    simp only [RV] at h ⊢
    refine RD_mono (immf_g (g := g) (g' := g.ow k n ℓ0) fun b o h1 h2 => ⟨.inl h1, ?_⟩) x u h
    have hne : b ≠ g.box k := by rintro rfl; rw [hB] at h2; cases h2
    simp [G.ow, hne, h2]
  | .nils _, _, _, _, h => by simpa [RV] using h
  | .cref cs, ℓ, u, hl, h => by
    simp only [RV] at h ⊢
    obtain ⟨b, o, rfl, h⟩ := h
    exact ⟨b, o, rfl, RDc_mono ⟨fun _ _ h => .inl h, fun _ _ _ => rfl⟩ b cs o h⟩
  | .sl sz k' o n c, ℓ, u, hl, h => by simpa [RV, G.ow] using h
  | .clo f cs, ℓ, u, hl, h => by
    simp only [RV] at h ⊢
    obtain ⟨vs, rfl, h⟩ := h
    exact ⟨vs, rfl, RVs_ow cs .ext 0 vs h⟩
  | .mp k', ℓ, u, hl, h => by simpa [RV, G.ow] using h
theorem RVs_ow [DecidablePred fun b => b = g.box k] : ∀ (cs : List V) (ℓ : Owner) (i : Nat) (us : List Value), RVs g w cs ℓ i us → RVs (g.ow k n ℓ0) w cs ℓ i us
  | [], _, _, _, h => by simpa [RVs] using h
  | c :: cs, ℓ, i, us, h => by
    simp only [RVs] at h ⊢
    obtain ⟨u, us', rfl, h1, h2⟩ := h
    have hne : ℓ.sub i ≠ .box k := by cases ℓ <;> simp [Owner.sub]
    exact ⟨u, us', rfl, RV_ow c (ℓ.sub i) u hne h1, RVs_ow cs ℓ (i + 1) us' h2⟩
end
end
open Classical in
theorem weak_own {t t0 sz n : Nat} {cs : List V} {ds : List D} (hM : σ.M (Γ.n0 + t) = some (.cells cs)) (hd : toDs cs = some ds) (hs0 : σ.s t0 = .sl sz (Γ.n0 + t) 0 n n) (hn : (Nat.beq (n * sz) ds.length && Nat.ble n 65536) = true) :
    WeakSt Γ σ ⟨(clean Γ.n0 [t] σ).s.put t0 (.own sz (chunks sz n ds)), (clean Γ.n0 [t] σ).M, σ.nb⟩ := by
  intro a w g hs
  simp only [Bool.and_eq_true] at hn
  have hn1 : n * sz = ds.length := Nat.eq_of_beq_eq_true hn.1
  have hn2 := Nat.le_of_ble_eq_true hn.2
  have hc := SR_clean hs [t]
  have hB : g.own (g.box (Γ.n0 + t)) = .box (Γ.n0 + t) := (hs.mem.box _ _ hM).2.1
  obtain ⟨hl, hg⟩ := toDs_get hd
  have hself : siteP Γ.n0 [t] (Γ.n0 + t) = true := by simp [siteP]
  have hgone : ∀ j, There (clean Γ.n0 [t] σ).M j → j ≠ Γ.n0 + t := by
    rintro j hj rfl
    simp [There, clean, hself] at hj
  have hD : RDc (g.ow (Γ.n0 + t) (n * sz) (.slot t0 [])).imm w (g.box (Γ.n0 + t)) ds 0 := by
    refine RDc_mk fun j y hj => ?_
    have hlt := (List.getElem?_eq_some_iff.1 hj).1
    have hcj : cs[j]? = some (cs[j]'(by omega)) := List.getElem?_eq_getElem _
    obtain ⟨u, h1, h2, h3⟩ := box_cell hs.mem hM hcj
    refine ⟨.inr ⟨rfl, by omega⟩, u, by simpa using h1, ?_⟩
    exact RD_mono ⟨fun _ _ h => .inl h, fun _ _ _ => rfl⟩ y u (RD_of_toD (hg j _ y hcj hj) h2)
  refine ⟨g.ow (Γ.n0 + t) (n * sz) (.slot t0 []), ⟨⟨fun j b hb => ?_, fun b o hbo => ?_⟩, fun i => ?_, hs.size, hs.defers, fun i => ?_, hc.onM, hs.top, ?_⟩⟩
  · have hjk := hgone j (by simp [There, show (clean Γ.n0 [t] σ).M j = some b from hb])
    obtain ⟨h1, h2, h3⟩ := hc.mem.box j b hb
    have hne : g.box j ≠ g.box (Γ.n0 + t) := by
      intro e
      rw [e, hB] at h2
      cases h2; exact hjk rfl
    refine ⟨h1, by simp [G.ow, hne, h2], ?_⟩
    cases b with
    | mp es => exact h3
    | cells cs2 =>
      obtain ⟨vals, e, k1, k2, k3⟩ := h3
      exact ⟨vals, e, k1, RVs_ow hB _ _ _ _ k2, k3⟩
  · rcases hbo with hbo | ⟨rfl, hlt⟩
    · obtain ⟨h1, h2⟩ := hs.mem.imm b o hbo
      refine ⟨h1, fun j => ?_⟩
      simp only [G.ow]
      split
      · simp
      · exact h2 j
    · refine ⟨?_, fun j => by simp [G.ow]⟩
      obtain ⟨_, _, vals, e, k1, _, _⟩ := hs.mem.box _ _ hM
      exact (Array.getElem?_eq_some_iff.1 k1).1
  · simp only [Sl.put]
    split
    · rename_i he
      subst he
      have h0 := hs.slots i
      rw [hs0] at h0
      simp only [RV] at h0 ⊢
      obtain ⟨_, _, vals, e, k1, k2, k3⟩ := hs.mem.box _ _ hM
      have hvl := RVs_length k2
      obtain ⟨q1, q2, q3⟩ := chunks_get n sz ds hn1.symm
      refine .inr ⟨g.box (Γ.n0 + t), n, vals.toArray, e, by rw [q1]; exact h0, by simp [G.ow], k1, by omega, by unfold maxLen; omega, ⟨by simp; omega, fun u hu => k3 u (by simpa using hu)⟩, fun o => ?_, RDL_mk fun i x hx => ⟨q2 x (List.mem_of_getElem? hx), RDc_mk fun j y hy => ?_⟩⟩
      · have hno : ¬ g.imm (g.box (Γ.n0 + t)) o := fun h => (hs.mem.imm _ _ h).2 _ hB
        simp [G.ow, hno, q1]
      · have h4 := q3 i x j y hx hy
        have := RDc_get hD _ y h4
        rw [show 0 + (i * sz + j) = 0 + i * sz + j from by omega] at this
        exact this
    · exact RV_ow hB _ _ _ (by simp) (hc.slots i)
  · simp only [Sl.put]
    split
    · trivial
    · exact hc.onS i
  · have hf := hs.fr
    refine ⟨hf.os, hf.tape, hf.output, hf.size, ⟨fun b o h => .inl (hf.imm.mono b o h), hf.imm.cell⟩, hf.box, fun b hb ho => ?_⟩
    obtain ⟨h1, h2, h3⟩ := hf.old b hb ho
    have hne : b ≠ g.box (Γ.n0 + t) := by
      rintro rfl
      rw [hB] at h1
      rw [← h1] at ho
      exact ho
    exact ⟨by simp [G.ow, hne, h1], h2, fun o => by simp [G.ow, hne, h3]⟩
theorem weak_ownL (t t0 : Nat) {sz n : Nat} {E E' : List (Nat × V)} {L : List (Nat × Bx)} {L' : List (Nat × List V)} {M0 : Mem} {nb : Nat} {cs : List V} (ds : List D) (hM : lookB L t = some (.cells cs)) (hd : toDs cs = some ds) (hs0 : look E t0 = .sl sz (Γ.n0 + t) 0 n n)
    (hn : (Nat.beq (n * sz) ds.length && Nat.ble n 65536) = true) {l : List (List D)} (hl : chunks sz n ds = l) (hE : KL Γ.n0 [t] (look E) E') (hL : KB Γ.n0 [t] L L') (hk : (L.all fun p => [t].any (Nat.beq p.1) || L'.any fun q => Nat.beq p.1 q.1) = true) :
    WeakSt Γ ⟨look E, memOf Γ.n0 L M0, nb⟩ ⟨look ((t0, .own sz l) :: E'), memOf Γ.n0 (bxs L') M0, nb⟩ := by
  intro a w g hs
  subst hl
  have hwk : ∀ i, WkV ((clean Γ.n0 [t] ⟨look E, memOf Γ.n0 L M0, nb⟩).s.put t0 (.own sz (chunks sz n ds)) i) (look ((t0, .own sz (chunks sz n ds)) :: E') i) := by
    intro i
    simp only [Sl.put, look]
    cases hb : Nat.beq i t0 with
    | true => have := Nat.eq_of_beq_eq_true hb; subst this; simp; exact WkV.refl _
    | false =>
      have : i ≠ t0 := fun e => by subst e; simp at hb
      simp only [this, if_false, cond_false]
      exact hE.at i
  obtain ⟨g1, h1⟩ := weak_own (σ := ⟨look E, memOf Γ.n0 L M0, nb⟩) (t := t) (t0 := t0) (by show memOf Γ.n0 L M0 (Γ.n0 + t) = _; rw [memOf_own]; exact hM) hd hs0 hn a w g hs
  exact weak_mem (Γ := Γ) (sites := [t]) (E := E) hwk hL hk a w g1 h1
variable {pc d nb : Nat} {os : List COp} {E : List (Nat × V)} {M M0 : Mem} {L : List (Nat × Bx)} {Q : St → Prop} {gd : Option (Nat × Bool)} {b : Arg} {α : Type} {e : α → List D}
theorem Rn.app0 {t u sz bytes : Nat} {ys zs : List α} {src : V} {cs : List V} (hw : Wn E gd) (ha : look E t = .sl sz (Γ.n0 + u) 0 0 0) (hM : lookB L u = some (.cells cs)) (hb : b.val (look E) = src) (hf : src.dem = src) (hs : elems (memOf Γ.n0 L M0) sz src = some (ys.map e)) (hx : appO ([] : List α) ys = some zs) (hbd : (Nat.ble bytes 128 && Nat.ble 1 sz) = true)
    (h : Rn Γ pc os ⟨look ((d, .own sz (zs.map e)) :: E), memOf Γ.n0 L M0, nb⟩ Q) : Rn Γ pc (⟨some d, .append sz bytes, [.t t, b], true, gd⟩ :: os) ⟨look E, memOf Γ.n0 L M0, nb⟩ Q := by
  unfold appO at hx
  split at hx <;> cases hx
  rename_i hl
  simp only [Bool.and_eq_true] at hbd
  have h1 := Nat.le_of_ble_eq_true hbd.1
  have h2 : 0 < sz := Nat.le_of_ble_eq_true hbd.2
  have hm : [Arg.t t, b].map (fun x => x.val (look E)) = [V.sl sz (Γ.n0 + u) 0 0 0, src] := by
    simp only [List.map_cons, List.map_nil, hb]; rw [show (Arg.t t).val (look E) = _ from ha]
  have he : elems (memOf Γ.n0 L M0) sz (.sl sz (Γ.n0 + u) 0 0 0) = some [] := by simp [elems, boxOwn hM, toDs, chunks]
  refine Rn.kT hw rfl rfl (v := .own sz (([] ++ ys).map e)) ?_ (fun i => ?_) h
  · rw [hm]
    simp only [stepK, he, hs]
    by_cases hy : (ys.map e).length = 0
    · have : ys = [] := by simpa using hy
      subst this
      simp
    · simp only [hy, if_false]
      simp [h1, h2] at hl ⊢
      exact hl
  · rw [hm]
    simp only [takePost, hf, show (V.sl sz (Γ.n0 + u) 0 0 0).dem = .sl sz (Γ.n0 + u) 0 0 0 from rfl, putArgs, show ∀ s v, (Arg.t t).putTo s v = s.put t v from fun _ _ => rfl]
    have hz : ∀ (a : Arg) (v : V) (s : Sl), a.val s = v → a.putTo s v = s := by
      intro a v s hs
      cases a with
      | c v => rfl
      | t j =>
        simp only [Arg.val] at hs
        funext i; simp only [Arg.putTo, Sl.put]; split
        · rename_i e; subst e; exact hs.symm
        · rfl
    have e1 : (look E).put t (.sl sz (Γ.n0 + u) 0 0 0) = look E := hz (.t t) _ _ ha
    rw [e1, hz b src _ hb, put_look]
end Go.Abs
namespace Go.Abs
open Go
theorem WkV.nilsO (sz : Nat) : WkV (.nils sz) (.own sz []) := ⟨fun g w ℓ u h => by
  simp only [RV] at h
  simp only [RV]
  exact .inl ⟨h, trivial⟩, fun _ _ => trivial⟩
theorem WkV.nilsD (sz : Nat) : WkV (.nils sz) (.d (.lst sz [])) := ⟨fun g w ℓ u h => by
  simp only [RV] at h ⊢
  obtain ⟨a, rfl⟩ := h
  simp [RD], fun _ _ => trivial⟩
theorem WkVs.rf {g : G} {w : World} {vs vs' : List V} (h : WkVs vs vs') : ∀ {us : List Value}, RFs g w vs us → RFs g w vs' us := by
  induction h with
  | nil => exact fun h => h
  | cons h t ih =>
    rintro us ⟨u, us', e, h1, h2⟩
    exact ⟨u, us', e, fun ℓ => h.rd _ _ _ _ (h1 ℓ), ih h2⟩
theorem ACalls.weak {P : Program} {f : FuncId} {args args' : List V} {M M' : Mem} {nb nb' : Nat} {r : V} (h : ACalls P f args' M nb r M' nb') (hw : WkVs args args') (hf : V.dems args' = args') : ACalls P f args M nb r M' nb' := by
  refine ⟨h.1, h.2.1, fun w g us hm hMon hfr hus hfl hons => h.2.2 w g us hm hMon hfr (hw.rf hus) (fun x hx => ?_) (hw.on _ hons)⟩
  rw [← hf] at hx
  exact dems_flat x hx
end Go.Abs
end
section
namespace Go.Abs
open Go
set_option linter.unusedVariables false
set_option linter.unusedSimpArgs false
variable {α : Type}
def flatG (g : α → List V) (xs : List α) : List V := (xs.map g).flatten
theorem flatG_cons (g : α → List V) (x : α) (xs : List α) : flatG g (x :: xs) = g x ++ flatG g xs := by simp [flatG]
theorem flatG_length {g : α → List V} {sz : Nat} (hg : ∀ x, (g x).length = sz) : ∀ xs : List α, (flatG g xs).length = xs.length * sz
  | [] => by simp [flatG]
  | x :: xs => by rw [flatG_cons, List.length_append, hg, flatG_length hg xs, List.length_cons, Nat.add_mul]; omega
theorem flatG_drop {g : α → List V} {sz : Nat} (hg : ∀ x, (g x).length = sz) : ∀ (xs : List α) (i : Nat), i ≤ xs.length → (flatG g xs).drop (i * sz) = flatG g (xs.drop i)
  | xs, 0, _ => by simp
  | [], i + 1, h => by simp at h
  | x :: xs, i + 1, h => by
    rw [flatG_cons, Nat.add_mul, Nat.add_comm, Nat.one_mul, ← List.drop_drop, show (g x ++ flatG g xs).drop sz = flatG g xs from by rw [← hg x]; simp]
    rw [flatG_drop hg xs i (by simpa using h)]
    rfl
theorem flatG_take {g : α → List V} {sz : Nat} (hg : ∀ x, (g x).length = sz) : ∀ (xs : List α) (i : Nat), i ≤ xs.length → (flatG g xs).take (i * sz) = flatG g (xs.take i)
  | xs, 0, _ => by simp [flatG]
  | [], i + 1, h => by simp at h
  | x :: xs, i + 1, h => by
    rw [flatG_cons, Nat.add_mul, Nat.add_comm, Nat.one_mul, List.take_append, hg x]
    have h1 : (g x).take (sz + i * sz) = g x := by rw [List.take_of_length_le]; rw [hg x]; omega
    rw [h1, show sz + i * sz - sz = i * sz from by omega, flatG_take hg xs i (by simpa using h), List.take_succ_cons, flatG_cons]
theorem flatG_get {g : α → List V} {sz : Nat} (hg : ∀ x, (g x).length = sz) {xs : List α} {i : Nat} {x : α} (hx : xs[i]? = some x) : ((flatG g xs).drop (i * sz)).take sz = g x := by
  obtain ⟨hlt, hx⟩ := List.getElem?_eq_some_iff.1 hx
  rw [flatG_drop hg xs i (by omega), List.drop_eq_getElem_cons hlt, flatG_cons, hx, ← hg x]
  simp
theorem flatG_set {g : α → List V} {sz : Nat} (hg : ∀ x, (g x).length = sz) {xs : List α} {i : Nat} (y : α) (hi : i < xs.length) : (flatG g xs).take (i * sz) ++ g y ++ (flatG g xs).drop (i * sz + sz) = flatG g (xs.set i y) := by
  rw [flatG_take hg xs i (by omega), show i * sz + sz = (i + 1) * sz from by rw [Nat.add_mul, Nat.one_mul], flatG_drop hg xs (i + 1) (by omega)]
  rw [List.set_eq_take_append_cons_drop, if_pos hi]
  simp [flatG]
theorem flatG_rep (g : α → List V) (x : α) (n : Nat) : flatG g (List.replicate n x) = rep n (g x) := by simp [flatG, rep]
def mkO (n : Int) (x : α) : Option (List α) := if 0 ≤ n ∧ n ≤ lim then some (List.replicate n.toNat x) else none
def inO (len : Nat) (i : Int) : Option Unit := if 0 ≤ i ∧ i < len then some () else none
def setO (l : List α) (i : Int) (y : α) : Option (List α) := if 0 ≤ i ∧ i.toNat < l.length then some (l.set i.toNat y) else none
variable {Γ : Env} {pc d nb : Nat} {os : List COp} {E : List (Nat × V)} {M M0 : Mem} {L : List (Nat × Bx)} {Q : St → Prop} {gd : Option (Nat × Bool)} {a b : Arg} {g : α → List V} {xs : List α} {sz : Nat}
theorem Rn.makes {bytes : Nat} {z : List V} {n : Int} {x : α} (hw : Wn E gd) (ha : a.val (look E) = .d (.int .i64 n)) (hb : b.val (look E) = .d (.int .i64 n)) (hf : (lookB L d).isNone = true) (hz : g x = z) (hc : (Nat.ble bytes 128 && Nat.beq z.length sz && Nat.ble 1 sz) = true) (hx : mkO n x = some xs)
    (h : Rn Γ pc os ⟨look ((d, .sl sz (Γ.n0 + d) 0 n.toNat n.toNat) :: E), memOf Γ.n0 ((d, .cells (flatG g xs)) :: L) M0, nb⟩ Q) : Rn Γ pc (⟨some d, .makes sz bytes z, [a, b], false, gd⟩ :: os) ⟨look E, memOf Γ.n0 L M0, nb⟩ Q := by
  unfold mkO at hx
  split at hx <;> cases hx
  rename_i hn
  simp only [Bool.and_eq_true] at hc
  have h1 := Nat.le_of_ble_eq_true hc.1.1
  have h2 : z.length = sz := Nat.eq_of_beq_eq_true hc.1.2
  have h3 : 0 < sz := Nat.le_of_ble_eq_true hc.2
  refine Rn.k hw rfl rfl ?_ h
  simp only [List.map_cons, List.map_nil, V.dems, ha, hb, V.dem, stepK]
  have hfr := memOf_fresh (Γ := Γ) (M0 := M0) hf
  rw [if_pos (by simp [hn.1, hn.2, h1, h2, h3, hfr]), memOf_put, flatG_rep, hz]
theorem Rn.idxA {k len cap : Nat} {kk : IntKind} {i : Int} (hw : Wn E gd) (ha : (a.val (look E)).dem = .sl sz k 0 len cap) (hb : b.val (look E) = .d (.int kk i)) (hx : inO len i = some ()) (h : Rn Γ pc os ⟨look ((d, .ptr k (0 + i.toNat * sz)) :: E), M, nb⟩ Q) :
    Rn Γ pc (⟨some d, .idx sz, [a, b], false, gd⟩ :: os) ⟨look E, M, nb⟩ Q := by
  unfold inO at hx
  split at hx <;> cases hx
  rename_i hc
  refine Rn.k hw rfl rfl ?_ h
  simp [ha, hb, V.dems, V.dem, stepK, hc.1, hc.2]
theorem Rn.lenA {k off len cap : Nat} (hw : Wn E gd) (ha : (a.val (look E)).dem = .sl sz k off len cap) (h : Rn Γ pc os ⟨look ((d, .d (.int .i64 len)) :: E), M, nb⟩ Q) : Rn Γ pc (⟨some d, .len, [a], false, gd⟩ :: os) ⟨look E, M, nb⟩ Q := by
  refine Rn.k hw rfl rfl ?_ h
  simp [ha, V.dems, stepK]
theorem Rn.loadA {k f n : Nat} {ag : Bool} {i : Int} {x : α} {v : V} (hg : ∀ x, (g x).length = sz) (hw : Wn E gd) (ha : a.val (look E) = .ptr k (0 + i.toNat * sz + f)) (hM : M k = some (.cells (flatG g xs))) (hx : getO xs i = some x) (hn : Nat.ble (f + max n 1) sz = true)
    (hv : (if ag then some (.agg (V.dems (((g x).drop f).take n))) else ((g x)[f]?).map (·.dem)) = some v) (h : Rn Γ pc os ⟨look ((d, v) :: E), M, nb⟩ Q) : Rn Γ pc (⟨some d, .load ag n, [a], false, gd⟩ :: os) ⟨look E, M, nb⟩ Q := by
  have hn := Nat.le_of_ble_eq_true hn
  unfold getO at hx
  split at hx <;> try (cases hx; done)
  obtain ⟨hlt, hx'⟩ := List.getElem?_eq_some_iff.1 hx
  have hl := flatG_length hg xs
  have hge := flatG_get hg hx
  have hb : i.toNat * sz + sz ≤ xs.length * sz := by
    rw [show i.toNat * sz + sz = (i.toNat + 1) * sz from by rw [Nat.add_mul, Nat.one_mul]]
    exact Nat.mul_le_mul_right _ hlt
  refine Rn.k hw rfl rfl ?_ h
  simp only [List.map_cons, List.map_nil, V.dems, ha, V.dem, stepK, hM]
  rw [if_pos (by rw [hl]; omega)]
  have hdrop : (flatG g xs).drop (0 + i.toNat * sz + f) = ((flatG g xs).drop (i.toNat * sz)).drop f := by rw [List.drop_drop]; congr 1; omega
  cases ag with
  | true =>
    simp only [if_true, Option.some.injEq] at hv ⊢
    rw [← hv, ← hge, hdrop, List.drop_take, List.take_take]
    have : min n (sz - f) = n := by omega
    rw [this]
  | false =>
    simp only [Bool.false_eq_true, if_false] at hv ⊢
    have : (flatG g xs)[0 + i.toNat * sz + f]? = (g x)[f]? := by
      rw [← hge, List.getElem?_take, if_pos (by omega), List.getElem?_drop]
      congr 1; omega
    rw [this]
    rw [Option.map_eq_some_iff] at hv
    obtain ⟨y, hy, rfl⟩ := hv
    rw [hy]; rfl
theorem Rn.storeA {t : Nat} {i : Int} {y : α} {ys : List α} {v : V} (hg : ∀ x, (g x).length = sz) (hw : Wn E gd) (ha : a.val (look E) = .ptr (Γ.n0 + t) (0 + i.toNat * sz)) (hb : (b.val (look E)).dem = v) (hv : okPart v = true) (hM : lookB L t = some (.cells (flatG g xs))) (hc : v.cells = g y)
    (hx : setO xs i y = some ys) (h : Rn Γ pc os ⟨look E, memOf Γ.n0 ((t, .cells (flatG g ys)) :: L) M0, nb⟩ Q) : Rn Γ pc (⟨none, .store sz, [a, b], false, gd⟩ :: os) ⟨look E, memOf Γ.n0 L M0, nb⟩ Q := by
  unfold setO at hx
  split at hx <;> cases hx
  rename_i hi
  have hl := flatG_length hg xs
  have hb2 : i.toNat * sz + sz ≤ xs.length * sz := by
    rw [show i.toNat * sz + sz = (i.toNat + 1) * sz from by rw [Nat.add_mul, Nat.one_mul]]
    exact Nat.mul_le_mul_right _ hi.2
  refine Rn.store (cs' := flatG g (xs.set i.toNat y)) hw ha hb hv hM ?_ ?_ h
  · rw [hc, hg, hl]
    simp only [Bool.and_eq_true]
    exact ⟨by simp, Nat.ble_eq_true_of_le (by omega)⟩
  · rw [hc, Nat.zero_add]; exact flatG_set hg y hi.2
theorem mapArr {f : V → V} (h : ∀ x, (g x).map f = g x) : WkVs ((flatG g xs).map f) (flatG g xs) := by
  refine .same ?_
  unfold flatG
  rw [List.map_flatten, List.map_map]
  congr 1
  exact List.map_congr_left fun x _ => h x
theorem chunks_flat {e : α → List D} {sz : Nat} (h : ∀ x, (e x).length = sz) : ∀ xs : List α, chunks sz xs.length ((xs.map e).flatten) = xs.map e
  | [] => rfl
  | x :: xs => by
    simp only [List.length_cons, chunks, List.map_cons, List.flatten_cons]
    have h1 : (e x ++ (xs.map e).flatten).take sz = e x := by rw [← h x]; simp
    have h2 : (e x ++ (xs.map e).flatten).drop sz = (xs.map e).flatten := by rw [← h x]; simp
    rw [h1, h2, chunks_flat h xs]
theorem flat_length {e : α → List D} {sz : Nat} (h : ∀ x, (e x).length = sz) : ∀ xs : List α, ((xs.map e).flatten).length = xs.length * sz
  | [] => by simp
  | x :: xs => by simp only [List.map_cons, List.flatten_cons, List.length_append, h, flat_length h xs, List.length_cons, Nat.add_mul]; omega
end Go.Abs
end
section
namespace Go.Abs
open Go
set_option linter.unusedVariables false
set_option linter.unusedSimpArgs false
set_option linter.unusedSectionVars false
def plainD : D → Bool
  | .lst _ l => l.isEmpty
  | _ => true
def plainDs (l : List (List D)) : Bool := l.all fun x => x.all plainD
def plainV : V → Bool
  | .d x => plainD x
  | .own _ l => plainDs l
  | .cref cs => cs.isEmpty
  | .agg cs => go cs
  | .tup vs => go vs
  | .clo _ vs => go vs
  | _ => true
where go : List V → Bool
  | [] => true
  | v :: vs => plainV v && go vs
theorem plain_go : ∀ vs : List V, plainV.go vs = true ↔ ∀ v ∈ vs, plainV v = true
  | [] => by simp [plainV.go]
  | v :: vs => by simp [plainV.go, plain_go vs]
theorem RD_plain {imm imm' : Nat → Nat → Prop} {w : World} {x : D} {u : Value} (hp : plainD x = true) (h : RD imm w x u) : RD imm' w x u := by
  cases x with
  | int k n => simpa [RD] using h
  | bool b => simpa [RD] using h
  | str s => simpa [RD] using h
  | lst sz l =>
    simp only [plainD, List.isEmpty_iff] at hp
    subst hp
    simp only [RD] at h ⊢
    obtain ⟨a, cap, h1, h2, _⟩ := h
    exact ⟨a, cap, h1, h2, .inl trivial⟩
theorem RDc_plain {imm imm' : Nat → Nat → Prop} {w : World} {b : Nat} (hi : ∀ o, imm b o → imm' b o) : ∀ {xs : List D} {o : Nat}, xs.all plainD = true → RDc imm w b xs o → RDc imm' w b xs o
  | [], _, _, _ => by simp [RDc]
  | x :: xs, o, hp, h => by
    simp only [List.all_cons, Bool.and_eq_true] at hp
    simp only [RDc] at h ⊢
    obtain ⟨h1, ⟨u, h2, h3⟩, h4⟩ := h
    exact ⟨hi _ h1, ⟨u, h2, RD_plain hp.1 h3⟩, RDc_plain hi hp.2 h4⟩
theorem RDL_plain {imm imm' : Nat → Nat → Prop} {w : World} {sz b : Nat} (hi : ∀ o, imm b o → imm' b o) : ∀ {l : List (List D)} {o : Nat}, plainDs l = true → RDL imm w sz b l o → RDL imm' w sz b l o
  | [], _, _, _ => by simp [RDL]
  | x :: l, o, hp, h => by
    simp only [plainDs, List.all_cons, Bool.and_eq_true] at hp
    simp only [RDL] at h ⊢
    exact ⟨h.1, RDc_plain hi hp.1 h.2.1, RDL_plain hi (by simpa [plainDs] using hp.2) h.2.2⟩
theorem RDL_flat {imm : Nat → Nat → Prop} {w : World} {sz b : Nat} : ∀ {l : List (List D)} {o : Nat}, RDL imm w sz b l o → l.flatten.length = l.length * sz ∧ ∀ (j : Nat) y, l.flatten[j]? = some y → ∃ u, w.cell? ⟨b, o + j, none⟩ = some u ∧ RD imm w y u
  | [], o, _ => by simp
  | x :: l, o, h => by
    simp only [RDL] at h
    obtain ⟨h1, h2, h3⟩ := h
    obtain ⟨h4, h5⟩ := RDL_flat h3
    refine ⟨by simp [h1, h4, Nat.add_mul]; omega, fun j y hj => ?_⟩
    simp only [List.flatten_cons] at hj
    by_cases hlt : j < x.length
    · rw [List.getElem?_append_left hlt] at hj
      obtain ⟨_, u, h6, h7⟩ := RDc_get h2 j y hj
      exact ⟨u, h6, h7⟩
    · rw [List.getElem?_append_right (by omega)] at hj
      obtain ⟨u, h6, h7⟩ := h5 _ y hj
      exact ⟨u, by rw [show o + j = o + sz + (j - x.length) from by omega]; exact h6, h7⟩
def G.th (g : G) (b κ : Nat) [DecidablePred fun b' => b' = b] : G := ⟨fun k => if k = κ then b else g.box k, fun b' o => g.imm b' o ∧ b' ≠ b, fun b' => if b' = b then .box κ else g.own b'⟩
section
variable {g : G} {w : World} {b κ : Nat} {keep : Owner → Prop} (hB : ¬ keep (g.own b)) (hs : ∀ ℓ i, keep ℓ → keep (ℓ.sub i)) (he : keep .ext)
include hB hs he
mutual
theorem RV_th [DecidablePred fun b' => b' = b] : ∀ (v : V) (ℓ : Owner) (u : Value), plainV v = true → v.on (· ≠ κ) → keep ℓ → RV g w v ℓ u → RV (g.th b κ) w v ℓ u
  | .und, _, _, _, _, _, _ => by simp [RV]
  | .d x, _, _, hp, _, _, h => by
    simp only [RV, plainV] at hp h ⊢
    exact RD_plain hp h
  | .agg cs, ℓ, u, hp, ho, hl, h => by
    simp only [RV, plainV] at hp h ⊢
    obtain ⟨vs, rfl, h, h1⟩ := h
    exact ⟨vs, rfl, RVs_th cs ℓ 0 vs hp ho hl h, h1⟩
  | .tup cs, ℓ, u, hp, ho, hl, h => by
    simp only [RV, plainV] at hp h ⊢
    obtain ⟨vs, rfl, h⟩ := h
    exact ⟨vs, rfl, RVs_th cs ℓ 0 vs hp ho hl h⟩
  | .own sz l, ℓ, u, hp, ho, hl, h => by
    simp only [RV, plainV] at hp h ⊢
    rcases h with h | ⟨b', cap, vals, e, h1, h2, h3, h4, h5, h6, h7, h8⟩
    · exact .inl h
    · have hne : b' ≠ b := by rintro rfl; rw [h2] at hB; exact hB hl
      refine .inr ⟨b', cap, vals, e, h1, by simp [G.th, hne, h2], h3, h4, h5, h6, fun o => ?_, RDL_plain (fun o ho => ⟨ho, hne⟩) hp h8⟩
      rw [← h7 o]
      simp [G.th, hne]
  | .ptr k' o, ℓ, u, _, ho, hl, h => by
    have : k' ≠ κ := ho
    simpa [RV, G.th, this] using h
  | .nilp, _, _, _, _, _, h => by simpa [RV] using h
  | .f x, _, u, _, _, _, h => by
    simp only [RV] at h ⊢
    refine RD_mono (immf_g (g := g) (g' := g.th b κ) fun b' o h1 h2 => ?_) x u h
    have hne : b' ≠ b := by rintro rfl; rw [h2] at hB; exact hB he
    exact ⟨⟨h1, hne⟩, by simp [G.th, hne, h2]⟩
  | .nils _, _, _, _, _, _, h => by simpa [RV] using h
  | .cref cs, ℓ, u, hp, _, hl, h => by
    simp only [plainV, List.isEmpty_iff] at hp
    subst hp
    simp only [RV] at h ⊢
    obtain ⟨b', o, rfl, _⟩ := h
    exact ⟨b', o, rfl, by simp [RDc]⟩
  | .sl sz k' o n c, ℓ, u, _, ho, hl, h => by
    have : k' ≠ κ := ho
    simpa [RV, G.th, this] using h
  | .clo f cs, ℓ, u, hp, ho, hl, h => by
    simp only [RV, plainV] at hp h ⊢
    obtain ⟨vs, rfl, h⟩ := h
    exact ⟨vs, rfl, RVs_th cs .ext 0 vs hp ho he h⟩
  | .mp k', ℓ, u, _, ho, hl, h => by
    have : k' ≠ κ := ho
    simpa [RV, G.th, this] using h
theorem RVs_th [DecidablePred fun b' => b' = b] : ∀ (cs : List V) (ℓ : Owner) (i : Nat) (us : List Value), plainV.go cs = true → V.ons (· ≠ κ) cs → keep ℓ → RVs g w cs ℓ i us → RVs (g.th b κ) w cs ℓ i us
  | [], _, _, _, _, _, _, h => by simpa [RVs] using h
  | c :: cs, ℓ, i, us, hp, ho, hl, h => by
    simp only [plainV.go, Bool.and_eq_true] at hp
    simp only [RVs] at h ⊢
    obtain ⟨u, us', rfl, h1, h2⟩ := h
    exact ⟨u, us', rfl, RV_th c (ℓ.sub i) u hp.1 ho.1 (hs _ _ hl) h1, RVs_th cs ℓ (i + 1) us' hp.2 ho.2 hl h2⟩
end
end
variable {Γ : Env} {σ : St}
def thCells (l : List (List D)) (room : Nat) : List V := l.flatten.map V.d ++ List.replicate room .und
structure Lone (Γ : Env) : Prop where
  prot : ∀ b, Prot (Γ.g0.own b)
  imm : ∀ b o, Γ.g0.imm b o → b < Γ.w0.heap.size
theorem Lone.old {Γ : Env} (h : Lone Γ) {g : G} {w : World} (hf : Fr Γ.n0 Γ.g0 Γ.w0 g w) {b : Nat} (hb : ¬ Prot (g.own b)) : ¬ b < Γ.w0.heap.size := by
  intro hlt
  obtain ⟨h1, _, _⟩ := hf.old b hlt (h.prot b)
  rw [h1] at hb
  exact hb (h.prot b)
open Classical in
theorem thaw_core (hG : Lone Γ) {a : Act} {w : World} {g : G} (hs : SR Γ.n0 Γ.nt Γ.g0 Γ.w0 σ a w g) {κ sz : Nat} {l : List (List D)} {ℓ : Owner} {u : Value} (keep : Owner → Prop) (hkeep : ¬ keep ℓ) (hsub : ∀ o i, keep o → keep (o.sub i)) (he : keep .ext) (hℓ : ¬ Prot ℓ)
    (hown : RV g w (.own sz l) ℓ u) (hl : l ≠ []) (hpl : plainDs l = true) (hκ : Γ.n0 ≤ κ) (hκ2 : κ < σ.nb) (hκM : σ.M κ = none) :
    ∃ c b, l.length ≤ c ∧ c ≤ maxLen ∧ u = .slice (some ⟨b, 0, none⟩) l.length c ∧ g.own b = ℓ ∧ (g.th b κ).box κ = b ∧ BR (g.th b κ) w κ (.cells (thCells l ((c - l.length) * sz))) ∧ Fr Γ.n0 Γ.g0 Γ.w0 (g.th b κ) w ∧
      (∀ b' o, (g.th b κ).imm b' o → b' < w.heap.size ∧ ∀ k, (g.th b κ).own b' ≠ .box k) ∧ ∀ k, There σ.M k → k ≠ κ := by
  simp only [RV] at hown
  rcases hown with ⟨_, h⟩ | ⟨b, cap, vals, e, rfl, hb, hh, h4, h5, ⟨h6, h6'⟩, h7, h8⟩
  · exact absurd h hl
  have hnp : ¬ Prot (g.own b) := by rw [hb]; exact hℓ
  have hnew := hG.old hs.fr hnp
  have hk' : ¬ keep (g.own b) := by rw [hb]; exact hkeep
  refine ⟨cap, b, h4, h5, rfl, hb, by simp [G.th], ⟨vals.toList, e, by simpa [G.th] using hh, ?_, h6'⟩, ?_, ?_, ?_⟩
  · have h8' : RDL (g.th b κ).imm w sz b l 0 → False ∨ True := fun _ => .inr trivial
    obtain ⟨hfl, hfg⟩ := RDL_flat h8
    have hlen : vals.toList.length = (thCells l ((cap - l.length) * sz)).length := by
      simp only [thCells, List.length_append, List.length_map, List.length_replicate, hfl, Array.length_toList, h6]
      rw [← Nat.add_mul]; congr 1; omega
    refine (RVs_iff _ _ _ _).2 ⟨hlen, fun j c x hc hx => ?_⟩
    simp only [thCells] at hc
    by_cases hj : j < l.flatten.length
    · rw [List.getElem?_append_left (by rw [List.length_map]; exact hj), List.getElem?_map] at hc
      obtain ⟨y, hy, rfl⟩ := Option.map_eq_some_iff.1 hc
      obtain ⟨x', hx1, hx2⟩ := hfg j y hy
      have hcell : w.cell? ⟨b, 0 + j, none⟩ = vals[j]? := by simp [World.cell?, hh]
      rw [hcell] at hx1
      have : x = x' := by
        have h9 : vals[j]? = some x := by simpa using hx
        rw [h9] at hx1; exact Option.some.inj hx1
      subst this
      have hmem : y ∈ l.flatten := List.mem_of_getElem? hy
      obtain ⟨r, hr1, hr2⟩ := List.mem_flatten.1 hmem
      have hp : plainD y = true := List.all_eq_true.1 (List.all_eq_true.1 hpl r hr1) y hr2
      simp only [RV]
      exact RD_plain hp hx2
    · rw [List.getElem?_append_right (by rw [List.length_map]; omega)] at hc
      have : c = .und := by
        have := List.mem_of_getElem? hc
        exact (List.mem_replicate.1 this).2
      subst this; simp [RV]
  · have hf := hs.fr
    refine ⟨hf.os, hf.tape, hf.output, hf.size, ⟨fun b' o hi => ⟨hf.imm.mono b' o hi, ?_⟩, hf.imm.cell⟩, fun k hk => ?_, fun b' hb' ho => ?_⟩
    · rintro rfl; exact hnew (hG.imm _ _ hi)
    · have : k ≠ κ := by omega
      simp only [G.th, this, if_false]; exact hf.box k hk
    · have hne : b' ≠ b := by rintro rfl; exact hnew hb'
      obtain ⟨k1, k2, k3⟩ := hf.old b' hb' ho
      exact ⟨by simp [G.th, hne, k1], k2, fun o => by simp [G.th, hne, k3]⟩
  · rintro b' o ⟨hi, hne⟩
    obtain ⟨k1, k2⟩ := hs.mem.imm b' o hi
    exact ⟨k1, fun k => by simp only [G.th, hne, if_false]; exact k2 k⟩
  · rintro k hk rfl
    simp [There, hκM] at hk
theorem on_ne {M : Mem} {κ : Nat} (hκ : ∀ k, There M k → k ≠ κ) {v : V} (h : v.on fun k => (M k).isSome = true) : v.on (· ≠ κ) := on_mono (fun k hk => hκ k hk) v h
open Classical in
theorem Tr.thawS {cc : CC} {Q : Ex → St → Prop} (hG : Lone Γ) {t κ sz : Nat} {l : List (List D)} (hl : l ≠ []) (hpl : plainDs l = true) (hs0 : σ.s t = .own sz l) (hκ : Γ.n0 ≤ κ) (hκ2 : κ < σ.nb) (hκM : σ.M κ = none)
    (hps : ∀ t', t' ≠ t → plainV (σ.s t') = true) (hpm : ∀ k cs, σ.M k = some (.cells cs) → plainV.go cs = true)
    (h : ∀ c, l.length ≤ c → c ≤ maxLen → Tr Γ cc ⟨σ.s.put t (.sl sz κ 0 l.length c), σ.M.put κ (.cells (thCells l ((c - l.length) * sz))), σ.nb⟩ Q) : Tr Γ cc σ Q := by
  intro code hcode a w g hs
  have hslot := hs.slots t
  rw [hs0] at hslot
  have hsub : ∀ (o : Owner) i, o ≠ .slot t [] → o.sub i ≠ .slot t [] := by intro o i ho; cases o <;> simp_all [Owner.sub]
  obtain ⟨c, b, h1, h2, hu, hb, hbox, hbr, hfr, himm, hne⟩ := thaw_core hG hs (fun o => o ≠ .slot t []) (by simp) hsub (by simp) (by simp [Prot]) hslot hl hpl hκ hκ2 hκM
  have hk' : ¬ (fun o => o ≠ Owner.slot t []) (g.own b) := by simp [hb]
  refine h c h1 h2 code hcode a w (g.th b κ) ⟨⟨fun k bx hk => ?_, himm⟩, fun t' => ?_, hs.size, hs.defers, fun t' => ?_, fun k cs hk => ?_, hs.top, hfr⟩
  · replace hk : (σ.M.put κ (.cells (thCells l ((c - l.length) * sz)))) k = some bx := hk
    by_cases hkk : k = κ
    · subst hkk
      rw [put_same] at hk; cases hk
      exact ⟨hκ2, by rw [hbox]; simp [G.th], hbr⟩
    · rw [put_other _ _ hkk] at hk
      obtain ⟨k1, k2, k3⟩ := hs.mem.box k bx hk
      have hbx : (g.th b κ).box k = g.box k := by simp [G.th, hkk]
      have hne' : g.box k ≠ b := by
        rintro rfl
        rw [k2] at hb; cases hb
      refine ⟨k1, by rw [hbx]; simp [G.th, hne', k2], ?_⟩
      cases bx with
      | mp es => exact k3.elim
      | cells cs =>
        obtain ⟨vals, e, q1, q2, q3⟩ := k3
        refine ⟨vals, e, by rw [hbx]; exact q1, RVs_th hk' hsub (by simp) cs (.box k) 0 vals (hpm k cs hk) ?_ (by simp) q2, q3⟩
        exact ons_mono (fun j hj => hne j hj) _ (hs.onM k cs hk).1
  · simp only [Sl.put]
    split
    · rename_i he; subst he
      simp only [RV]; rw [hbox]; exact hu
    · rename_i hne2
      refine RV_th hk' hsub (by simp) _ _ _ (hps t' hne2) (on_ne hne (hs.onS t')) ?_ (hs.slots t')
      simp; exact hne2
  · simp only [Sl.put]
    split
    · show There _ κ; exact There.self
    · exact on_mono (fun k hk => There.put hk) _ (hs.onS t')
  · replace hk : (σ.M.put κ (.cells (thCells l ((c - l.length) * sz)))) k = some (.cells cs) := hk
    by_cases hkk : k = κ
    · subst hkk
      rw [put_same] at hk; cases hk
      have hno : ∀ p : Nat → Prop, V.ons p (thCells l ((c - l.length) * sz)) := by
        intro p
        rw [ons_iff]
        intro v hv
        simp only [thCells, List.mem_append, List.mem_map, List.mem_replicate] at hv
        rcases hv with ⟨x, _, rfl⟩ | ⟨_, rfl⟩ <;> trivial
      exact ⟨hno _, fun _ => hno _⟩
    · rw [put_other _ _ hkk] at hk
      obtain ⟨q1, q2⟩ := hs.onM k cs hk
      exact ⟨ons_mono (fun j hj => There.put hj) _ q1, q2⟩
open Classical in
theorem Tr.thawC {cc : CC} {Q : Ex → St → Prop} (hG : Lone Γ) {k0 i κ sz : Nat} {l : List (List D)} {cs0 : List V} (hl : l ≠ []) (hpl : plainDs l = true) (hk0 : Γ.n0 ≤ k0) (hM0 : σ.M k0 = some (.cells cs0)) (hi : cs0[i]? = some (.own sz l)) (hκ : Γ.n0 ≤ κ) (hκ2 : κ < σ.nb) (hκM : σ.M κ = none)
    (hps : ∀ t', plainV (σ.s t') = true) (hpm : ∀ k cs, σ.M k = some (.cells cs) → plainV.go (if k = k0 then cs.set i .und else cs) = true)
    (h : ∀ c, l.length ≤ c → c ≤ maxLen → Tr Γ cc ⟨σ.s, (σ.M.put k0 (.cells (cs0.set i (.sl sz κ 0 l.length c)))).put κ (.cells (thCells l ((c - l.length) * sz))), σ.nb⟩ Q) : Tr Γ cc σ Q := by
  intro code hcode a w g hs
  obtain ⟨u0, hcell, hrv0, _⟩ := box_cell hs.mem hM0 hi
  have hsub : ∀ (o : Owner) j, (o ≠ .cell k0 i ∧ o ≠ .box k0) → (o.sub j ≠ .cell k0 i ∧ o.sub j ≠ .box k0) := by
    rintro o j ⟨h1, h2⟩
    cases o <;> simp_all [Owner.sub]
  have hnk : k0 ≠ κ := by rintro rfl; rw [hM0] at hκM; cases hκM
  obtain ⟨c, b, h1, h2, hu, hb, hbox, hbr, hfr, himm, hne⟩ := thaw_core hG hs (fun o => o ≠ .cell k0 i ∧ o ≠ .box k0) (by simp) hsub (by simp) (by simp [Prot]) hrv0 hl hpl hκ hκ2 hκM
  have hk' : ¬ (fun o => o ≠ Owner.cell k0 i ∧ o ≠ .box k0) (g.own b) := by simp [hb]
  have hther : ∀ j, There σ.M j → There ((σ.M.put k0 (.cells (cs0.set i (.sl sz κ 0 l.length c)))).put κ (.cells (thCells l ((c - l.length) * sz)))) j := fun j hj => There.put (There.put hj)
  refine h c h1 h2 code hcode a w (g.th b κ) ⟨⟨fun k bx hk => ?_, himm⟩, fun t' => ?_, hs.size, hs.defers, fun t' => ?_, fun k cs hk => ?_, hs.top, hfr⟩
  · replace hk : ((σ.M.put k0 (.cells (cs0.set i (.sl sz κ 0 l.length c)))).put κ (.cells (thCells l ((c - l.length) * sz)))) k = some bx := hk
    by_cases hkk : k = κ
    · subst hkk
      rw [put_same] at hk; cases hk
      exact ⟨hκ2, by rw [hbox]; simp [G.th], hbr⟩
    · rw [put_other _ _ hkk] at hk
      have hbx : (g.th b κ).box k = g.box k := by simp [G.th, hkk]
      by_cases hkz : k = k0
      · subst hkz
        rw [put_same] at hk; cases hk
        obtain ⟨k1, k2, vals, e, q1, q2, q3⟩ := hs.mem.box k _ hM0
        have hne' : g.box k ≠ b := by
          rintro rfl
          rw [k2] at hb; cases hb
        refine ⟨k1, by rw [hbx]; simp [G.th, hne', k2], vals, e, by rw [hbx]; exact q1, (RVs_iff _ _ _ _).2 ⟨?_, fun j d x hd hx => ?_⟩, q3⟩
        · rw [List.length_set]; exact RVs_length q2
        · obtain ⟨r1, r2⟩ := (RVs_iff _ _ _ _).1 q2
          by_cases hj : j = i
          · subst hj
            have hlt := (List.getElem?_eq_some_iff.1 hi).1
            rw [List.getElem?_set_self hlt] at hd; cases hd
            have hcx : w.cell? ⟨g.box k, j, none⟩ = some x := by
              have h9 : vals.toArray[j]? = some x := by simpa using hx
              simp [World.cell?, q1]; simpa using hx
            rw [hcell] at hcx; cases hcx
            simp only [RV]; rw [hbox]; exact hu
          · rw [List.getElem?_set_ne (Ne.symm hj)] at hd
            have hpl2 := hpm k cs0 hM0
            rw [if_pos rfl, plain_go] at hpl2
            have hmem : d ∈ cs0.set i .und := by
              have : (cs0.set i .und)[j]? = some d := by rw [List.getElem?_set_ne (Ne.symm hj)]; exact hd
              exact List.mem_of_getElem? this
            refine RV_th hk' hsub (by simp) d _ x (hpl2 d hmem) ?_ ?_ (r2 j d x hd hx)
            · exact on_mono (fun j hj => hne j hj) _ (ons_get (hs.onM k cs0 hM0).1 hd)
            · simp [Owner.sub]; omega
      · rw [put_other _ _ hkz] at hk
        obtain ⟨k1, k2, k3⟩ := hs.mem.box k bx hk
        have hne' : g.box k ≠ b := by
          rintro rfl
          rw [k2] at hb; cases hb
        refine ⟨k1, by rw [hbx]; simp [G.th, hne', k2], ?_⟩
        cases bx with
        | mp es => exact k3.elim
        | cells cs =>
          obtain ⟨vals, e, q1, q2, q3⟩ := k3
          have hp := hpm k cs hk
          rw [if_neg hkz] at hp
          refine ⟨vals, e, by rw [hbx]; exact q1, RVs_th hk' hsub (by simp) cs (.box k) 0 vals hp ?_ ⟨by simp, by simpa using hkz⟩ q2, q3⟩
          exact ons_mono (fun j hj => hne j hj) _ (hs.onM k cs hk).1
  · exact RV_th hk' hsub (by simp) _ _ _ (hps t') (on_ne hne (hs.onS t')) (by simp) (hs.slots t')
  · exact on_mono hther _ (hs.onS t')
  · replace hk : ((σ.M.put k0 (.cells (cs0.set i (.sl sz κ 0 l.length c)))).put κ (.cells (thCells l ((c - l.length) * sz)))) k = some (.cells cs) := hk
    by_cases hkk : k = κ
    · subst hkk
      rw [put_same] at hk; cases hk
      have hno : ∀ p : Nat → Prop, V.ons p (thCells l ((c - l.length) * sz)) := by
        intro p
        rw [ons_iff]
        intro v hv
        simp only [thCells, List.mem_append, List.mem_map, List.mem_replicate] at hv
        rcases hv with ⟨x, _, rfl⟩ | ⟨_, rfl⟩ <;> trivial
      exact ⟨hno _, fun _ => hno _⟩
    · rw [put_other _ _ hkk] at hk
      by_cases hkz : k = k0
      · subst hkz
        rw [put_same] at hk; cases hk
        obtain ⟨q1, q2⟩ := hs.onM k cs0 hM0
        refine ⟨ons_set i (ons_mono hther _ q1) ?_, fun hlt => absurd hlt (by omega)⟩
        show There _ κ; exact There.self
      · rw [put_other _ _ hkz] at hk
        obtain ⟨q1, q2⟩ := hs.onM k cs hk
        exact ⟨ons_mono hther _ q1, q2⟩
end Go.Abs
end
section
namespace Go.Abs
open Go Go.Sort
set_option linter.unusedVariables false
set_option linter.unusedSimpArgs false
set_option linter.unusedSectionVars false
def D.val : D → Value
  | .int k n => .int k n
  | .bool b => .bool b
  | .str s => .string s
  | .lst _ _ => .slice none 0 0
def D.scalar : D → Bool
  | .lst _ _ => false
  | _ => true
theorem RD_val {imm : Nat → Nat → Prop} {w : World} {x : D} {u : Value} (hs : x.scalar = true) : RD imm w x u ↔ u = x.val := by
  cases x <;> simp [RD, D.val, D.scalar] at hs ⊢
theorem val_one {x : D} (hs : x.scalar = true) : x.val.oneCell' = true := by cases x <;> simp [D.scalar, D.val] at hs ⊢ <;> rfl
def rowV {α : Type} (e : α → List D) (xs : List α) : List Value := (xs.map e).flatten.map D.val
theorem heap_putRow (w : World) (n blk : Nat) (F : Array Value) (os : Array Obj) {c : Array Value} {e : TypeId} (h : w.heap[blk]? = some (.cells c e (0, 0))) : (grow (putRow id (Sort.ahead w n) blk 0 F) os).heap[blk]? = some (.cells (putCells id 0 F c) e (0, 0)) := by
  have hlt : blk < w.heap.size := (Array.getElem?_eq_some_iff.1 h).1
  have hsz : (putRow id (Sort.ahead w n) blk 0 F).heap.size = w.heap.size := by simp [putRow, mapBlock, Sort.ahead]
  rw [heap_grow_old _ _ (by rw [hsz]; exact hlt)]
  show (w.heap.modify blk (onCells (putCells id 0 F)))[blk]? = _
  rw [Array.getElem?_modify, if_pos rfl, h]
  rfl
theorem heap_putRow_other (w : World) (n blk : Nat) (F : Array Value) (os : Array Obj) {b : Nat} (hb : b ≠ blk) (hlt : b < w.heap.size) : (grow (putRow id (Sort.ahead w n) blk 0 F) os).heap[b]? = w.heap[b]? := by
  have hsz : (putRow id (Sort.ahead w n) blk 0 F).heap.size = w.heap.size := by simp [putRow, mapBlock, Sort.ahead]
  rw [heap_grow_old _ _ (by rw [hsz]; exact hlt)]
  show (w.heap.modify blk (onCells (putCells id 0 F)))[b]? = _
  rw [Array.getElem?_modify, if_neg (Ne.symm hb)]
def RowFn {α : Type} (P : Program) (f : FuncId) (e : α → List D) (ex : Array Value) (srt : List α → List α) : Prop :=
  ∀ (blk cap : Nat) (xs : List α) (w : World), (∀ j, j < (rowV e xs).length → w.cell? ⟨blk, j, none⟩ = (rowV e xs)[j]? ∧ w.frozen? ⟨blk, j, none⟩ = false) → blk < w.heap.size → xs.length < 4611686018427387904 →
    Calls P f (#[.slice (some ⟨blk, 0, none⟩) xs.length cap] ++ ex) w fun e' w' => e' = .returned (.tuple #[]) ∧ ∃ n os, w' = grow (putRow id (Sort.ahead w n) blk 0 (rowV e (srt xs)).toArray) os
theorem rowV_len {α : Type} {e : α → List D} {sz : Nat} (hlen : ∀ x, (e x).length = sz) (xs : List α) : (rowV e xs).length = xs.length * sz := by
  simp only [rowV, List.length_map]
  induction xs with
  | nil => simp
  | cons x xs ih => simp [hlen, ih, Nat.add_mul]; omega
theorem acalls_row {α : Type} {P : Program} {f : FuncId} {e : α → List D} {sz : Nat} (hlen : ∀ x, (e x).length = sz) (hsc : ∀ x, (e x).all D.scalar = true) {srt : List α → List α} (hsl : ∀ xs, (srt xs).length = xs.length)
    {ex : Array Value} {exV : List V} (hex : ∀ g w us, RFs g w exV us → us = ex.toList) (hb : HasBody P f = true) (hK : RowFn P f e ex srt)
    (xs : List α) (c k0 : Nat) (M : Mem) (nb : Nat) (hM : M k0 = some (.cells (thCells (xs.map e) ((c - xs.length) * sz)))) (hsz : xs.length < 4611686018427387904) :
    ACalls P f (.sl sz k0 0 xs.length c :: exV) M nb (.tup []) (M.put k0 (.cells (thCells ((srt xs).map e) ((c - xs.length) * sz)))) nb := by
  refine ⟨hb, Nat.le_refl _, fun w g us hm hMon hfresh hus hfl hons => ?_⟩
  obtain ⟨u0, us', rfl, hu0, hus'⟩ := hus
  have h0 := RF_sl.1 hu0
  subst h0
  have h1 := hex _ _ _ hus'
  obtain ⟨hk0, hown, vals, et, hh, hrv, hone⟩ := hm.box k0 _ hM
  have hlt : g.box k0 < w.heap.size := (Array.getElem?_eq_some_iff.1 hh).1
  obtain ⟨hvl, hvr⟩ := (RVs_iff _ _ _ _).1 hrv
  have hscf : ∀ (l : List α), ∀ y ∈ (l.map e).flatten, y.scalar = true := by
    intro l y hy
    obtain ⟨r, hr, hy⟩ := List.mem_flatten.1 hy
    obtain ⟨x, _, rfl⟩ := List.mem_map.1 hr
    exact List.all_eq_true.1 (hsc x) y hy
  have hfl' : ∀ l : List α, (l.map e).flatten.length = l.length * sz := fun l => by have := rowV_len hlen l; rw [rowV, List.length_map] at this; exact this
  have hcell : ∀ j, j < (rowV e xs).length → vals[j]? = (rowV e xs)[j]? := by
    intro j hj
    rw [rowV_len hlen] at hj
    have hjf : j < (xs.map e).flatten.length := by rw [hfl']; exact hj
    have hjv : j < vals.length := by
      rw [hvl]; simp only [thCells, List.length_append, List.length_map]; omega
    have hc : (thCells (xs.map e) ((c - xs.length) * sz))[j]? = some (.d (xs.map e).flatten[j]) := by
      simp only [thCells]
      rw [List.getElem?_append_left (by rw [List.length_map]; exact hjf), List.getElem?_map, List.getElem?_eq_getElem hjf]; rfl
    have := hvr j _ _ hc (List.getElem?_eq_getElem hjv)
    simp only [RV] at this
    rw [RD_val (hscf xs _ (List.getElem_mem hjf))] at this
    rw [List.getElem?_eq_getElem hjv, this]
    simp only [rowV, List.getElem?_map, List.getElem?_eq_getElem hjf, Option.map_some]
  have hcall := hK (g.box k0) c xs w (fun j hj => ⟨by rw [← hcell j hj]; simp [World.cell?, hh], by simp [World.frozen?, hh]⟩) hlt hsz
  have hus2 : (Value.slice (some ⟨g.box k0, 0, none⟩) xs.length c :: us').toArray = #[.slice (some ⟨g.box k0, 0, none⟩) xs.length c] ++ ex := by
    rw [h1]; apply Array.ext'; simp
  rw [hus2]
  refine hcall.mono ?_
  rintro e' w' ⟨rfl, n, os, rfl⟩
  generalize hF : (rowV e (srt xs)).toArray = F
  have hFs : F.size = xs.length * sz := by rw [← hF]; simp [rowV_len hlen, hsl]
  have hblk := heap_putRow w n (g.box k0) F os hh
  have hoth : ∀ b, b ≠ g.box k0 → b < w.heap.size → (grow (putRow id (Sort.ahead w n) (g.box k0) 0 F) os).heap[b]? = w.heap[b]? := fun b hb hlt => heap_putRow_other w n _ F os hb hlt
  have hsize : w.heap.size ≤ (grow (putRow id (Sort.ahead w n) (g.box k0) 0 F) os).heap.size := by
    simp [putRow, mapBlock, Sort.ahead]
  generalize hw' : grow (putRow id (Sort.ahead w n) (g.box k0) 0 F) os = w' at hblk hoth hsize
  have himm : Imm g.imm g.imm w w' := by
    refine ⟨fun _ _ h => h, fun b o h => ?_⟩
    obtain ⟨k1, k2⟩ := hm.imm b o h
    have hne : b ≠ g.box k0 := by rintro rfl; exact k2 k0 hown
    simp only [World.cell?, hoth b hne k1]
  have hkept : Kept g w g w' (There M) (fun o => o ≠ .box k0) := ⟨himm, fun _ _ => rfl, fun b hb hl => ⟨rfl, hoth b (by rintro rfl; exact hb hown) hl, fun _ => Iff.rfl⟩⟩
  have hsub : ∀ (o : Owner) i, o ≠ .box k0 → o.sub i ≠ .box k0 := by intro o i _; cases o <;> simp [Owner.sub]
  have hnew : ∀ p : Nat → Prop, V.ons p (thCells ((srt xs).map e) ((c - xs.length) * sz)) := by
    intro p
    rw [ons_iff]
    intro v hv
    simp only [thCells, List.mem_append, List.mem_map, List.mem_replicate] at hv
    rcases hv with ⟨x, _, rfl⟩ | ⟨_, rfl⟩ <;> trivial
  refine ⟨_, g, rfl, ⟨fun k b hk => ?_, fun b o h => ⟨Nat.lt_of_lt_of_le (hm.imm b o h).1 hsize, (hm.imm b o h).2⟩⟩, ⟨[], rfl, rfl⟩, trivial, fun k cs hk => ?_, ?_⟩
  · by_cases hkk : k = k0
    · subst hkk
      rw [put_same] at hk; cases hk
      refine ⟨hk0, hown, (putCells id 0 F vals.toArray).toList, et, by simpa using hblk, (RVs_iff _ _ _ _).2 ⟨?_, fun j cc x hc hx => ?_⟩, fun x hx => ?_⟩
      · have e1 : (thCells (xs.map e) ((c - xs.length) * sz)).length = xs.length * sz + (c - xs.length) * sz := by
          simp only [thCells, List.length_append, List.length_map, List.length_replicate, hfl']
        have e2 : (thCells ((srt xs).map e) ((c - xs.length) * sz)).length = xs.length * sz + (c - xs.length) * sz := by
          simp only [thCells, List.length_append, List.length_map, List.length_replicate, hfl', hsl]
        rw [e2, ← e1, ← hvl]
        simp [putCells]
      · have hx' : (putCells id 0 F vals.toArray)[j]? = some x := by simpa using hx
        simp only [putCells, Array.getElem?_mapIdx, List.getElem?_toArray, Option.map_eq_some_iff] at hx'
        obtain ⟨y, hy, rfl⟩ := hx'
        simp only [thCells] at hc
        by_cases hj : j < ((srt xs).map e).flatten.length
        · rw [List.getElem?_append_left (by rw [List.length_map]; exact hj), List.getElem?_map, List.getElem?_eq_getElem hj, Option.map_some, Option.some.injEq] at hc
          subst hc
          rw [hfl', hsl] at hj
          have hjF : j < F.size := by rw [hFs]; exact hj
          rw [if_pos ⟨Nat.zero_le _, by omega⟩]
          have hj2 : j < ((srt xs).map e).flatten.length := by rw [hfl', hsl]; exact hj
          simp only [RV]
          rw [RD_val (hscf (srt xs) _ (List.getElem_mem hj2))]
          simp only [Nat.sub_zero, id]
          rw [getElem!_pos F j hjF]
          subst hF
          simp only [rowV, List.getElem_toArray, List.getElem_map]
        · rw [List.getElem?_append_right (by rw [List.length_map]; omega)] at hc
          have : cc = .und := (List.mem_replicate.1 (List.mem_of_getElem? hc)).2
          subst this; simp [RV]
      · obtain ⟨j, hj⟩ := List.getElem?_of_mem hx
        have hx' : (putCells id 0 F vals.toArray)[j]? = some x := by simpa using hj
        simp only [putCells, Array.getElem?_mapIdx, List.getElem?_toArray, Option.map_eq_some_iff] at hx'
        obtain ⟨y, hy, rfl⟩ := hx'
        split
        · rename_i hr
          have hjF : j - 0 < F.size := by omega
          simp only [id]
          rw [getElem!_pos F _ hjF]
          subst hF
          simp only [rowV, List.getElem_toArray, List.getElem_map]
          exact val_one (hscf (srt xs) _ (List.getElem_mem _))
        · exact hone y (List.mem_of_getElem? hy)
    · rw [put_other _ _ hkk] at hk
      obtain ⟨k1, k2, k3⟩ := hm.box k b hk
      cases b with
      | mp es => exact k3.elim
      | cells cs =>
        obtain ⟨vals2, e2, q1, q2, q3⟩ := k3
        have hne : g.box k ≠ g.box k0 := by
          intro h; rw [h, hown] at k2; cases k2; exact hkk rfl
        refine ⟨k1, k2, vals2, e2, (hoth _ hne (Array.getElem?_eq_some_iff.1 q1).1).trans q1, ?_, q3⟩
        exact RVs_mono hkept hsub (by simp) cs (.box k) 0 vals2 (by simpa using hkk) (hMon k cs hk) q2
  · by_cases hkk : k = k0
    · subst hkk
      rw [put_same] at hk; cases hk
      exact hnew _
    · rw [put_other _ _ hkk] at hk
      exact ons_mono (fun j hj => There.put hj) _ (hMon k cs hk)
  · refine ⟨by rw [← hw']; rfl, by rw [← hw']; rfl, by rw [← hw']; rfl, hsize, himm, fun _ _ => rfl, fun b hb ho => ⟨rfl, hoth b ?_ hb, fun _ => Iff.rfl⟩⟩
    rintro rfl
    rw [hown] at ho
    exact ho
end Go.Abs
end
section
namespace Go.Abs
open Go
set_option linter.unusedVariables false
set_option linter.unusedSimpArgs false
set_option linter.unusedSectionVars false
variable {Γ : Env} {σ : St} {α : Type}
section
variable {g : G} {w : World} (hx : ∀ b, g.own b = .ext)
include hx
mutual
theorem RV_toF : ∀ (v : V) (ℓ : Owner) (u : Value), RV g w v ℓ u → RV g w v.toF ℓ u
  | .d (.lst sz l), _, u, h => by
    simp only [V.toF, RV] at h ⊢
    exact RD_str (fun b o h1 h2 => ⟨h1, hx b, h2⟩) _ u h
  | .d (.int ..), _, _, h => by simpa [V.toF] using h
  | .d (.bool _), _, _, h => by simpa [V.toF] using h
  | .d (.str _), _, _, h => by simpa [V.toF] using h
  | .agg cs, ℓ, u, h => by
    simp only [V.toF, RV] at h ⊢
    obtain ⟨vs, rfl, h, h1⟩ := h
    exact ⟨vs, rfl, RVs_toF cs ℓ 0 vs h, h1⟩
  | .und, _, _, h => h
  | .tup _, _, _, h => h
  | .own .., _, _, h => h
  | .ptr .., _, _, h => h
  | .nilp, _, _, h => h
  | .f _, _, _, h => h
  | .nils _, _, _, h => h
  | .cref _, _, _, h => h
  | .sl .., _, _, h => h
  | .clo .., _, _, h => h
  | .mp _, _, _, h => h
theorem RVs_toF : ∀ (cs : List V) (ℓ : Owner) (i : Nat) (us : List Value), RVs g w cs ℓ i us → RVs g w (V.toFs cs) ℓ i us
  | [], _, _, _, h => h
  | c :: cs, ℓ, i, us, h => by
    simp only [RVs, V.toFs] at h ⊢
    obtain ⟨u, us', rfl, h1, h2⟩ := h
    exact ⟨u, us', rfl, RV_toF c _ u h1, RVs_toF cs ℓ (i + 1) us' h2⟩
end
theorem RFs_toF : ∀ {cs : List V} {us : List Value}, RFs g w cs us → RFs g w (V.toFs cs) us
  | [], _, h => h
  | c :: cs, _, ⟨u, us', e, r, h⟩ => ⟨u, us', e, fun ℓ => RV_toF hx c ℓ u (r ℓ), RFs_toF h⟩
end
theorem fn_trT {P : Program} {f : FuncId} {cf : CFn} (hcf : compFn P f = some cf) {args args' : List V} {r : V} (hargs : Nat.beq args'.length cf.np = true) (hr0 : r.lt 0 = true) (hr1 : resOK r = true) (ha : V.toFs args = args') (hfl : V.dems args' = args') (hlt : V.lt.go 0 args' = true)
    (hrun : ∀ (Γ : Env) (M : Mem), Γ.P = P → Γ.nt = cf.nt → Lone Γ → M = (fun _ => none) → (∀ k, Γ.n0 ≤ k → M k = none) → Tr Γ cf.body ⟨initS args', memOf Γ.n0 [] M, Γ.n0 + cf.nt⟩ (FinP cf.res r Γ.n0 M)) : ∀ M nb, ACalls P f args M nb r M nb := by
  intro M nb
  have hflat : ∀ x ∈ args', Flat x := by
    rw [← hfl]; exact dems_flat
  refine fn_tr3 hcf hr0 hr1 (fun g0 w0 us hp hi hus => ⟨args', by rw [← ha]; exact RFs_toF hp hus, hflat, hlt, Nat.eq_of_beq_eq_true hargs, fun Γ k1 k2 k3 k4 k5 => ?_⟩) M
  have h := hrun Γ _ k1 k3 ⟨fun b => by rw [k4, hp b]; trivial, fun b o hb => by rw [k5]; rw [k4] at hb; exact hi b o hb⟩ rfl (fun _ _ => rfl)
  rw [memOf_nil (fun _ _ => rfl), k2] at h
  refine h.mono ?_
  rintro e σ' ⟨he, r', q1, q2, q3, q4⟩
  exact ⟨he, r', q1, q2, fun k b hk => (by cases hk), fun _ _ _ => ⟨q3, fun k cs hk => (by cases hk), fun k hk => (by cases hk)⟩⟩
theorem fToD {x : D} : WkV (.f x) (.d x) := ⟨fun g w ℓ u h => by
    simp only [RV] at h ⊢
    exact RD_mono ⟨fun b o h => h.1, fun _ _ _ => rfl⟩ x u h, fun _ _ => trivial⟩
open Classical in
theorem ACalls.frz {P : Program} {f : FuncId} {args : List V} {M M' : Mem} {nb nb' sz : Nat} {l : List (List D)} (h : ACalls P f args M nb (.own sz l) M' nb') (hpl : plainDs l = true) : ACalls P f args M nb (.f (.lst sz l)) M' nb' := by
  obtain ⟨h1, h2, h3⟩ := h
  refine ⟨h1, h2, fun w g us k1 k2 k3 k4 k5 k6 => (h3 w g us k1 k2 k3 k4 k5 k6).mono ?_⟩
  rintro e w' ⟨v, g', rfl, hm, hv, _, hon, hf⟩
  let g2 : G := ⟨g'.box, g'.imm, fun b => if g'.own b = .res [] then .ext else g'.own b⟩
  have hown : ∀ b, g'.own b ≠ .res [] → g2.own b = g'.own b := fun b hb => by simp [g2, hb]
  have hkept : Kept g' w' g2 w' (fun _ => True) (fun o => o ≠ .res []) := ⟨⟨fun _ _ h => h, fun _ _ _ => rfl⟩, fun _ _ => rfl, fun b hb _ => ⟨hown b hb, rfl, fun _ => Iff.rfl⟩⟩
  have hsub : ∀ (o : Owner) i, o ≠ .res [] → o.sub i ≠ .res [] := by intro o i _; cases o <;> simp [Owner.sub]
  refine ⟨v, g2, rfl, ⟨fun k b hk => ?_, fun b o hb => ?_⟩, ?_, trivial, hon, ?_⟩
  · obtain ⟨q1, q2, q3⟩ := hm.box k b hk
    refine ⟨q1, (hown _ (by rw [q2]; simp)).trans q2, ?_⟩
    cases b with
    | mp es => exact q3.elim
    | cells cs =>
      obtain ⟨vals, e, p1, p2, p3⟩ := q3
      exact ⟨vals, e, p1, RVs_mono hkept hsub (by simp) cs (.box k) 0 vals (by simp) (by rw [ons_iff]; intro v _; exact on_true v) p2, p3⟩
  · obtain ⟨q1, q2⟩ := hm.imm b o hb
    refine ⟨q1, fun k => ?_⟩
    simp only [g2]
    split
    · simp
    · exact q2 k
  · have hrd := RD_of_own hv
    simp only [RV] at hv ⊢
    rcases hv with ⟨⟨a, rfl⟩, rfl⟩ | ⟨b, cap, vals, e, rfl, hb, hh, h4, h5, h6, h7, h8⟩
    · simp only [RD]; exact ⟨a, 0, rfl, Nat.le_refl _, .inl trivial⟩
    · simp only [RD]
      refine ⟨_, cap, rfl, h4, .inr ⟨b, 0, rfl, ?_⟩⟩
      have h9 := RDL_strong sz b l 0 h8
      exact RDL_plain (fun o ho => ⟨ho.1, by simp [g2, hb], ho.2⟩) hpl h9
  · refine ⟨hf.os, hf.tape, hf.output, hf.size, hf.imm, hf.box, fun b hb ho => ?_⟩
    obtain ⟨q1, q2, q3⟩ := hf.old b hb ho
    exact ⟨(hown b (by rw [q1]; intro e; rw [e] at ho; exact ho)).trans q1, q2, q3⟩
theorem plainOwn {e : α → List D} (h : ∀ x, (e x).all plainD = true) {sz : Nat} {xs : List α} : plainV (.own sz (List.map e xs)) = true := by
  simp only [plainV, plainDs, List.all_map]
  exact List.all_eq_true.2 fun x _ => h x
theorem plainDsM {e : α → List D} (h : ∀ x, (e x).all plainD = true) {xs : List α} : plainDs (List.map e xs) = true := by
  simp only [plainDs, List.all_map]
  exact List.all_eq_true.2 fun x _ => h x
def PL : List (Nat × V) → Prop
  | [] => True
  | (_, v) :: E => plainV v = true ∧ PL E
theorem PL.at : ∀ {E : List (Nat × V)}, PL E → ∀ t, plainV (look E t) = true
  | [], _, t => rfl
  | (u, v) :: E, h, t => by
    simp only [look]
    cases hb : Nat.beq t u with
    | true => exact h.1
    | false => exact PL.at h.2 t
def PV : List V → Prop
  | [] => True
  | v :: vs => plainV v = true ∧ PV vs
theorem PV.go : ∀ {vs : List V}, PV vs → plainV.go vs = true
  | [], _ => rfl
  | v :: vs, h => by simp only [plainV.go, Bool.and_eq_true]; exact ⟨h.1, PV.go h.2⟩
def PB (t0 i : Nat) : List (Nat × Bx) → Prop
  | [] => True
  | (t, .cells cs) :: L => PV (bif Nat.beq t t0 then cs.set i .und else cs) ∧ PB t0 i L
  | (_, .mp _) :: _ => False
theorem PB.at {t0 i : Nat} : ∀ {L : List (Nat × Bx)}, PB t0 i L → ∀ t cs, lookB L t = some (.cells cs) → plainV.go (if t = t0 then cs.set i .und else cs) = true
  | [], _, t, cs, h => by cases h
  | (u, .cells ds) :: L, hp, t, cs, h => by
    simp only [lookB] at h
    cases hb : Nat.beq t u with
    | true =>
      have := Nat.eq_of_beq_eq_true hb; subst this
      rw [hb] at h; cases h
      have := hp.1.go
      by_cases ht : t = t0
      · subst ht; rw [show Nat.beq t t = true from by simp] at this; rw [if_pos rfl]; exact this
      · have hf : Nat.beq t t0 = false := by
          cases hq : Nat.beq t t0 with
          | false => rfl
          | true => exact absurd (Nat.eq_of_beq_eq_true hq) ht
        rw [hf] at this; rw [if_neg ht]; exact this
    | false => rw [hb] at h; exact PB.at hp.2 t cs h
  | (u, .mp _) :: L, hp, t, cs, h => hp.elim
theorem thawCL {cc : CC} {Q : Ex → St → Prop} (hG : Lone Γ) {M0 : Mem} (hMe : M0 = fun _ => none) (t0 i κ : Nat) {sz m : Nat} {e : α → List D} {xs : List α} {E : List (Nat × V)} {L : List (Nat × Bx)} {cs0 : List V} (hxs : ¬ xs = []) (hpl : ∀ x, (e x).all plainD = true) (hM0 : lookB L t0 = some (.cells cs0))
    (hi : cs0[i]? = some (.own sz (List.map e xs))) (hκ2 : Nat.blt κ m = true) (hκM : lookB L κ = none) (hE : PL E) (hL : PB t0 i L)
    (h : ∀ c, xs.length ≤ c → xs.length ≤ maxLen → Tr Γ cc ⟨look E, memOf Γ.n0 ((κ, .cells (thCells (List.map e xs) ((c - xs.length) * sz))) :: (t0, .cells (cs0.set i (.sl sz (Γ.n0 + κ) 0 xs.length c))) :: L) M0, Γ.n0 + m⟩ Q) : Tr Γ cc ⟨look E, memOf Γ.n0 L M0, Γ.n0 + m⟩ Q := by
  subst hMe
  have hlt : κ < m := Nat.le_of_ble_eq_true hκ2
  refine Tr.thawC (σ := ⟨look E, memOf Γ.n0 L (fun _ => none), Γ.n0 + m⟩) hG (k0 := Γ.n0 + t0) (i := i) (κ := Γ.n0 + κ) (l := List.map e xs) (by simpa using hxs) (plainDsM hpl) (by omega) ((memOf_own (n0 := Γ.n0) (L := L) (M0 := fun _ => none)).trans hM0) hi (by omega) (by show _ < Γ.n0 + m; omega) ((memOf_own (n0 := Γ.n0) (L := L) (M0 := fun _ => none)).trans hκM) (fun t => hE.at t) ?_ ?_
  · intro k cs hk
    have hk : memOf Γ.n0 L (fun _ => none) k = some (.cells cs) := hk
    rcases Nat.lt_or_ge k Γ.n0 with hlt | hge
    · rw [memOf_base hlt] at hk; cases hk
    · obtain ⟨t, rfl⟩ : ∃ t, k = Γ.n0 + t := ⟨k - Γ.n0, by omega⟩
      rw [memOf_own] at hk
      have := hL.at t cs hk
      by_cases ht : t = t0
      · subst ht; simpa using this
      · have h2 : ¬ Γ.n0 + t = Γ.n0 + t0 := by omega
        simpa [ht, h2] using this
  · intro c hc hm
    have := h c (by simpa using hc) (by simp at hc; omega)
    rw [← memOf_put, ← memOf_put] at this
    simpa using this
def RowK (P : Program) (c : Nat) (e : α → List D) (sz : Nat) (ex : List V) (f : List α → Option (List α)) : Prop :=
  ∀ xs ys, f xs = some ys → ys.length = xs.length ∧ (xs = [] → ys = xs ∧ ∀ M nb, ACalls P c (.d (.lst sz (List.map e xs)) :: ex) M nb (.tup []) M nb) ∧
    (xs.length ≤ maxLen → ∀ cap k0 M nb, M k0 = some (.cells (thCells (List.map e xs) ((cap - xs.length) * sz))) → ACalls P c (.sl sz k0 0 xs.length cap :: ex) M nb (.tup []) (M.put k0 (.cells (thCells (List.map e ys) ((cap - xs.length) * sz)))) nb)
section
variable {pc d nb : Nat} {os : List COp} {E : List (Nat × V)} {M0 : Mem} {L : List (Nat × Bx)} {Q : St → Prop} {gd : Option (Nat × Bool)}
theorem Rn.callRow {f : FuncId} {as : List Arg} {args : List V} {r : V} {t : Nat} {cs cs' : List V} (hw : Wn E gd) (ha : V.dems (as.map (·.val (look E))) = args) (ht : lookB L t = some (.cells cs)) (hC : ∀ M, M (Γ.n0 + t) = some (.cells cs) → ACalls Γ.P f args M nb r (M.put (Γ.n0 + t) (.cells cs')) nb)
    (hpc : pcOf pc = 0) (h : Rn Γ pc os ⟨look ((d, r) :: E), memOf Γ.n0 ((t, .cells cs') :: L) M0, nb⟩ Q) : Rn Γ pc (⟨some d, .call f, as, false, gd⟩ :: os) ⟨look E, memOf Γ.n0 L M0, nb⟩ Q := by
  refine Rn.cons ?_
  unfold COp.run
  rw [hw.wanted]
  simp only [show (K.call f).isCall = true from rfl, if_true, COp.callee, ha]
  rw [hpc]
  refine ⟨r, (memOf Γ.n0 L M0).put (Γ.n0 + t) (.cells cs'), nb, hC _ (by rw [memOf_own]; exact ht), fun k hk => ?_, fun k cs2 hk hM => .inl ?_, ?_⟩
  · simp only [Mem.put]; split
    · rfl
    · exact hk
  · rw [put_other _ _ (by omega)]
  · rw [show putDst (look E) (some d) r = look ((d, r) :: E) from put_look E d r, memOf_put]
    exact h
def ValsK (P : Program) (c g κ n : Nat) : Prop := ∀ (x : D) (M : Mem) (nb : Nat), ACalls P c [.d x] M nb (.clo g [.ptr (nb + κ) 0]) (M.put (nb + κ) (.cells [.d x])) (nb + n)
def OverK (P : Program) (c g : Nat) (e : α → List D) (sz : Nat) (f : List α → Option (List α)) : Prop :=
  ∀ xs ys, f xs = some ys → ∀ (M : Mem) (nb k : Nat), M k = some (.cells [.d (.lst sz (List.map e xs))]) → ACalls P c [.clo g [.ptr k 0]] M nb (.f (.lst sz (List.map e ys))) M nb
theorem Rn.callVals {f g κ n m : Nat} {as : List Arg} {x : D} (hw : Wn E gd) (ha : V.dems (as.map (·.val (look E))) = [.d x]) (hC : ValsK Γ.P f g κ n) (hκ : Nat.blt κ n = true) (hL : (L.all fun p => Nat.blt p.1 m) = true) (hM : ∀ k, Γ.n0 ≤ k → M0 k = none) (hpc : Nat.ble (pcOf pc) 1 = true)
    (h : Rn Γ pc os ⟨look ((d, .clo g [.ptr (Γ.n0 + (m + κ)) 0]) :: E), memOf Γ.n0 ((m + κ, .cells [.d x]) :: L) M0, Γ.n0 + (m + n)⟩ Q) : Rn Γ pc (⟨some d, .call f, as, false, gd⟩ :: os) ⟨look E, memOf Γ.n0 L M0, Γ.n0 + m⟩ Q := by
  refine Rn.cons ?_
  unfold COp.run
  rw [hw.wanted]
  simp only [show (K.call f).isCall = true from rfl, if_true, COp.callee, ha]
  have hkey : Γ.n0 + (m + κ) = Γ.n0 + m + κ := by omega
  have hnb : Γ.n0 + (m + n) = Γ.n0 + m + n := by omega
  have hput : (memOf Γ.n0 L M0).put (Γ.n0 + m + κ) (.cells [.d x]) = memOf Γ.n0 ((m + κ, .cells [.d x]) :: L) M0 := by rw [← hkey, memOf_put]
  have h' : Rn Γ pc os ⟨putDst (look E) (some d) (.clo g [.ptr (Γ.n0 + m + κ) 0]), memOf Γ.n0 ((m + κ, .cells [.d x]) :: L) M0, Γ.n0 + m + n⟩ Q := by
    rw [show putDst (look E) (some d) (.clo g [.ptr (Γ.n0 + m + κ) 0]) = look ((d, .clo g [.ptr (Γ.n0 + m + κ) 0]) :: E) from put_look E d _, ← hkey, ← hnb]; exact h
  have hle := Nat.le_of_ble_eq_true hpc
  match hp : pcOf pc with
  | 0 =>
    refine ⟨.clo g [.ptr (Γ.n0 + m + κ) 0], (memOf Γ.n0 L M0).put (Γ.n0 + m + κ) (.cells [.d x]), Γ.n0 + m + n, hC x _ _, fun k hk => ?_, fun k cs hk hM' => .inl ?_, ?_⟩
    · simp only [Mem.put]; split
      · rfl
      · exact hk
    · rw [put_other _ _ (by omega)]
    · rw [hput]; exact h'
  | 1 =>
    refine ⟨.clo g [.ptr (Γ.n0 + m + κ) 0], fun k => if k = Γ.n0 + m + κ then some (.cells [.d x]) else none, Γ.n0 + m + n, fun M2 _ h2 => ?_, ?_⟩
    · have : M2.over (Γ.n0 + m) (fun k => if k = Γ.n0 + m + κ then some (.cells [.d x]) else none) = M2.put (Γ.n0 + m + κ) (.cells [.d x]) := by
        funext k
        simp only [Mem.over, Mem.put]
        by_cases hlt : k < Γ.n0 + m
        · rw [if_pos hlt, if_neg (by omega)]
        · rw [if_neg hlt]
          by_cases hk : k = Γ.n0 + m + κ
          · rw [if_pos hk, if_pos hk]
          · rw [if_neg hk, if_neg hk]; exact (h2 k (by omega)).symm
      rw [this]; exact hC x _ _
    · have : (memOf Γ.n0 L M0).over (Γ.n0 + m) (fun k => if k = Γ.n0 + m + κ then some (.cells [.d x]) else none) = memOf Γ.n0 ((m + κ, .cells [.d x]) :: L) M0 := by
        rw [← hput]
        funext k
        simp only [Mem.over, Mem.put]
        by_cases hlt : k < Γ.n0 + m
        · rw [if_pos hlt, if_neg (by omega)]
        · rw [if_neg hlt]
          by_cases hk : k = Γ.n0 + m + κ
          · rw [if_pos hk, if_pos hk]
          · rw [if_neg hk, if_neg hk]; exact (memOut hM hL k (by omega)).symm
      rw [this]; exact h'
  | j + 2 => omega
theorem weak_low {s : Sl} {L' : List (Nat × List V)} {m' m : Nat} (hL : (L'.all fun p => Nat.blt p.1 m) = true) (hm : Γ.nt ≤ m) (hM : ∀ k, Γ.n0 ≤ k → M0 k = none) : WeakSt Γ ⟨s, memOf Γ.n0 (bxs L') M0, Γ.n0 + m'⟩ ⟨s, memOf Γ.n0 (bxs L') M0, Γ.n0 + m⟩ := by
  intro a w g hs
  refine ⟨g, ⟨⟨fun k b hk => ?_, hs.mem.imm⟩, hs.slots, hs.size, hs.defers, hs.onS, hs.onM, by show Γ.n0 + Γ.nt ≤ Γ.n0 + m; omega, hs.fr⟩⟩
  refine ⟨?_, (hs.mem.box k b hk).2⟩
  have hL2 : ((bxs L').all fun p => Nat.blt p.1 m) = true := by
    simp only [bxs, List.all_map]; exact hL
  rcases Nat.lt_or_ge k (Γ.n0 + m) with h | h
  · exact h
  · have := memOut hM hL2 k h
    have hk : memOf Γ.n0 (bxs L') M0 k = some b := hk
    rw [this] at hk; cases hk
end
theorem fSlT {n0 t n c sz : Nat} {e : α → List D} {ys : List α} (h : ∀ x, (e x).length = sz) (hn : ys.length = n) (hc : n ≤ c) : WkV (frzV (n0 + t) ((ys.map e).flatten) (.sl sz (n0 + t) 0 n c)) (.d (.lst sz (ys.map e))) := by
  subst hn
  have h1 := flat_length h ys
  have h2 : ((ys.map e).flatten.drop 0).take (ys.length * sz) = (ys.map e).flatten := by rw [List.drop_zero, List.take_of_length_le (by omega)]
  refine .same ?_
  simp only [frzV, if_true]
  rw [if_pos ⟨by omega, hc⟩, h2, chunks_flat h ys]
theorem toDs_map_d : ∀ ds : List D, toDs (ds.map V.d) = some ds
  | [] => rfl
  | d :: ds => by simp only [List.map_cons, toDs, V.toD, toDs_map_d ds]
theorem preTh {e : α → List D} {ys : List α} {room : Nat} : PreD (thCells (List.map e ys) room) ((List.map e ys).flatten) := PreD.app (toDs_map_d _)
theorem Tr.seqW {x y : CC} {Q : Ex → St → Prop} (σ2 : St) (hx : Tr Γ x σ fun e σ' => e = .norm ∧ WeakSt Γ σ' σ2) (hy : Tr Γ y σ2 Q) : Tr Γ (.seq x y) σ Q := by
  refine Tr.seq (hx.mono ?_)
  rintro e σ' ⟨rfl, hw⟩
  exact hy.weak hw
end Go.Abs
end
section
namespace Go.Abs
open Go
abbrev oo (d : Nat) (k : K) (as : List Arg) : COp := ⟨some d, k, as, false, none⟩
abbrev ot (d : Nat) (k : K) (as : List Arg) : COp := ⟨some d, k, as, true, none⟩
universe u
variable {α : Type u} {Γ : Env} {pc d nb : Nat} {os : List COp} {E : List (Nat × V)} {M : Mem} {Q : St → Prop} {gd : Option (Nat × Bool)} {a b : Arg} {sz : Nat}
theorem Rn.idxArr {k o o' len : Nat} {kk : IntKind} {i : Int} (hw : Wn E gd) (ha : a.val (look E) = .ptr k o) (hb : b.val (look E) = .d (.int kk i)) (ho : o' = o + i.toNat * sz) (hx : inO len i = some ()) (h : Rn Γ pc os ⟨look ((d, .ptr k o') :: E), M, nb⟩ Q) :
    Rn Γ pc (⟨some d, .idxarr sz len, [a, b], false, gd⟩ :: os) ⟨look E, M, nb⟩ Q := by
  subst ho
  unfold inO at hx
  split at hx <;> cases hx
  rename_i hc
  refine Rn.k hw rfl rfl ?_ h
  simp [ha, hb, V.dems, V.dem, stepK, hc.1, hc.2]
def rowO (l : List α) (i : Nat) : Option α := l[i]?
theorem Rn.loadArr {k off o n : Nat} {cs pre post : List V} {e : α → D} {l : List α} {x : α} (hw : Wn E gd) (ha : a.val (look E) = .ptr k off) (ho : off = o + n) (hM : M k = some (.cells cs)) (hc : cs = pre ++ (l.map fun x => V.d (e x)) ++ post) (hp : pre.length = o) (hx : rowO l n = some x)
    (h : Rn Γ pc os ⟨look ((d, .d (e x)) :: E), M, nb⟩ Q) : Rn Γ pc (⟨some d, .load false 1, [a], false, gd⟩ :: os) ⟨look E, M, nb⟩ Q := by
  subst ho hc hp
  unfold rowO at hx
  obtain ⟨hlt, hx'⟩ := List.getElem?_eq_some_iff.1 hx
  refine Rn.k hw rfl rfl ?_ h
  have h2 : (pre ++ (l.map fun x => V.d (e x)) ++ post)[pre.length + n]? = some (.d (e x)) := by
    rw [List.append_assoc, List.getElem?_append_right (by omega), show pre.length + n - pre.length = n from by omega, List.getElem?_append_left (by simpa using hlt), List.getElem?_map, hx]; rfl
  simp only [List.map_cons, List.map_nil, V.dems, ha, V.dem, stepK, hM]
  rw [if_pos (by simp only [List.length_append, List.length_map]; omega)]
  simp only [Bool.false_eq_true, if_false, Option.map_eq_some_iff]
  exact ⟨_, h2, rfl⟩
theorem si {β : Type u} {x y : β} (h : some x = some y) : x = y := Option.some.inj h
theorem sr {cs : List COp} {y : CC} {σ : St} {Q : Ex → St → Prop} (h : Rn Γ 9 cs σ (thenN Γ y Q .norm)) : Tr Γ (.seq (.region cs 9 []) y) σ Q := Tr.seq (Tr.rgn h)
theorem nt {y : CC} {σ : St} {Q : Ex → St → Prop} (h : Tr Γ y σ Q) : Rn Γ 9 [] σ (thenN Γ y Q .norm) := Rn.nil (toN h)
theorem md {x : D} (ha : a.val (look E) = .d x) (h : Rn Γ pc os ⟨look ((d, .d x) :: E), M, nb⟩ Q) : Rn Γ pc (⟨some d, .mov, [a], false, none⟩ :: os) ⟨look E, M, nb⟩ Q := Rn.movD trivial ha h
end Go.Abs
end
section
namespace Go.Abs
open Go
set_option linter.unusedVariables false
set_option maxRecDepth 10000
set_option maxHeartbeats 4000000
structure api_Edge where
  From : Int
  Event : Int
  To : Int
  deriving DecidableEq
def e_api_Edge (x : api_Edge) : List D := [.int .i64 x.From, .int .i64 x.Event, .int .i64 x.To]
def v_api_Edge (x : api_Edge) : V := .agg [.d (.int .i64 x.From), .d (.int .i64 x.Event), .d (.int .i64 x.To)]
structure api_Automaton where
  Alphabet : List Int
  States : Int
  Marked : List Int
  Edges : List api_Edge
  deriving DecidableEq
def e_api_Automaton (x : api_Automaton) : List D := [.lst 1 (List.map (eI .i64) x.Alphabet), .int .i64 x.States, .lst 1 (List.map (eI .i64) x.Marked), .lst 3 (List.map e_api_Edge x.Edges)]
def v_api_Automaton (x : api_Automaton) : V := .agg [.d (.lst 1 (List.map (eI .i64) x.Alphabet)), .d (.int .i64 x.States), .d (.lst 1 (List.map (eI .i64) x.Marked)), .d (.lst 3 (List.map e_api_Edge x.Edges))]
structure automaton_found where
  word_ : List Int
  state_ : Int
  deriving DecidableEq
def e_automaton_found (x : automaton_found) : List D := [.lst 1 (List.map (eI .i64) x.word_), .int .i64 x.state_]
def v_automaton_found (x : automaton_found) : V := .agg [.d (.lst 1 (List.map (eI .i64) x.word_)), .d (.int .i64 x.state_)]
structure overseerlaw03_Graph where
  States : Int
  Marks : Int
  To : (Int × Int × Int × Int × Int) × (Int × Int × Int × Int × Int) × (Int × Int × Int × Int × Int) × (Int × Int × Int × Int × Int) × (Int × Int × Int × Int × Int)
def e_overseerlaw03_Graph (x : overseerlaw03_Graph) : List D := [.int .u8 x.States, .int .u8 x.Marks, .int .u8 x.To.1.1, .int .u8 x.To.1.2.1, .int .u8 x.To.1.2.2.1, .int .u8 x.To.1.2.2.2.1, .int .u8 x.To.1.2.2.2.2, .int .u8 x.To.2.1.1, .int .u8 x.To.2.1.2.1, .int .u8 x.To.2.1.2.2.1, .int .u8 x.To.2.1.2.2.2.1, .int .u8 x.To.2.1.2.2.2.2, .int .u8 x.To.2.2.1.1, .int .u8 x.To.2.2.1.2.1, .int .u8 x.To.2.2.1.2.2.1, .int .u8 x.To.2.2.1.2.2.2.1, .int .u8 x.To.2.2.1.2.2.2.2, .int .u8 x.To.2.2.2.1.1, .int .u8 x.To.2.2.2.1.2.1, .int .u8 x.To.2.2.2.1.2.2.1, .int .u8 x.To.2.2.2.1.2.2.2.1, .int .u8 x.To.2.2.2.1.2.2.2.2, .int .u8 x.To.2.2.2.2.1, .int .u8 x.To.2.2.2.2.2.1, .int .u8 x.To.2.2.2.2.2.2.1, .int .u8 x.To.2.2.2.2.2.2.2.1, .int .u8 x.To.2.2.2.2.2.2.2.2]
def v_overseerlaw03_Graph (x : overseerlaw03_Graph) : V := .agg [.d (.int .u8 x.States), .d (.int .u8 x.Marks), .d (.int .u8 x.To.1.1), .d (.int .u8 x.To.1.2.1), .d (.int .u8 x.To.1.2.2.1), .d (.int .u8 x.To.1.2.2.2.1), .d (.int .u8 x.To.1.2.2.2.2), .d (.int .u8 x.To.2.1.1), .d (.int .u8 x.To.2.1.2.1), .d (.int .u8 x.To.2.1.2.2.1), .d (.int .u8 x.To.2.1.2.2.2.1), .d (.int .u8 x.To.2.1.2.2.2.2), .d (.int .u8 x.To.2.2.1.1), .d (.int .u8 x.To.2.2.1.2.1), .d (.int .u8 x.To.2.2.1.2.2.1), .d (.int .u8 x.To.2.2.1.2.2.2.1), .d (.int .u8 x.To.2.2.1.2.2.2.2), .d (.int .u8 x.To.2.2.2.1.1), .d (.int .u8 x.To.2.2.2.1.2.1), .d (.int .u8 x.To.2.2.2.1.2.2.1), .d (.int .u8 x.To.2.2.2.1.2.2.2.1), .d (.int .u8 x.To.2.2.2.1.2.2.2.2), .d (.int .u8 x.To.2.2.2.2.1), .d (.int .u8 x.To.2.2.2.2.2.1), .d (.int .u8 x.To.2.2.2.2.2.2.1), .d (.int .u8 x.To.2.2.2.2.2.2.2.1), .d (.int .u8 x.To.2.2.2.2.2.2.2.2)]
end Go.Abs
end
section
namespace Go.Abs
open Go
set_option linter.unusedVariables false
set_option maxRecDepth 10000
set_option maxHeartbeats 4000000
def K_overseerlaw03_example (P : Program) (c : Nat) (f : Option api_Automaton) : Prop := ∀ r, f = some r → ∀ M nb, ACalls P c [] M nb (.agg [.d (.lst 1 (List.map (eI .i64) r.Alphabet)), .d (.int .i64 r.States), .d (.lst 1 (List.map (eI .i64) r.Marked)), .d (.lst 3 (List.map e_api_Edge r.Edges))]) M nb
def R_overseerlaw03_example_0 : List COp := [oo 0 (.alloc [.nils 1, .d (.int .i64 0), .nils 1, .nils 3]) []]
def R_overseerlaw03_example_1 : List COp := [oo 1 (.bslice 1 2 [.d (.int .i64 0)] [0, 1]) [.c (.d (.int .i64 0)), .c (.d (.int .i64 2))], oo 2 (.bslice 1 1 [.d (.int .i64 0)] [0]) [.c (.d (.int .i64 2))], oo 3 (.build [.d (.int .i64 0), .d (.int .i64 0), .d (.int .i64 0)] [(0, 1), (1, 1), (2, 1)]) [.c (.d (.int .i64 0)), .c (.d (.int .i64 0)), .c (.d (.int .i64 2))], oo 4 (.build [.d (.int .i64 0), .d (.int .i64 0), .d (.int .i64 0)] [(0, 1), (1, 1), (2, 1)]) [.c (.d (.int .i64 0)), .c (.d (.int .i64 2)), .c (.d (.int .i64 0))], oo 5 (.build [.d (.int .i64 0), .d (.int .i64 0), .d (.int .i64 0)] [(0, 1), (1, 1), (2, 1)]) [.c (.d (.int .i64 2)), .c (.d (.int .i64 2)), .c (.d (.int .i64 0))], oo 6 (.bslice 3 3 [.d (.int .i64 0), .d (.int .i64 0), .d (.int .i64 0)] [0, 1, 2]) [.t 3, .t 4, .t 5], oo 7 (.build [.nils 1, .d (.int .i64 0), .nils 1, .nils 3] [(0, 1), (1, 1), (2, 1), (3, 1)]) [.t 1, .c (.d (.int .i64 3)), .t 2, .t 6], ⟨none, .store 4, [.t 0, .t 7], false, none⟩]
def F_overseerlaw03_example : CFn := ⟨0, 8, [.cell 0 true 4], .seq (.region R_overseerlaw03_example_0 9 []) (.seq (.region R_overseerlaw03_example_1 9 []) (.ret))⟩
def f_overseerlaw03_example : Option api_Automaton :=
  some (api_Automaton.mk [0, 2] 3 [2] [(api_Edge.mk 0 0 2), (api_Edge.mk 0 2 0), (api_Edge.mk 2 2 0)])
def K_automaton_checkSet (P : Program) (c : Nat) (f : (List Int) → Int → Option Int) : Prop := ∀ l1 n2 r, f l1 n2 = some r → ∀ M nb, ACalls P c [.d (.lst 1 (List.map (eI .i64) l1)), .d (.int .i64 n2)] M nb (.d (.int .i64 r)) M nb
def R_automaton_checkSet_0 : List COp := [oo 4 .mov [.c (.d (.int .i64 0))]]
def R_automaton_checkSet_1 : List COp := [oo 7 .mov [.t 0], oo 8 .len [.t 7], oo 9 .mov [.c (.d (.int .i64 0))]]
def R_automaton_checkSet_2 : List COp := [oo 10 (.bin .lss false) [.t 9, .t 8]]
def R_automaton_checkSet_3 : List COp := [oo 11 .mov [.t 9], oo 12 (.idx 1) [.t 7, .t 9], oo 13 (.load false 1) [.t 12], oo 5 .mov [.t 11], oo 6 .mov [.t 13]]
def R_automaton_checkSet_4 : List COp := [oo 15 .mov [.t 6], oo 16 (.bin .lss false) [.t 15, .c (.d (.int .i64 0))], oo 17 .mov [.t 16], ⟨some 18, .mov, [.t 6], false, some (17, false)⟩, ⟨some 19, .mov, [.t 1], false, some (17, false)⟩, ⟨some 20, .bin .geq false, [.t 18, .t 19], false, some (17, false)⟩, oo 21 .pick [.t 17, .c (.d (.bool true)), .t 20], oo 14 .mov [.t 21]]
def R_automaton_checkSet_5 : List COp := [oo 4 .mov [.c (.d (.int .i64 2))]]
def R_automaton_checkSet_6 : List COp := [oo 23 .mov [.t 5], oo 24 (.bin .gtr false) [.t 23, .c (.d (.int .i64 0))], oo 25 .mov [.t 24], ⟨some 26, .mov, [.t 6], false, some (25, true)⟩, ⟨some 27, .mov, [.t 0], false, some (25, true)⟩, ⟨some 28, .mov, [.t 5], false, some (25, true)⟩, ⟨some 29, .bin .sub false, [.t 28, .c (.d (.int .i64 1))], false, some (25, true)⟩, ⟨some 30, .idx 1, [.t 27, .t 29], false, some (25, true)⟩, ⟨some 31, .load false 1, [.t 30], false, some (25, true)⟩, ⟨some 32, .bin .leq false, [.t 26, .t 31], false, some (25, true)⟩, oo 33 .pick [.t 25, .t 32, .c (.d (.bool false))], oo 22 .mov [.t 33]]
def R_automaton_checkSet_7 : List COp := [oo 4 .mov [.c (.d (.int .i64 5))]]
def R_automaton_checkSet_8 : List COp := [oo 34 (.bin .add false) [.t 9, .c (.d (.int .i64 1))], oo 9 .mov [.t 34]]
def R_automaton_checkSet_9 : List COp := [oo 4 .mov [.c (.d (.int .i64 0))]]
def F_automaton_checkSet : CFn := ⟨2, 35, [.t 4], .seq (.region R_automaton_checkSet_0 9 []) (.seq (.seq (.region R_automaton_checkSet_1 9 []) (.block 0 (.loop [] (.seq (.region R_automaton_checkSet_2 9 []) (.seq (.cond (.t 10) (.skip) (.exit 0)) (.seq (.block 1 (.seq (.region R_automaton_checkSet_3 9 []) (.block 2 (.seq (.region R_automaton_checkSet_4 9 []) (.cond (.t 14) (.seq (.region R_automaton_checkSet_5 9 []) (.ret)) (.seq (.region R_automaton_checkSet_6 9 []) (.cond (.t 22) (.seq (.region R_automaton_checkSet_7 9 []) (.ret)) (.skip)))))))) (.region R_automaton_checkSet_8 9 []))))))) (.seq (.region R_automaton_checkSet_9 9 []) (.ret)))⟩
def f_automaton_checkSet (fuel : Nat) (l1 : (List Int)) (n2 : Int) : Option Int :=
  iterF (fun k4 (x3 : Int) => (if (x3 < (l1.length : Int)) then ((getO l1 x3).bind fun x6 => (((if (x6 < 0) then some true else some (decide (x6 ≥ n2)))).bind fun (x9 : Bool) => (if x9 then some 2 else (((if (x3 > 0) then ((getO l1 (IntKind.wrap .i64 (x3 - 1))).bind fun x12 => some (decide (x6 ≤ x12))) else some false)).bind fun (x14 : Bool) => (if x14 then some 5 else k4 (IntKind.wrap .i64 (x3 + 1))))))) else some 0)) fuel 0
def K_slices_Index_int (P : Program) (c : Nat) (f : (List Int) → Int → Option Int) : Prop := ∀ s1 v2 r, f s1 v2 = some r → ∀ M nb, ACalls P c [.d (.lst 1 (List.map (eI .i64) s1)), .d (.int .i64 v2)] M nb (.d (.int .i64 r)) M nb
def R_slices_Index_int_0 : List COp := [oo 4 .mov [.c (.d (.int .i64 0))]]
def R_slices_Index_int_1 : List COp := [oo 6 .mov [.t 0], oo 7 .len [.t 6], oo 8 .mov [.c (.d (.int .i64 0))]]
def R_slices_Index_int_2 : List COp := [oo 9 (.bin .lss false) [.t 8, .t 7]]
def R_slices_Index_int_3 : List COp := [oo 10 .mov [.t 8], oo 5 .mov [.t 10]]
def R_slices_Index_int_4 : List COp := [oo 11 .mov [.t 1], oo 12 .mov [.t 0], oo 13 .mov [.t 5], oo 14 (.idx 1) [.t 12, .t 13], oo 15 (.load false 1) [.t 14], oo 16 (.bin .eql false) [.t 11, .t 15]]
def R_slices_Index_int_5 : List COp := [oo 17 .mov [.t 5], oo 4 .mov [.t 17]]
def R_slices_Index_int_6 : List COp := [oo 18 (.bin .add false) [.t 8, .c (.d (.int .i64 1))], oo 8 .mov [.t 18]]
def R_slices_Index_int_7 : List COp := [oo 4 .mov [.c (.d (.int .i64 (-1)))]]
def F_slices_Index_int : CFn := ⟨2, 19, [.t 4], .seq (.region R_slices_Index_int_0 9 []) (.seq (.seq (.region R_slices_Index_int_1 9 []) (.block 0 (.loop [] (.seq (.region R_slices_Index_int_2 9 []) (.seq (.cond (.t 9) (.skip) (.exit 0)) (.seq (.block 1 (.seq (.region R_slices_Index_int_3 9 []) (.seq (.region R_slices_Index_int_4 9 []) (.cond (.t 16) (.seq (.region R_slices_Index_int_5 9 []) (.ret)) (.skip))))) (.region R_slices_Index_int_6 9 []))))))) (.seq (.region R_slices_Index_int_7 9 []) (.ret)))⟩
def f_slices_Index_int (fuel : Nat) (s1 : (List Int)) (v2 : Int) : Option Int :=
  iterF (fun k4 (x3 : Int) => (if (x3 < (s1.length : Int)) then ((getO s1 x3).bind fun x6 => (if (v2 == x6) then some x3 else k4 (IntKind.wrap .i64 (x3 + 1)))) else some (-1))) fuel 0
def K_slices_Contains_int (P : Program) (c : Nat) (f : (List Int) → Int → Option Bool) : Prop := ∀ s1 v2 r, f s1 v2 = some r → ∀ M nb, ACalls P c [.d (.lst 1 (List.map (eI .i64) s1)), .d (.int .i64 v2)] M nb (.d (.bool r)) M nb
def R_slices_Contains_int_0 : List COp := [oo 4 .mov [.c (.d (.bool false))]]
def R_slices_Contains_int_1 : List COp := [oo 5 .mov [.t 0], oo 6 .mov [.t 1], oo 7 (.call 54) [.t 5, .t 6], oo 8 (.bin .geq false) [.t 7, .c (.d (.int .i64 0))], oo 4 .mov [.t 8]]
def F_slices_Contains_int : CFn := ⟨2, 9, [.t 4], .seq (.region R_slices_Contains_int_0 9 []) (.seq (.region R_slices_Contains_int_1 9 []) (.ret))⟩
def f_slices_Contains_int (f_slices_Index_int : (List Int) → Int → Option Int) (s1 : (List Int)) (v2 : Int) : Option Bool :=
  ((f_slices_Index_int s1 v2).bind fun x4 => some (decide (x4 ≥ 0)))
def K_automaton_checkEdges (P : Program) (c : Nat) (f : api_Automaton → Option Int) : Prop := ∀ a1 r, f a1 = some r → ∀ M nb, ACalls P c [.agg [.d (.lst 1 (List.map (eI .i64) a1.Alphabet)), .d (.int .i64 a1.States), .d (.lst 1 (List.map (eI .i64) a1.Marked)), .d (.lst 3 (List.map e_api_Edge a1.Edges))]] M nb (.d (.int .i64 r)) M nb
def R_automaton_checkEdges_0 : List COp := [oo 1 (.box 4) [.t 0], oo 2 .mov [.c (.d (.int .i64 0))]]
def R_automaton_checkEdges_1 : List COp := [oo 6 (.fld 3) [.t 1], oo 7 (.load false 1) [.t 6], oo 8 .len [.t 7], oo 9 .mov [.c (.d (.int .i64 0))]]
def R_automaton_checkEdges_2 : List COp := [oo 10 (.bin .lss false) [.t 9, .t 8]]
def R_automaton_checkEdges_3 : List COp := [oo 11 .mov [.t 9], oo 12 (.idx 3) [.t 7, .t 9], oo 13 (.load true 3) [.t 12], oo 4 (.alloc [.d (.int .i64 0), .d (.int .i64 0), .d (.int .i64 0)]) [], oo 3 .mov [.t 11], ⟨none, .store 3, [.t 4, .t 13], false, none⟩]
def R_automaton_checkEdges_4 : List COp := [oo 15 (.fld 0) [.t 4], oo 16 (.load false 1) [.t 15], oo 17 (.bin .lss false) [.t 16, .c (.d (.int .i64 0))], oo 18 .mov [.t 17], ⟨some 19, .fld 0, [.t 4], false, some (18, false)⟩, ⟨some 20, .load false 1, [.t 19], false, some (18, false)⟩, ⟨some 21, .fld 1, [.t 1], false, some (18, false)⟩, ⟨some 22, .load false 1, [.t 21], false, some (18, false)⟩, ⟨some 23, .bin .geq false, [.t 20, .t 22], false, some (18, false)⟩, oo 24 .pick [.t 18, .c (.d (.bool true)), .t 23], oo 25 .mov [.t 24], ⟨some 26, .fld 2, [.t 4], false, some (25, false)⟩, ⟨some 27, .load false 1, [.t 26], false, some (25, false)⟩, ⟨some 28, .bin .lss false, [.t 27, .c (.d (.int .i64 0))], false, some (25, false)⟩, oo 29 .pick [.t 25, .c (.d (.bool true)), .t 28], oo 30 .mov [.t 29], ⟨some 31, .fld 2, [.t 4], false, some (30, false)⟩, ⟨some 32, .load false 1, [.t 31], false, some (30, false)⟩, ⟨some 33, .fld 1, [.t 1], false, some (30, false)⟩, ⟨some 34, .load false 1, [.t 33], false, some (30, false)⟩, ⟨some 35, .bin .geq false, [.t 32, .t 34], false, some (30, false)⟩, oo 36 .pick [.t 30, .c (.d (.bool true)), .t 35], oo 14 .mov [.t 36]]
def R_automaton_checkEdges_5 : List COp := [oo 2 .mov [.c (.d (.int .i64 2))]]
def R_automaton_checkEdges_6 : List COp := [oo 38 (.fld 0) [.t 1], oo 39 (.load false 1) [.t 38], oo 40 (.fld 1) [.t 4], oo 41 (.load false 1) [.t 40], oo 42 (.call 50) [.t 39, .t 41], oo 43 (.un .not) [.t 42], oo 37 .mov [.t 43]]
def R_automaton_checkEdges_7 : List COp := [oo 2 .mov [.c (.d (.int .i64 9))]]
def R_automaton_checkEdges_8 : List COp := [oo 44 .mov [.t 3], oo 45 (.bin .eql false) [.t 44, .c (.d (.int .i64 0))]]
def R_automaton_checkEdges_9 : List COp := [oo 46 (.fld 3) [.t 1], oo 47 (.load false 1) [.t 46], oo 48 .mov [.t 3], oo 49 (.bin .sub false) [.t 48, .c (.d (.int .i64 1))], oo 50 (.idx 3) [.t 47, .t 49], oo 51 (.load true 3) [.t 50], oo 5 (.alloc [.d (.int .i64 0), .d (.int .i64 0), .d (.int .i64 0)]) [], ⟨none, .store 3, [.t 5, .t 51], false, none⟩]
def R_automaton_checkEdges_10 : List COp := [oo 52 (.fld 0) [.t 4], oo 53 (.load false 1) [.t 52], oo 54 (.fld 0) [.t 5], oo 55 (.load false 1) [.t 54], oo 56 (.bin .lss false) [.t 53, .t 55], oo 57 .mov [.t 56], ⟨some 58, .fld 0, [.t 4], false, some (57, false)⟩, ⟨some 59, .load false 1, [.t 58], false, some (57, false)⟩, ⟨some 60, .fld 0, [.t 5], false, some (57, false)⟩, ⟨some 61, .load false 1, [.t 60], false, some (57, false)⟩, ⟨some 62, .bin .eql false, [.t 59, .t 61], false, some (57, false)⟩, ⟨some 63, .mov, [.t 62], false, some (57, false)⟩, ⟨some 64, .fld 1, [.t 4], false, some (63, true)⟩, ⟨some 65, .load false 1, [.t 64], false, some (63, true)⟩, ⟨some 66, .fld 1, [.t 5], false, some (63, true)⟩, ⟨some 67, .load false 1, [.t 66], false, some (63, true)⟩, ⟨some 68, .bin .leq false, [.t 65, .t 67], false, some (63, true)⟩, ⟨some 69, .pick, [.t 63, .t 68, .c (.d (.bool false))], false, some (57, false)⟩, oo 70 .pick [.t 57, .c (.d (.bool true)), .t 69]]
def R_automaton_checkEdges_11 : List COp := [oo 2 .mov [.c (.d (.int .i64 5))]]
def R_automaton_checkEdges_12 : List COp := [oo 71 (.bin .add false) [.t 9, .c (.d (.int .i64 1))], oo 9 .mov [.t 71]]
def R_automaton_checkEdges_13 : List COp := [oo 2 .mov [.c (.d (.int .i64 0))]]
def F_automaton_checkEdges : CFn := ⟨1, 72, [.t 2], .seq (.region R_automaton_checkEdges_0 9 []) (.seq (.seq (.region R_automaton_checkEdges_1 9 []) (.block 0 (.loop [4, 5] (.seq (.region R_automaton_checkEdges_2 9 []) (.seq (.cond (.t 10) (.skip) (.exit 0)) (.seq (.block 1 (.seq (.region R_automaton_checkEdges_3 9 []) (.seq (.block 2 (.seq (.region R_automaton_checkEdges_4 9 []) (.cond (.t 14) (.seq (.region R_automaton_checkEdges_5 9 []) (.ret)) (.seq (.region R_automaton_checkEdges_6 9 []) (.cond (.t 37) (.seq (.region R_automaton_checkEdges_7 9 []) (.ret)) (.skip)))))) (.seq (.seq (.region R_automaton_checkEdges_8 9 []) (.cond (.t 45) (.exit 1) (.skip))) (.seq (.region R_automaton_checkEdges_9 9 []) (.seq (.region R_automaton_checkEdges_10 9 []) (.cond (.t 70) (.seq (.region R_automaton_checkEdges_11 9 []) (.ret)) (.skip)))))))) (.region R_automaton_checkEdges_12 9 []))))))) (.seq (.region R_automaton_checkEdges_13 9 []) (.ret)))⟩
def f_automaton_checkEdges (f_slices_Contains_int : (List Int) → Int → Option Bool) (fuel : Nat) (a1 : api_Automaton) : Option Int :=
  iterF (fun k3 (x2 : Int) => (if (x2 < (a1.Edges.length : Int)) then letJ (fun ((c22, c23, c24) : Int × Int × Int) => k3 (IntKind.wrap .i64 (x2 + 1))) fun J25 => ((getO a1.Edges x2).bind fun x5 => (((if (x5.From < 0) then some true else (if (x5.From ≥ a1.States) then some true else (if (x5.To < 0) then some true else some (decide (x5.To ≥ a1.States)))))).bind fun (x10 : Bool) => (if x10 then some 2 else ((f_slices_Contains_int a1.Alphabet x5.Event).bind fun x13 => (if x13 then (if (x2 == 0) then J25 (x5.From, x5.Event, x5.To) else ((getO a1.Edges (IntKind.wrap .i64 (x2 - 1))).bind fun x16 => (((if (x5.From < x16.From) then some true else (if (x5.From == x16.From) then some (decide (x5.Event ≤ x16.Event)) else some false))).bind fun (x20 : Bool) => (if x20 then some 5 else J25 (x5.From, x5.Event, x5.To))))) else some 9))))) else some 0)) fuel 0
def K_automaton_Check (P : Program) (c : Nat) (f : api_Automaton → Option Int) : Prop := ∀ a1 r, f a1 = some r → ∀ M nb, ACalls P c [.agg [.d (.lst 1 (List.map (eI .i64) a1.Alphabet)), .d (.int .i64 a1.States), .d (.lst 1 (List.map (eI .i64) a1.Marked)), .d (.lst 3 (List.map e_api_Edge a1.Edges))]] M nb (.d (.int .i64 r)) M nb
def R_automaton_Check_0 : List COp := [oo 1 (.box 4) [.t 0], oo 2 .mov [.c (.d (.int .i64 0))]]
def R_automaton_Check_1 : List COp := [oo 5 (.fld 0) [.t 1], oo 6 (.load false 1) [.t 5], oo 7 (.call 68) [.t 6, .c (.d (.int .i64 32))], oo 3 .mov [.t 7]]
def R_automaton_Check_2 : List COp := [oo 8 .mov [.t 3], oo 9 (.bin .neq false) [.t 8, .c (.d (.int .i64 0))]]
def R_automaton_Check_3 : List COp := [oo 10 .mov [.t 3], oo 2 .mov [.t 10]]
def R_automaton_Check_4 : List COp := [oo 12 (.fld 1) [.t 1], oo 13 (.load false 1) [.t 12], oo 14 (.bin .lss false) [.t 13, .c (.d (.int .i64 0))], oo 11 .mov [.t 14]]
def R_automaton_Check_5 : List COp := [oo 2 .mov [.c (.d (.int .i64 2))]]
def R_automaton_Check_6 : List COp := [oo 16 (.fld 1) [.t 1], oo 17 (.load false 1) [.t 16], oo 18 (.bin .gtr false) [.t 17, .c (.d (.int .i64 4096))], oo 15 .mov [.t 18]]
def R_automaton_Check_7 : List COp := [oo 2 .mov [.c (.d (.int .i64 3))]]
def R_automaton_Check_8 : List COp := [oo 19 (.fld 2) [.t 1], oo 20 (.load false 1) [.t 19], oo 21 (.fld 1) [.t 1], oo 22 (.load false 1) [.t 21], oo 23 (.call 68) [.t 20, .t 22], oo 4 .mov [.t 23]]
def R_automaton_Check_9 : List COp := [oo 24 .mov [.t 4], oo 25 (.bin .neq false) [.t 24, .c (.d (.int .i64 0))]]
def R_automaton_Check_10 : List COp := [oo 26 .mov [.t 4], oo 2 .mov [.t 26]]
def R_automaton_Check_11 : List COp := [oo 27 (.load true 4) [.t 1], oo 28 (.call 69) [.t 27], oo 2 .mov [.t 28]]
def F_automaton_Check : CFn := ⟨1, 29, [.t 2], .seq (.region R_automaton_Check_0 9 []) (.seq (.seq (.region R_automaton_Check_1 9 []) (.seq (.region R_automaton_Check_2 9 []) (.cond (.t 9) (.seq (.region R_automaton_Check_3 9 []) (.ret)) (.skip)))) (.seq (.block 0 (.seq (.region R_automaton_Check_4 9 []) (.cond (.t 11) (.seq (.region R_automaton_Check_5 9 []) (.ret)) (.seq (.region R_automaton_Check_6 9 []) (.cond (.t 15) (.seq (.region R_automaton_Check_7 9 []) (.ret)) (.skip)))))) (.seq (.seq (.region R_automaton_Check_8 9 []) (.seq (.region R_automaton_Check_9 9 []) (.cond (.t 25) (.seq (.region R_automaton_Check_10 9 []) (.ret)) (.skip)))) (.seq (.region R_automaton_Check_11 9 []) (.ret)))))⟩
def f_automaton_Check (f_automaton_checkSet : (List Int) → Int → Option Int) (f_automaton_checkEdges : api_Automaton → Option Int) (a1 : api_Automaton) : Option Int :=
  ((f_automaton_checkSet a1.Alphabet 32).bind fun x3 => (if (x3 != 0) then some x3 else (if (a1.States < 0) then some 2 else (if (a1.States > 4096) then some 3 else ((f_automaton_checkSet a1.Marked a1.States).bind fun x8 => (if (x8 != 0) then some x8 else ((f_automaton_checkEdges a1).bind fun x11 => some x11)))))))
def K_slices_Clone_int (P : Program) (c : Nat) (f : (List Int) → Option ((List Int))) : Prop := ∀ s1 r, f s1 = some r → ∀ M nb, ACalls P c [.d (.lst 1 (List.map (eI .i64) s1))] M nb (.own 1 (List.map (eI .i64) r)) M nb
def R_slices_Clone_int_0 : List COp := [ot 2 .mov [.c (.nils 1)]]
def R_slices_Clone_int_1 : List COp := [oo 3 .mov [.t 0], oo 4 (.isnil false) [.t 3]]
def R_slices_Clone_int_2 : List COp := [ot 2 .mov [.c (.nils 1)]]
def R_slices_Clone_int_3 : List COp := [oo 5 (.bslice 1 0 [.d (.int .i64 0)] []) [], oo 6 .mov [.t 0], ot 7 (.append 1 8) [.t 5, .t 6], ot 2 .mov [.t 7]]
def F_slices_Clone_int : CFn := ⟨1, 8, [.t 2], .seq (.region R_slices_Clone_int_0 9 []) (.seq (.seq (.region R_slices_Clone_int_1 9 []) (.cond (.t 4) (.seq (.region R_slices_Clone_int_2 9 []) (.ret)) (.skip))) (.seq (.region R_slices_Clone_int_3 9 []) (.ret)))⟩
def f_slices_Clone_int (s1 : (List Int)) : Option ((List Int)) :=
  (nilO s1 fun b2 => (if b2 then some [] else ((appO [] s1).bind fun x4 => some x4)))
def K_cmp_isNaN_int (P : Program) (c : Nat) (f : Int → Option Bool) : Prop := ∀ x1 r, f x1 = some r → ∀ M nb, ACalls P c [.d (.int .i64 x1)] M nb (.d (.bool r)) M nb
def R_cmp_isNaN_int_0 : List COp := [oo 2 .mov [.c (.d (.bool false))]]
def R_cmp_isNaN_int_1 : List COp := [oo 3 .mov [.t 0], oo 4 .mov [.t 0], oo 5 (.bin .neq false) [.t 3, .t 4], oo 2 .mov [.t 5]]
def F_cmp_isNaN_int : CFn := ⟨1, 6, [.t 2], .seq (.region R_cmp_isNaN_int_0 9 []) (.seq (.region R_cmp_isNaN_int_1 9 []) (.ret))⟩
def f_cmp_isNaN_int (x1 : Int) : Option Bool :=
  some (x1 != x1)
def K_cmp_Less_int (P : Program) (c : Nat) (f : Int → Int → Option Bool) : Prop := ∀ x1 y2 r, f x1 y2 = some r → ∀ M nb, ACalls P c [.d (.int .i64 x1), .d (.int .i64 y2)] M nb (.d (.bool r)) M nb
def R_cmp_Less_int_0 : List COp := [oo 4 .mov [.c (.d (.bool false))]]
def R_cmp_Less_int_1 : List COp := [oo 5 .mov [.t 0], oo 6 (.call 106) [.t 5], oo 7 .mov [.t 6], ⟨some 8, .mov, [.t 1], false, some (7, true)⟩, ⟨some 9, .call 106, [.t 8], false, some (7, true)⟩, ⟨some 10, .un .not, [.t 9], false, some (7, true)⟩, oo 11 .pick [.t 7, .t 10, .c (.d (.bool false))], oo 12 .mov [.t 11], ⟨some 13, .mov, [.t 0], false, some (12, false)⟩, ⟨some 14, .mov, [.t 1], false, some (12, false)⟩, ⟨some 15, .bin .lss false, [.t 13, .t 14], false, some (12, false)⟩, oo 16 .pick [.t 12, .c (.d (.bool true)), .t 15], oo 4 .mov [.t 16]]
def F_cmp_Less_int : CFn := ⟨2, 17, [.t 4], .seq (.region R_cmp_Less_int_0 9 []) (.seq (.region R_cmp_Less_int_1 9 []) (.ret))⟩
def f_cmp_Less_int (f_cmp_isNaN_int : Int → Option Bool) (x1 : Int) (y2 : Int) : Option Bool :=
  ((f_cmp_isNaN_int x1).bind fun x4 => (if x4 then ((f_cmp_isNaN_int y2).bind fun x7 => (if x7 then some (decide (x1 < y2)) else some true)) else some (decide (x1 < y2))))
def K_slices_isNaN_int (P : Program) (c : Nat) (f : Int → Option Bool) : Prop := ∀ x1 r, f x1 = some r → ∀ M nb, ACalls P c [.d (.int .i64 x1)] M nb (.d (.bool r)) M nb
def R_slices_isNaN_int_0 : List COp := [oo 2 .mov [.c (.d (.bool false))]]
def R_slices_isNaN_int_1 : List COp := [oo 3 .mov [.t 0], oo 4 .mov [.t 0], oo 5 (.bin .neq false) [.t 3, .t 4], oo 2 .mov [.t 5]]
def F_slices_isNaN_int : CFn := ⟨1, 6, [.t 2], .seq (.region R_slices_isNaN_int_0 9 []) (.seq (.region R_slices_isNaN_int_1 9 []) (.ret))⟩
def f_slices_isNaN_int (x1 : Int) : Option Bool :=
  some (x1 != x1)
def K_slices_BinarySearch_int (P : Program) (c : Nat) (f : (List Int) → Int → Option (Int × Bool)) : Prop := ∀ x1 target2 r, f x1 target2 = some r → ∀ M nb, ACalls P c [.d (.lst 1 (List.map (eI .i64) x1)), .d (.int .i64 target2)] M nb (.tup [.d (.int .i64 r.1), .d (.bool r.2)]) M nb
def R_slices_BinarySearch_int_0 : List COp := [oo 4 .mov [.c (.d (.int .i64 0))], oo 5 .mov [.c (.d (.bool false))]]
def R_slices_BinarySearch_int_1 : List COp := [oo 10 .mov [.t 0], oo 11 .len [.t 10], oo 6 .mov [.t 11]]
def R_slices_BinarySearch_int_2 : List COp := [oo 12 .mov [.t 6], oo 7 .mov [.c (.d (.int .i64 0))], oo 8 .mov [.t 12]]
def R_slices_BinarySearch_int_3 : List COp := [oo 13 .mov [.t 7], oo 14 .mov [.t 8], oo 15 (.bin .lss false) [.t 13, .t 14]]
def R_slices_BinarySearch_int_4 : List COp := [oo 16 .mov [.t 7], oo 17 .mov [.t 8], oo 18 (.bin .add false) [.t 16, .t 17], oo 19 (.conv .u64) [.t 18], oo 20 (.bin .shr false) [.t 19, .c (.d (.int .u64 1))], oo 21 (.conv .i64) [.t 20], oo 9 .mov [.t 21]]
def R_slices_BinarySearch_int_5 : List COp := [oo 22 .mov [.t 0], oo 23 .mov [.t 9], oo 24 (.idx 1) [.t 22, .t 23], oo 25 (.load false 1) [.t 24], oo 26 .mov [.t 1], oo 27 (.call 86) [.t 25, .t 26]]
def R_slices_BinarySearch_int_6 : List COp := [oo 28 .mov [.t 9], oo 29 (.bin .add false) [.t 28, .c (.d (.int .i64 1))], oo 7 .mov [.t 29]]
def R_slices_BinarySearch_int_7 : List COp := [oo 30 .mov [.t 9], oo 8 .mov [.t 30]]
def R_slices_BinarySearch_int_8 : List COp := [oo 31 .mov [.t 7], oo 32 .mov [.t 7], oo 33 .mov [.t 6], oo 34 (.bin .lss false) [.t 32, .t 33], oo 35 .mov [.t 34], ⟨some 36, .mov, [.t 0], false, some (35, true)⟩, ⟨some 37, .mov, [.t 7], false, some (35, true)⟩, ⟨some 38, .idx 1, [.t 36, .t 37], false, some (35, true)⟩, ⟨some 39, .load false 1, [.t 38], false, some (35, true)⟩, ⟨some 40, .mov, [.t 1], false, some (35, true)⟩, ⟨some 41, .bin .eql false, [.t 39, .t 40], false, some (35, true)⟩, ⟨some 42, .mov, [.t 41], false, some (35, true)⟩, ⟨some 43, .mov, [.t 0], false, some (42, false)⟩, ⟨some 44, .mov, [.t 7], false, some (42, false)⟩, ⟨some 45, .idx 1, [.t 43, .t 44], false, some (42, false)⟩, ⟨some 46, .load false 1, [.t 45], false, some (42, false)⟩, ⟨some 47, .call 87, [.t 46], false, some (42, false)⟩, ⟨some 48, .mov, [.t 47], false, some (42, false)⟩, ⟨some 49, .mov, [.t 1], false, some (48, true)⟩, ⟨some 50, .call 87, [.t 49], false, some (48, true)⟩, ⟨some 51, .pick, [.t 48, .t 50, .c (.d (.bool false))], false, some (42, false)⟩, ⟨some 52, .pick, [.t 42, .c (.d (.bool true)), .t 51], false, some (35, true)⟩, oo 53 .pick [.t 35, .t 52, .c (.d (.bool false))], oo 4 .mov [.t 31], oo 5 .mov [.t 53]]
def F_slices_BinarySearch_int : CFn := ⟨2, 54, [.t 4, .t 5], .seq (.region R_slices_BinarySearch_int_0 9 []) (.seq (.region R_slices_BinarySearch_int_1 9 []) (.seq (.region R_slices_BinarySearch_int_2 9 []) (.seq (.block 0 (.loop [] (.seq (.seq (.region R_slices_BinarySearch_int_3 9 []) (.cond (.t 15) (.skip) (.exit 0))) (.block 1 (.seq (.region R_slices_BinarySearch_int_4 9 []) (.seq (.region R_slices_BinarySearch_int_5 9 []) (.cond (.t 27) (.region R_slices_BinarySearch_int_6 9 []) (.region R_slices_BinarySearch_int_7 9 [])))))))) (.seq (.region R_slices_BinarySearch_int_8 9 []) (.ret)))))⟩
def f_slices_BinarySearch_int (f_cmp_Less_int : Int → Int → Option Bool) (f_slices_isNaN_int : Int → Option Bool) (fuel : Nat) (x1 : (List Int)) (target2 : Int) : Option (Int × Bool) :=
  ((iterF (fun k5 ((i3, j4) : Int × Int) => (if (i3 < j4) then ((getO x1 (IntKind.wrap .i64 (Int.fdiv (IntKind.wrap .u64 (IntKind.wrap .i64 (i3 + j4))) (2 ^ (min (Int.toNat 1) (IntKind.bits .u64)))))).bind fun x7 => ((f_cmp_Less_int x7 target2).bind fun x10 => (if x10 then k5 ((IntKind.wrap .i64 ((IntKind.wrap .i64 (Int.fdiv (IntKind.wrap .u64 (IntKind.wrap .i64 (i3 + j4))) (2 ^ (min (Int.toNat 1) (IntKind.bits .u64))))) + 1)), j4) else k5 (i3, (IntKind.wrap .i64 (Int.fdiv (IntKind.wrap .u64 (IntKind.wrap .i64 (i3 + j4))) (2 ^ (min (Int.toNat 1) (IntKind.bits .u64))))))))) else some i3)) fuel (0, (x1.length : Int))).bind fun (i12 : Int) => (if (i12 < (x1.length : Int)) then ((getO x1 i12).bind fun x14 => (if (x14 == target2) then some (i12, true) else ((getO x1 i12).bind fun x17 => ((f_slices_isNaN_int x17).bind fun x20 => (if x20 then ((f_slices_isNaN_int target2).bind fun x23 => some (i12, x23)) else some (i12, false)))))) else some (i12, false)))
def K_slices_BinarySearchFunc_int (P : Program) (c : Nat) (f : (List api_Edge) → Int → (api_Edge → Int → Option Int) → Option (Int × Bool)) : Prop := ∀ x1 target2 cmp3 (g4 : Nat) (cp5 : List V) r, f x1 target2 cmp3 = some r → ∀ M nb, (V.dems cp5 = cp5) → (V.ons (There M) cp5) → (∀ a9 a10 r, cmp3 a9 a10 = some r → ∀ M2 nb2, nb ≤ nb2 → Ext M M2 → ACalls P g4 ([.agg [.d (.int .i64 a9.From), .d (.int .i64 a9.Event), .d (.int .i64 a9.To)], .d (.int .i64 a10)] ++ cp5) M2 nb2 (.d (.int .i64 r)) M2 nb2) → ACalls P c [.d (.lst 3 (List.map e_api_Edge x1)), .d (.int .i64 target2), .clo g4 cp5] M nb (.tup [.d (.int .i64 r.1), .d (.bool r.2)]) M nb
def R_slices_BinarySearchFunc_int_0 : List COp := [oo 6 .mov [.c (.d (.int .i64 0))], oo 7 .mov [.c (.d (.bool false))]]
def R_slices_BinarySearchFunc_int_1 : List COp := [oo 12 .mov [.t 0], oo 13 .len [.t 12], oo 8 .mov [.t 13]]
def R_slices_BinarySearchFunc_int_2 : List COp := [oo 14 .mov [.t 8], oo 9 .mov [.c (.d (.int .i64 0))], oo 10 .mov [.t 14]]
def R_slices_BinarySearchFunc_int_3 : List COp := [oo 15 .mov [.t 9], oo 16 .mov [.t 10], oo 17 (.bin .lss false) [.t 15, .t 16]]
def R_slices_BinarySearchFunc_int_4 : List COp := [oo 18 .mov [.t 9], oo 19 .mov [.t 10], oo 20 (.bin .add false) [.t 18, .t 19], oo 21 (.conv .u64) [.t 20], oo 22 (.bin .shr false) [.t 21, .c (.d (.int .u64 1))], oo 23 (.conv .i64) [.t 22], oo 11 .mov [.t 23]]
def R_slices_BinarySearchFunc_int_5 : List COp := [oo 24 .mov [.t 2], oo 25 .mov [.t 0], oo 26 .mov [.t 11], oo 27 (.idx 3) [.t 25, .t 26], oo 28 (.load true 3) [.t 27], oo 29 .mov [.t 1], oo 30 .callv [.t 24, .t 28, .t 29], oo 31 (.bin .lss false) [.t 30, .c (.d (.int .i64 0))]]
def R_slices_BinarySearchFunc_int_6 : List COp := [oo 32 .mov [.t 11], oo 33 (.bin .add false) [.t 32, .c (.d (.int .i64 1))], oo 9 .mov [.t 33]]
def R_slices_BinarySearchFunc_int_7 : List COp := [oo 34 .mov [.t 11], oo 10 .mov [.t 34]]
def R_slices_BinarySearchFunc_int_8 : List COp := [oo 35 .mov [.t 9], oo 36 .mov [.t 9], oo 37 .mov [.t 8], oo 38 (.bin .lss false) [.t 36, .t 37], oo 39 .mov [.t 38], ⟨some 40, .mov, [.t 2], false, some (39, true)⟩, ⟨some 41, .mov, [.t 0], false, some (39, true)⟩, ⟨some 42, .mov, [.t 9], false, some (39, true)⟩, ⟨some 43, .idx 3, [.t 41, .t 42], false, some (39, true)⟩, ⟨some 44, .load true 3, [.t 43], false, some (39, true)⟩, ⟨some 45, .mov, [.t 1], false, some (39, true)⟩, ⟨some 46, .callv, [.t 40, .t 44, .t 45], false, some (39, true)⟩, ⟨some 47, .bin .eql false, [.t 46, .c (.d (.int .i64 0))], false, some (39, true)⟩, oo 48 .pick [.t 39, .t 47, .c (.d (.bool false))], oo 6 .mov [.t 35], oo 7 .mov [.t 48]]
def F_slices_BinarySearchFunc_int : CFn := ⟨3, 49, [.t 6, .t 7], .seq (.region R_slices_BinarySearchFunc_int_0 9 []) (.seq (.region R_slices_BinarySearchFunc_int_1 9 []) (.seq (.region R_slices_BinarySearchFunc_int_2 9 []) (.seq (.block 0 (.loop [] (.seq (.seq (.region R_slices_BinarySearchFunc_int_3 9 []) (.cond (.t 17) (.skip) (.exit 0))) (.block 1 (.seq (.region R_slices_BinarySearchFunc_int_4 9 []) (.seq (.region R_slices_BinarySearchFunc_int_5 9 []) (.cond (.t 31) (.region R_slices_BinarySearchFunc_int_6 9 []) (.region R_slices_BinarySearchFunc_int_7 9 [])))))))) (.seq (.region R_slices_BinarySearchFunc_int_8 9 []) (.ret)))))⟩
def f_slices_BinarySearchFunc_int (fuel : Nat) (x1 : (List api_Edge)) (target2 : Int) (cmp3 : (api_Edge → Int → Option Int)) : Option (Int × Bool) :=
  ((iterF (fun k13 ((i11, j12) : Int × Int) => (if (i11 < j12) then ((getO x1 (IntKind.wrap .i64 (Int.fdiv (IntKind.wrap .u64 (IntKind.wrap .i64 (i11 + j12))) (2 ^ (min (Int.toNat 1) (IntKind.bits .u64)))))).bind fun x15 => ((cmp3 x15 target2).bind fun x18 => (if (x18 < 0) then k13 ((IntKind.wrap .i64 ((IntKind.wrap .i64 (Int.fdiv (IntKind.wrap .u64 (IntKind.wrap .i64 (i11 + j12))) (2 ^ (min (Int.toNat 1) (IntKind.bits .u64))))) + 1)), j12) else k13 (i11, (IntKind.wrap .i64 (Int.fdiv (IntKind.wrap .u64 (IntKind.wrap .i64 (i11 + j12))) (2 ^ (min (Int.toNat 1) (IntKind.bits .u64))))))))) else some i11)) fuel (0, (x1.length : Int))).bind fun (i20 : Int) => (if (i20 < (x1.length : Int)) then ((getO x1 i20).bind fun x22 => ((cmp3 x22 target2).bind fun x25 => some (i20, (x25 == 0)))) else some (i20, false)))
def K_automaton_out_1 (P : Program) (c : Nat) (f : api_Edge → Int → Option Int) : Prop := ∀ x1 s2 r, f x1 s2 = some r → ∀ M nb, ACalls P c [.agg [.d (.int .i64 x1.From), .d (.int .i64 x1.Event), .d (.int .i64 x1.To)], .d (.int .i64 s2)] M nb (.d (.int .i64 r)) M nb
def R_automaton_out_1_0 : List COp := [oo 2 (.box 3) [.t 0], oo 4 .mov [.c (.d (.int .i64 0))]]
def R_automaton_out_1_1 : List COp := [oo 5 (.fld 0) [.t 2], oo 6 (.load false 1) [.t 5], oo 7 .mov [.t 1], oo 8 (.bin .sub false) [.t 6, .t 7], oo 4 .mov [.t 8]]
def F_automaton_out_1 : CFn := ⟨2, 9, [.t 4], .seq (.region R_automaton_out_1_0 9 []) (.seq (.region R_automaton_out_1_1 9 []) (.ret))⟩
def f_automaton_out_1 (x1 : api_Edge) (s2 : Int) : Option Int :=
  some (IntKind.wrap .i64 (x1.From - s2))
def K_automaton_out_2 (P : Program) (c : Nat) (f : api_Edge → Int → Option Int) : Prop := ∀ x1 s2 r, f x1 s2 = some r → ∀ M nb, ACalls P c [.agg [.d (.int .i64 x1.From), .d (.int .i64 x1.Event), .d (.int .i64 x1.To)], .d (.int .i64 s2)] M nb (.d (.int .i64 r)) M nb
def R_automaton_out_2_0 : List COp := [oo 2 (.box 3) [.t 0], oo 4 .mov [.c (.d (.int .i64 0))]]
def R_automaton_out_2_1 : List COp := [oo 5 (.fld 0) [.t 2], oo 6 (.load false 1) [.t 5], oo 7 .mov [.t 1], oo 8 (.bin .sub false) [.t 6, .t 7], oo 4 .mov [.t 8]]
def F_automaton_out_2 : CFn := ⟨2, 9, [.t 4], .seq (.region R_automaton_out_2_0 9 []) (.seq (.region R_automaton_out_2_1 9 []) (.ret))⟩
def f_automaton_out_2 (x1 : api_Edge) (s2 : Int) : Option Int :=
  some (IntKind.wrap .i64 (x1.From - s2))
def K_automaton_out (P : Program) (c : Nat) (f : api_Automaton → Int → Option ((List api_Edge))) : Prop := ∀ a1 state2 r, f a1 state2 = some r → ∀ M nb, ACalls P c [.agg [.d (.lst 1 (List.map (eI .i64) a1.Alphabet)), .d (.int .i64 a1.States), .d (.lst 1 (List.map (eI .i64) a1.Marked)), .d (.lst 3 (List.map e_api_Edge a1.Edges))], .d (.int .i64 state2)] M nb (.d (.lst 3 (List.map e_api_Edge r))) M nb
def R_automaton_out_0 : List COp := [oo 2 (.box 4) [.t 0], ot 4 .mov [.c (.nils 3)]]
def R_automaton_out_1 : List COp := [oo 10 (.fld 3) [.t 2], oo 11 (.load false 1) [.t 10], oo 12 .mov [.t 1], oo 13 (.call 70) [.t 11, .t 12, .c (.clo 71 [])], oo 9 .mov [.t 13], oo 14 (.extract 0) [.t 9], oo 15 (.extract 1) [.t 9], oo 5 .mov [.t 14], oo 6 .mov [.t 15]]
def R_automaton_out_2 : List COp := [oo 17 (.fld 3) [.t 2], oo 18 (.load false 1) [.t 17], oo 19 .mov [.t 1], oo 20 (.bin .add false) [.t 19, .c (.d (.int .i64 1))], oo 21 (.call 70) [.t 18, .t 20, .c (.clo 72 [])], oo 16 .mov [.t 21], oo 22 (.extract 0) [.t 16], oo 23 (.extract 1) [.t 16], oo 7 .mov [.t 22], oo 8 .mov [.t 23]]
def R_automaton_out_3 : List COp := [oo 24 (.fld 3) [.t 2], oo 25 (.load false 1) [.t 24], oo 26 .mov [.t 5], oo 27 .mov [.t 7], oo 28 (.slice 3 true true) [.t 25, .t 26, .t 27], ot 4 .mov [.t 28]]
def F_automaton_out : CFn := ⟨2, 29, [.t 4], .seq (.region R_automaton_out_0 9 []) (.seq (.region R_automaton_out_1 9 []) (.seq (.region R_automaton_out_2 9 []) (.seq (.region R_automaton_out_3 9 []) (.ret))))⟩
def f_automaton_out (f_slices_BinarySearchFunc_int : (List api_Edge) → Int → (api_Edge → Int → Option Int) → Option (Int × Bool)) (f_automaton_out_1 : api_Edge → Int → Option Int) (f_automaton_out_2 : api_Edge → Int → Option Int) (a1 : api_Automaton) (state2 : Int) : Option ((List api_Edge)) :=
  ((f_slices_BinarySearchFunc_int a1.Edges state2 f_automaton_out_1).bind fun (r8, r9) => ((f_slices_BinarySearchFunc_int a1.Edges (IntKind.wrap .i64 (state2 + 1)) f_automaton_out_2).bind fun (r15, r16) => ((slcO a1.Edges r8 r15).bind fun x17 => some x17)))
def K_automaton_canonical (P : Program) (c : Nat) (f : api_Automaton → Option api_Automaton) : Prop := ∀ a1 r, f a1 = some r → ∀ M nb, ACalls P c [.agg [.d (.lst 1 (List.map (eI .i64) a1.Alphabet)), .d (.int .i64 a1.States), .d (.lst 1 (List.map (eI .i64) a1.Marked)), .d (.lst 3 (List.map e_api_Edge a1.Edges))]] M nb (.agg [.d (.lst 1 (List.map (eI .i64) r.Alphabet)), .d (.int .i64 r.States), .d (.lst 1 (List.map (eI .i64) r.Marked)), .d (.lst 3 (List.map e_api_Edge r.Edges))]) M nb
def R_automaton_canonical_0 : List COp := [oo 1 (.box 4) [.t 0], oo 2 (.alloc [.nils 1, .d (.int .i64 0), .nils 1, .nils 3]) []]
def R_automaton_canonical_1 : List COp := [oo 12 (.fld 0) [.t 1], oo 13 (.load false 1) [.t 12], oo 14 (.call 49) [.t 13], oo 15 (.build [.nils 1, .d (.int .i64 0), .nils 1, .nils 3] [(0, 1)]) [.t 14], oo 3 (.alloc [.nils 1, .d (.int .i64 0), .nils 1, .nils 3]) [], ⟨none, .store 4, [.t 3, .t 15], false, none⟩]
def R_automaton_canonical_2 : List COp := [oo 16 (.fld 1) [.t 1], oo 17 (.load false 1) [.t 16], oo 18 (.bin .eql false) [.t 17, .c (.d (.int .i64 0))]]
def R_automaton_canonical_3 : List COp := [oo 19 (.load true 4) [.t 3], ⟨none, .store 4, [.t 2, .t 19], false, none⟩]
def R_automaton_canonical_4 : List COp := [oo 20 (.fld 1) [.t 1], oo 21 (.load false 1) [.t 20], oo 22 (.makes 1 8 [.d (.int .i64 0)]) [.t 21, .t 21], ot 4 .mov [.t 22]]
def R_automaton_canonical_5 : List COp := [oo 23 .mov [.t 4], oo 24 .len [.t 23], oo 25 .mov [.c (.d (.int .i64 0))]]
def R_automaton_canonical_6 : List COp := [oo 26 (.bin .lss false) [.t 25, .t 24]]
def R_automaton_canonical_7 : List COp := [oo 27 .mov [.t 25], oo 5 .mov [.t 27]]
def R_automaton_canonical_8 : List COp := [oo 28 .mov [.t 4], oo 29 .mov [.t 5], oo 30 (.idx 1) [.t 28, .t 29], ⟨none, .store 1, [.t 30, .c (.d (.int .i64 (-1)))], false, none⟩]
def R_automaton_canonical_9 : List COp := [oo 31 (.bin .add false) [.t 25, .c (.d (.int .i64 1))], oo 25 .mov [.t 31]]
def R_automaton_canonical_10 : List COp := [oo 32 .mov [.t 4], oo 33 (.idx 1) [.t 32, .c (.d (.int .i64 0))], ⟨none, .store 1, [.t 33, .c (.d (.int .i64 0))], false, none⟩]
def R_automaton_canonical_11 : List COp := [oo 34 (.bslice 1 1 [.d (.int .i64 0)] [0]) [.c (.d (.int .i64 0))], ot 6 .mov [.t 34]]
def R_automaton_canonical_12 : List COp := [oo 7 .mov [.c (.d (.int .i64 0))]]
def R_automaton_canonical_13 : List COp := [oo 35 .mov [.t 7], oo 36 .mov [.t 6], oo 37 .len [.t 36], oo 38 (.bin .lss false) [.t 35, .t 37]]
def R_automaton_canonical_14 : List COp := [oo 42 (.fld 2) [.t 1], oo 43 (.load false 1) [.t 42], oo 44 .mov [.t 6], oo 45 .mov [.t 7], oo 46 (.idx 1) [.t 44, .t 45], oo 47 (.load false 1) [.t 46], oo 48 (.call 78) [.t 43, .t 47], oo 41 .mov [.t 48], oo 49 (.extract 0) [.t 41], oo 50 (.extract 1) [.t 41], oo 8 .mov [.t 49], oo 9 .mov [.t 50]]
def R_automaton_canonical_15 : List COp := [oo 51 .mov [.t 9]]
def R_automaton_canonical_16 : List COp := [oo 52 (.fld 2) [.t 3], oo 53 .loadT [.t 52], oo 54 .mov [.t 7], oo 55 (.bslice 1 1 [.d (.int .i64 0)] [0]) [.t 54], ot 56 (.append 1 8) [.t 53, .t 55], oo 57 (.fld 2) [.t 3], ⟨none, .store 1, [.t 57, .t 56], true, none⟩]
def R_automaton_canonical_17 : List COp := [oo 58 (.load true 4) [.t 1], oo 59 .mov [.t 6], oo 60 .mov [.t 7], oo 61 (.idx 1) [.t 59, .t 60], oo 62 (.load false 1) [.t 61], oo 63 (.call 48) [.t 58, .t 62], oo 64 .len [.t 63], oo 65 .mov [.c (.d (.int .i64 0))]]
def R_automaton_canonical_18 : List COp := [oo 66 (.bin .lss false) [.t 65, .t 64]]
def R_automaton_canonical_19 : List COp := [oo 67 (.idx 3) [.t 63, .t 65], oo 68 (.load true 3) [.t 67], oo 11 (.alloc [.d (.int .i64 0), .d (.int .i64 0), .d (.int .i64 0)]) [], ⟨none, .store 3, [.t 11, .t 68], false, none⟩]
def R_automaton_canonical_20 : List COp := [oo 69 .mov [.t 4], oo 70 (.fld 2) [.t 11], oo 71 (.load false 1) [.t 70], oo 72 (.idx 1) [.t 69, .t 71], oo 73 (.load false 1) [.t 72], oo 74 (.bin .lss false) [.t 73, .c (.d (.int .i64 0))]]
def R_automaton_canonical_21 : List COp := [oo 75 .mov [.t 4], oo 76 (.fld 2) [.t 11], oo 77 (.load false 1) [.t 76], oo 78 .mov [.t 6], oo 79 .len [.t 78], oo 80 (.idx 1) [.t 75, .t 77], ⟨none, .store 1, [.t 80, .t 79], false, none⟩]
def R_automaton_canonical_22 : List COp := [ot 81 .mov [.t 6], oo 82 (.fld 2) [.t 11], oo 83 (.load false 1) [.t 82], oo 84 (.bslice 1 1 [.d (.int .i64 0)] [0]) [.t 83], ot 85 (.append 1 8) [.t 81, .t 84], ot 6 .mov [.t 85]]
def R_automaton_canonical_23 : List COp := [oo 86 (.fld 3) [.t 3], oo 87 .loadT [.t 86], oo 88 .mov [.t 7], oo 89 (.fld 1) [.t 11], oo 90 (.load false 1) [.t 89], oo 91 .mov [.t 4], oo 92 (.fld 2) [.t 11], oo 93 (.load false 1) [.t 92], oo 94 (.idx 1) [.t 91, .t 93], oo 95 (.load false 1) [.t 94], oo 96 (.build [.d (.int .i64 0), .d (.int .i64 0), .d (.int .i64 0)] [(0, 1), (1, 1), (2, 1)]) [.t 88, .t 90, .t 95], oo 97 (.bslice 3 1 [.d (.int .i64 0), .d (.int .i64 0), .d (.int .i64 0)] [0]) [.t 96], ot 98 (.append 3 24) [.t 87, .t 97], oo 99 (.fld 3) [.t 3], ⟨none, .store 1, [.t 99, .t 98], true, none⟩]
def R_automaton_canonical_24 : List COp := [oo 100 (.bin .add false) [.t 65, .c (.d (.int .i64 1))], oo 65 .mov [.t 100]]
def R_automaton_canonical_25 : List COp := [oo 39 .mov [.t 7], oo 40 (.bin .add false) [.t 39, .c (.d (.int .i64 1))], oo 7 .mov [.t 40]]
def R_automaton_canonical_26 : List COp := [oo 101 .mov [.t 6], oo 102 .len [.t 101], oo 103 (.fld 1) [.t 3], ⟨none, .store 1, [.t 103, .t 102], false, none⟩]
def R_automaton_canonical_27 : List COp := [oo 104 (.load true 4) [.t 3], ⟨none, .store 4, [.t 2, .t 104], false, none⟩]
def F_automaton_canonical : CFn := ⟨1, 105, [.cell 2 true 4], .seq (.region R_automaton_canonical_0 9 []) (.seq (.region R_automaton_canonical_1 9 []) (.seq (.seq (.region R_automaton_canonical_2 9 []) (.cond (.t 18) (.seq (.region R_automaton_canonical_3 9 []) (.ret)) (.skip))) (.seq (.region R_automaton_canonical_4 9 []) (.seq (.seq (.region R_automaton_canonical_5 9 []) (.block 0 (.loop [] (.seq (.region R_automaton_canonical_6 9 []) (.seq (.cond (.t 26) (.skip) (.exit 0)) (.seq (.block 1 (.seq (.region R_automaton_canonical_7 9 []) (.region R_automaton_canonical_8 9 []))) (.region R_automaton_canonical_9 9 []))))))) (.seq (.region R_automaton_canonical_10 9 []) (.seq (.region R_automaton_canonical_11 9 []) (.seq (.seq (.region R_automaton_canonical_12 9 []) (.block 2 (.loop [55, 11, 84, 97] (.seq (.seq (.region R_automaton_canonical_13 9 []) (.cond (.t 38) (.skip) (.exit 2))) (.seq (.block 3 (.seq (.seq (.region R_automaton_canonical_14 0 []) (.seq (.region R_automaton_canonical_15 9 []) (.cond (.t 51) (.region R_automaton_canonical_16 9 []) (.skip)))) (.seq (.region R_automaton_canonical_17 0 []) (.block 4 (.loop [11, 84, 97] (.seq (.region R_automaton_canonical_18 9 []) (.seq (.cond (.t 66) (.skip) (.exit 4)) (.seq (.block 5 (.seq (.region R_automaton_canonical_19 9 []) (.seq (.seq (.region R_automaton_canonical_20 9 []) (.cond (.t 74) (.seq (.region R_automaton_canonical_21 9 []) (.region R_automaton_canonical_22 9 [])) (.skip))) (.region R_automaton_canonical_23 0 [])))) (.region R_automaton_canonical_24 9 []))))))))) (.region R_automaton_canonical_25 9 [])))))) (.seq (.region R_automaton_canonical_26 9 []) (.seq (.region R_automaton_canonical_27 9 []) (.ret))))))))))⟩
def f_automaton_canonical (f_automaton_out : api_Automaton → Int → Option ((List api_Edge))) (f_slices_Clone_int : (List Int) → Option ((List Int))) (f_slices_BinarySearch_int : (List Int) → Int → Option (Int × Bool)) (fuel : Nat) (a1 : api_Automaton) : Option api_Automaton :=
  ((f_slices_Clone_int a1.Alphabet).bind fun x3 => (if (a1.States == 0) then some (api_Automaton.mk x3 0 [] []) else ((mkO a1.States 0).bind fun x5 => ((iterF (fun k9 ((x7, c8) : Int × (List Int)) => (if (x7 < ((Int.toNat a1.States) : Int)) then ((inO (Int.toNat a1.States) x7).bind fun u11 => ((setO c8 x7 (-1)).bind fun x13 => k9 ((IntKind.wrap .i64 (x7 + 1)), x13))) else some c8)) fuel (0, x5)).bind fun (c15 : List Int) => ((inO (Int.toNat a1.States) 0).bind fun u16 => ((setO c15 0 0).bind fun x18 => ((iterF (fun k28 ((order20, i21, c22, c23, c24, r25, r26, c27) : (List Int) × Int × (List Int) × (List Int) × (List api_Edge) × (List Int) × (List api_Edge) × (List Int)) => (if (i21 < (order20.length : Int)) then ((((((getO order20 i21).bind fun x30 => ((f_slices_BinarySearch_int a1.Marked x30).bind fun (r33, r34) => (if r34 then ((appO r25 [i21]).bind fun x36 => some x36) else some r25)))).bind fun (r38 : List Int) => ((getO order20 i21).bind fun x39 => ((f_automaton_out a1 x39).bind fun x42 => iterF (fun k47 ((order43, x44, r45, c46) : (List Int) × Int × (List api_Edge) × (List Int)) => (if (x44 < (x42.length : Int)) then ((getO x42 x44).bind fun x49 => ((((inO (Int.toNat a1.States) x49.To).bind fun u51 => ((getO c46 x49.To).bind fun x53 => (if (x53 < 0) then ((inO (Int.toNat a1.States) x49.To).bind fun u56 => ((setO c46 x49.To (order43.length : Int)).bind fun x58 => ((appO order43 [x49.To]).bind fun x60 => some (x60, x58)))) else some (order43, c46))))).bind fun ((order62, c63) : (List Int) × (List Int)) => ((inO (Int.toNat a1.States) x49.To).bind fun u64 => ((getO c63 x49.To).bind fun x66 => ((appO r45 [(api_Edge.mk i21 x49.Event x66)]).bind fun x68 => k47 (order62, (IntKind.wrap .i64 (x44 + 1)), x68, c63)))))) else some (order43, r38, r45, c46))) fuel (order20, 0, r26, c27))))).bind fun ((order70, r71, r72, c73) : (List Int) × (List Int) × (List api_Edge) × (List Int)) => k28 (order70, (IntKind.wrap .i64 (i21 + 1)), c22, c23, c24, r71, r72, c73)) else some (order20, c22, c23, c24, r25, r26, c27))) fuel ([0], 0, [], [], [], [], [], x18)).bind fun ((order74, c75, c76, c77, r78, r79, c80) : (List Int) × (List Int) × (List Int) × (List api_Edge) × (List Int) × (List api_Edge) × (List Int)) => some (api_Automaton.mk x3 (order74.length : Int) r78 r79))))))))
def K_automaton_Canonical (P : Program) (c : Nat) (f : api_Automaton → Option (api_Automaton × Int)) : Prop := ∀ a1 r, f a1 = some r → ∀ M nb, ACalls P c [.agg [.d (.lst 1 (List.map (eI .i64) a1.Alphabet)), .d (.int .i64 a1.States), .d (.lst 1 (List.map (eI .i64) a1.Marked)), .d (.lst 3 (List.map e_api_Edge a1.Edges))]] M nb (.tup [.agg [.d (.lst 1 (List.map (eI .i64) r.1.Alphabet)), .d (.int .i64 r.1.States), .d (.lst 1 (List.map (eI .i64) r.1.Marked)), .d (.lst 3 (List.map e_api_Edge r.1.Edges))], .d (.int .i64 r.2)]) M nb
def R_automaton_Canonical_0 : List COp := [oo 1 (.box 4) [.t 0], oo 2 (.alloc [.nils 1, .d (.int .i64 0), .nils 1, .nils 3]) [], oo 3 .mov [.c (.d (.int .i64 0))]]
def R_automaton_Canonical_1 : List COp := [oo 5 (.load true 4) [.t 1], oo 6 (.call 45) [.t 5], oo 4 .mov [.t 6]]
def R_automaton_Canonical_2 : List COp := [oo 7 .mov [.t 4], oo 8 (.bin .neq false) [.t 7, .c (.d (.int .i64 0))]]
def R_automaton_Canonical_3 : List COp := [oo 9 (.build [.nils 1, .d (.int .i64 0), .nils 1, .nils 3] []) [], oo 10 .mov [.t 4], ⟨none, .store 4, [.t 2, .t 9], false, none⟩, oo 3 .mov [.t 10]]
def R_automaton_Canonical_4 : List COp := [oo 11 (.load true 4) [.t 1], oo 12 (.call 56) [.t 11], ⟨none, .store 4, [.t 2, .t 12], false, none⟩, oo 3 .mov [.c (.d (.int .i64 0))]]
def F_automaton_Canonical : CFn := ⟨1, 13, [.cell 2 true 4, .t 3], .seq (.region R_automaton_Canonical_0 9 []) (.seq (.seq (.region R_automaton_Canonical_1 9 []) (.seq (.region R_automaton_Canonical_2 9 []) (.cond (.t 8) (.seq (.region R_automaton_Canonical_3 9 []) (.ret)) (.skip)))) (.seq (.region R_automaton_Canonical_4 9 []) (.ret)))⟩
def f_automaton_Canonical (f_automaton_Check : api_Automaton → Option Int) (f_automaton_canonical : api_Automaton → Option api_Automaton) (a1 : api_Automaton) : Option (api_Automaton × Int) :=
  ((f_automaton_Check a1).bind fun x3 => (if (x3 != 0) then some ((api_Automaton.mk [] 0 [] []), x3) else ((f_automaton_canonical a1).bind fun x6 => some (x6, 0))))
def K_automaton_checkState (P : Program) (c : Nat) (f : api_Automaton → Int → Option Int) : Prop := ∀ a1 state2 r, f a1 state2 = some r → ∀ M nb, ACalls P c [.agg [.d (.lst 1 (List.map (eI .i64) a1.Alphabet)), .d (.int .i64 a1.States), .d (.lst 1 (List.map (eI .i64) a1.Marked)), .d (.lst 3 (List.map e_api_Edge a1.Edges))], .d (.int .i64 state2)] M nb (.d (.int .i64 r)) M nb
def R_automaton_checkState_0 : List COp := [oo 2 (.box 4) [.t 0], oo 4 .mov [.c (.d (.int .i64 0))]]
def R_automaton_checkState_1 : List COp := [oo 6 (.load true 4) [.t 2], oo 7 (.call 45) [.t 6], oo 5 .mov [.t 7]]
def R_automaton_checkState_2 : List COp := [oo 8 .mov [.t 5], oo 9 (.bin .neq false) [.t 8, .c (.d (.int .i64 0))]]
def R_automaton_checkState_3 : List COp := [oo 10 .mov [.t 5], oo 4 .mov [.t 10]]
def R_automaton_checkState_4 : List COp := [oo 11 .mov [.t 1], oo 12 (.bin .lss false) [.t 11, .c (.d (.int .i64 0))], oo 13 .mov [.t 12], ⟨some 14, .mov, [.t 1], false, some (13, false)⟩, ⟨some 15, .fld 1, [.t 2], false, some (13, false)⟩, ⟨some 16, .load false 1, [.t 15], false, some (13, false)⟩, ⟨some 17, .bin .geq false, [.t 14, .t 16], false, some (13, false)⟩, oo 18 .pick [.t 13, .c (.d (.bool true)), .t 17]]
def R_automaton_checkState_5 : List COp := [oo 4 .mov [.c (.d (.int .i64 2))]]
def R_automaton_checkState_6 : List COp := [oo 4 .mov [.c (.d (.int .i64 0))]]
def F_automaton_checkState : CFn := ⟨2, 19, [.t 4], .seq (.region R_automaton_checkState_0 9 []) (.seq (.seq (.region R_automaton_checkState_1 9 []) (.seq (.region R_automaton_checkState_2 9 []) (.cond (.t 9) (.seq (.region R_automaton_checkState_3 9 []) (.ret)) (.skip)))) (.seq (.seq (.region R_automaton_checkState_4 9 []) (.cond (.t 18) (.seq (.region R_automaton_checkState_5 9 []) (.ret)) (.skip))) (.seq (.region R_automaton_checkState_6 9 []) (.ret))))⟩
def f_automaton_checkState (f_automaton_Check : api_Automaton → Option Int) (a1 : api_Automaton) (state2 : Int) : Option Int :=
  ((f_automaton_Check a1).bind fun x4 => (if (x4 != 0) then some x4 else (((if (state2 < 0) then some true else some (decide (state2 ≥ a1.States)))).bind fun (x7 : Bool) => (if x7 then some 2 else some 0))))
def K_automaton_Run_1 (P : Program) (c : Nat) (f : Int → api_Automaton → Option Bool) : Prop := ∀ x1 x2 (k3 : Nat) r, f x1 x2 = some r → ∀ M nb, (M k3 = some (.cells [.d (.lst 1 (List.map (eI .i64) x2.Alphabet)), .d (.int .i64 x2.States), .d (.lst 1 (List.map (eI .i64) x2.Marked)), .d (.lst 3 (List.map e_api_Edge x2.Edges))])) → ACalls P c [.d (.int .i64 x1), .ptr k3 0] M nb (.d (.bool r)) M nb
def R_automaton_Run_1_0 : List COp := [oo 3 .mov [.c (.d (.bool false))]]
def R_automaton_Run_1_1 : List COp := [oo 4 (.fld 0) [.t 1], oo 5 (.load false 1) [.t 4], oo 6 .mov [.t 0], oo 7 (.call 50) [.t 5, .t 6], oo 8 (.un .not) [.t 7], oo 3 .mov [.t 8]]
def F_automaton_Run_1 : CFn := ⟨2, 9, [.t 3], .seq (.region R_automaton_Run_1_0 9 []) (.seq (.region R_automaton_Run_1_1 9 []) (.ret))⟩
def f_automaton_Run_1 (f_slices_Contains_int : (List Int) → Int → Option Bool) (x1 : Int) (x2 : api_Automaton) : Option Bool :=
  ((f_slices_Contains_int x2.Alphabet x1).bind fun x6 => some (!x6))
def K_slices_IndexFunc_int (P : Program) (c : Nat) (f : (List Int) → (Int → Option Bool) → Option Int) : Prop := ∀ s1 f2 (g3 : Nat) (cp4 : List V) r, f s1 f2 = some r → ∀ M nb, (V.dems cp4 = cp4) → (V.ons (There M) cp4) → (∀ a8 r, f2 a8 = some r → ∀ M2 nb2, nb ≤ nb2 → Ext M M2 → ACalls P g3 ([.d (.int .i64 a8)] ++ cp4) M2 nb2 (.d (.bool r)) M2 nb2) → ACalls P c [.d (.lst 1 (List.map (eI .i64) s1)), .clo g3 cp4] M nb (.d (.int .i64 r)) M nb
def R_slices_IndexFunc_int_0 : List COp := [oo 4 .mov [.c (.d (.int .i64 0))]]
def R_slices_IndexFunc_int_1 : List COp := [oo 6 .mov [.t 0], oo 7 .len [.t 6], oo 8 .mov [.c (.d (.int .i64 0))]]
def R_slices_IndexFunc_int_2 : List COp := [oo 9 (.bin .lss false) [.t 8, .t 7]]
def R_slices_IndexFunc_int_3 : List COp := [oo 10 .mov [.t 8], oo 5 .mov [.t 10]]
def R_slices_IndexFunc_int_4 : List COp := [oo 11 .mov [.t 1], oo 12 .mov [.t 0], oo 13 .mov [.t 5], oo 14 (.idx 1) [.t 12, .t 13], oo 15 (.load false 1) [.t 14], oo 16 .callv [.t 11, .t 15]]
def R_slices_IndexFunc_int_5 : List COp := [oo 17 .mov [.t 5], oo 4 .mov [.t 17]]
def R_slices_IndexFunc_int_6 : List COp := [oo 18 (.bin .add false) [.t 8, .c (.d (.int .i64 1))], oo 8 .mov [.t 18]]
def R_slices_IndexFunc_int_7 : List COp := [oo 4 .mov [.c (.d (.int .i64 (-1)))]]
def F_slices_IndexFunc_int : CFn := ⟨2, 19, [.t 4], .seq (.region R_slices_IndexFunc_int_0 9 []) (.seq (.seq (.region R_slices_IndexFunc_int_1 9 []) (.block 0 (.loop [] (.seq (.region R_slices_IndexFunc_int_2 9 []) (.seq (.cond (.t 9) (.skip) (.exit 0)) (.seq (.block 1 (.seq (.region R_slices_IndexFunc_int_3 9 []) (.seq (.region R_slices_IndexFunc_int_4 9 []) (.cond (.t 16) (.seq (.region R_slices_IndexFunc_int_5 9 []) (.ret)) (.skip))))) (.region R_slices_IndexFunc_int_6 9 []))))))) (.seq (.region R_slices_IndexFunc_int_7 9 []) (.ret)))⟩
def f_slices_IndexFunc_int (fuel : Nat) (s1 : (List Int)) (f2 : (Int → Option Bool)) : Option Int :=
  iterF (fun k10 (x9 : Int) => (if (x9 < (s1.length : Int)) then ((getO s1 x9).bind fun x12 => ((f2 x12).bind fun x15 => (if x15 then some x9 else k10 (IntKind.wrap .i64 (x9 + 1))))) else some (-1))) fuel 0
def K_slices_ContainsFunc_int (P : Program) (c : Nat) (f : (List Int) → (Int → Option Bool) → Option Bool) : Prop := ∀ s1 f2 (g3 : Nat) (cp4 : List V) r, f s1 f2 = some r → ∀ M nb, (V.dems cp4 = cp4) → (V.ons (There M) cp4) → (∀ a8 r, f2 a8 = some r → ∀ M2 nb2, nb ≤ nb2 → Ext M M2 → ACalls P g3 ([.d (.int .i64 a8)] ++ cp4) M2 nb2 (.d (.bool r)) M2 nb2) → ACalls P c [.d (.lst 1 (List.map (eI .i64) s1)), .clo g3 cp4] M nb (.d (.bool r)) M nb
def R_slices_ContainsFunc_int_0 : List COp := [oo 4 .mov [.c (.d (.bool false))]]
def R_slices_ContainsFunc_int_1 : List COp := [oo 5 .mov [.t 0], oo 6 .mov [.t 1], oo 7 (.call 79) [.t 5, .t 6], oo 8 (.bin .geq false) [.t 7, .c (.d (.int .i64 0))], oo 4 .mov [.t 8]]
def F_slices_ContainsFunc_int : CFn := ⟨2, 9, [.t 4], .seq (.region R_slices_ContainsFunc_int_0 9 []) (.seq (.region R_slices_ContainsFunc_int_1 9 []) (.ret))⟩
def f_slices_ContainsFunc_int (f_slices_IndexFunc_int : (List Int) → (Int → Option Bool) → Option Int) (s1 : (List Int)) (f2 : (Int → Option Bool)) : Option Bool :=
  ((f_slices_IndexFunc_int s1 f2).bind fun x13 => some (decide (x13 ≥ 0)))
def K_automaton_next_1 (P : Program) (c : Nat) (f : api_Edge → Int → Option Bool) : Prop := ∀ x1 x2 (k3 : Nat) r, f x1 x2 = some r → ∀ M nb, (M k3 = some (.cells [.d (.int .i64 x2)])) → ACalls P c [.agg [.d (.int .i64 x1.From), .d (.int .i64 x1.Event), .d (.int .i64 x1.To)], .ptr k3 0] M nb (.d (.bool r)) M nb
def R_automaton_next_1_0 : List COp := [oo 2 (.box 3) [.t 0], oo 3 .mov [.c (.d (.bool false))]]
def R_automaton_next_1_1 : List COp := [oo 4 (.fld 1) [.t 2], oo 5 (.load false 1) [.t 4], oo 6 (.load false 1) [.t 1], oo 7 (.bin .eql false) [.t 5, .t 6], oo 3 .mov [.t 7]]
def F_automaton_next_1 : CFn := ⟨2, 8, [.t 3], .seq (.region R_automaton_next_1_0 9 []) (.seq (.region R_automaton_next_1_1 9 []) (.ret))⟩
def f_automaton_next_1 (x1 : api_Edge) (x2 : Int) : Option Bool :=
  some (x1.Event == x2)
def K_slices_IndexFunc_Edge (P : Program) (c : Nat) (f : (List api_Edge) → (api_Edge → Option Bool) → Option Int) : Prop := ∀ s1 f2 (g3 : Nat) (cp4 : List V) r, f s1 f2 = some r → ∀ M nb, (V.dems cp4 = cp4) → (V.ons (There M) cp4) → (∀ a8 r, f2 a8 = some r → ∀ M2 nb2, nb ≤ nb2 → Ext M M2 → ACalls P g3 ([.agg [.d (.int .i64 a8.From), .d (.int .i64 a8.Event), .d (.int .i64 a8.To)]] ++ cp4) M2 nb2 (.d (.bool r)) M2 nb2) → ACalls P c [.d (.lst 3 (List.map e_api_Edge s1)), .clo g3 cp4] M nb (.d (.int .i64 r)) M nb
def R_slices_IndexFunc_Edge_0 : List COp := [oo 4 .mov [.c (.d (.int .i64 0))]]
def R_slices_IndexFunc_Edge_1 : List COp := [oo 6 .mov [.t 0], oo 7 .len [.t 6], oo 8 .mov [.c (.d (.int .i64 0))]]
def R_slices_IndexFunc_Edge_2 : List COp := [oo 9 (.bin .lss false) [.t 8, .t 7]]
def R_slices_IndexFunc_Edge_3 : List COp := [oo 10 .mov [.t 8], oo 5 .mov [.t 10]]
def R_slices_IndexFunc_Edge_4 : List COp := [oo 11 .mov [.t 1], oo 12 .mov [.t 0], oo 13 .mov [.t 5], oo 14 (.idx 3) [.t 12, .t 13], oo 15 (.load true 3) [.t 14], oo 16 .callv [.t 11, .t 15]]
def R_slices_IndexFunc_Edge_5 : List COp := [oo 17 .mov [.t 5], oo 4 .mov [.t 17]]
def R_slices_IndexFunc_Edge_6 : List COp := [oo 18 (.bin .add false) [.t 8, .c (.d (.int .i64 1))], oo 8 .mov [.t 18]]
def R_slices_IndexFunc_Edge_7 : List COp := [oo 4 .mov [.c (.d (.int .i64 (-1)))]]
def F_slices_IndexFunc_Edge : CFn := ⟨2, 19, [.t 4], .seq (.region R_slices_IndexFunc_Edge_0 9 []) (.seq (.seq (.region R_slices_IndexFunc_Edge_1 9 []) (.block 0 (.loop [] (.seq (.region R_slices_IndexFunc_Edge_2 9 []) (.seq (.cond (.t 9) (.skip) (.exit 0)) (.seq (.block 1 (.seq (.region R_slices_IndexFunc_Edge_3 9 []) (.seq (.region R_slices_IndexFunc_Edge_4 9 []) (.cond (.t 16) (.seq (.region R_slices_IndexFunc_Edge_5 9 []) (.ret)) (.skip))))) (.region R_slices_IndexFunc_Edge_6 9 []))))))) (.seq (.region R_slices_IndexFunc_Edge_7 9 []) (.ret)))⟩
def f_slices_IndexFunc_Edge (fuel : Nat) (s1 : (List api_Edge)) (f2 : (api_Edge → Option Bool)) : Option Int :=
  iterF (fun k10 (x9 : Int) => (if (x9 < (s1.length : Int)) then ((getO s1 x9).bind fun x12 => ((f2 x12).bind fun x15 => (if x15 then some x9 else k10 (IntKind.wrap .i64 (x9 + 1))))) else some (-1))) fuel 0
def K_automaton_next (P : Program) (c : Nat) (f : api_Automaton → Int → Int → Option Int) : Prop := ∀ a1 state2 event3 r, f a1 state2 event3 = some r → ∀ M nb, ACalls P c [.agg [.d (.lst 1 (List.map (eI .i64) a1.Alphabet)), .d (.int .i64 a1.States), .d (.lst 1 (List.map (eI .i64) a1.Marked)), .d (.lst 3 (List.map e_api_Edge a1.Edges))], .d (.int .i64 state2), .d (.int .i64 event3)] M nb (.d (.int .i64 r)) M nb
def R_automaton_next_0 : List COp := [oo 3 (.box 4) [.t 0], oo 5 (.box 1) [.t 2], oo 6 .mov [.c (.d (.int .i64 0))]]
def R_automaton_next_1 : List COp := [oo 9 (.load true 4) [.t 3], oo 10 .mov [.t 1], oo 11 (.call 48) [.t 9, .t 10], ot 7 .mov [.t 11]]
def R_automaton_next_2 : List COp := [oo 12 .mov [.t 7], oo 13 (.func 81) [.t 5], oo 14 (.call 80) [.t 12, .t 13], oo 8 .mov [.t 14]]
def R_automaton_next_3 : List COp := [oo 15 .mov [.t 8], oo 16 (.bin .lss false) [.t 15, .c (.d (.int .i64 0))]]
def R_automaton_next_4 : List COp := [oo 6 .mov [.c (.d (.int .i64 (-1)))]]
def R_automaton_next_5 : List COp := [oo 17 .mov [.t 7], oo 18 .mov [.t 8], oo 19 (.idx 3) [.t 17, .t 18], oo 20 (.fld 2) [.t 19], oo 21 (.load false 1) [.t 20], oo 6 .mov [.t 21]]
def F_automaton_next : CFn := ⟨3, 22, [.t 6], .seq (.region R_automaton_next_0 9 []) (.seq (.region R_automaton_next_1 9 []) (.seq (.region R_automaton_next_2 9 []) (.seq (.seq (.region R_automaton_next_3 9 []) (.cond (.t 16) (.seq (.region R_automaton_next_4 9 []) (.ret)) (.skip))) (.seq (.region R_automaton_next_5 9 []) (.ret)))))⟩
def f_automaton_next (f_automaton_out : api_Automaton → Int → Option ((List api_Edge))) (f_slices_IndexFunc_Edge : (List api_Edge) → (api_Edge → Option Bool) → Option Int) (f_automaton_next_1 : api_Edge → Int → Option Bool) (a1 : api_Automaton) (state2 : Int) (event3 : Int) : Option Int :=
  ((f_automaton_out a1 state2).bind fun x5 => ((f_slices_IndexFunc_Edge x5 (fun a6 => f_automaton_next_1 a6 event3)).bind fun x10 => (if (x10 < 0) then some (-1) else ((getO x5 x10).bind fun x12 => some x12.To))))
def K_automaton_follow (P : Program) (c : Nat) (f : api_Automaton → Int → (List Int) → Option (Int × Int)) : Prop := ∀ a1 state2 word3 r, f a1 state2 word3 = some r → ∀ M nb, ACalls P c [.agg [.d (.lst 1 (List.map (eI .i64) a1.Alphabet)), .d (.int .i64 a1.States), .d (.lst 1 (List.map (eI .i64) a1.Marked)), .d (.lst 3 (List.map e_api_Edge a1.Edges))], .d (.int .i64 state2), .d (.lst 1 (List.map (eI .i64) word3))] M nb (.tup [.d (.int .i64 r.1), .d (.int .i64 r.2)]) M nb
def R_automaton_follow_0 : List COp := [oo 3 (.box 4) [.t 0], oo 6 .mov [.c (.d (.int .i64 0))], oo 7 .mov [.c (.d (.int .i64 0))]]
def R_automaton_follow_1 : List COp := [oo 11 .mov [.t 2], oo 12 .len [.t 11], oo 13 .mov [.c (.d (.int .i64 0))]]
def R_automaton_follow_2 : List COp := [oo 14 (.bin .lss false) [.t 13, .t 12]]
def R_automaton_follow_3 : List COp := [oo 15 .mov [.t 13], oo 16 (.idx 1) [.t 11, .t 13], oo 17 (.load false 1) [.t 16], oo 8 .mov [.t 15], oo 9 .mov [.t 17]]
def R_automaton_follow_4 : List COp := [oo 18 (.load true 4) [.t 3], oo 19 .mov [.t 1], oo 20 .mov [.t 9], oo 21 (.call 67) [.t 18, .t 19, .t 20], oo 10 .mov [.t 21]]
def R_automaton_follow_5 : List COp := [oo 22 .mov [.t 10], oo 23 (.bin .lss false) [.t 22, .c (.d (.int .i64 0))]]
def R_automaton_follow_6 : List COp := [oo 24 .mov [.t 1], oo 25 .mov [.t 8], oo 6 .mov [.t 24], oo 7 .mov [.t 25]]
def R_automaton_follow_7 : List COp := [oo 26 .mov [.t 10], oo 1 .mov [.t 26]]
def R_automaton_follow_8 : List COp := [oo 27 (.bin .add false) [.t 13, .c (.d (.int .i64 1))], oo 13 .mov [.t 27]]
def R_automaton_follow_9 : List COp := [oo 28 .mov [.t 1], oo 29 .mov [.t 2], oo 30 .len [.t 29], oo 6 .mov [.t 28], oo 7 .mov [.t 30]]
def F_automaton_follow : CFn := ⟨3, 31, [.t 6, .t 7], .seq (.region R_automaton_follow_0 9 []) (.seq (.seq (.region R_automaton_follow_1 9 []) (.block 0 (.loop [] (.seq (.region R_automaton_follow_2 9 []) (.seq (.cond (.t 14) (.skip) (.exit 0)) (.seq (.block 1 (.seq (.region R_automaton_follow_3 9 []) (.seq (.region R_automaton_follow_4 9 []) (.seq (.seq (.region R_automaton_follow_5 9 []) (.cond (.t 23) (.seq (.region R_automaton_follow_6 9 []) (.ret)) (.skip))) (.region R_automaton_follow_7 9 []))))) (.region R_automaton_follow_8 9 []))))))) (.seq (.region R_automaton_follow_9 9 []) (.ret)))⟩
def f_automaton_follow (f_automaton_next : api_Automaton → Int → Int → Option Int) (fuel : Nat) (a1 : api_Automaton) (state2 : Int) (word3 : (List Int)) : Option (Int × Int) :=
  iterF (fun k6 ((state4, x5) : Int × Int) => (if (x5 < (word3.length : Int)) then ((getO word3 x5).bind fun x8 => ((f_automaton_next a1 state4 x8).bind fun x11 => (if (x11 < 0) then some (state4, x5) else k6 (x11, (IntKind.wrap .i64 (x5 + 1)))))) else some (state4, (word3.length : Int)))) fuel (state2, 0)
def K_automaton_Run (P : Program) (c : Nat) (f : api_Automaton → Int → (List Int) → Option (Int × Int × Int)) : Prop := ∀ a1 xfrom2 word3 r, f a1 xfrom2 word3 = some r → ∀ M nb, ACalls P c [.agg [.d (.lst 1 (List.map (eI .i64) a1.Alphabet)), .d (.int .i64 a1.States), .d (.lst 1 (List.map (eI .i64) a1.Marked)), .d (.lst 3 (List.map e_api_Edge a1.Edges))], .d (.int .i64 xfrom2), .d (.lst 1 (List.map (eI .i64) word3))] M nb (.tup [.d (.int .i64 r.1), .d (.int .i64 r.2.1), .d (.int .i64 r.2.2)]) M nb
def R_automaton_Run_0 : List COp := [oo 3 (.box 4) [.t 0], oo 6 .mov [.c (.d (.int .i64 0))], oo 7 .mov [.c (.d (.int .i64 0))], oo 8 .mov [.c (.d (.int .i64 0))]]
def R_automaton_Run_1 : List COp := [oo 9 (.load true 4) [.t 3], oo 10 .mov [.t 1], oo 11 (.call 63) [.t 9, .t 10], oo 8 .mov [.t 11]]
def R_automaton_Run_2 : List COp := [oo 12 .mov [.t 8], oo 13 (.bin .neq false) [.t 12, .c (.d (.int .i64 0))]]
def R_automaton_Run_3 : List COp := [oo 14 .mov [.t 8], oo 6 .mov [.c (.d (.int .i64 0))], oo 7 .mov [.c (.d (.int .i64 0))], oo 8 .mov [.t 14]]
def R_automaton_Run_4 : List COp := [oo 15 .mov [.t 2], oo 16 (.func 65) [.t 3], oo 17 (.call 64) [.t 15, .t 16]]
def R_automaton_Run_5 : List COp := [oo 6 .mov [.c (.d (.int .i64 0))], oo 7 .mov [.c (.d (.int .i64 0))], oo 8 .mov [.c (.d (.int .i64 9))]]
def R_automaton_Run_6 : List COp := [oo 19 (.load true 4) [.t 3], oo 20 .mov [.t 1], oo 21 .mov [.t 2], oo 22 (.call 66) [.t 19, .t 20, .t 21], oo 18 .mov [.t 22], oo 23 (.extract 0) [.t 18], oo 24 (.extract 1) [.t 18], oo 6 .mov [.t 23], oo 7 .mov [.t 24]]
def R_automaton_Run_7 : List COp := [oo 25 .mov [.t 6], oo 26 .mov [.t 7], oo 6 .mov [.t 25], oo 7 .mov [.t 26], oo 8 .mov [.c (.d (.int .i64 0))]]
def F_automaton_Run : CFn := ⟨3, 27, [.t 6, .t 7, .t 8], .seq (.region R_automaton_Run_0 9 []) (.seq (.seq (.region R_automaton_Run_1 9 []) (.seq (.region R_automaton_Run_2 9 []) (.cond (.t 13) (.seq (.region R_automaton_Run_3 9 []) (.ret)) (.skip)))) (.seq (.seq (.region R_automaton_Run_4 9 []) (.cond (.t 17) (.seq (.region R_automaton_Run_5 9 []) (.ret)) (.skip))) (.seq (.region R_automaton_Run_6 9 []) (.seq (.region R_automaton_Run_7 9 []) (.ret)))))⟩
def f_automaton_Run (f_automaton_checkState : api_Automaton → Int → Option Int) (f_slices_ContainsFunc_int : (List Int) → (Int → Option Bool) → Option Bool) (f_automaton_Run_1 : Int → api_Automaton → Option Bool) (f_automaton_follow : api_Automaton → Int → (List Int) → Option (Int × Int)) (a1 : api_Automaton) (xfrom2 : Int) (word3 : (List Int)) : Option (Int × Int × Int) :=
  ((f_automaton_checkState a1 xfrom2).bind fun x5 => (if (x5 != 0) then some (0, 0, x5) else ((f_slices_ContainsFunc_int word3 (fun a7 => f_automaton_Run_1 a7 a1)).bind fun x11 => (if x11 then some (0, 0, 9) else ((f_automaton_follow a1 xfrom2 word3).bind fun (r14, r15) => some (r14, r15, 0))))))
def K_automaton_Words (P : Program) (c : Nat) (f : api_Automaton → Int → Bool → Option ((List (List Int)) × Int)) : Prop := ∀ a1 most2 marked3 r, f a1 most2 marked3 = some r → ∀ M nb, ACalls P c [.agg [.d (.lst 1 (List.map (eI .i64) a1.Alphabet)), .d (.int .i64 a1.States), .d (.lst 1 (List.map (eI .i64) a1.Marked)), .d (.lst 3 (List.map e_api_Edge a1.Edges))], .d (.int .i64 most2), .d (.bool marked3)] M nb (.tup [.own 1 (List.map (eL 1 (eI .i64)) r.1), .d (.int .i64 r.2)]) M nb
def R_automaton_Words_0 : List COp := [oo 3 (.box 4) [.t 0], ot 6 .mov [.c (.nils 1)], oo 7 .mov [.c (.d (.int .i64 0))]]
def R_automaton_Words_1 : List COp := [oo 16 (.load true 4) [.t 3], oo 17 (.call 45) [.t 16], oo 8 .mov [.t 17]]
def R_automaton_Words_2 : List COp := [oo 18 .mov [.t 8], oo 19 (.bin .neq false) [.t 18, .c (.d (.int .i64 0))]]
def R_automaton_Words_3 : List COp := [oo 20 .mov [.t 8], ot 6 .mov [.c (.nils 1)], oo 7 .mov [.t 20]]
def R_automaton_Words_4 : List COp := [oo 21 .mov [.t 1], oo 22 (.bin .lss false) [.t 21, .c (.d (.int .i64 0))], oo 23 .mov [.t 22], ⟨some 24, .mov, [.t 1], false, some (23, false)⟩, ⟨some 25, .bin .gtr false, [.t 24, .c (.d (.int .i64 4096))], false, some (23, false)⟩, oo 26 .pick [.t 23, .c (.d (.bool true)), .t 25]]
def R_automaton_Words_5 : List COp := [ot 6 .mov [.c (.nils 1)], oo 7 .mov [.c (.d (.int .i64 2))]]
def R_automaton_Words_6 : List COp := [oo 27 (.fld 1) [.t 3], oo 28 (.load false 1) [.t 27], oo 29 (.bin .eql false) [.t 28, .c (.d (.int .i64 0))]]
def R_automaton_Words_7 : List COp := [ot 6 .mov [.c (.nils 1)], oo 7 .mov [.c (.d (.int .i64 0))]]
def R_automaton_Words_8 : List COp := [oo 30 (.build [.nils 1, .d (.int .i64 0)] []) [], oo 31 (.bslice 2 1 [.nils 1, .d (.int .i64 0)] [0]) [.t 30], ot 9 .mov [.t 31]]
def R_automaton_Words_9 : List COp := [oo 10 .mov [.c (.d (.int .i64 0))]]
def R_automaton_Words_10 : List COp := [oo 32 .mov [.t 10], oo 33 .mov [.t 9], oo 34 .len [.t 33], oo 35 (.bin .lss false) [.t 32, .t 34]]
def R_automaton_Words_11 : List COp := [oo 38 .mov [.t 9], oo 39 .mov [.t 10], oo 40 (.idx 2) [.t 38, .t 39], oo 41 (.fld 0) [.t 40], oo 42 (.load false 1) [.t 41], oo 43 .len [.t 42], oo 44 .mov [.t 1], oo 45 (.bin .eql false) [.t 43, .t 44]]
def R_automaton_Words_12 : List COp := [oo 46 (.load true 4) [.t 3], oo 47 .mov [.t 9], oo 48 .mov [.t 10], oo 49 (.idx 2) [.t 47, .t 48], oo 50 (.fld 1) [.t 49], oo 51 (.load false 1) [.t 50], oo 52 (.call 48) [.t 46, .t 51], oo 53 .len [.t 52], oo 54 .mov [.c (.d (.int .i64 0))]]
def R_automaton_Words_13 : List COp := [oo 55 (.bin .lss false) [.t 54, .t 53]]
def R_automaton_Words_14 : List COp := [oo 56 (.idx 3) [.t 52, .t 54], oo 57 (.load true 3) [.t 56], oo 12 (.alloc [.d (.int .i64 0), .d (.int .i64 0), .d (.int .i64 0)]) [], ⟨none, .store 3, [.t 12, .t 57], false, none⟩]
def R_automaton_Words_15 : List COp := [ot 58 .mov [.t 9], oo 59 .mov [.t 9], oo 60 .mov [.t 10], oo 61 (.idx 2) [.t 59, .t 60], oo 62 (.fld 0) [.t 61], oo 63 (.load false 1) [.t 62], oo 64 (.call 49) [.t 63], oo 65 (.fld 1) [.t 12], oo 66 (.load false 1) [.t 65], oo 67 (.bslice 1 1 [.d (.int .i64 0)] [0]) [.t 66], ot 68 (.append 1 8) [.t 64, .t 67], oo 69 (.fld 2) [.t 12], oo 70 (.load false 1) [.t 69], oo 71 (.build [.nils 1, .d (.int .i64 0)] [(0, 1), (1, 1)]) [.t 68, .t 70], oo 72 (.bslice 2 1 [.nils 1, .d (.int .i64 0)] [0]) [.t 71], ot 73 (.append 2 32) [.t 58, .t 72], ot 9 .mov [.t 73]]
def R_automaton_Words_16 : List COp := [oo 74 (.bin .add false) [.t 54, .c (.d (.int .i64 1))], oo 54 .mov [.t 74]]
def R_automaton_Words_17 : List COp := [oo 75 .mov [.t 9], oo 76 .len [.t 75], oo 77 (.bin .gtr false) [.t 76, .c (.d (.int .i64 1024))]]
def R_automaton_Words_18 : List COp := [ot 6 .mov [.c (.nils 1)], oo 7 .mov [.c (.d (.int .i64 3))]]
def R_automaton_Words_19 : List COp := [oo 36 .mov [.t 10], oo 37 (.bin .add false) [.t 36, .c (.d (.int .i64 1))], oo 10 .mov [.t 37]]
def R_automaton_Words_20 : List COp := [ot 13 .mov [.c (.nils 1)]]
def R_automaton_Words_21 : List COp := [oo 78 .mov [.t 9], oo 79 .len [.t 78], oo 80 .mov [.c (.d (.int .i64 0))]]
def R_automaton_Words_22 : List COp := [oo 81 (.bin .lss false) [.t 80, .t 79]]
def R_automaton_Words_23 : List COp := [oo 82 (.idx 2) [.t 78, .t 80], oo 83 (.load true 2) [.t 82], oo 15 (.alloc [.nils 1, .d (.int .i64 0)]) [], ⟨none, .store 2, [.t 15, .t 83], false, none⟩]
def R_automaton_Words_24 : List COp := [oo 84 .mov [.t 2], oo 85 (.un .not) [.t 84], oo 86 .mov [.t 85], ⟨some 87, .fld 2, [.t 3], false, some (86, false)⟩, ⟨some 88, .load false 1, [.t 87], false, some (86, false)⟩, ⟨some 89, .fld 1, [.t 15], false, some (86, false)⟩, ⟨some 90, .load false 1, [.t 89], false, some (86, false)⟩, ⟨some 91, .call 50, [.t 88, .t 90], false, some (86, false)⟩, oo 92 .pick [.t 86, .c (.d (.bool true)), .t 91]]
def R_automaton_Words_25 : List COp := [ot 93 .mov [.t 13], oo 94 (.bslice 1 0 [.d (.int .i64 0)] []) [], oo 95 (.fld 0) [.t 15], oo 96 (.load false 1) [.t 95], ot 97 (.append 1 8) [.t 94, .t 96], oo 98 (.bslice 1 1 [.nils 1] [0]) [.t 97], ot 99 (.append 1 24) [.t 93, .t 98], ot 13 .mov [.t 99]]
def R_automaton_Words_26 : List COp := [oo 100 (.bin .add false) [.t 80, .c (.d (.int .i64 1))], oo 80 .mov [.t 100]]
def R_automaton_Words_27 : List COp := [ot 101 .mov [.t 13], ot 6 .mov [.t 101], oo 7 .mov [.c (.d (.int .i64 0))]]
def F_automaton_Words : CFn := ⟨3, 102, [.t 6, .t 7], .seq (.region R_automaton_Words_0 9 []) (.seq (.seq (.region R_automaton_Words_1 9 []) (.seq (.region R_automaton_Words_2 9 []) (.cond (.t 19) (.seq (.region R_automaton_Words_3 9 []) (.ret)) (.skip)))) (.seq (.seq (.region R_automaton_Words_4 9 []) (.cond (.t 26) (.seq (.region R_automaton_Words_5 9 []) (.ret)) (.skip))) (.seq (.seq (.region R_automaton_Words_6 9 []) (.cond (.t 29) (.seq (.region R_automaton_Words_7 9 []) (.ret)) (.skip))) (.seq (.region R_automaton_Words_8 9 []) (.seq (.seq (.region R_automaton_Words_9 9 []) (.block 0 (.loop [12, 67, 72] (.seq (.seq (.region R_automaton_Words_10 9 []) (.cond (.t 35) (.skip) (.exit 0))) (.seq (.block 1 (.seq (.seq (.region R_automaton_Words_11 9 []) (.cond (.t 45) (.exit 0) (.skip))) (.seq (.seq (.region R_automaton_Words_12 0 []) (.block 2 (.loop [12, 67, 72] (.seq (.region R_automaton_Words_13 9 []) (.seq (.cond (.t 55) (.skip) (.exit 2)) (.seq (.block 3 (.seq (.region R_automaton_Words_14 9 []) (.region R_automaton_Words_15 1 []))) (.region R_automaton_Words_16 9 []))))))) (.seq (.region R_automaton_Words_17 9 []) (.cond (.t 77) (.seq (.region R_automaton_Words_18 9 []) (.ret)) (.skip)))))) (.region R_automaton_Words_19 9 [])))))) (.seq (.region R_automaton_Words_20 9 []) (.seq (.seq (.region R_automaton_Words_21 9 []) (.block 4 (.loop [15, 94, 98] (.seq (.region R_automaton_Words_22 9 []) (.seq (.cond (.t 81) (.skip) (.exit 4)) (.seq (.block 5 (.seq (.region R_automaton_Words_23 9 []) (.seq (.region R_automaton_Words_24 9 []) (.cond (.t 92) (.region R_automaton_Words_25 9 []) (.skip))))) (.region R_automaton_Words_26 9 []))))))) (.seq (.region R_automaton_Words_27 9 []) (.ret)))))))))⟩
def f_automaton_Words (f_automaton_Check : api_Automaton → Option Int) (f_automaton_out : api_Automaton → Int → Option ((List api_Edge))) (f_slices_Clone_int : (List Int) → Option ((List Int))) (f_slices_Contains_int : (List Int) → Int → Option Bool) (fuel : Nat) (a1 : api_Automaton) (most2 : Int) (marked3 : Bool) : Option ((List (List Int)) × Int) :=
  ((f_automaton_Check a1).bind fun x5 => (if (x5 != 0) then some ([], x5) else (((if (most2 < 0) then some true else some (decide (most2 > 4096)))).bind fun (x8 : Bool) => (if x8 then some ([], 2) else (if (a1.States == 0) then some ([], 0) else letJ (fun (all38 : List automaton_found) => ((iterF (fun k41 ((l39, x40) : (List (List Int)) × Int) => (if (x40 < (all38.length : Int)) then ((((getO all38 x40).bind fun x43 => (((if marked3 then ((f_slices_Contains_int a1.Marked x43.state_).bind fun x47 => some x47) else some true)).bind fun (x48 : Bool) => (if x48 then ((appO [] x43.word_).bind fun x50 => ((appO l39 [x50]).bind fun x52 => some (x52, x43.word_, x43.state_))) else some (l39, x43.word_, x43.state_))))).bind fun ((l54, c55, c56) : (List (List Int)) × (List Int) × Int) => k41 (l54, (IntKind.wrap .i64 (x40 + 1)))) else some l39)) fuel ([], 0)).bind fun (l57 : List (List Int)) => some (l57, 0))) fun J58 => iterF (fun k13 ((all11, i12) : (List automaton_found) × Int) => (if (i12 < (all11.length : Int)) then ((getO all11 i12).bind fun x15 => (if ((x15.word_.length : Int) == most2) then J58 all11 else ((((getO all11 i12).bind fun x18 => ((f_automaton_out a1 x18.state_).bind fun x21 => iterF (fun k24 ((all22, x23) : (List automaton_found) × Int) => (if (x23 < (x21.length : Int)) then ((getO x21 x23).bind fun x26 => ((getO all22 i12).bind fun x28 => ((f_slices_Clone_int x28.word_).bind fun x31 => ((appO x31 [x26.Event]).bind fun x32 => ((appO all22 [(automaton_found.mk x32 x26.To)]).bind fun x34 => k24 (x34, (IntKind.wrap .i64 (x23 + 1)))))))) else some all22)) fuel (all11, 0)))).bind fun (all36 : List automaton_found) => (if ((all36.length : Int) > 1024) then some ([], 3) else k13 (all36, (IntKind.wrap .i64 (i12 + 1))))))) else J58 all11)) fuel ([(automaton_found.mk [] 0)], 0))))))
def K_automaton_Relabel (P : Program) (c : Nat) (f : api_Automaton → (List Int) → Option (api_Automaton × Int)) : Prop := ∀ a1 to2 r, f a1 to2 = some r → ∀ M nb, ACalls P c [.agg [.d (.lst 1 (List.map (eI .i64) a1.Alphabet)), .d (.int .i64 a1.States), .d (.lst 1 (List.map (eI .i64) a1.Marked)), .d (.lst 3 (List.map e_api_Edge a1.Edges))], .d (.lst 1 (List.map (eI .i64) to2))] M nb (.tup [.agg [.d (.lst 1 (List.map (eI .i64) r.1.Alphabet)), .d (.int .i64 r.1.States), .d (.lst 1 (List.map (eI .i64) r.1.Marked)), .d (.lst 3 (List.map e_api_Edge r.1.Edges))], .d (.int .i64 r.2)]) M nb
def R_automaton_Relabel_0 : List COp := [oo 2 (.box 4) [.t 0], oo 4 (.alloc [.nils 1, .d (.int .i64 0), .nils 1, .nils 3]) [], oo 5 .mov [.c (.d (.int .i64 0))]]
def R_automaton_Relabel_1 : List COp := [oo 12 (.load true 4) [.t 2], oo 13 (.call 45) [.t 12], oo 6 .mov [.t 13]]
def R_automaton_Relabel_2 : List COp := [oo 14 .mov [.t 6], oo 15 (.bin .neq false) [.t 14, .c (.d (.int .i64 0))]]
def R_automaton_Relabel_3 : List COp := [oo 16 (.build [.nils 1, .d (.int .i64 0), .nils 1, .nils 3] []) [], oo 17 .mov [.t 6], ⟨none, .store 4, [.t 4, .t 16], false, none⟩, oo 5 .mov [.t 17]]
def R_automaton_Relabel_4 : List COp := [oo 18 .mov [.t 1], oo 19 .len [.t 18], oo 20 (.fld 0) [.t 2], oo 21 (.load false 1) [.t 20], oo 22 .len [.t 21], oo 23 (.bin .neq false) [.t 19, .t 22]]
def R_automaton_Relabel_5 : List COp := [oo 24 (.build [.nils 1, .d (.int .i64 0), .nils 1, .nils 3] []) [], ⟨none, .store 4, [.t 4, .t 24], false, none⟩, oo 5 .mov [.c (.d (.int .i64 4))]]
def R_automaton_Relabel_6 : List COp := [oo 25 .mov [.t 1], oo 26 .len [.t 25], oo 27 .mov [.c (.d (.int .i64 0))]]
def R_automaton_Relabel_7 : List COp := [oo 28 (.bin .lss false) [.t 27, .t 26]]
def R_automaton_Relabel_8 : List COp := [oo 29 .mov [.t 27], oo 30 (.idx 1) [.t 25, .t 27], oo 31 (.load false 1) [.t 30], oo 7 .mov [.t 29], oo 8 .mov [.t 31]]
def R_automaton_Relabel_9 : List COp := [oo 33 .mov [.t 8], oo 34 (.bin .lss false) [.t 33, .c (.d (.int .i64 0))], oo 35 .mov [.t 34], ⟨some 36, .mov, [.t 8], false, some (35, false)⟩, ⟨some 37, .bin .geq false, [.t 36, .c (.d (.int .i64 32))], false, some (35, false)⟩, oo 38 .pick [.t 35, .c (.d (.bool true)), .t 37], oo 32 .mov [.t 38]]
def R_automaton_Relabel_10 : List COp := [oo 39 (.build [.nils 1, .d (.int .i64 0), .nils 1, .nils 3] []) [], ⟨none, .store 4, [.t 4, .t 39], false, none⟩, oo 5 .mov [.c (.d (.int .i64 2))]]
def R_automaton_Relabel_11 : List COp := [oo 41 .mov [.t 1], oo 42 .mov [.t 7], oo 43 (.slice 1 false true) [.t 41, .t 42], oo 44 .mov [.t 8], oo 45 (.call 50) [.t 43, .t 44], oo 40 .mov [.t 45]]
def R_automaton_Relabel_12 : List COp := [oo 46 (.build [.nils 1, .d (.int .i64 0), .nils 1, .nils 3] []) [], ⟨none, .store 4, [.t 4, .t 46], false, none⟩, oo 5 .mov [.c (.d (.int .i64 8))]]
def R_automaton_Relabel_13 : List COp := [oo 47 (.bin .add false) [.t 27, .c (.d (.int .i64 1))], oo 27 .mov [.t 47]]
def R_automaton_Relabel_14 : List COp := [oo 48 .mov [.t 1], oo 49 (.call 53) [.t 48], oo 50 (.call 52) [.t 49], oo 51 (.fld 1) [.t 2], oo 52 (.load false 1) [.t 51], oo 53 (.fld 2) [.t 2], oo 54 (.load false 1) [.t 53], oo 55 (.build [.nils 1, .d (.int .i64 0), .nils 1, .nils 3] [(0, 1), (1, 1), (2, 1)]) [.t 50, .t 52, .t 54], oo 9 (.alloc [.nils 1, .d (.int .i64 0), .nils 1, .nils 3]) [], ⟨none, .store 4, [.t 9, .t 55], false, none⟩]
def R_automaton_Relabel_15 : List COp := [oo 56 (.fld 3) [.t 2], oo 57 (.load false 1) [.t 56], oo 58 .len [.t 57], oo 59 .mov [.c (.d (.int .i64 0))]]
def R_automaton_Relabel_16 : List COp := [oo 60 (.bin .lss false) [.t 59, .t 58]]
def R_automaton_Relabel_17 : List COp := [oo 61 (.idx 3) [.t 57, .t 59], oo 62 (.load true 3) [.t 61], oo 11 (.alloc [.d (.int .i64 0), .d (.int .i64 0), .d (.int .i64 0)]) [], ⟨none, .store 3, [.t 11, .t 62], false, none⟩]
def R_automaton_Relabel_18 : List COp := [oo 63 .mov [.t 1], oo 64 (.fld 0) [.t 2], oo 65 (.load false 1) [.t 64], oo 66 (.fld 1) [.t 11], oo 67 (.load false 1) [.t 66], oo 68 (.call 54) [.t 65, .t 67], oo 69 (.idx 1) [.t 63, .t 68], oo 70 (.load false 1) [.t 69], oo 71 (.fld 1) [.t 11], ⟨none, .store 1, [.t 71, .t 70], false, none⟩]
def R_automaton_Relabel_19 : List COp := [oo 72 (.fld 3) [.t 9], oo 73 .loadT [.t 72], oo 74 (.load true 3) [.t 11], oo 75 (.bslice 3 1 [.d (.int .i64 0), .d (.int .i64 0), .d (.int .i64 0)] [0]) [.t 74], ot 76 (.append 3 24) [.t 73, .t 75], oo 77 (.fld 3) [.t 9], ⟨none, .store 1, [.t 77, .t 76], true, none⟩]
def R_automaton_Relabel_20 : List COp := [oo 78 (.bin .add false) [.t 59, .c (.d (.int .i64 1))], oo 59 .mov [.t 78]]
def R_automaton_Relabel_21 : List COp := [oo 79 (.fld 3) [.t 9], oo 80 (.load false 1) [.t 79], oo 81 (.call 55) [.t 80]]
def R_automaton_Relabel_22 : List COp := [oo 82 (.load true 4) [.t 9], oo 83 (.call 56) [.t 82], ⟨none, .store 4, [.t 4, .t 83], false, none⟩, oo 5 .mov [.c (.d (.int .i64 0))]]
def F_automaton_Relabel : CFn := ⟨2, 84, [.cell 4 true 4, .t 5], .seq (.region R_automaton_Relabel_0 9 []) (.seq (.seq (.region R_automaton_Relabel_1 9 []) (.seq (.region R_automaton_Relabel_2 9 []) (.cond (.t 15) (.seq (.region R_automaton_Relabel_3 9 []) (.ret)) (.skip)))) (.seq (.seq (.region R_automaton_Relabel_4 9 []) (.cond (.t 23) (.seq (.region R_automaton_Relabel_5 9 []) (.ret)) (.skip))) (.seq (.seq (.region R_automaton_Relabel_6 9 []) (.block 0 (.loop [] (.seq (.region R_automaton_Relabel_7 9 []) (.seq (.cond (.t 28) (.skip) (.exit 0)) (.seq (.block 1 (.seq (.region R_automaton_Relabel_8 9 []) (.block 2 (.seq (.region R_automaton_Relabel_9 9 []) (.cond (.t 32) (.seq (.region R_automaton_Relabel_10 9 []) (.ret)) (.seq (.region R_automaton_Relabel_11 9 []) (.cond (.t 40) (.seq (.region R_automaton_Relabel_12 9 []) (.ret)) (.skip)))))))) (.region R_automaton_Relabel_13 9 []))))))) (.seq (.region R_automaton_Relabel_14 1 []) (.seq (.seq (.region R_automaton_Relabel_15 9 []) (.block 3 (.loop [11, 75] (.seq (.region R_automaton_Relabel_16 9 []) (.seq (.cond (.t 60) (.skip) (.exit 3)) (.seq (.block 4 (.seq (.region R_automaton_Relabel_17 9 []) (.seq (.region R_automaton_Relabel_18 9 []) (.region R_automaton_Relabel_19 9 [])))) (.region R_automaton_Relabel_20 9 []))))))) (.seq (.region R_automaton_Relabel_21 9 []) (.seq (.region R_automaton_Relabel_22 9 []) (.ret))))))))⟩
def f_automaton_Relabel (f_automaton_Check : api_Automaton → Option Int) (f_slices_Contains_int : (List Int) → Int → Option Bool) (f_slices_Sorted_int : List Int → Option (List Int)) (f_slices_Index_int : (List Int) → Int → Option Int) (f_automaton_sortEdges : List api_Edge → Option (List api_Edge)) (f_automaton_canonical : api_Automaton → Option api_Automaton) (fuel : Nat) (a1 : api_Automaton) (to2 : (List Int)) : Option (api_Automaton × Int) :=
  ((f_automaton_Check a1).bind fun x4 => (if (x4 != 0) then some ((api_Automaton.mk [] 0 [] []), x4) else (if ((to2.length : Int) != (a1.Alphabet.length : Int)) then some ((api_Automaton.mk [] 0 [] []), 4) else iterF (fun k8 (x7 : Int) => (if (x7 < (to2.length : Int)) then ((getO to2 x7).bind fun x10 => (((if (x10 < 0) then some true else some (decide (x10 ≥ 32)))).bind fun (x13 : Bool) => (if x13 then some ((api_Automaton.mk [] 0 [] []), 2) else ((slcO to2 0 x7).bind fun x15 => ((f_slices_Contains_int x15 x10).bind fun x18 => (if x18 then some ((api_Automaton.mk [] 0 [] []), 8) else k8 (IntKind.wrap .i64 (x7 + 1)))))))) else ((f_slices_Sorted_int to2).bind fun x20 => ((iterF (fun k27 ((x22, c23, c24, c25, r26) : Int × (List Int) × (List Int) × (List api_Edge) × (List api_Edge)) => (if (x22 < (a1.Edges.length : Int)) then ((getO a1.Edges x22).bind fun x29 => ((f_slices_Index_int a1.Alphabet x29.Event).bind fun x32 => ((getO to2 x32).bind fun x33 => ((appO r26 [(api_Edge.mk x29.From x33 x29.To)]).bind fun x35 => k27 ((IntKind.wrap .i64 (x22 + 1)), c23, c24, c25, x35))))) else some (c23, c24, c25, r26))) fuel (0, [], [], [], [])).bind fun ((c37, c38, c39, r40) : (List Int) × (List Int) × (List api_Edge) × (List api_Edge)) => ((f_automaton_sortEdges r40).bind fun row41 => ((f_automaton_canonical (api_Automaton.mk x20 a1.States a1.Marked row41)).bind fun x51 => some (x51, 0))))))) fuel 0)))
def K_overseerref03_SameInts (P : Program) (c : Nat) (f : (List Int) → (List Int) → Option Bool) : Prop := ∀ a1 b2 r, f a1 b2 = some r → ∀ M nb, ACalls P c [.d (.lst 1 (List.map (eI .i64) a1)), .d (.lst 1 (List.map (eI .i64) b2))] M nb (.d (.bool r)) M nb
def R_overseerref03_SameInts_0 : List COp := [oo 4 .mov [.c (.d (.bool false))]]
def R_overseerref03_SameInts_1 : List COp := [oo 6 .mov [.t 0], oo 7 .len [.t 6], oo 8 .mov [.t 1], oo 9 .len [.t 8], oo 10 (.bin .neq false) [.t 7, .t 9]]
def R_overseerref03_SameInts_2 : List COp := [oo 4 .mov [.c (.d (.bool false))]]
def R_overseerref03_SameInts_3 : List COp := [oo 5 .mov [.c (.d (.int .i64 0))]]
def R_overseerref03_SameInts_4 : List COp := [oo 11 .mov [.t 5], oo 12 .mov [.t 0], oo 13 .len [.t 12], oo 14 (.bin .lss false) [.t 11, .t 13]]
def R_overseerref03_SameInts_5 : List COp := [oo 17 .mov [.t 0], oo 18 .mov [.t 5], oo 19 (.idx 1) [.t 17, .t 18], oo 20 (.load false 1) [.t 19], oo 21 .mov [.t 1], oo 22 .mov [.t 5], oo 23 (.idx 1) [.t 21, .t 22], oo 24 (.load false 1) [.t 23], oo 25 (.bin .neq false) [.t 20, .t 24]]
def R_overseerref03_SameInts_6 : List COp := [oo 4 .mov [.c (.d (.bool false))]]
def R_overseerref03_SameInts_7 : List COp := [oo 15 .mov [.t 5], oo 16 (.bin .add false) [.t 15, .c (.d (.int .i64 1))], oo 5 .mov [.t 16]]
def R_overseerref03_SameInts_8 : List COp := [oo 4 .mov [.c (.d (.bool true))]]
def F_overseerref03_SameInts : CFn := ⟨2, 26, [.t 4], .seq (.region R_overseerref03_SameInts_0 9 []) (.seq (.seq (.region R_overseerref03_SameInts_1 9 []) (.cond (.t 10) (.seq (.region R_overseerref03_SameInts_2 9 []) (.ret)) (.skip))) (.seq (.seq (.region R_overseerref03_SameInts_3 9 []) (.block 0 (.loop [] (.seq (.seq (.region R_overseerref03_SameInts_4 9 []) (.cond (.t 14) (.skip) (.exit 0))) (.seq (.block 1 (.seq (.region R_overseerref03_SameInts_5 0 []) (.cond (.t 25) (.seq (.region R_overseerref03_SameInts_6 9 []) (.ret)) (.skip)))) (.region R_overseerref03_SameInts_7 9 [])))))) (.seq (.region R_overseerref03_SameInts_8 9 []) (.ret))))⟩
def f_overseerref03_SameInts (fuel : Nat) (a1 : (List Int)) (b2 : (List Int)) : Option Bool :=
  (if ((a1.length : Int) != (b2.length : Int)) then some false else iterF (fun k5 (i4 : Int) => (if (i4 < (a1.length : Int)) then ((getO a1 i4).bind fun x7 => ((getO b2 i4).bind fun x9 => (if (x7 != x9) then some false else k5 (IntKind.wrap .i64 (i4 + 1))))) else some true)) fuel 0)
def K_overseerref03_Same (P : Program) (c : Nat) (f : api_Automaton → api_Automaton → Option Bool) : Prop := ∀ a1 b2 r, f a1 b2 = some r → ∀ M nb, ACalls P c [.agg [.d (.lst 1 (List.map (eI .i64) a1.Alphabet)), .d (.int .i64 a1.States), .d (.lst 1 (List.map (eI .i64) a1.Marked)), .d (.lst 3 (List.map e_api_Edge a1.Edges))], .agg [.d (.lst 1 (List.map (eI .i64) b2.Alphabet)), .d (.int .i64 b2.States), .d (.lst 1 (List.map (eI .i64) b2.Marked)), .d (.lst 3 (List.map e_api_Edge b2.Edges))]] M nb (.d (.bool r)) M nb
def R_overseerref03_Same_0 : List COp := [oo 2 (.box 4) [.t 0], oo 3 (.box 4) [.t 1], oo 4 .mov [.c (.d (.bool false))]]
def R_overseerref03_Same_1 : List COp := [oo 6 (.fld 0) [.t 2], oo 7 (.load false 1) [.t 6], oo 8 (.fld 0) [.t 3], oo 9 (.load false 1) [.t 8], oo 10 (.call 38) [.t 7, .t 9], oo 11 (.un .not) [.t 10], oo 12 .mov [.t 11], ⟨some 13, .fld 1, [.t 2], false, some (12, false)⟩, ⟨some 14, .load false 1, [.t 13], false, some (12, false)⟩, ⟨some 15, .fld 1, [.t 3], false, some (12, false)⟩, ⟨some 16, .load false 1, [.t 15], false, some (12, false)⟩, ⟨some 17, .bin .neq false, [.t 14, .t 16], false, some (12, false)⟩, oo 18 .pick [.t 12, .c (.d (.bool true)), .t 17], oo 19 .mov [.t 18], ⟨some 20, .fld 2, [.t 2], false, some (19, false)⟩, ⟨some 21, .load false 1, [.t 20], false, some (19, false)⟩, ⟨some 22, .fld 2, [.t 3], false, some (19, false)⟩, ⟨some 23, .load false 1, [.t 22], false, some (19, false)⟩, ⟨some 24, .call 38, [.t 21, .t 23], false, some (19, false)⟩, ⟨some 25, .un .not, [.t 24], false, some (19, false)⟩, oo 26 .pick [.t 19, .c (.d (.bool true)), .t 25], oo 27 .mov [.t 26], ⟨some 28, .fld 3, [.t 2], false, some (27, false)⟩, ⟨some 29, .load false 1, [.t 28], false, some (27, false)⟩, ⟨some 30, .len, [.t 29], false, some (27, false)⟩, ⟨some 31, .fld 3, [.t 3], false, some (27, false)⟩, ⟨some 32, .load false 1, [.t 31], false, some (27, false)⟩, ⟨some 33, .len, [.t 32], false, some (27, false)⟩, ⟨some 34, .bin .neq false, [.t 30, .t 33], false, some (27, false)⟩, oo 35 .pick [.t 27, .c (.d (.bool true)), .t 34]]
def R_overseerref03_Same_2 : List COp := [oo 4 .mov [.c (.d (.bool false))]]
def R_overseerref03_Same_3 : List COp := [oo 5 .mov [.c (.d (.int .i64 0))]]
def R_overseerref03_Same_4 : List COp := [oo 36 .mov [.t 5], oo 37 (.fld 3) [.t 2], oo 38 (.load false 1) [.t 37], oo 39 .len [.t 38], oo 40 (.bin .lss false) [.t 36, .t 39]]
def R_overseerref03_Same_5 : List COp := [oo 43 (.fld 3) [.t 2], oo 44 (.load false 1) [.t 43], oo 45 .mov [.t 5], oo 46 (.idx 3) [.t 44, .t 45], oo 47 (.load true 3) [.t 46], oo 48 (.fld 3) [.t 3], oo 49 (.load false 1) [.t 48], oo 50 .mov [.t 5], oo 51 (.idx 3) [.t 49, .t 50], oo 52 (.load true 3) [.t 51], oo 53 (.eqa true [0, 0, 0]) [.t 47, .t 52]]
def R_overseerref03_Same_6 : List COp := [oo 4 .mov [.c (.d (.bool false))]]
def R_overseerref03_Same_7 : List COp := [oo 41 .mov [.t 5], oo 42 (.bin .add false) [.t 41, .c (.d (.int .i64 1))], oo 5 .mov [.t 42]]
def R_overseerref03_Same_8 : List COp := [oo 4 .mov [.c (.d (.bool true))]]
def F_overseerref03_Same : CFn := ⟨2, 54, [.t 4], .seq (.region R_overseerref03_Same_0 9 []) (.seq (.seq (.region R_overseerref03_Same_1 9 []) (.cond (.t 35) (.seq (.region R_overseerref03_Same_2 9 []) (.ret)) (.skip))) (.seq (.seq (.region R_overseerref03_Same_3 9 []) (.block 0 (.loop [] (.seq (.seq (.region R_overseerref03_Same_4 9 []) (.cond (.t 40) (.skip) (.exit 0))) (.seq (.block 1 (.seq (.region R_overseerref03_Same_5 0 []) (.cond (.t 53) (.seq (.region R_overseerref03_Same_6 9 []) (.ret)) (.skip)))) (.region R_overseerref03_Same_7 9 [])))))) (.seq (.region R_overseerref03_Same_8 9 []) (.ret))))⟩
def f_overseerref03_Same (f_overseerref03_SameInts : (List Int) → (List Int) → Option Bool) (fuel : Nat) (a1 : api_Automaton) (b2 : api_Automaton) : Option Bool :=
  ((((f_overseerref03_SameInts a1.Alphabet b2.Alphabet).bind fun x4 => (if x4 then (if (a1.States != b2.States) then some true else ((f_overseerref03_SameInts a1.Marked b2.Marked).bind fun x8 => (if x8 then some ((a1.Edges.length : Int) != (b2.Edges.length : Int)) else some true))) else some true))).bind fun (x10 : Bool) => (if x10 then some false else iterF (fun k13 (i12 : Int) => (if (i12 < (a1.Edges.length : Int)) then ((getO a1.Edges i12).bind fun x15 => ((getO b2.Edges i12).bind fun x17 => (if ((x15.From == x17.From) && ((x15.Event == x17.Event) && ((x15.To == x17.To) && true))) then k13 (IntKind.wrap .i64 (i12 + 1)) else some false))) else some true)) fuel 0))
def K_overseerlaw03_known (P : Program) (c : Nat) (f : Option Bool) : Prop := ∀ r, f = some r → ∀ M nb, ACalls P c [] M nb (.d (.bool r)) M nb
def R_overseerlaw03_known_0 : List COp := [oo 0 .mov [.c (.d (.bool false))]]
def R_overseerlaw03_known_1 : List COp := [oo 11 (.call 46) [], oo 12 (.call 29) [.t 11], oo 10 .mov [.t 12], oo 13 (.extract 0) [.t 10], oo 14 (.extract 1) [.t 10], oo 1 (.alloc [.nils 1, .d (.int .i64 0), .nils 1, .nils 3]) [], ⟨none, .store 4, [.t 1, .t 13], false, none⟩, oo 2 .mov [.t 14]]
def R_overseerlaw03_known_2 : List COp := [oo 16 (.load true 4) [.t 1], oo 17 (.bslice 1 2 [.d (.int .i64 0)] [0, 1]) [.c (.d (.int .i64 0)), .c (.d (.int .i64 0))], oo 18 (.call 34) [.t 16, .c (.d (.int .i64 0)), .t 17], oo 15 .mov [.t 18], oo 19 (.extract 0) [.t 15], oo 20 (.extract 1) [.t 15], oo 21 (.extract 2) [.t 15], oo 3 .mov [.t 19], oo 4 .mov [.t 20], oo 5 .mov [.t 21]]
def R_overseerlaw03_known_3 : List COp := [oo 23 (.load true 4) [.t 1], oo 24 (.call 16) [.t 23, .c (.d (.int .i64 2)), .c (.d (.bool true))], oo 22 .mov [.t 24], ot 25 (.extract 0) [.t 22], oo 26 (.extract 1) [.t 22], ot 6 .mov [.t 25], oo 7 .mov [.t 26]]
def R_overseerlaw03_known_4 : List COp := [oo 28 (.load true 4) [.t 1], oo 29 (.bslice 1 2 [.d (.int .i64 0)] [0, 1]) [.c (.d (.int .i64 3)), .c (.d (.int .i64 1))], oo 30 (.call 20) [.t 28, .t 29], oo 27 .mov [.t 30], oo 31 (.extract 0) [.t 27], oo 32 (.extract 1) [.t 27], oo 8 (.alloc [.nils 1, .d (.int .i64 0), .nils 1, .nils 3]) [], ⟨none, .store 4, [.t 8, .t 31], false, none⟩, oo 9 .mov [.t 32]]
def R_overseerlaw03_known_5 : List COp := [oo 33 .mov [.t 2], oo 34 (.bin .eql false) [.t 33, .c (.d (.int .i64 0))], oo 35 .mov [.t 34], ⟨some 36, .load true 4, [.t 1], false, some (35, true)⟩, ⟨some 37, .bslice 1 2 [.d (.int .i64 0)] [0, 1], [.c (.d (.int .i64 0)), .c (.d (.int .i64 2))], false, some (35, true)⟩, ⟨some 38, .bslice 1 1 [.d (.int .i64 0)] [0], [.c (.d (.int .i64 1))], false, some (35, true)⟩, ⟨some 39, .build [.d (.int .i64 0), .d (.int .i64 0), .d (.int .i64 0)] [(0, 1), (1, 1), (2, 1)], [.c (.d (.int .i64 0)), .c (.d (.int .i64 0)), .c (.d (.int .i64 1))], false, some (35, true)⟩, ⟨some 40, .build [.d (.int .i64 0), .d (.int .i64 0), .d (.int .i64 0)] [(0, 1), (1, 1), (2, 1)], [.c (.d (.int .i64 0)), .c (.d (.int .i64 2)), .c (.d (.int .i64 0))], false, some (35, true)⟩, ⟨some 41, .build [.d (.int .i64 0), .d (.int .i64 0), .d (.int .i64 0)] [(0, 1), (1, 1), (2, 1)], [.c (.d (.int .i64 1)), .c (.d (.int .i64 2)), .c (.d (.int .i64 0))], false, some (35, true)⟩, ⟨some 42, .bslice 3 3 [.d (.int .i64 0), .d (.int .i64 0), .d (.int .i64 0)] [0, 1, 2], [.t 39, .t 40, .t 41], false, some (35, true)⟩, ⟨some 43, .build [.nils 1, .d (.int .i64 0), .nils 1, .nils 3] [(0, 1), (1, 1), (2, 1), (3, 1)], [.t 37, .c (.d (.int .i64 2)), .t 38, .t 42], false, some (35, true)⟩, ⟨some 44, .call 23, [.t 36, .t 43], false, some (35, true)⟩, oo 45 .pick [.t 35, .t 44, .c (.d (.bool false))], oo 46 .mov [.t 45], ⟨some 47, .mov, [.t 5], false, some (46, true)⟩, ⟨some 48, .bin .eql false, [.t 47, .c (.d (.int .i64 0))], false, some (46, true)⟩, oo 49 .pick [.t 46, .t 48, .c (.d (.bool false))], oo 50 .mov [.t 49], ⟨some 51, .mov, [.t 3], false, some (50, true)⟩, ⟨some 52, .bin .eql false, [.t 51, .c (.d (.int .i64 1))], false, some (50, true)⟩, oo 53 .pick [.t 50, .t 52, .c (.d (.bool false))], oo 54 .mov [.t 53], ⟨some 55, .mov, [.t 4], false, some (54, true)⟩, ⟨some 56, .bin .eql false, [.t 55, .c (.d (.int .i64 1))], false, some (54, true)⟩, oo 57 .pick [.t 54, .t 56, .c (.d (.bool false))], oo 58 .mov [.t 57], ⟨some 59, .mov, [.t 7], false, some (58, true)⟩, ⟨some 60, .bin .eql false, [.t 59, .c (.d (.int .i64 0))], false, some (58, true)⟩, oo 61 .pick [.t 58, .t 60, .c (.d (.bool false))], oo 62 .mov [.t 61], ⟨some 63, .mov, [.t 6], false, some (62, true)⟩, ⟨some 64, .len, [.t 63], false, some (62, true)⟩, ⟨some 65, .bin .eql false, [.t 64, .c (.d (.int .i64 2))], false, some (62, true)⟩, oo 66 .pick [.t 62, .t 65, .c (.d (.bool false))], oo 67 .mov [.t 66], ⟨some 68, .mov, [.t 6], false, some (67, true)⟩, ⟨some 69, .idx 1, [.t 68, .c (.d (.int .i64 0))], false, some (67, true)⟩, ⟨some 70, .load false 1, [.t 69], false, some (67, true)⟩, ⟨some 71, .bslice 1 1 [.d (.int .i64 0)] [0], [.c (.d (.int .i64 0))], false, some (67, true)⟩, ⟨some 72, .call 38, [.t 70, .t 71], false, some (67, true)⟩, oo 73 .pick [.t 67, .t 72, .c (.d (.bool false))], oo 74 .mov [.t 73], ⟨some 75, .mov, [.t 6], false, some (74, true)⟩, ⟨some 76, .idx 1, [.t 75, .c (.d (.int .i64 1))], false, some (74, true)⟩, ⟨some 77, .load false 1, [.t 76], false, some (74, true)⟩, ⟨some 78, .bslice 1 2 [.d (.int .i64 0)] [0, 1], [.c (.d (.int .i64 2)), .c (.d (.int .i64 0))], false, some (74, true)⟩, ⟨some 79, .call 38, [.t 77, .t 78], false, some (74, true)⟩, oo 80 .pick [.t 74, .t 79, .c (.d (.bool false))], oo 81 .mov [.t 80], ⟨some 82, .mov, [.t 9], false, some (81, true)⟩, ⟨some 83, .bin .eql false, [.t 82, .c (.d (.int .i64 0))], false, some (81, true)⟩, oo 84 .pick [.t 81, .t 83, .c (.d (.bool false))], oo 85 .mov [.t 84], ⟨some 86, .fld 3, [.t 8], false, some (85, true)⟩, ⟨some 87, .load false 1, [.t 86], false, some (85, true)⟩, ⟨some 88, .len, [.t 87], false, some (85, true)⟩, ⟨some 89, .bin .eql false, [.t 88, .c (.d (.int .i64 3))], false, some (85, true)⟩, oo 90 .pick [.t 85, .t 89, .c (.d (.bool false))], oo 91 .mov [.t 90], ⟨some 92, .fld 3, [.t 8], false, some (91, true)⟩, ⟨some 93, .load false 1, [.t 92], false, some (91, true)⟩, ⟨some 94, .idx 3, [.t 93, .c (.d (.int .i64 1))], false, some (91, true)⟩, ⟨some 95, .load true 3, [.t 94], false, some (91, true)⟩, ⟨some 96, .build [.d (.int .i64 0), .d (.int .i64 0), .d (.int .i64 0)] [(0, 1), (1, 1), (2, 1)], [.c (.d (.int .i64 0)), .c (.d (.int .i64 3)), .c (.d (.int .i64 1))], false, some (91, true)⟩, ⟨some 97, .eqa false [0, 0, 0], [.t 95, .t 96], false, some (91, true)⟩, oo 98 .pick [.t 91, .t 97, .c (.d (.bool false))], oo 0 .mov [.t 98]]
def F_overseerlaw03_known : CFn := ⟨0, 99, [.t 0], .seq (.region R_overseerlaw03_known_0 9 []) (.seq (.region R_overseerlaw03_known_1 9 []) (.seq (.region R_overseerlaw03_known_2 9 []) (.seq (.region R_overseerlaw03_known_3 9 []) (.seq (.region R_overseerlaw03_known_4 9 []) (.seq (.region R_overseerlaw03_known_5 9 []) (.ret))))))⟩
def f_overseerlaw03_known (f_automaton_Words : api_Automaton → Int → Bool → Option ((List (List Int)) × Int)) (f_automaton_Relabel : api_Automaton → (List Int) → Option (api_Automaton × Int)) (f_overseerref03_Same : api_Automaton → api_Automaton → Option Bool) (f_automaton_Canonical : api_Automaton → Option (api_Automaton × Int)) (f_automaton_Run : api_Automaton → Int → (List Int) → Option (Int × Int × Int)) (f_overseerref03_SameInts : (List Int) → (List Int) → Option Bool) (f_overseerlaw03_example : Option api_Automaton) : Option Bool :=
  (f_overseerlaw03_example.bind fun x2 => ((f_automaton_Canonical x2).bind fun (r4, r5) => ((f_automaton_Run r4 0 [0, 0]).bind fun (r7, r8, r9) => ((f_automaton_Words r4 2 true).bind fun (r11, r12) => ((f_automaton_Relabel r4 [3, 1]).bind fun (r14, r15) => (((if (r5 == 0) then ((f_overseerref03_Same r4 (api_Automaton.mk [0, 2] 2 [1] [(api_Edge.mk 0 0 1), (api_Edge.mk 0 2 0), (api_Edge.mk 1 2 0)])).bind fun x18 => (if x18 then (if (r9 == 0) then (if (r7 == 1) then (if (r8 == 1) then (if (r12 == 0) then (if ((r11.length : Int) == 2) then ((getO r11 0).bind fun x25 => ((f_overseerref03_SameInts x25 [0]).bind fun x28 => (if x28 then ((getO r11 1).bind fun x30 => ((f_overseerref03_SameInts x30 [2, 0]).bind fun x33 => (if x33 then (if (r15 == 0) then (if ((r14.Edges.length : Int) == 3) then ((getO r14.Edges 1).bind fun x37 => some ((x37.From == 0) && ((x37.Event == 3) && ((x37.To == 1) && true)))) else some false) else some false) else some false))) else some false))) else some false) else some false) else some false) else some false) else some false) else some false)) else some false)).bind fun (x39 : Bool) => some x39))))))
def K_overseerlaw03_Set_Events (P : Program) (c : Nat) (f : Int → Option ((List Int))) : Prop := ∀ s1 r, f s1 = some r → ∀ M nb, ACalls P c [.d (.int .u8 s1)] M nb (.own 1 (List.map (eI .i64) r)) M nb
def R_overseerlaw03_Set_Events_0 : List COp := [ot 2 .mov [.c (.nils 1)]]
def R_overseerlaw03_Set_Events_1 : List COp := [ot 3 .mov [.c (.nils 1)]]
def R_overseerlaw03_Set_Events_2 : List COp := [oo 4 .mov [.c (.d (.int .i64 0))]]
def R_overseerlaw03_Set_Events_3 : List COp := [oo 5 .mov [.t 4], oo 6 (.bin .lss false) [.t 5, .c (.d (.int .i64 5))]]
def R_overseerlaw03_Set_Events_4 : List COp := [oo 9 .mov [.t 0], oo 10 .mov [.t 4], oo 11 (.bin .shr false) [.t 9, .t 10], oo 12 (.bin .and false) [.t 11, .c (.d (.int .u8 1))], oo 13 (.bin .eql false) [.t 12, .c (.d (.int .u8 1))]]
def R_overseerlaw03_Set_Events_5 : List COp := [ot 14 .mov [.t 3], oo 15 .mov [.t 4], oo 16 (.bslice 1 1 [.d (.int .i64 0)] [0]) [.t 15], ot 17 (.append 1 8) [.t 14, .t 16], ot 3 .mov [.t 17]]
def R_overseerlaw03_Set_Events_6 : List COp := [oo 7 .mov [.t 4], oo 8 (.bin .add false) [.t 7, .c (.d (.int .i64 1))], oo 4 .mov [.t 8]]
def R_overseerlaw03_Set_Events_7 : List COp := [ot 18 .mov [.t 3], ot 2 .mov [.t 18]]
def F_overseerlaw03_Set_Events : CFn := ⟨1, 19, [.t 2], .seq (.region R_overseerlaw03_Set_Events_0 9 []) (.seq (.region R_overseerlaw03_Set_Events_1 9 []) (.seq (.seq (.region R_overseerlaw03_Set_Events_2 9 []) (.block 0 (.loop [16] (.seq (.seq (.region R_overseerlaw03_Set_Events_3 9 []) (.cond (.t 6) (.skip) (.exit 0))) (.seq (.block 1 (.seq (.region R_overseerlaw03_Set_Events_4 9 []) (.cond (.t 13) (.region R_overseerlaw03_Set_Events_5 9 []) (.skip)))) (.region R_overseerlaw03_Set_Events_6 9 [])))))) (.seq (.region R_overseerlaw03_Set_Events_7 9 []) (.ret))))⟩
def f_overseerlaw03_Set_Events (fuel : Nat) (s1 : Int) : Option ((List Int)) :=
  ((iterF (fun k4 ((out2, i3) : (List Int) × Int) => (if (i3 < 5) then ((((shrO .u8 s1 i3).bind fun s6 => (if ((andI .u8 s6 1) == 1) then ((appO out2 [i3]).bind fun x9 => some x9) else some out2))).bind fun (out11 : List Int) => k4 (out11, (IntKind.wrap .i64 (i3 + 1)))) else some out2)) fuel ([], 0)).bind fun (out12 : List Int) => some out12)
def K_overseerref03_Empty (P : Program) (c : Nat) (f : (List Int) → Option api_Automaton) : Prop := ∀ alphabet1 r, f alphabet1 = some r → ∀ M nb, ACalls P c [.d (.lst 1 (List.map (eI .i64) alphabet1))] M nb (.agg [.d (.lst 1 (List.map (eI .i64) r.Alphabet)), .d (.int .i64 r.States), .nils 1, .nils 3]) M nb
def R_overseerref03_Empty_0 : List COp := [oo 2 (.alloc [.nils 1, .d (.int .i64 0), .nils 1, .nils 3]) []]
def R_overseerref03_Empty_1 : List COp := [oo 3 (.bslice 1 0 [.d (.int .i64 0)] []) [], oo 4 .mov [.t 0], ot 5 (.append 1 8) [.t 3, .t 4], oo 6 (.build [.nils 1, .d (.int .i64 0), .nils 1, .nils 3] [(0, 1)]) [.t 5], ⟨none, .store 4, [.t 2, .t 6], false, none⟩]
def F_overseerref03_Empty : CFn := ⟨1, 7, [.cell 2 true 4], .seq (.region R_overseerref03_Empty_0 9 []) (.seq (.region R_overseerref03_Empty_1 9 []) (.ret))⟩
def f_overseerref03_Empty (alphabet1 : (List Int)) : Option api_Automaton :=
  ((appO [] alphabet1).bind fun x2 => some (api_Automaton.mk x2 0 [] []))
def K_overseerref03_Step (P : Program) (c : Nat) (f : api_Automaton → Int → Int → Option Int) : Prop := ∀ a1 state2 event3 r, f a1 state2 event3 = some r → ∀ M nb, ACalls P c [.agg [.d (.lst 1 (List.map (eI .i64) a1.Alphabet)), .d (.int .i64 a1.States), .d (.lst 1 (List.map (eI .i64) a1.Marked)), .d (.lst 3 (List.map e_api_Edge a1.Edges))], .d (.int .i64 state2), .d (.int .i64 event3)] M nb (.d (.int .i64 r)) M nb
def R_overseerref03_Step_0 : List COp := [oo 3 (.box 4) [.t 0], oo 6 .mov [.c (.d (.int .i64 0))]]
def R_overseerref03_Step_1 : List COp := [oo 7 .mov [.c (.d (.int .i64 0))]]
def R_overseerref03_Step_2 : List COp := [oo 8 .mov [.t 7], oo 9 (.fld 3) [.t 3], oo 10 (.load false 1) [.t 9], oo 11 .len [.t 10], oo 12 (.bin .lss false) [.t 8, .t 11]]
def R_overseerref03_Step_3 : List COp := [oo 15 (.fld 3) [.t 3], oo 16 (.load false 1) [.t 15], oo 17 .mov [.t 7], oo 18 (.idx 3) [.t 16, .t 17], oo 19 (.fld 0) [.t 18], oo 20 (.load false 1) [.t 19], oo 21 .mov [.t 1], oo 22 (.bin .eql false) [.t 20, .t 21], oo 23 .mov [.t 22], ⟨some 24, .fld 3, [.t 3], false, some (23, true)⟩, ⟨some 25, .load false 1, [.t 24], false, some (23, true)⟩, ⟨some 26, .mov, [.t 7], false, some (23, true)⟩, ⟨some 27, .idx 3, [.t 25, .t 26], false, some (23, true)⟩, ⟨some 28, .fld 1, [.t 27], false, some (23, true)⟩, ⟨some 29, .load false 1, [.t 28], false, some (23, true)⟩, ⟨some 30, .mov, [.t 2], false, some (23, true)⟩, ⟨some 31, .bin .eql false, [.t 29, .t 30], false, some (23, true)⟩, oo 32 .pick [.t 23, .t 31, .c (.d (.bool false))]]
def R_overseerref03_Step_4 : List COp := [oo 33 (.fld 3) [.t 3], oo 34 (.load false 1) [.t 33], oo 35 .mov [.t 7], oo 36 (.idx 3) [.t 34, .t 35], oo 37 (.fld 2) [.t 36], oo 38 (.load false 1) [.t 37], oo 6 .mov [.t 38]]
def R_overseerref03_Step_5 : List COp := [oo 13 .mov [.t 7], oo 14 (.bin .add false) [.t 13, .c (.d (.int .i64 1))], oo 7 .mov [.t 14]]
def R_overseerref03_Step_6 : List COp := [oo 6 .mov [.c (.d (.int .i64 (-1)))]]
def F_overseerref03_Step : CFn := ⟨3, 39, [.t 6], .seq (.region R_overseerref03_Step_0 9 []) (.seq (.seq (.region R_overseerref03_Step_1 9 []) (.block 0 (.loop [] (.seq (.seq (.region R_overseerref03_Step_2 9 []) (.cond (.t 12) (.skip) (.exit 0))) (.seq (.block 1 (.seq (.region R_overseerref03_Step_3 9 []) (.cond (.t 32) (.seq (.region R_overseerref03_Step_4 9 []) (.ret)) (.skip)))) (.region R_overseerref03_Step_5 9 [])))))) (.seq (.region R_overseerref03_Step_6 9 []) (.ret)))⟩
def f_overseerref03_Step (fuel : Nat) (a1 : api_Automaton) (state2 : Int) (event3 : Int) : Option Int :=
  iterF (fun k5 (i4 : Int) => (if (i4 < (a1.Edges.length : Int)) then ((((getO a1.Edges i4).bind fun x7 => (if (x7.From == state2) then ((getO a1.Edges i4).bind fun x10 => some (x10.Event == event3)) else some false))).bind fun (x12 : Bool) => (if x12 then ((getO a1.Edges i4).bind fun x14 => some x14.To) else k5 (IntKind.wrap .i64 (i4 + 1)))) else some (-1))) fuel 0
def K_overseerref03_has (P : Program) (c : Nat) (f : (List Int) → Int → Option Bool) : Prop := ∀ l1 n2 r, f l1 n2 = some r → ∀ M nb, ACalls P c [.d (.lst 1 (List.map (eI .i64) l1)), .d (.int .i64 n2)] M nb (.d (.bool r)) M nb
def R_overseerref03_has_0 : List COp := [oo 4 .mov [.c (.d (.bool false))]]
def R_overseerref03_has_1 : List COp := [oo 5 .mov [.c (.d (.int .i64 0))]]
def R_overseerref03_has_2 : List COp := [oo 6 .mov [.t 5], oo 7 .mov [.t 0], oo 8 .len [.t 7], oo 9 (.bin .lss false) [.t 6, .t 8]]
def R_overseerref03_has_3 : List COp := [oo 12 .mov [.t 0], oo 13 .mov [.t 5], oo 14 (.idx 1) [.t 12, .t 13], oo 15 (.load false 1) [.t 14], oo 16 .mov [.t 1], oo 17 (.bin .eql false) [.t 15, .t 16]]
def R_overseerref03_has_4 : List COp := [oo 4 .mov [.c (.d (.bool true))]]
def R_overseerref03_has_5 : List COp := [oo 10 .mov [.t 5], oo 11 (.bin .add false) [.t 10, .c (.d (.int .i64 1))], oo 5 .mov [.t 11]]
def R_overseerref03_has_6 : List COp := [oo 4 .mov [.c (.d (.bool false))]]
def F_overseerref03_has : CFn := ⟨2, 18, [.t 4], .seq (.region R_overseerref03_has_0 9 []) (.seq (.seq (.region R_overseerref03_has_1 9 []) (.block 0 (.loop [] (.seq (.seq (.region R_overseerref03_has_2 9 []) (.cond (.t 9) (.skip) (.exit 0))) (.seq (.block 1 (.seq (.region R_overseerref03_has_3 9 []) (.cond (.t 17) (.seq (.region R_overseerref03_has_4 9 []) (.ret)) (.skip)))) (.region R_overseerref03_has_5 9 [])))))) (.seq (.region R_overseerref03_has_6 9 []) (.ret)))⟩
def f_overseerref03_has (fuel : Nat) (l1 : (List Int)) (n2 : Int) : Option Bool :=
  iterF (fun k4 (i3 : Int) => (if (i3 < (l1.length : Int)) then ((getO l1 i3).bind fun x6 => (if (x6 == n2) then some true else k4 (IntKind.wrap .i64 (i3 + 1)))) else some false)) fuel 0
def K_overseerref03_Found (P : Program) (c : Nat) (f : api_Automaton → Option ((List Int))) : Prop := ∀ a1 r, f a1 = some r → ∀ M nb, ACalls P c [.agg [.d (.lst 1 (List.map (eI .i64) a1.Alphabet)), .d (.int .i64 a1.States), .d (.lst 1 (List.map (eI .i64) a1.Marked)), .d (.lst 3 (List.map e_api_Edge a1.Edges))]] M nb (.own 1 (List.map (eI .i64) r)) M nb
def R_overseerref03_Found_0 : List COp := [oo 1 (.box 4) [.t 0], ot 2 .mov [.c (.nils 1)]]
def R_overseerref03_Found_1 : List COp := [ot 3 .mov [.c (.nils 1)]]
def R_overseerref03_Found_2 : List COp := [oo 7 (.fld 1) [.t 1], oo 8 (.load false 1) [.t 7], oo 9 (.bin .gtr false) [.t 8, .c (.d (.int .i64 0))]]
def R_overseerref03_Found_3 : List COp := [ot 10 .mov [.t 3], oo 11 (.bslice 1 1 [.d (.int .i64 0)] [0]) [.c (.d (.int .i64 0))], ot 12 (.append 1 8) [.t 10, .t 11], ot 3 .mov [.t 12]]
def R_overseerref03_Found_4 : List COp := [oo 4 .mov [.c (.d (.int .i64 0))]]
def R_overseerref03_Found_5 : List COp := [oo 13 .mov [.t 4], oo 14 .mov [.t 3], oo 15 .len [.t 14], oo 16 (.bin .lss false) [.t 13, .t 15]]
def R_overseerref03_Found_6 : List COp := [oo 5 .mov [.c (.d (.int .i64 0))]]
def R_overseerref03_Found_7 : List COp := [oo 19 .mov [.t 5], oo 20 (.fld 0) [.t 1], oo 21 (.load false 1) [.t 20], oo 22 .len [.t 21], oo 23 (.bin .lss false) [.t 19, .t 22]]
def R_overseerref03_Found_8 : List COp := [oo 26 (.load true 4) [.t 1], oo 27 .mov [.t 3], oo 28 .mov [.t 4], oo 29 (.idx 1) [.t 27, .t 28], oo 30 (.load false 1) [.t 29], oo 31 (.fld 0) [.t 1], oo 32 (.load false 1) [.t 31], oo 33 .mov [.t 5], oo 34 (.idx 1) [.t 32, .t 33], oo 35 (.load false 1) [.t 34], oo 36 (.call 40) [.t 26, .t 30, .t 35], oo 6 .mov [.t 36]]
def R_overseerref03_Found_9 : List COp := [oo 37 .mov [.t 6], oo 38 (.bin .geq false) [.t 37, .c (.d (.int .i64 0))], oo 39 .mov [.t 38], ⟨some 40, .mov, [.t 3], false, some (39, true)⟩, ⟨some 41, .mov, [.t 6], false, some (39, true)⟩, ⟨some 42, .call 51, [.t 40, .t 41], false, some (39, true)⟩, ⟨some 43, .un .not, [.t 42], false, some (39, true)⟩, oo 44 .pick [.t 39, .t 43, .c (.d (.bool false))]]
def R_overseerref03_Found_10 : List COp := [ot 45 .mov [.t 3], oo 46 .mov [.t 6], oo 47 (.bslice 1 1 [.d (.int .i64 0)] [0]) [.t 46], ot 48 (.append 1 8) [.t 45, .t 47], ot 3 .mov [.t 48]]
def R_overseerref03_Found_11 : List COp := [oo 24 .mov [.t 5], oo 25 (.bin .add false) [.t 24, .c (.d (.int .i64 1))], oo 5 .mov [.t 25]]
def R_overseerref03_Found_12 : List COp := [oo 17 .mov [.t 4], oo 18 (.bin .add false) [.t 17, .c (.d (.int .i64 1))], oo 4 .mov [.t 18]]
def R_overseerref03_Found_13 : List COp := [ot 49 .mov [.t 3], ot 2 .mov [.t 49]]
def F_overseerref03_Found : CFn := ⟨1, 50, [.t 2], .seq (.region R_overseerref03_Found_0 9 []) (.seq (.region R_overseerref03_Found_1 9 []) (.seq (.seq (.region R_overseerref03_Found_2 9 []) (.cond (.t 9) (.region R_overseerref03_Found_3 9 []) (.skip))) (.seq (.seq (.region R_overseerref03_Found_4 9 []) (.block 0 (.loop [47] (.seq (.seq (.region R_overseerref03_Found_5 9 []) (.cond (.t 16) (.skip) (.exit 0))) (.seq (.block 1 (.seq (.region R_overseerref03_Found_6 9 []) (.block 2 (.loop [47] (.seq (.seq (.region R_overseerref03_Found_7 9 []) (.cond (.t 23) (.skip) (.exit 2))) (.seq (.block 3 (.seq (.region R_overseerref03_Found_8 0 []) (.seq (.region R_overseerref03_Found_9 9 []) (.cond (.t 44) (.region R_overseerref03_Found_10 9 []) (.skip))))) (.region R_overseerref03_Found_11 9 []))))))) (.region R_overseerref03_Found_12 9 [])))))) (.seq (.region R_overseerref03_Found_13 9 []) (.ret)))))⟩
def f_overseerref03_Found (f_overseerref03_Step : api_Automaton → Int → Int → Option Int) (f_overseerref03_has : (List Int) → Int → Option Bool) (fuel : Nat) (a1 : api_Automaton) : Option ((List Int)) :=
  (((if (a1.States > 0) then ((appO [] [0]).bind fun x3 => some x3) else some [])).bind fun (out5 : List Int) => ((iterF (fun k8 ((out6, i7) : (List Int) × Int) => (if (i7 < (out6.length : Int)) then ((iterF (fun k12 ((out10, k11) : (List Int) × Int) => (if (k11 < (a1.Alphabet.length : Int)) then ((((getO out10 i7).bind fun x14 => ((getO a1.Alphabet k11).bind fun x16 => ((f_overseerref03_Step a1 x14 x16).bind fun x19 => (((if (x19 ≥ 0) then ((f_overseerref03_has out10 x19).bind fun x22 => some (!x22)) else some false)).bind fun (x23 : Bool) => (if x23 then ((appO out10 [x19]).bind fun x25 => some x25) else some out10)))))).bind fun (out27 : List Int) => k12 (out27, (IntKind.wrap .i64 (k11 + 1)))) else some out10)) fuel (out6, 0)).bind fun (out28 : List Int) => k8 (out28, (IntKind.wrap .i64 (i7 + 1)))) else some out6)) fuel (out5, 0)).bind fun (out29 : List Int) => some out29))
def K_overseerref03_index (P : Program) (c : Nat) (f : (List Int) → Int → Option Int) : Prop := ∀ l1 n2 r, f l1 n2 = some r → ∀ M nb, ACalls P c [.d (.lst 1 (List.map (eI .i64) l1)), .d (.int .i64 n2)] M nb (.d (.int .i64 r)) M nb
def R_overseerref03_index_0 : List COp := [oo 4 .mov [.c (.d (.int .i64 0))]]
def R_overseerref03_index_1 : List COp := [oo 5 .mov [.c (.d (.int .i64 0))]]
def R_overseerref03_index_2 : List COp := [oo 6 .mov [.t 5], oo 7 .mov [.t 0], oo 8 .len [.t 7], oo 9 (.bin .lss false) [.t 6, .t 8]]
def R_overseerref03_index_3 : List COp := [oo 12 .mov [.t 0], oo 13 .mov [.t 5], oo 14 (.idx 1) [.t 12, .t 13], oo 15 (.load false 1) [.t 14], oo 16 .mov [.t 1], oo 17 (.bin .eql false) [.t 15, .t 16]]
def R_overseerref03_index_4 : List COp := [oo 18 .mov [.t 5], oo 4 .mov [.t 18]]
def R_overseerref03_index_5 : List COp := [oo 10 .mov [.t 5], oo 11 (.bin .add false) [.t 10, .c (.d (.int .i64 1))], oo 5 .mov [.t 11]]
def R_overseerref03_index_6 : List COp := [oo 4 .mov [.c (.d (.int .i64 (-1)))]]
def F_overseerref03_index : CFn := ⟨2, 19, [.t 4], .seq (.region R_overseerref03_index_0 9 []) (.seq (.seq (.region R_overseerref03_index_1 9 []) (.block 0 (.loop [] (.seq (.seq (.region R_overseerref03_index_2 9 []) (.cond (.t 9) (.skip) (.exit 0))) (.seq (.block 1 (.seq (.region R_overseerref03_index_3 9 []) (.cond (.t 17) (.seq (.region R_overseerref03_index_4 9 []) (.ret)) (.skip)))) (.region R_overseerref03_index_5 9 [])))))) (.seq (.region R_overseerref03_index_6 9 []) (.ret)))⟩
def f_overseerref03_index (fuel : Nat) (l1 : (List Int)) (n2 : Int) : Option Int :=
  iterF (fun k4 (i3 : Int) => (if (i3 < (l1.length : Int)) then ((getO l1 i3).bind fun x6 => (if (x6 == n2) then some i3 else k4 (IntKind.wrap .i64 (i3 + 1)))) else some (-1))) fuel 0
def K_overseerref03_Canonical (P : Program) (c : Nat) (f : api_Automaton → Option api_Automaton) : Prop := ∀ a1 r, f a1 = some r → ∀ M nb, ACalls P c [.agg [.d (.lst 1 (List.map (eI .i64) a1.Alphabet)), .d (.int .i64 a1.States), .d (.lst 1 (List.map (eI .i64) a1.Marked)), .d (.lst 3 (List.map e_api_Edge a1.Edges))]] M nb (.agg [.d (.lst 1 (List.map (eI .i64) r.Alphabet)), .d (.int .i64 r.States), .d (.lst 1 (List.map (eI .i64) r.Marked)), .d (.lst 3 (List.map e_api_Edge r.Edges))]) M nb
def R_overseerref03_Canonical_0 : List COp := [oo 1 (.box 4) [.t 0], oo 2 (.alloc [.nils 1, .d (.int .i64 0), .nils 1, .nils 3]) []]
def R_overseerref03_Canonical_1 : List COp := [oo 8 (.load true 4) [.t 1], oo 9 (.call 61) [.t 8], ot 3 .mov [.t 9]]
def R_overseerref03_Canonical_2 : List COp := [oo 10 (.fld 0) [.t 1], oo 11 (.load false 1) [.t 10], oo 12 (.call 47) [.t 11], oo 4 (.alloc [.nils 1, .d (.int .i64 0), .nils 1, .nils 3]) [], ⟨none, .store 4, [.t 4, .t 12], false, none⟩]
def R_overseerref03_Canonical_3 : List COp := [oo 13 .mov [.t 3], oo 14 .len [.t 13], oo 15 (.fld 1) [.t 4], ⟨none, .store 1, [.t 15, .t 14], false, none⟩]
def R_overseerref03_Canonical_4 : List COp := [oo 5 .mov [.c (.d (.int .i64 0))]]
def R_overseerref03_Canonical_5 : List COp := [oo 16 .mov [.t 5], oo 17 .mov [.t 3], oo 18 .len [.t 17], oo 19 (.bin .lss false) [.t 16, .t 18]]
def R_overseerref03_Canonical_6 : List COp := [oo 22 (.fld 2) [.t 1], oo 23 (.load false 1) [.t 22], oo 24 .mov [.t 3], oo 25 .mov [.t 5], oo 26 (.idx 1) [.t 24, .t 25], oo 27 (.load false 1) [.t 26], oo 28 (.call 51) [.t 23, .t 27]]
def R_overseerref03_Canonical_7 : List COp := [oo 29 (.fld 2) [.t 4], oo 30 .loadT [.t 29], oo 31 .mov [.t 5], oo 32 (.bslice 1 1 [.d (.int .i64 0)] [0]) [.t 31], ot 33 (.append 1 8) [.t 30, .t 32], oo 34 (.fld 2) [.t 4], ⟨none, .store 1, [.t 34, .t 33], true, none⟩]
def R_overseerref03_Canonical_8 : List COp := [oo 6 .mov [.c (.d (.int .i64 0))]]
def R_overseerref03_Canonical_9 : List COp := [oo 35 .mov [.t 6], oo 36 (.fld 0) [.t 1], oo 37 (.load false 1) [.t 36], oo 38 .len [.t 37], oo 39 (.bin .lss false) [.t 35, .t 38]]
def R_overseerref03_Canonical_10 : List COp := [oo 42 (.load true 4) [.t 1], oo 43 .mov [.t 3], oo 44 .mov [.t 5], oo 45 (.idx 1) [.t 43, .t 44], oo 46 (.load false 1) [.t 45], oo 47 (.fld 0) [.t 1], oo 48 (.load false 1) [.t 47], oo 49 .mov [.t 6], oo 50 (.idx 1) [.t 48, .t 49], oo 51 (.load false 1) [.t 50], oo 52 (.call 40) [.t 42, .t 46, .t 51], oo 7 .mov [.t 52]]
def R_overseerref03_Canonical_11 : List COp := [oo 53 .mov [.t 7], oo 54 (.bin .geq false) [.t 53, .c (.d (.int .i64 0))]]
def R_overseerref03_Canonical_12 : List COp := [oo 55 (.fld 3) [.t 4], oo 56 .loadT [.t 55], oo 57 .mov [.t 5], oo 58 (.fld 0) [.t 1], oo 59 (.load false 1) [.t 58], oo 60 .mov [.t 6], oo 61 (.idx 1) [.t 59, .t 60], oo 62 (.load false 1) [.t 61], oo 63 .mov [.t 3], oo 64 .mov [.t 7], oo 65 (.call 57) [.t 63, .t 64], oo 66 (.build [.d (.int .i64 0), .d (.int .i64 0), .d (.int .i64 0)] [(0, 1), (1, 1), (2, 1)]) [.t 57, .t 62, .t 65], oo 67 (.bslice 3 1 [.d (.int .i64 0), .d (.int .i64 0), .d (.int .i64 0)] [0]) [.t 66], ot 68 (.append 3 24) [.t 56, .t 67], oo 69 (.fld 3) [.t 4], ⟨none, .store 1, [.t 69, .t 68], true, none⟩]
def R_overseerref03_Canonical_13 : List COp := [oo 40 .mov [.t 6], oo 41 (.bin .add false) [.t 40, .c (.d (.int .i64 1))], oo 6 .mov [.t 41]]
def R_overseerref03_Canonical_14 : List COp := [oo 20 .mov [.t 5], oo 21 (.bin .add false) [.t 20, .c (.d (.int .i64 1))], oo 5 .mov [.t 21]]
def R_overseerref03_Canonical_15 : List COp := [oo 70 (.load true 4) [.t 4], ⟨none, .store 4, [.t 2, .t 70], false, none⟩]
def F_overseerref03_Canonical : CFn := ⟨1, 71, [.cell 2 true 4], .seq (.region R_overseerref03_Canonical_0 9 []) (.seq (.region R_overseerref03_Canonical_1 9 []) (.seq (.region R_overseerref03_Canonical_2 9 []) (.seq (.region R_overseerref03_Canonical_3 9 []) (.seq (.seq (.region R_overseerref03_Canonical_4 9 []) (.block 0 (.loop [32, 67] (.seq (.seq (.region R_overseerref03_Canonical_5 9 []) (.cond (.t 19) (.skip) (.exit 0))) (.seq (.block 1 (.seq (.seq (.region R_overseerref03_Canonical_6 0 []) (.cond (.t 28) (.region R_overseerref03_Canonical_7 9 []) (.skip))) (.seq (.region R_overseerref03_Canonical_8 9 []) (.block 2 (.loop [67] (.seq (.seq (.region R_overseerref03_Canonical_9 9 []) (.cond (.t 39) (.skip) (.exit 2))) (.seq (.block 3 (.seq (.region R_overseerref03_Canonical_10 0 []) (.seq (.region R_overseerref03_Canonical_11 9 []) (.cond (.t 54) (.region R_overseerref03_Canonical_12 2 []) (.skip))))) (.region R_overseerref03_Canonical_13 9 [])))))))) (.region R_overseerref03_Canonical_14 9 [])))))) (.seq (.region R_overseerref03_Canonical_15 9 []) (.ret))))))⟩
def f_overseerref03_Canonical (f_overseerref03_Step : api_Automaton → Int → Int → Option Int) (f_overseerref03_Empty : (List Int) → Option api_Automaton) (f_overseerref03_has : (List Int) → Int → Option Bool) (f_overseerref03_index : (List Int) → Int → Option Int) (f_overseerref03_Found : api_Automaton → Option ((List Int))) (fuel : Nat) (a1 : api_Automaton) : Option api_Automaton :=
  ((f_overseerref03_Found a1).bind fun x3 => ((f_overseerref03_Empty a1.Alphabet).bind fun x5 => ((iterF (fun k12 ((i6, c7, c8, c9, out10, out11) : Int × (List Int) × (List Int) × (List api_Edge) × (List Int) × (List api_Edge)) => (if (i6 < (x3.length : Int)) then ((((((getO x3 i6).bind fun x14 => ((f_overseerref03_has a1.Marked x14).bind fun x17 => (if x17 then ((appO out10 [i6]).bind fun x19 => some x19) else some out10)))).bind fun (out21 : List Int) => iterF (fun k24 ((k22, out23) : Int × (List api_Edge)) => (if (k22 < (a1.Alphabet.length : Int)) then ((((getO x3 i6).bind fun x26 => ((getO a1.Alphabet k22).bind fun x28 => ((f_overseerref03_Step a1 x26 x28).bind fun x31 => (if (x31 ≥ 0) then ((getO a1.Alphabet k22).bind fun x33 => ((f_overseerref03_index x3 x31).bind fun x36 => ((appO out23 [(api_Edge.mk i6 x33 x36)]).bind fun x37 => some x37))) else some out23))))).bind fun (out39 : List api_Edge) => k24 ((IntKind.wrap .i64 (k22 + 1)), out39)) else some (out21, out23))) fuel (0, out11))).bind fun ((out40, out41) : (List Int) × (List api_Edge)) => k12 ((IntKind.wrap .i64 (i6 + 1)), c7, c8, c9, out40, out41)) else some (c7, c8, c9, out10, out11))) fuel (0, [], [], [], [], [])).bind fun ((c42, c43, c44, out45, out46) : (List Int) × (List Int) × (List api_Edge) × (List Int) × (List api_Edge)) => some (api_Automaton.mk x5.Alphabet (x3.length : Int) out45 out46))))
def K_overseerlaw03_Make (P : Program) (c : Nat) (f : (List Int) → overseerlaw03_Graph → Option api_Automaton) : Prop := ∀ alphabet1 g2 r, f alphabet1 g2 = some r → ∀ M nb, ACalls P c [.d (.lst 1 (List.map (eI .i64) alphabet1)), .agg [.d (.int .u8 g2.States), .d (.int .u8 g2.Marks), .d (.int .u8 g2.To.1.1), .d (.int .u8 g2.To.1.2.1), .d (.int .u8 g2.To.1.2.2.1), .d (.int .u8 g2.To.1.2.2.2.1), .d (.int .u8 g2.To.1.2.2.2.2), .d (.int .u8 g2.To.2.1.1), .d (.int .u8 g2.To.2.1.2.1), .d (.int .u8 g2.To.2.1.2.2.1), .d (.int .u8 g2.To.2.1.2.2.2.1), .d (.int .u8 g2.To.2.1.2.2.2.2), .d (.int .u8 g2.To.2.2.1.1), .d (.int .u8 g2.To.2.2.1.2.1), .d (.int .u8 g2.To.2.2.1.2.2.1), .d (.int .u8 g2.To.2.2.1.2.2.2.1), .d (.int .u8 g2.To.2.2.1.2.2.2.2), .d (.int .u8 g2.To.2.2.2.1.1), .d (.int .u8 g2.To.2.2.2.1.2.1), .d (.int .u8 g2.To.2.2.2.1.2.2.1), .d (.int .u8 g2.To.2.2.2.1.2.2.2.1), .d (.int .u8 g2.To.2.2.2.1.2.2.2.2), .d (.int .u8 g2.To.2.2.2.2.1), .d (.int .u8 g2.To.2.2.2.2.2.1), .d (.int .u8 g2.To.2.2.2.2.2.2.1), .d (.int .u8 g2.To.2.2.2.2.2.2.2.1), .d (.int .u8 g2.To.2.2.2.2.2.2.2.2)]] M nb (.agg [.d (.lst 1 (List.map (eI .i64) r.Alphabet)), .d (.int .i64 r.States), .d (.lst 1 (List.map (eI .i64) r.Marked)), .d (.lst 3 (List.map e_api_Edge r.Edges))]) M nb
def R_overseerlaw03_Make_0 : List COp := [oo 3 (.box 27) [.t 1], oo 4 (.alloc [.nils 1, .d (.int .i64 0), .nils 1, .nils 3]) []]
def R_overseerlaw03_Make_1 : List COp := [oo 9 (.fld 0) [.t 3], oo 10 (.load false 1) [.t 9], oo 11 (.bin .geq false) [.t 10, .c (.d (.int .u8 250))]]
def R_overseerlaw03_Make_2 : List COp := [oo 12 .mov [.t 0], oo 13 (.call 47) [.t 12], ⟨none, .store 4, [.t 4, .t 13], false, none⟩]
def R_overseerlaw03_Make_3 : List COp := [oo 14 .mov [.t 0], oo 15 (.call 47) [.t 14], oo 5 (.alloc [.nils 1, .d (.int .i64 0), .nils 1, .nils 3]) [], ⟨none, .store 4, [.t 5, .t 15], false, none⟩]
def R_overseerlaw03_Make_4 : List COp := [oo 16 (.fld 0) [.t 3], oo 17 (.load false 1) [.t 16], oo 18 (.bin .rem false) [.t 17, .c (.d (.int .u8 5))], oo 19 (.conv .i64) [.t 18], oo 20 (.bin .add false) [.c (.d (.int .i64 1)), .t 19], oo 21 (.fld 1) [.t 5], ⟨none, .store 1, [.t 21, .t 20], false, none⟩]
def R_overseerlaw03_Make_5 : List COp := [oo 6 .mov [.c (.d (.int .i64 0))]]
def R_overseerlaw03_Make_6 : List COp := [oo 22 .mov [.t 6], oo 23 (.fld 1) [.t 5], oo 24 (.load false 1) [.t 23], oo 25 (.bin .lss false) [.t 22, .t 24]]
def R_overseerlaw03_Make_7 : List COp := [oo 28 (.fld 1) [.t 3], oo 29 (.load false 1) [.t 28], oo 30 .mov [.t 6], oo 31 (.bin .shr false) [.t 29, .t 30], oo 32 (.bin .and false) [.t 31, .c (.d (.int .u8 1))], oo 33 (.bin .eql false) [.t 32, .c (.d (.int .u8 1))]]
def R_overseerlaw03_Make_8 : List COp := [oo 34 (.fld 2) [.t 5], oo 35 .loadT [.t 34], oo 36 .mov [.t 6], oo 37 (.bslice 1 1 [.d (.int .i64 0)] [0]) [.t 36], ot 38 (.append 1 8) [.t 35, .t 37], oo 39 (.fld 2) [.t 5], ⟨none, .store 1, [.t 39, .t 38], true, none⟩]
def R_overseerlaw03_Make_9 : List COp := [oo 7 .mov [.c (.d (.int .i64 0))]]
def R_overseerlaw03_Make_10 : List COp := [oo 40 .mov [.t 7], oo 41 .mov [.t 0], oo 42 .len [.t 41], oo 43 (.bin .lss false) [.t 40, .t 42], oo 44 .mov [.t 43], ⟨some 45, .mov, [.t 7], false, some (44, true)⟩, ⟨some 46, .bin .lss false, [.t 45, .c (.d (.int .i64 5))], false, some (44, true)⟩, oo 47 .pick [.t 44, .t 46, .c (.d (.bool false))]]
def R_overseerlaw03_Make_11 : List COp := [oo 50 .mov [.t 6], oo 51 .mov [.t 7], oo 52 (.fld 2) [.t 3], oo 53 (.idxarr 5 5) [.t 52, .t 50], oo 54 (.idxarr 1 5) [.t 53, .t 51], oo 55 (.load false 1) [.t 54], oo 56 (.conv .i64) [.t 55], oo 57 (.fld 1) [.t 5], oo 58 (.load false 1) [.t 57], oo 59 (.bin .add false) [.t 58, .c (.d (.int .i64 2))], oo 60 (.bin .rem false) [.t 56, .t 59], oo 8 .mov [.t 60]]
def R_overseerlaw03_Make_12 : List COp := [oo 61 .mov [.t 8], oo 62 (.fld 1) [.t 5], oo 63 (.load false 1) [.t 62], oo 64 (.bin .lss false) [.t 61, .t 63]]
def R_overseerlaw03_Make_13 : List COp := [oo 65 (.fld 3) [.t 5], oo 66 .loadT [.t 65], oo 67 .mov [.t 6], oo 68 .mov [.t 0], oo 69 .mov [.t 7], oo 70 (.idx 1) [.t 68, .t 69], oo 71 (.load false 1) [.t 70], oo 72 .mov [.t 8], oo 73 (.build [.d (.int .i64 0), .d (.int .i64 0), .d (.int .i64 0)] [(0, 1), (1, 1), (2, 1)]) [.t 67, .t 71, .t 72], oo 74 (.bslice 3 1 [.d (.int .i64 0), .d (.int .i64 0), .d (.int .i64 0)] [0]) [.t 73], ot 75 (.append 3 24) [.t 66, .t 74], oo 76 (.fld 3) [.t 5], ⟨none, .store 1, [.t 76, .t 75], true, none⟩]
def R_overseerlaw03_Make_14 : List COp := [oo 48 .mov [.t 7], oo 49 (.bin .add false) [.t 48, .c (.d (.int .i64 1))], oo 7 .mov [.t 49]]
def R_overseerlaw03_Make_15 : List COp := [oo 26 .mov [.t 6], oo 27 (.bin .add false) [.t 26, .c (.d (.int .i64 1))], oo 6 .mov [.t 27]]
def R_overseerlaw03_Make_16 : List COp := [oo 77 (.load true 4) [.t 5], oo 78 (.call 28) [.t 77], ⟨none, .store 4, [.t 4, .t 78], false, none⟩]
def F_overseerlaw03_Make : CFn := ⟨2, 79, [.cell 4 true 4], .seq (.region R_overseerlaw03_Make_0 9 []) (.seq (.seq (.region R_overseerlaw03_Make_1 9 []) (.cond (.t 11) (.seq (.region R_overseerlaw03_Make_2 9 []) (.ret)) (.skip))) (.seq (.region R_overseerlaw03_Make_3 9 []) (.seq (.region R_overseerlaw03_Make_4 9 []) (.seq (.seq (.region R_overseerlaw03_Make_5 9 []) (.block 0 (.loop [37, 74] (.seq (.seq (.region R_overseerlaw03_Make_6 9 []) (.cond (.t 25) (.skip) (.exit 0))) (.seq (.block 1 (.seq (.seq (.region R_overseerlaw03_Make_7 9 []) (.cond (.t 33) (.region R_overseerlaw03_Make_8 9 []) (.skip))) (.seq (.region R_overseerlaw03_Make_9 9 []) (.block 2 (.loop [74] (.seq (.seq (.region R_overseerlaw03_Make_10 9 []) (.cond (.t 47) (.skip) (.exit 2))) (.seq (.block 3 (.seq (.region R_overseerlaw03_Make_11 0 []) (.seq (.region R_overseerlaw03_Make_12 9 []) (.cond (.t 64) (.region R_overseerlaw03_Make_13 0 []) (.skip))))) (.region R_overseerlaw03_Make_14 9 [])))))))) (.region R_overseerlaw03_Make_15 9 [])))))) (.seq (.region R_overseerlaw03_Make_16 9 []) (.ret))))))⟩
def f_overseerlaw03_Make (f_overseerref03_Canonical : api_Automaton → Option api_Automaton) (f_overseerref03_Empty : (List Int) → Option api_Automaton) (fuel : Nat) (alphabet1 : (List Int)) (g2 : overseerlaw03_Graph) : Option api_Automaton :=
  (if (g2.States ≥ 250) then ((f_overseerref03_Empty alphabet1).bind fun x5 => some (api_Automaton.mk x5.Alphabet x5.States [] [])) else ((f_overseerref03_Empty alphabet1).bind fun x7 => ((iterF (fun k15 ((i8, c9, c10, c11, a12, a13, a14) : Int × (List Int) × (List Int) × (List api_Edge) × Int × (List Int) × (List api_Edge)) => (if (i8 < a12) then ((((((shrO .u8 g2.Marks i8).bind fun s17 => (if ((andI .u8 s17 1) == 1) then ((appO a13 [i8]).bind fun x20 => some x20) else some a13))).bind fun (a22 : List Int) => iterF (fun k25 ((k23, a24) : Int × (List api_Edge)) => (((if (k23 < (alphabet1.length : Int)) then some (decide (k23 < 5)) else some false)).bind fun (x27 : Bool) => (if x27 then ((((inO 5 i8).bind fun _ => ((inO 5 k23).bind fun _ => ((rowO [g2.To.1.1, g2.To.1.2.1, g2.To.1.2.2.1, g2.To.1.2.2.2.1, g2.To.1.2.2.2.2, g2.To.2.1.1, g2.To.2.1.2.1, g2.To.2.1.2.2.1, g2.To.2.1.2.2.2.1, g2.To.2.1.2.2.2.2, g2.To.2.2.1.1, g2.To.2.2.1.2.1, g2.To.2.2.1.2.2.1, g2.To.2.2.1.2.2.2.1, g2.To.2.2.1.2.2.2.2, g2.To.2.2.2.1.1, g2.To.2.2.2.1.2.1, g2.To.2.2.2.1.2.2.1, g2.To.2.2.2.1.2.2.2.1, g2.To.2.2.2.1.2.2.2.2, g2.To.2.2.2.2.1, g2.To.2.2.2.2.2.1, g2.To.2.2.2.2.2.2.1, g2.To.2.2.2.2.2.2.2.1, g2.To.2.2.2.2.2.2.2.2] (Int.toNat i8 * 5 + Int.toNat k23 * 1)).bind fun x31 => ((remO .i64 (IntKind.wrap .i64 x31) (IntKind.wrap .i64 (a12 + 2))).bind fun s33 => (if (s33 < a12) then ((getO alphabet1 k23).bind fun x36 => ((appO a24 [(api_Edge.mk i8 x36 s33)]).bind fun x38 => some x38)) else some a24)))))).bind fun (a40 : List api_Edge) => k25 ((IntKind.wrap .i64 (k23 + 1)), a40)) else some (a22, a24)))) fuel (0, a14))).bind fun ((a41, a42) : (List Int) × (List api_Edge)) => k15 ((IntKind.wrap .i64 (i8 + 1)), c9, c10, c11, a12, a41, a42)) else some (c9, c10, c11, a12, a13, a14))) fuel (0, [], [], [], (IntKind.wrap .i64 (1 + (IntKind.wrap .i64 (Int.tmod g2.States 5)))), [], [])).bind fun ((c43, c44, c45, a46, a47, a48) : (List Int) × (List Int) × (List api_Edge) × Int × (List Int) × (List api_Edge)) => ((f_overseerref03_Canonical (api_Automaton.mk x7.Alphabet a46 a47 a48)).bind fun x50 => some x50))))
def K_automaton_Complete (P : Program) (c : Nat) (f : api_Automaton → Option (api_Automaton × Int)) : Prop := ∀ a1 r, f a1 = some r → ∀ M nb, ACalls P c [.agg [.d (.lst 1 (List.map (eI .i64) a1.Alphabet)), .d (.int .i64 a1.States), .d (.lst 1 (List.map (eI .i64) a1.Marked)), .d (.lst 3 (List.map e_api_Edge a1.Edges))]] M nb (.tup [.agg [.d (.lst 1 (List.map (eI .i64) r.1.Alphabet)), .d (.int .i64 r.1.States), .d (.lst 1 (List.map (eI .i64) r.1.Marked)), .d (.lst 3 (List.map e_api_Edge r.1.Edges))], .d (.int .i64 r.2)]) M nb
def R_automaton_Complete_0 : List COp := [oo 1 (.box 4) [.t 0], oo 2 (.alloc [.nils 1, .d (.int .i64 0), .nils 1, .nils 3]) [], oo 3 .mov [.c (.d (.int .i64 0))]]
def R_automaton_Complete_1 : List COp := [oo 11 (.load true 4) [.t 1], oo 12 (.call 45) [.t 11], oo 4 .mov [.t 12]]
def R_automaton_Complete_2 : List COp := [oo 13 .mov [.t 4], oo 14 (.bin .neq false) [.t 13, .c (.d (.int .i64 0))]]
def R_automaton_Complete_3 : List COp := [oo 15 (.build [.nils 1, .d (.int .i64 0), .nils 1, .nils 3] []) [], oo 16 .mov [.t 4], ⟨none, .store 4, [.t 2, .t 15], false, none⟩, oo 3 .mov [.t 16]]
def R_automaton_Complete_4 : List COp := [oo 17 (.fld 0) [.t 1], oo 18 (.load false 1) [.t 17], oo 19 (.fld 1) [.t 1], oo 20 (.load false 1) [.t 19], oo 21 (.bin .add false) [.t 20, .c (.d (.int .i64 1))], oo 22 (.fld 2) [.t 1], oo 23 (.load false 1) [.t 22], oo 24 (.build [.nils 1, .d (.int .i64 0), .nils 1, .nils 3] [(0, 1), (1, 1), (2, 1)]) [.t 18, .t 21, .t 23], oo 5 (.alloc [.nils 1, .d (.int .i64 0), .nils 1, .nils 3]) [], ⟨none, .store 4, [.t 5, .t 24], false, none⟩]
def R_automaton_Complete_5 : List COp := [oo 25 (.fld 1) [.t 5], oo 26 (.load false 1) [.t 25], oo 27 .mov [.c (.d (.int .i64 0))]]
def R_automaton_Complete_6 : List COp := [oo 28 (.bin .lss false) [.t 27, .t 26]]
def R_automaton_Complete_7 : List COp := [oo 29 .mov [.t 27], oo 6 .mov [.t 29]]
def R_automaton_Complete_8 : List COp := [oo 30 (.fld 0) [.t 1], oo 31 (.load false 1) [.t 30], oo 32 .len [.t 31], oo 33 .mov [.c (.d (.int .i64 0))]]
def R_automaton_Complete_9 : List COp := [oo 34 (.bin .lss false) [.t 33, .t 32]]
def R_automaton_Complete_10 : List COp := [oo 35 (.idx 1) [.t 31, .t 33], oo 36 (.load false 1) [.t 35], oo 8 .mov [.t 36]]
def R_automaton_Complete_11 : List COp := [oo 37 (.fld 1) [.t 1], oo 38 (.load false 1) [.t 37], oo 9 .mov [.t 38]]
def R_automaton_Complete_12 : List COp := [oo 39 .mov [.t 6], oo 40 (.fld 1) [.t 1], oo 41 (.load false 1) [.t 40], oo 42 (.bin .lss false) [.t 39, .t 41]]
def R_automaton_Complete_13 : List COp := [oo 43 (.load true 4) [.t 1], oo 44 .mov [.t 6], oo 45 .mov [.t 8], oo 46 (.call 67) [.t 43, .t 44, .t 45], oo 10 .mov [.t 46]]
def R_automaton_Complete_14 : List COp := [oo 47 .mov [.t 10], oo 48 (.bin .geq false) [.t 47, .c (.d (.int .i64 0))]]
def R_automaton_Complete_15 : List COp := [oo 49 .mov [.t 10], oo 9 .mov [.t 49]]
def R_automaton_Complete_16 : List COp := [oo 50 (.fld 3) [.t 5], oo 51 .loadT [.t 50], oo 52 .mov [.t 6], oo 53 .mov [.t 8], oo 54 .mov [.t 9], oo 55 (.build [.d (.int .i64 0), .d (.int .i64 0), .d (.int .i64 0)] [(0, 1), (1, 1), (2, 1)]) [.t 52, .t 53, .t 54], oo 56 (.bslice 3 1 [.d (.int .i64 0), .d (.int .i64 0), .d (.int .i64 0)] [0]) [.t 55], ot 57 (.append 3 24) [.t 51, .t 56], oo 58 (.fld 3) [.t 5], ⟨none, .store 1, [.t 58, .t 57], true, none⟩]
def R_automaton_Complete_17 : List COp := [oo 59 (.bin .add false) [.t 33, .c (.d (.int .i64 1))], oo 33 .mov [.t 59]]
def R_automaton_Complete_18 : List COp := [oo 60 (.bin .add false) [.t 27, .c (.d (.int .i64 1))], oo 27 .mov [.t 60]]
def R_automaton_Complete_19 : List COp := [oo 61 (.load true 4) [.t 5], oo 62 (.call 56) [.t 61], ⟨none, .store 4, [.t 5, .t 62], false, none⟩]
def R_automaton_Complete_20 : List COp := [oo 63 (.fld 1) [.t 5], oo 64 (.load false 1) [.t 63], oo 65 (.bin .gtr false) [.t 64, .c (.d (.int .i64 4096))]]
def R_automaton_Complete_21 : List COp := [oo 66 (.build [.nils 1, .d (.int .i64 0), .nils 1, .nils 3] []) [], ⟨none, .store 4, [.t 2, .t 66], false, none⟩, oo 3 .mov [.c (.d (.int .i64 3))]]
def R_automaton_Complete_22 : List COp := [oo 67 (.load true 4) [.t 5], ⟨none, .store 4, [.t 2, .t 67], false, none⟩, oo 3 .mov [.c (.d (.int .i64 0))]]
def F_automaton_Complete : CFn := ⟨1, 68, [.cell 2 true 4, .t 3], .seq (.region R_automaton_Complete_0 9 []) (.seq (.seq (.region R_automaton_Complete_1 9 []) (.seq (.region R_automaton_Complete_2 9 []) (.cond (.t 14) (.seq (.region R_automaton_Complete_3 9 []) (.ret)) (.skip)))) (.seq (.region R_automaton_Complete_4 9 []) (.seq (.seq (.region R_automaton_Complete_5 9 []) (.block 0 (.loop [56] (.seq (.region R_automaton_Complete_6 9 []) (.seq (.cond (.t 28) (.skip) (.exit 0)) (.seq (.block 1 (.seq (.region R_automaton_Complete_7 9 []) (.seq (.region R_automaton_Complete_8 9 []) (.block 2 (.loop [56] (.seq (.region R_automaton_Complete_9 9 []) (.seq (.cond (.t 34) (.skip) (.exit 2)) (.seq (.block 3 (.seq (.region R_automaton_Complete_10 9 []) (.seq (.region R_automaton_Complete_11 9 []) (.seq (.seq (.region R_automaton_Complete_12 9 []) (.cond (.t 42) (.seq (.region R_automaton_Complete_13 9 []) (.seq (.region R_automaton_Complete_14 9 []) (.cond (.t 48) (.region R_automaton_Complete_15 9 []) (.skip)))) (.skip))) (.region R_automaton_Complete_16 9 []))))) (.region R_automaton_Complete_17 9 []))))))))) (.region R_automaton_Complete_18 9 []))))))) (.seq (.region R_automaton_Complete_19 9 []) (.seq (.seq (.region R_automaton_Complete_20 9 []) (.cond (.t 65) (.seq (.region R_automaton_Complete_21 9 []) (.ret)) (.skip))) (.seq (.region R_automaton_Complete_22 9 []) (.ret)))))))⟩
def f_automaton_Complete (f_automaton_Check : api_Automaton → Option Int) (f_automaton_canonical : api_Automaton → Option api_Automaton) (f_automaton_next : api_Automaton → Int → Int → Option Int) (fuel : Nat) (a1 : api_Automaton) : Option (api_Automaton × Int) :=
  ((f_automaton_Check a1).bind fun x3 => (if (x3 != 0) then some ((api_Automaton.mk [] 0 [] []), x3) else ((iterF (fun k12 ((x5, x6, c7, c8, c9, r10, r11) : Int × Int × (List Int) × (List Int) × (List api_Edge) × Int × (List api_Edge)) => (if (x6 < x5) then ((iterF (fun k16 ((x14, r15) : Int × (List api_Edge)) => (if (x14 < (a1.Alphabet.length : Int)) then ((getO a1.Alphabet x14).bind fun x18 => (((if (x6 < a1.States) then ((f_automaton_next a1 x6 x18).bind fun x22 => (if (x22 ≥ 0) then some x22 else some a1.States)) else some a1.States)).bind fun (to24 : Int) => ((appO r15 [(api_Edge.mk x6 x18 to24)]).bind fun x25 => k16 ((IntKind.wrap .i64 (x14 + 1)), x25)))) else some r15)) fuel (0, r11)).bind fun (r27 : List api_Edge) => k12 (x5, (IntKind.wrap .i64 (x6 + 1)), c7, c8, c9, r10, r27)) else some (c7, c8, c9, r10, r11))) fuel ((IntKind.wrap .i64 (a1.States + 1)), 0, [], [], [], (IntKind.wrap .i64 (a1.States + 1)), [])).bind fun ((c28, c29, c30, r31, r32) : (List Int) × (List Int) × (List api_Edge) × Int × (List api_Edge)) => ((f_automaton_canonical (api_Automaton.mk a1.Alphabet r31 a1.Marked r32)).bind fun x34 => (if (x34.States > 4096) then some ((api_Automaton.mk [] 0 [] []), 3) else some (x34, 0))))))
def K_automaton_Closed (P : Program) (c : Nat) (f : api_Automaton → Option (api_Automaton × Int)) : Prop := ∀ a1 r, f a1 = some r → ∀ M nb, ACalls P c [.agg [.d (.lst 1 (List.map (eI .i64) a1.Alphabet)), .d (.int .i64 a1.States), .d (.lst 1 (List.map (eI .i64) a1.Marked)), .d (.lst 3 (List.map e_api_Edge a1.Edges))]] M nb (.tup [.agg [.d (.lst 1 (List.map (eI .i64) r.1.Alphabet)), .d (.int .i64 r.1.States), .d (.lst 1 (List.map (eI .i64) r.1.Marked)), .d (.lst 3 (List.map e_api_Edge r.1.Edges))], .d (.int .i64 r.2)]) M nb
def R_automaton_Closed_0 : List COp := [oo 1 (.box 4) [.t 0], oo 2 (.alloc [.nils 1, .d (.int .i64 0), .nils 1, .nils 3]) [], oo 3 .mov [.c (.d (.int .i64 0))]]
def R_automaton_Closed_1 : List COp := [oo 7 (.load true 4) [.t 1], oo 8 (.call 45) [.t 7], oo 4 .mov [.t 8]]
def R_automaton_Closed_2 : List COp := [oo 9 .mov [.t 4], oo 10 (.bin .neq false) [.t 9, .c (.d (.int .i64 0))]]
def R_automaton_Closed_3 : List COp := [oo 11 (.build [.nils 1, .d (.int .i64 0), .nils 1, .nils 3] []) [], oo 12 .mov [.t 4], ⟨none, .store 4, [.t 2, .t 11], false, none⟩, oo 3 .mov [.t 12]]
def R_automaton_Closed_4 : List COp := [oo 13 (.load true 4) [.t 1], oo 14 (.call 56) [.t 13], oo 5 (.alloc [.nils 1, .d (.int .i64 0), .nils 1, .nils 3]) [], ⟨none, .store 4, [.t 5, .t 14], false, none⟩]
def R_automaton_Closed_5 : List COp := [oo 15 (.fld 2) [.t 5], ⟨none, .store 1, [.t 15, .c (.nils 1)], false, none⟩]
def R_automaton_Closed_6 : List COp := [oo 16 (.fld 1) [.t 5], oo 17 (.load false 1) [.t 16], oo 18 .mov [.c (.d (.int .i64 0))]]
def R_automaton_Closed_7 : List COp := [oo 19 (.bin .lss false) [.t 18, .t 17]]
def R_automaton_Closed_8 : List COp := [oo 20 .mov [.t 18], oo 6 .mov [.t 20]]
def R_automaton_Closed_9 : List COp := [oo 21 (.fld 2) [.t 5], oo 22 .loadT [.t 21], oo 23 .mov [.t 6], oo 24 (.bslice 1 1 [.d (.int .i64 0)] [0]) [.t 23], ot 25 (.append 1 8) [.t 22, .t 24], oo 26 (.fld 2) [.t 5], ⟨none, .store 1, [.t 26, .t 25], true, none⟩]
def R_automaton_Closed_10 : List COp := [oo 27 (.bin .add false) [.t 18, .c (.d (.int .i64 1))], oo 18 .mov [.t 27]]
def R_automaton_Closed_11 : List COp := [oo 28 (.load true 4) [.t 5], ⟨none, .store 4, [.t 2, .t 28], false, none⟩, oo 3 .mov [.c (.d (.int .i64 0))]]
def F_automaton_Closed : CFn := ⟨1, 29, [.cell 2 true 4, .t 3], .seq (.region R_automaton_Closed_0 9 []) (.seq (.seq (.region R_automaton_Closed_1 9 []) (.seq (.region R_automaton_Closed_2 9 []) (.cond (.t 10) (.seq (.region R_automaton_Closed_3 9 []) (.ret)) (.skip)))) (.seq (.region R_automaton_Closed_4 9 []) (.seq (.region R_automaton_Closed_5 9 []) (.seq (.seq (.region R_automaton_Closed_6 9 []) (.block 0 (.loop [24] (.seq (.region R_automaton_Closed_7 9 []) (.seq (.cond (.t 19) (.skip) (.exit 0)) (.seq (.block 1 (.seq (.region R_automaton_Closed_8 9 []) (.region R_automaton_Closed_9 9 []))) (.region R_automaton_Closed_10 9 []))))))) (.seq (.region R_automaton_Closed_11 9 []) (.ret))))))⟩
def f_automaton_Closed (f_automaton_Check : api_Automaton → Option Int) (f_automaton_canonical : api_Automaton → Option api_Automaton) (fuel : Nat) (a1 : api_Automaton) : Option (api_Automaton × Int) :=
  ((f_automaton_Check a1).bind fun x3 => (if (x3 != 0) then some ((api_Automaton.mk [] 0 [] []), x3) else ((f_automaton_canonical a1).bind fun x6 => ((iterF (fun k12 ((x7, c8, c9, c10, r11) : Int × (List Int) × (List Int) × (List api_Edge) × (List Int)) => (if (x7 < x6.States) then ((appO r11 [x7]).bind fun x14 => k12 ((IntKind.wrap .i64 (x7 + 1)), c8, c9, c10, x14)) else some (c8, c9, c10, r11))) fuel (0, [], [], [], [])).bind fun ((c16, c17, c18, r19) : (List Int) × (List Int) × (List api_Edge) × (List Int)) => some ((api_Automaton.mk x6.Alphabet x6.States r19 x6.Edges), 0)))))
def K_overseerref03_Complete (P : Program) (c : Nat) (f : api_Automaton → Option api_Automaton) : Prop := ∀ a1 r, f a1 = some r → ∀ M nb, ACalls P c [.agg [.d (.lst 1 (List.map (eI .i64) a1.Alphabet)), .d (.int .i64 a1.States), .d (.lst 1 (List.map (eI .i64) a1.Marked)), .d (.lst 3 (List.map e_api_Edge a1.Edges))]] M nb (.agg [.d (.lst 1 (List.map (eI .i64) r.Alphabet)), .d (.int .i64 r.States), .d (.lst 1 (List.map (eI .i64) r.Marked)), .d (.lst 3 (List.map e_api_Edge r.Edges))]) M nb
def R_overseerref03_Complete_0 : List COp := [oo 1 (.box 4) [.t 0], oo 2 (.alloc [.nils 1, .d (.int .i64 0), .nils 1, .nils 3]) []]
def R_overseerref03_Complete_1 : List COp := [oo 7 (.fld 0) [.t 1], oo 8 (.load false 1) [.t 7], oo 9 (.fld 1) [.t 1], oo 10 (.load false 1) [.t 9], oo 11 (.bin .add false) [.t 10, .c (.d (.int .i64 1))], oo 12 (.fld 2) [.t 1], oo 13 (.load false 1) [.t 12], oo 14 (.build [.nils 1, .d (.int .i64 0), .nils 1, .nils 3] [(0, 1), (1, 1), (2, 1)]) [.t 8, .t 11, .t 13], oo 3 (.alloc [.nils 1, .d (.int .i64 0), .nils 1, .nils 3]) [], ⟨none, .store 4, [.t 3, .t 14], false, none⟩]
def R_overseerref03_Complete_2 : List COp := [oo 4 .mov [.c (.d (.int .i64 0))]]
def R_overseerref03_Complete_3 : List COp := [oo 15 .mov [.t 4], oo 16 (.fld 1) [.t 1], oo 17 (.load false 1) [.t 16], oo 18 (.bin .leq false) [.t 15, .t 17]]
def R_overseerref03_Complete_4 : List COp := [oo 5 .mov [.c (.d (.int .i64 0))]]
def R_overseerref03_Complete_5 : List COp := [oo 21 .mov [.t 5], oo 22 (.fld 0) [.t 1], oo 23 (.load false 1) [.t 22], oo 24 .len [.t 23], oo 25 (.bin .lss false) [.t 21, .t 24]]
def R_overseerref03_Complete_6 : List COp := [oo 28 (.load true 4) [.t 1], oo 29 .mov [.t 4], oo 30 (.fld 0) [.t 1], oo 31 (.load false 1) [.t 30], oo 32 .mov [.t 5], oo 33 (.idx 1) [.t 31, .t 32], oo 34 (.load false 1) [.t 33], oo 35 (.call 40) [.t 28, .t 29, .t 34], oo 6 .mov [.t 35]]
def R_overseerref03_Complete_7 : List COp := [oo 36 .mov [.t 6], oo 37 (.bin .lss false) [.t 36, .c (.d (.int .i64 0))]]
def R_overseerref03_Complete_8 : List COp := [oo 38 (.fld 1) [.t 1], oo 39 (.load false 1) [.t 38], oo 6 .mov [.t 39]]
def R_overseerref03_Complete_9 : List COp := [oo 40 (.fld 3) [.t 3], oo 41 .loadT [.t 40], oo 42 .mov [.t 4], oo 43 (.fld 0) [.t 1], oo 44 (.load false 1) [.t 43], oo 45 .mov [.t 5], oo 46 (.idx 1) [.t 44, .t 45], oo 47 (.load false 1) [.t 46], oo 48 .mov [.t 6], oo 49 (.build [.d (.int .i64 0), .d (.int .i64 0), .d (.int .i64 0)] [(0, 1), (1, 1), (2, 1)]) [.t 42, .t 47, .t 48], oo 50 (.bslice 3 1 [.d (.int .i64 0), .d (.int .i64 0), .d (.int .i64 0)] [0]) [.t 49], ot 51 (.append 3 24) [.t 41, .t 50], oo 52 (.fld 3) [.t 3], ⟨none, .store 1, [.t 52, .t 51], true, none⟩]
def R_overseerref03_Complete_10 : List COp := [oo 26 .mov [.t 5], oo 27 (.bin .add false) [.t 26, .c (.d (.int .i64 1))], oo 5 .mov [.t 27]]
def R_overseerref03_Complete_11 : List COp := [oo 19 .mov [.t 4], oo 20 (.bin .add false) [.t 19, .c (.d (.int .i64 1))], oo 4 .mov [.t 20]]
def R_overseerref03_Complete_12 : List COp := [oo 53 (.load true 4) [.t 3], oo 54 (.call 28) [.t 53], ⟨none, .store 4, [.t 2, .t 54], false, none⟩]
def F_overseerref03_Complete : CFn := ⟨1, 55, [.cell 2 true 4], .seq (.region R_overseerref03_Complete_0 9 []) (.seq (.region R_overseerref03_Complete_1 9 []) (.seq (.seq (.region R_overseerref03_Complete_2 9 []) (.block 0 (.loop [50] (.seq (.seq (.region R_overseerref03_Complete_3 9 []) (.cond (.t 18) (.skip) (.exit 0))) (.seq (.block 1 (.seq (.region R_overseerref03_Complete_4 9 []) (.block 2 (.loop [50] (.seq (.seq (.region R_overseerref03_Complete_5 9 []) (.cond (.t 25) (.skip) (.exit 2))) (.seq (.block 3 (.seq (.region R_overseerref03_Complete_6 0 []) (.seq (.seq (.region R_overseerref03_Complete_7 9 []) (.cond (.t 37) (.region R_overseerref03_Complete_8 9 []) (.skip))) (.region R_overseerref03_Complete_9 0 [])))) (.region R_overseerref03_Complete_10 9 []))))))) (.region R_overseerref03_Complete_11 9 [])))))) (.seq (.region R_overseerref03_Complete_12 9 []) (.ret))))⟩
def f_overseerref03_Complete (f_overseerref03_Canonical : api_Automaton → Option api_Automaton) (f_overseerref03_Step : api_Automaton → Int → Int → Option Int) (fuel : Nat) (a1 : api_Automaton) : Option api_Automaton :=
  ((iterF (fun k8 ((state2, c3, c4, c5, out6, out7) : Int × (List Int) × (List Int) × (List api_Edge) × Int × (List api_Edge)) => (if (state2 ≤ a1.States) then ((iterF (fun k12 ((k10, out11) : Int × (List api_Edge)) => (if (k10 < (a1.Alphabet.length : Int)) then ((getO a1.Alphabet k10).bind fun x14 => ((f_overseerref03_Step a1 state2 x14).bind fun x17 => (((if (x17 < 0) then some a1.States else some x17)).bind fun (to19 : Int) => ((getO a1.Alphabet k10).bind fun x20 => ((appO out11 [(api_Edge.mk state2 x20 to19)]).bind fun x22 => k12 ((IntKind.wrap .i64 (k10 + 1)), x22)))))) else some out11)) fuel (0, out7)).bind fun (out24 : List api_Edge) => k8 ((IntKind.wrap .i64 (state2 + 1)), c3, c4, c5, out6, out24)) else some (c3, c4, c5, out6, out7))) fuel (0, [], [], [], (IntKind.wrap .i64 (a1.States + 1)), [])).bind fun ((c25, c26, c27, out28, out29) : (List Int) × (List Int) × (List api_Edge) × Int × (List api_Edge)) => ((f_overseerref03_Canonical (api_Automaton.mk a1.Alphabet out28 a1.Marked out29)).bind fun x31 => some x31))
def K_overseerref03_Closed (P : Program) (c : Nat) (f : api_Automaton → Option api_Automaton) : Prop := ∀ a1 r, f a1 = some r → ∀ M nb, ACalls P c [.agg [.d (.lst 1 (List.map (eI .i64) a1.Alphabet)), .d (.int .i64 a1.States), .d (.lst 1 (List.map (eI .i64) a1.Marked)), .d (.lst 3 (List.map e_api_Edge a1.Edges))]] M nb (.agg [.d (.lst 1 (List.map (eI .i64) r.Alphabet)), .d (.int .i64 r.States), .d (.lst 1 (List.map (eI .i64) r.Marked)), .d (.lst 3 (List.map e_api_Edge r.Edges))]) M nb
def R_overseerref03_Closed_0 : List COp := [oo 1 (.box 4) [.t 0], oo 2 (.alloc [.nils 1, .d (.int .i64 0), .nils 1, .nils 3]) []]
def R_overseerref03_Closed_1 : List COp := [oo 5 (.load true 4) [.t 1], oo 6 (.call 28) [.t 5], oo 3 (.alloc [.nils 1, .d (.int .i64 0), .nils 1, .nils 3]) [], ⟨none, .store 4, [.t 3, .t 6], false, none⟩]
def R_overseerref03_Closed_2 : List COp := [oo 7 (.fld 2) [.t 3], ⟨none, .store 1, [.t 7, .c (.nils 1)], false, none⟩]
def R_overseerref03_Closed_3 : List COp := [oo 4 .mov [.c (.d (.int .i64 0))]]
def R_overseerref03_Closed_4 : List COp := [oo 8 .mov [.t 4], oo 9 (.fld 1) [.t 3], oo 10 (.load false 1) [.t 9], oo 11 (.bin .lss false) [.t 8, .t 10]]
def R_overseerref03_Closed_5 : List COp := [oo 14 (.fld 2) [.t 3], oo 15 .loadT [.t 14], oo 16 .mov [.t 4], oo 17 (.bslice 1 1 [.d (.int .i64 0)] [0]) [.t 16], ot 18 (.append 1 8) [.t 15, .t 17], oo 19 (.fld 2) [.t 3], ⟨none, .store 1, [.t 19, .t 18], true, none⟩]
def R_overseerref03_Closed_6 : List COp := [oo 12 .mov [.t 4], oo 13 (.bin .add false) [.t 12, .c (.d (.int .i64 1))], oo 4 .mov [.t 13]]
def R_overseerref03_Closed_7 : List COp := [oo 20 (.load true 4) [.t 3], ⟨none, .store 4, [.t 2, .t 20], false, none⟩]
def F_overseerref03_Closed : CFn := ⟨1, 21, [.cell 2 true 4], .seq (.region R_overseerref03_Closed_0 9 []) (.seq (.region R_overseerref03_Closed_1 9 []) (.seq (.region R_overseerref03_Closed_2 9 []) (.seq (.seq (.region R_overseerref03_Closed_3 9 []) (.block 0 (.loop [17] (.seq (.seq (.region R_overseerref03_Closed_4 9 []) (.cond (.t 11) (.skip) (.exit 0))) (.seq (.block 1 (.region R_overseerref03_Closed_5 9 [])) (.region R_overseerref03_Closed_6 9 [])))))) (.seq (.region R_overseerref03_Closed_7 9 []) (.ret)))))⟩
def f_overseerref03_Closed (f_overseerref03_Canonical : api_Automaton → Option api_Automaton) (fuel : Nat) (a1 : api_Automaton) : Option api_Automaton :=
  ((f_overseerref03_Canonical a1).bind fun x3 => ((iterF (fun k9 ((i4, c5, c6, c7, out8) : Int × (List Int) × (List Int) × (List api_Edge) × (List Int)) => (if (i4 < x3.States) then ((appO out8 [i4]).bind fun x11 => k9 ((IntKind.wrap .i64 (i4 + 1)), c5, c6, c7, x11)) else some (c5, c6, c7, out8))) fuel (0, [], [], [], [])).bind fun ((c13, c14, c15, out16) : (List Int) × (List Int) × (List api_Edge) × (List Int)) => some (api_Automaton.mk x3.Alphabet x3.States out16 x3.Edges)))
def K_automaton_reached (P : Program) (c : Nat) (f : api_Automaton → (List Int) → Option (Int × Bool)) : Prop := ∀ a1 word2 r, f a1 word2 = some r → ∀ M nb, ACalls P c [.agg [.d (.lst 1 (List.map (eI .i64) a1.Alphabet)), .d (.int .i64 a1.States), .d (.lst 1 (List.map (eI .i64) a1.Marked)), .d (.lst 3 (List.map e_api_Edge a1.Edges))], .d (.lst 1 (List.map (eI .i64) word2))] M nb (.tup [.d (.int .i64 r.1), .d (.bool r.2)]) M nb
def R_automaton_reached_0 : List COp := [oo 2 (.box 4) [.t 0], oo 4 .mov [.c (.d (.int .i64 0))], oo 5 .mov [.c (.d (.bool false))]]
def R_automaton_reached_1 : List COp := [oo 8 (.fld 1) [.t 2], oo 9 (.load false 1) [.t 8], oo 10 (.bin .eql false) [.t 9, .c (.d (.int .i64 0))]]
def R_automaton_reached_2 : List COp := [oo 4 .mov [.c (.d (.int .i64 0))], oo 5 .mov [.c (.d (.bool false))]]
def R_automaton_reached_3 : List COp := [oo 12 (.load true 4) [.t 2], oo 13 .mov [.t 1], oo 14 (.call 66) [.t 12, .c (.d (.int .i64 0)), .t 13], oo 11 .mov [.t 14], oo 15 (.extract 0) [.t 11], oo 16 (.extract 1) [.t 11], oo 6 .mov [.t 15], oo 7 .mov [.t 16]]
def R_automaton_reached_4 : List COp := [oo 17 .mov [.t 6], oo 18 .mov [.t 7], oo 19 .mov [.t 1], oo 20 .len [.t 19], oo 21 (.bin .eql false) [.t 18, .t 20], oo 4 .mov [.t 17], oo 5 .mov [.t 21]]
def F_automaton_reached : CFn := ⟨2, 22, [.t 4, .t 5], .seq (.region R_automaton_reached_0 9 []) (.seq (.seq (.region R_automaton_reached_1 9 []) (.cond (.t 10) (.seq (.region R_automaton_reached_2 9 []) (.ret)) (.skip))) (.seq (.region R_automaton_reached_3 9 []) (.seq (.region R_automaton_reached_4 9 []) (.ret))))⟩
def f_automaton_reached (f_automaton_follow : api_Automaton → Int → (List Int) → Option (Int × Int)) (a1 : api_Automaton) (word2 : (List Int)) : Option (Int × Bool) :=
  (if (a1.States == 0) then some (0, false) else ((f_automaton_follow a1 0 word2).bind fun (r5, r6) => some (r5, (r6 == (word2.length : Int)))))
def K_automaton_Generates (P : Program) (c : Nat) (f : api_Automaton → (List Int) → Option (Bool × Int)) : Prop := ∀ a1 word2 r, f a1 word2 = some r → ∀ M nb, ACalls P c [.agg [.d (.lst 1 (List.map (eI .i64) a1.Alphabet)), .d (.int .i64 a1.States), .d (.lst 1 (List.map (eI .i64) a1.Marked)), .d (.lst 3 (List.map e_api_Edge a1.Edges))], .d (.lst 1 (List.map (eI .i64) word2))] M nb (.tup [.d (.bool r.1), .d (.int .i64 r.2)]) M nb
def R_automaton_Generates_0 : List COp := [oo 2 (.box 4) [.t 0], oo 4 .mov [.c (.d (.bool false))], oo 5 .mov [.c (.d (.int .i64 0))]]
def R_automaton_Generates_1 : List COp := [oo 9 (.load true 4) [.t 2], oo 10 (.call 45) [.t 9], oo 6 .mov [.t 10]]
def R_automaton_Generates_2 : List COp := [oo 11 .mov [.t 6], oo 12 (.bin .neq false) [.t 11, .c (.d (.int .i64 0))]]
def R_automaton_Generates_3 : List COp := [oo 13 .mov [.t 6], oo 4 .mov [.c (.d (.bool false))], oo 5 .mov [.t 13]]
def R_automaton_Generates_4 : List COp := [oo 15 (.load true 4) [.t 2], oo 16 .mov [.t 1], oo 17 (.call 62) [.t 15, .t 16], oo 14 .mov [.t 17], oo 18 (.extract 0) [.t 14], oo 19 (.extract 1) [.t 14], oo 7 .mov [.t 18], oo 8 .mov [.t 19]]
def R_automaton_Generates_5 : List COp := [oo 20 .mov [.t 8], oo 4 .mov [.t 20], oo 5 .mov [.c (.d (.int .i64 0))]]
def F_automaton_Generates : CFn := ⟨2, 21, [.t 4, .t 5], .seq (.region R_automaton_Generates_0 9 []) (.seq (.seq (.region R_automaton_Generates_1 9 []) (.seq (.region R_automaton_Generates_2 9 []) (.cond (.t 12) (.seq (.region R_automaton_Generates_3 9 []) (.ret)) (.skip)))) (.seq (.region R_automaton_Generates_4 9 []) (.seq (.region R_automaton_Generates_5 9 []) (.ret))))⟩
def f_automaton_Generates (f_automaton_Check : api_Automaton → Option Int) (f_automaton_reached : api_Automaton → (List Int) → Option (Int × Bool)) (a1 : api_Automaton) (word2 : (List Int)) : Option (Bool × Int) :=
  ((f_automaton_Check a1).bind fun x4 => (if (x4 != 0) then some (false, x4) else ((f_automaton_reached a1 word2).bind fun (r7, r8) => some (r8, 0))))
def K_automaton_Accepts (P : Program) (c : Nat) (f : api_Automaton → (List Int) → Option (Bool × Int)) : Prop := ∀ a1 word2 r, f a1 word2 = some r → ∀ M nb, ACalls P c [.agg [.d (.lst 1 (List.map (eI .i64) a1.Alphabet)), .d (.int .i64 a1.States), .d (.lst 1 (List.map (eI .i64) a1.Marked)), .d (.lst 3 (List.map e_api_Edge a1.Edges))], .d (.lst 1 (List.map (eI .i64) word2))] M nb (.tup [.d (.bool r.1), .d (.int .i64 r.2)]) M nb
def R_automaton_Accepts_0 : List COp := [oo 2 (.box 4) [.t 0], oo 4 .mov [.c (.d (.bool false))], oo 5 .mov [.c (.d (.int .i64 0))]]
def R_automaton_Accepts_1 : List COp := [oo 9 (.load true 4) [.t 2], oo 10 (.call 45) [.t 9], oo 6 .mov [.t 10]]
def R_automaton_Accepts_2 : List COp := [oo 11 .mov [.t 6], oo 12 (.bin .neq false) [.t 11, .c (.d (.int .i64 0))]]
def R_automaton_Accepts_3 : List COp := [oo 13 .mov [.t 6], oo 4 .mov [.c (.d (.bool false))], oo 5 .mov [.t 13]]
def R_automaton_Accepts_4 : List COp := [oo 15 (.load true 4) [.t 2], oo 16 .mov [.t 1], oo 17 (.call 62) [.t 15, .t 16], oo 14 .mov [.t 17], oo 18 (.extract 0) [.t 14], oo 19 (.extract 1) [.t 14], oo 7 .mov [.t 18], oo 8 .mov [.t 19]]
def R_automaton_Accepts_5 : List COp := [oo 20 .mov [.t 8], oo 21 .mov [.t 20], ⟨some 22, .fld 2, [.t 2], false, some (21, true)⟩, ⟨some 23, .load false 1, [.t 22], false, some (21, true)⟩, ⟨some 24, .mov, [.t 7], false, some (21, true)⟩, ⟨some 25, .call 50, [.t 23, .t 24], false, some (21, true)⟩, oo 26 .pick [.t 21, .t 25, .c (.d (.bool false))], oo 4 .mov [.t 26], oo 5 .mov [.c (.d (.int .i64 0))]]
def F_automaton_Accepts : CFn := ⟨2, 27, [.t 4, .t 5], .seq (.region R_automaton_Accepts_0 9 []) (.seq (.seq (.region R_automaton_Accepts_1 9 []) (.seq (.region R_automaton_Accepts_2 9 []) (.cond (.t 12) (.seq (.region R_automaton_Accepts_3 9 []) (.ret)) (.skip)))) (.seq (.region R_automaton_Accepts_4 9 []) (.seq (.region R_automaton_Accepts_5 9 []) (.ret))))⟩
def f_automaton_Accepts (f_automaton_Check : api_Automaton → Option Int) (f_slices_Contains_int : (List Int) → Int → Option Bool) (f_automaton_reached : api_Automaton → (List Int) → Option (Int × Bool)) (a1 : api_Automaton) (word2 : (List Int)) : Option (Bool × Int) :=
  ((f_automaton_Check a1).bind fun x4 => (if (x4 != 0) then some (false, x4) else ((f_automaton_reached a1 word2).bind fun (r7, r8) => (if r8 then ((f_slices_Contains_int a1.Marked r7).bind fun x11 => some (x11, 0)) else some (false, 0)))))
def K_overseerlaw03_AutomatonCompletes (P : Program) (c : Nat) (f : Int → overseerlaw03_Graph → (List Int) → Option Bool) : Prop := ∀ s1 g2 word3 r, f s1 g2 word3 = some r → ∀ M nb, ACalls P c [.d (.int .u8 s1), .agg [.d (.int .u8 g2.States), .d (.int .u8 g2.Marks), .d (.int .u8 g2.To.1.1), .d (.int .u8 g2.To.1.2.1), .d (.int .u8 g2.To.1.2.2.1), .d (.int .u8 g2.To.1.2.2.2.1), .d (.int .u8 g2.To.1.2.2.2.2), .d (.int .u8 g2.To.2.1.1), .d (.int .u8 g2.To.2.1.2.1), .d (.int .u8 g2.To.2.1.2.2.1), .d (.int .u8 g2.To.2.1.2.2.2.1), .d (.int .u8 g2.To.2.1.2.2.2.2), .d (.int .u8 g2.To.2.2.1.1), .d (.int .u8 g2.To.2.2.1.2.1), .d (.int .u8 g2.To.2.2.1.2.2.1), .d (.int .u8 g2.To.2.2.1.2.2.2.1), .d (.int .u8 g2.To.2.2.1.2.2.2.2), .d (.int .u8 g2.To.2.2.2.1.1), .d (.int .u8 g2.To.2.2.2.1.2.1), .d (.int .u8 g2.To.2.2.2.1.2.2.1), .d (.int .u8 g2.To.2.2.2.1.2.2.2.1), .d (.int .u8 g2.To.2.2.2.1.2.2.2.2), .d (.int .u8 g2.To.2.2.2.2.1), .d (.int .u8 g2.To.2.2.2.2.2.1), .d (.int .u8 g2.To.2.2.2.2.2.2.1), .d (.int .u8 g2.To.2.2.2.2.2.2.2.1), .d (.int .u8 g2.To.2.2.2.2.2.2.2.2)], .d (.lst 1 (List.map (eI .u8) word3))] M nb (.d (.bool r)) M nb
def R_overseerlaw03_AutomatonCompletes_0 : List COp := [oo 4 (.box 27) [.t 1], oo 6 .mov [.c (.d (.bool false))]]
def R_overseerlaw03_AutomatonCompletes_1 : List COp := [oo 24 (.call 13) [], oo 25 (.un .not) [.t 24], oo 26 .mov [.t 25], ⟨some 27, .mov, [.t 2], false, some (26, false)⟩, ⟨some 28, .len, [.t 27], false, some (26, false)⟩, ⟨some 29, .bin .gtr false, [.t 28, .c (.d (.int .i64 8))], false, some (26, false)⟩, oo 30 .pick [.t 26, .c (.d (.bool true)), .t 29]]
def R_overseerlaw03_AutomatonCompletes_2 : List COp := [oo 31 (.call 13) [], oo 6 .mov [.t 31]]
def R_overseerlaw03_AutomatonCompletes_3 : List COp := [oo 32 .mov [.t 0], oo 33 (.call 15) [.t 32], oo 34 (.load true 27) [.t 4], oo 35 (.call 14) [.t 33, .t 34], oo 7 (.alloc [.nils 1, .d (.int .i64 0), .nils 1, .nils 3]) [], ⟨none, .store 4, [.t 7, .t 35], false, none⟩]
def R_overseerlaw03_AutomatonCompletes_4 : List COp := [oo 37 (.load true 4) [.t 7], oo 38 (.call 41) [.t 37], oo 36 .mov [.t 38], oo 39 (.extract 0) [.t 36], oo 40 (.extract 1) [.t 36], oo 8 (.alloc [.nils 1, .d (.int .i64 0), .nils 1, .nils 3]) [], ⟨none, .store 4, [.t 8, .t 39], false, none⟩, oo 9 .mov [.t 40]]
def R_overseerlaw03_AutomatonCompletes_5 : List COp := [oo 42 (.load true 4) [.t 7], oo 43 (.call 42) [.t 42], oo 41 .mov [.t 43], oo 44 (.extract 0) [.t 41], oo 45 (.extract 1) [.t 41], oo 10 (.alloc [.nils 1, .d (.int .i64 0), .nils 1, .nils 3]) [], ⟨none, .store 4, [.t 10, .t 44], false, none⟩, oo 11 .mov [.t 45]]
def R_overseerlaw03_AutomatonCompletes_6 : List COp := [oo 46 (.load true 4) [.t 8], oo 47 (.load true 4) [.t 7], oo 48 (.call 43) [.t 47], oo 49 (.call 23) [.t 46, .t 48], oo 50 (.un .not) [.t 49], oo 51 .mov [.t 50], ⟨some 52, .mov, [.t 9], false, some (51, false)⟩, ⟨some 53, .bin .neq false, [.t 52, .c (.d (.int .i64 0))], false, some (51, false)⟩, oo 54 .pick [.t 51, .c (.d (.bool true)), .t 53], oo 55 .mov [.t 54], ⟨some 56, .load true 4, [.t 10], false, some (55, false)⟩, ⟨some 57, .load true 4, [.t 7], false, some (55, false)⟩, ⟨some 58, .call 44, [.t 57], false, some (55, false)⟩, ⟨some 59, .call 23, [.t 56, .t 58], false, some (55, false)⟩, ⟨some 60, .un .not, [.t 59], false, some (55, false)⟩, oo 61 .pick [.t 55, .c (.d (.bool true)), .t 60], oo 62 .mov [.t 61], ⟨some 63, .mov, [.t 11], false, some (62, false)⟩, ⟨some 64, .bin .neq false, [.t 63, .c (.d (.int .i64 0))], false, some (62, false)⟩, oo 65 .pick [.t 62, .c (.d (.bool true)), .t 64]]
def R_overseerlaw03_AutomatonCompletes_7 : List COp := [oo 6 .mov [.c (.d (.bool false))]]
def R_overseerlaw03_AutomatonCompletes_8 : List COp := [ot 12 .mov [.c (.nils 1)]]
def R_overseerlaw03_AutomatonCompletes_9 : List COp := [oo 13 .mov [.c (.d (.int .i64 0))]]
def R_overseerlaw03_AutomatonCompletes_10 : List COp := [oo 66 .mov [.t 13], oo 67 .mov [.t 2], oo 68 .len [.t 67], oo 69 (.bin .lss false) [.t 66, .t 68], oo 70 .mov [.t 69], ⟨some 71, .fld 0, [.t 7], false, some (70, true)⟩, ⟨some 72, .load false 1, [.t 71], false, some (70, true)⟩, ⟨some 73, .len, [.t 72], false, some (70, true)⟩, ⟨some 74, .bin .gtr false, [.t 73, .c (.d (.int .i64 0))], false, some (70, true)⟩, oo 75 .pick [.t 70, .t 74, .c (.d (.bool false))]]
def R_overseerlaw03_AutomatonCompletes_11 : List COp := [ot 78 .mov [.t 12], oo 79 (.fld 0) [.t 7], oo 80 (.load false 1) [.t 79], oo 81 .mov [.t 2], oo 82 .mov [.t 13], oo 83 (.idx 1) [.t 81, .t 82], oo 84 (.load false 1) [.t 83], oo 85 (.conv .i64) [.t 84], oo 86 (.fld 0) [.t 7], oo 87 (.load false 1) [.t 86], oo 88 .len [.t 87], oo 89 (.bin .rem false) [.t 85, .t 88], oo 90 (.idx 1) [.t 80, .t 89], oo 91 (.load false 1) [.t 90], oo 92 (.bslice 1 1 [.d (.int .i64 0)] [0]) [.t 91], ot 93 (.append 1 8) [.t 78, .t 92], ot 12 .mov [.t 93]]
def R_overseerlaw03_AutomatonCompletes_12 : List COp := [oo 76 .mov [.t 13], oo 77 (.bin .add false) [.t 76, .c (.d (.int .i64 1))], oo 13 .mov [.t 77]]
def R_overseerlaw03_AutomatonCompletes_13 : List COp := [oo 95 (.load true 4) [.t 8], oo 96 .mov [.t 12], oo 97 (.call 31) [.t 95, .t 96], oo 94 .mov [.t 97], oo 98 (.extract 0) [.t 94], oo 99 (.extract 1) [.t 94], oo 14 .mov [.t 98], oo 15 .mov [.t 99]]
def R_overseerlaw03_AutomatonCompletes_14 : List COp := [oo 101 (.load true 4) [.t 8], oo 102 .mov [.t 12], oo 103 (.call 32) [.t 101, .t 102], oo 100 .mov [.t 103], oo 104 (.extract 0) [.t 100], oo 105 (.extract 1) [.t 100], oo 16 .mov [.t 104], oo 17 .mov [.t 105]]
def R_overseerlaw03_AutomatonCompletes_15 : List COp := [oo 107 (.load true 4) [.t 10], oo 108 .mov [.t 12], oo 109 (.call 32) [.t 107, .t 108], oo 106 .mov [.t 109], oo 110 (.extract 0) [.t 106], oo 111 (.extract 1) [.t 106], oo 18 .mov [.t 110], oo 19 .mov [.t 111]]
def R_overseerlaw03_AutomatonCompletes_16 : List COp := [oo 113 (.load true 4) [.t 7], oo 114 .mov [.t 12], oo 115 (.call 32) [.t 113, .t 114], oo 112 .mov [.t 115], oo 116 (.extract 0) [.t 112], oo 117 (.extract 1) [.t 112], oo 20 .mov [.t 116], oo 21 .mov [.t 117]]
def R_overseerlaw03_AutomatonCompletes_17 : List COp := [oo 119 (.load true 4) [.t 7], oo 120 .mov [.t 12], oo 121 (.call 31) [.t 119, .t 120], oo 118 .mov [.t 121], oo 122 (.extract 0) [.t 118], oo 123 (.extract 1) [.t 118], oo 22 .mov [.t 122], oo 23 .mov [.t 123]]
def R_overseerlaw03_AutomatonCompletes_18 : List COp := [oo 124 .mov [.t 15], oo 125 (.bin .eql false) [.t 124, .c (.d (.int .i64 0))], oo 126 .mov [.t 125], ⟨some 127, .mov, [.t 17], false, some (126, true)⟩, ⟨some 128, .bin .eql false, [.t 127, .c (.d (.int .i64 0))], false, some (126, true)⟩, oo 129 .pick [.t 126, .t 128, .c (.d (.bool false))], oo 130 .mov [.t 129], ⟨some 131, .mov, [.t 19], false, some (130, true)⟩, ⟨some 132, .bin .eql false, [.t 131, .c (.d (.int .i64 0))], false, some (130, true)⟩, oo 133 .pick [.t 130, .t 132, .c (.d (.bool false))], oo 134 .mov [.t 133], ⟨some 135, .mov, [.t 21], false, some (134, true)⟩, ⟨some 136, .bin .eql false, [.t 135, .c (.d (.int .i64 0))], false, some (134, true)⟩, oo 137 .pick [.t 134, .t 136, .c (.d (.bool false))], oo 138 .mov [.t 137], ⟨some 139, .mov, [.t 23], false, some (138, true)⟩, ⟨some 140, .bin .eql false, [.t 139, .c (.d (.int .i64 0))], false, some (138, true)⟩, oo 141 .pick [.t 138, .t 140, .c (.d (.bool false))], oo 142 .mov [.t 141], ⟨some 143, .mov, [.t 14], false, some (142, true)⟩, oo 144 .pick [.t 142, .t 143, .c (.d (.bool false))], oo 145 .mov [.t 144], ⟨some 146, .mov, [.t 16], false, some (145, true)⟩, ⟨some 147, .mov, [.t 20], false, some (145, true)⟩, ⟨some 148, .bin .eql true, [.t 146, .t 147], false, some (145, true)⟩, oo 149 .pick [.t 145, .t 148, .c (.d (.bool false))], oo 150 .mov [.t 149], ⟨some 151, .mov, [.t 18], false, some (150, true)⟩, ⟨some 152, .mov, [.t 22], false, some (150, true)⟩, ⟨some 153, .bin .eql true, [.t 151, .t 152], false, some (150, true)⟩, oo 154 .pick [.t 150, .t 153, .c (.d (.bool false))], oo 6 .mov [.t 154]]
def F_overseerlaw03_AutomatonCompletes : CFn := ⟨3, 155, [.t 6], .seq (.region R_overseerlaw03_AutomatonCompletes_0 9 []) (.seq (.seq (.region R_overseerlaw03_AutomatonCompletes_1 9 []) (.cond (.t 30) (.seq (.region R_overseerlaw03_AutomatonCompletes_2 9 []) (.ret)) (.skip))) (.seq (.region R_overseerlaw03_AutomatonCompletes_3 1 []) (.seq (.region R_overseerlaw03_AutomatonCompletes_4 9 []) (.seq (.region R_overseerlaw03_AutomatonCompletes_5 9 []) (.seq (.seq (.region R_overseerlaw03_AutomatonCompletes_6 1 []) (.cond (.t 65) (.seq (.region R_overseerlaw03_AutomatonCompletes_7 9 []) (.ret)) (.skip))) (.seq (.region R_overseerlaw03_AutomatonCompletes_8 9 []) (.seq (.seq (.region R_overseerlaw03_AutomatonCompletes_9 9 []) (.block 0 (.loop [92] (.seq (.seq (.region R_overseerlaw03_AutomatonCompletes_10 9 []) (.cond (.t 75) (.skip) (.exit 0))) (.seq (.block 1 (.region R_overseerlaw03_AutomatonCompletes_11 0 [])) (.region R_overseerlaw03_AutomatonCompletes_12 9 [])))))) (.seq (.region R_overseerlaw03_AutomatonCompletes_13 9 []) (.seq (.region R_overseerlaw03_AutomatonCompletes_14 9 []) (.seq (.region R_overseerlaw03_AutomatonCompletes_15 9 []) (.seq (.region R_overseerlaw03_AutomatonCompletes_16 9 []) (.seq (.region R_overseerlaw03_AutomatonCompletes_17 9 []) (.seq (.region R_overseerlaw03_AutomatonCompletes_18 9 []) (.ret))))))))))))))⟩
def f_overseerlaw03_AutomatonCompletes (f_overseerlaw03_known : Option Bool) (f_overseerlaw03_Make : (List Int) → overseerlaw03_Graph → Option api_Automaton) (f_overseerlaw03_Set_Events : Int → Option ((List Int))) (f_overseerref03_Same : api_Automaton → api_Automaton → Option Bool) (f_automaton_Generates : api_Automaton → (List Int) → Option (Bool × Int)) (f_automaton_Accepts : api_Automaton → (List Int) → Option (Bool × Int)) (f_automaton_Complete : api_Automaton → Option (api_Automaton × Int)) (f_automaton_Closed : api_Automaton → Option (api_Automaton × Int)) (f_overseerref03_Complete : api_Automaton → Option api_Automaton) (f_overseerref03_Closed : api_Automaton → Option api_Automaton) (fuel : Nat) (s1 : Int) (g2 : overseerlaw03_Graph) (word3 : (List Int)) : Option Bool :=
  (((f_overseerlaw03_known.bind fun x5 => (if x5 then some (decide ((word3.length : Int) > 8)) else some true))).bind fun (x7 : Bool) => (if x7 then (f_overseerlaw03_known.bind fun x10 => some x10) else ((f_overseerlaw03_Set_Events s1).bind fun x12 => ((f_overseerlaw03_Make x12 (overseerlaw03_Graph.mk g2.States g2.Marks ((g2.To.1.1, g2.To.1.2.1, g2.To.1.2.2.1, g2.To.1.2.2.2.1, g2.To.1.2.2.2.2), (g2.To.2.1.1, g2.To.2.1.2.1, g2.To.2.1.2.2.1, g2.To.2.1.2.2.2.1, g2.To.2.1.2.2.2.2), (g2.To.2.2.1.1, g2.To.2.2.1.2.1, g2.To.2.2.1.2.2.1, g2.To.2.2.1.2.2.2.1, g2.To.2.2.1.2.2.2.2), (g2.To.2.2.2.1.1, g2.To.2.2.2.1.2.1, g2.To.2.2.2.1.2.2.1, g2.To.2.2.2.1.2.2.2.1, g2.To.2.2.2.1.2.2.2.2), (g2.To.2.2.2.2.1, g2.To.2.2.2.2.2.1, g2.To.2.2.2.2.2.2.1, g2.To.2.2.2.2.2.2.2.1, g2.To.2.2.2.2.2.2.2.2)))).bind fun x14 => ((f_automaton_Complete x14).bind fun (r16, r17) => ((f_automaton_Closed x14).bind fun (r19, r20) => ((((f_overseerref03_Complete x14).bind fun x22 => ((f_overseerref03_Same r16 x22).bind fun x24 => (if x24 then (if (r17 != 0) then some true else ((f_overseerref03_Closed x14).bind fun x28 => ((f_overseerref03_Same r19 x28).bind fun x30 => (if x30 then some (r20 != 0) else some true)))) else some true)))).bind fun (x32 : Bool) => (if x32 then some false else ((iterF (fun k36 ((w34, i35) : (List Int) × Int) => (((if (i35 < (word3.length : Int)) then some (decide ((x14.Alphabet.length : Int) > 0)) else some false)).bind fun (x38 : Bool) => (if x38 then ((getO word3 i35).bind fun x40 => ((remO .i64 (IntKind.wrap .i64 x40) (x14.Alphabet.length : Int)).bind fun s42 => ((getO x14.Alphabet s42).bind fun x44 => ((appO w34 [x44]).bind fun x46 => k36 (x46, (IntKind.wrap .i64 (i35 + 1))))))) else some w34))) fuel ([], 0)).bind fun (w48 : List Int) => ((f_automaton_Generates r16 w48).bind fun (r50, r51) => ((f_automaton_Accepts r16 w48).bind fun (r53, r54) => ((f_automaton_Accepts r19 w48).bind fun (r56, r57) => ((f_automaton_Accepts x14 w48).bind fun (r59, r60) => ((f_automaton_Generates x14 w48).bind fun (r62, r63) => (((if (r51 == 0) then (if (r54 == 0) then (if (r57 == 0) then (if (r60 == 0) then (if (r63 == 0) then (if r50 then (if (r53 == r59) then some (r56 == r62) else some false) else some false) else some false) else some false) else some false) else some false) else some false)).bind fun (x71 : Bool) => some x71)))))))))))))))
def K_slices_Equal_int (P : Program) (c : Nat) (f : (List Int) → (List Int) → Option Bool) : Prop := ∀ s1 s2 r, f s1 s2 = some r → ∀ M nb, ACalls P c [.d (.lst 1 (List.map (eI .i64) s1)), .d (.lst 1 (List.map (eI .i64) s2))] M nb (.d (.bool r)) M nb
def R_slices_Equal_int_0 : List COp := [oo 4 .mov [.c (.d (.bool false))]]
def R_slices_Equal_int_1 : List COp := [oo 6 .mov [.t 0], oo 7 .len [.t 6], oo 8 .mov [.t 1], oo 9 .len [.t 8], oo 10 (.bin .neq false) [.t 7, .t 9]]
def R_slices_Equal_int_2 : List COp := [oo 4 .mov [.c (.d (.bool false))]]
def R_slices_Equal_int_3 : List COp := [oo 11 .mov [.t 0], oo 12 .len [.t 11], oo 13 .mov [.c (.d (.int .i64 0))]]
def R_slices_Equal_int_4 : List COp := [oo 14 (.bin .lss false) [.t 13, .t 12]]
def R_slices_Equal_int_5 : List COp := [oo 15 .mov [.t 13], oo 5 .mov [.t 15]]
def R_slices_Equal_int_6 : List COp := [oo 16 .mov [.t 0], oo 17 .mov [.t 5], oo 18 (.idx 1) [.t 16, .t 17], oo 19 (.load false 1) [.t 18], oo 20 .mov [.t 1], oo 21 .mov [.t 5], oo 22 (.idx 1) [.t 20, .t 21], oo 23 (.load false 1) [.t 22], oo 24 (.bin .neq false) [.t 19, .t 23]]
def R_slices_Equal_int_7 : List COp := [oo 4 .mov [.c (.d (.bool false))]]
def R_slices_Equal_int_8 : List COp := [oo 25 (.bin .add false) [.t 13, .c (.d (.int .i64 1))], oo 13 .mov [.t 25]]
def R_slices_Equal_int_9 : List COp := [oo 4 .mov [.c (.d (.bool true))]]
def F_slices_Equal_int : CFn := ⟨2, 26, [.t 4], .seq (.region R_slices_Equal_int_0 9 []) (.seq (.seq (.region R_slices_Equal_int_1 9 []) (.cond (.t 10) (.seq (.region R_slices_Equal_int_2 9 []) (.ret)) (.skip))) (.seq (.seq (.region R_slices_Equal_int_3 9 []) (.block 0 (.loop [] (.seq (.region R_slices_Equal_int_4 9 []) (.seq (.cond (.t 14) (.skip) (.exit 0)) (.seq (.block 1 (.seq (.region R_slices_Equal_int_5 9 []) (.seq (.region R_slices_Equal_int_6 0 []) (.cond (.t 24) (.seq (.region R_slices_Equal_int_7 9 []) (.ret)) (.skip))))) (.region R_slices_Equal_int_8 9 []))))))) (.seq (.region R_slices_Equal_int_9 9 []) (.ret))))⟩
def f_slices_Equal_int (fuel : Nat) (s1 : (List Int)) (s2 : (List Int)) : Option Bool :=
  (if ((s1.length : Int) != (s2.length : Int)) then some false else iterF (fun k5 (x4 : Int) => (if (x4 < (s1.length : Int)) then ((getO s1 x4).bind fun x7 => ((getO s2 x4).bind fun x9 => (if (x7 != x9) then some false else k5 (IntKind.wrap .i64 (x4 + 1))))) else some true)) fuel 0)
def K_slices_Equal_Edge (P : Program) (c : Nat) (f : (List api_Edge) → (List api_Edge) → Option Bool) : Prop := ∀ s1 s2 r, f s1 s2 = some r → ∀ M nb, ACalls P c [.d (.lst 3 (List.map e_api_Edge s1)), .d (.lst 3 (List.map e_api_Edge s2))] M nb (.d (.bool r)) M nb
def R_slices_Equal_Edge_0 : List COp := [oo 4 .mov [.c (.d (.bool false))]]
def R_slices_Equal_Edge_1 : List COp := [oo 6 .mov [.t 0], oo 7 .len [.t 6], oo 8 .mov [.t 1], oo 9 .len [.t 8], oo 10 (.bin .neq false) [.t 7, .t 9]]
def R_slices_Equal_Edge_2 : List COp := [oo 4 .mov [.c (.d (.bool false))]]
def R_slices_Equal_Edge_3 : List COp := [oo 11 .mov [.t 0], oo 12 .len [.t 11], oo 13 .mov [.c (.d (.int .i64 0))]]
def R_slices_Equal_Edge_4 : List COp := [oo 14 (.bin .lss false) [.t 13, .t 12]]
def R_slices_Equal_Edge_5 : List COp := [oo 15 .mov [.t 13], oo 5 .mov [.t 15]]
def R_slices_Equal_Edge_6 : List COp := [oo 16 .mov [.t 0], oo 17 .mov [.t 5], oo 18 (.idx 3) [.t 16, .t 17], oo 19 (.load true 3) [.t 18], oo 20 .mov [.t 1], oo 21 .mov [.t 5], oo 22 (.idx 3) [.t 20, .t 21], oo 23 (.load true 3) [.t 22], oo 24 (.eqa true [0, 0, 0]) [.t 19, .t 23]]
def R_slices_Equal_Edge_7 : List COp := [oo 4 .mov [.c (.d (.bool false))]]
def R_slices_Equal_Edge_8 : List COp := [oo 25 (.bin .add false) [.t 13, .c (.d (.int .i64 1))], oo 13 .mov [.t 25]]
def R_slices_Equal_Edge_9 : List COp := [oo 4 .mov [.c (.d (.bool true))]]
def F_slices_Equal_Edge : CFn := ⟨2, 26, [.t 4], .seq (.region R_slices_Equal_Edge_0 9 []) (.seq (.seq (.region R_slices_Equal_Edge_1 9 []) (.cond (.t 10) (.seq (.region R_slices_Equal_Edge_2 9 []) (.ret)) (.skip))) (.seq (.seq (.region R_slices_Equal_Edge_3 9 []) (.block 0 (.loop [] (.seq (.region R_slices_Equal_Edge_4 9 []) (.seq (.cond (.t 14) (.skip) (.exit 0)) (.seq (.block 1 (.seq (.region R_slices_Equal_Edge_5 9 []) (.seq (.region R_slices_Equal_Edge_6 0 []) (.cond (.t 24) (.seq (.region R_slices_Equal_Edge_7 9 []) (.ret)) (.skip))))) (.region R_slices_Equal_Edge_8 9 []))))))) (.seq (.region R_slices_Equal_Edge_9 9 []) (.ret))))⟩
def f_slices_Equal_Edge (fuel : Nat) (s1 : (List api_Edge)) (s2 : (List api_Edge)) : Option Bool :=
  (if ((s1.length : Int) != (s2.length : Int)) then some false else iterF (fun k5 (x4 : Int) => (if (x4 < (s1.length : Int)) then ((getO s1 x4).bind fun x7 => ((getO s2 x4).bind fun x9 => (if ((x7.From == x9.From) && ((x7.Event == x9.Event) && ((x7.To == x9.To) && true))) then k5 (IntKind.wrap .i64 (x4 + 1)) else some false))) else some true)) fuel 0)
end Go.Abs
end
