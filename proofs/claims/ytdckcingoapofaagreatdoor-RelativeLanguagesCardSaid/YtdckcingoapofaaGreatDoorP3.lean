/-
  Part 3 of the proof: see the last text.
-/
import Derived.Test.YtdckcingoapofaaGreatDoorP2
import Derived.Sort.Grow
set_option linter.unusedVariables false
set_option linter.unusedSimpArgs false
set_option linter.unusedSectionVars false
section
namespace Go.Abs
open Go
variable {Γ : Env} {pc d nb : Nat} {os : List COp} {E : List (Nat × V)} {M M' M0 : Mem} {L : List (Nat × Bx)} {Q : St → Prop} {σ : St} {gd : Option (Nat × Bool)} {a b c : Arg}
theorem Qmn (h : (Qb2 L d).isNone = true) : (Qm Γ.n0 L M0 (Γ.n0 + d)).isNone = true := by rw [Qdh]; exact h
theorem Rn.box {n : Nat} {v : V} {cs : List V} (hw : Wn E gd) (ha : (a.val (look E)).dem = v) (hv : Qd5 v = true) (hc : v.cells = cs) (hn : Nat.beq cs.length n = true) (hf : (Qb2 L d).isNone = true)
  (h : Rn Γ pc os ⟨look ((d, .ptr (Γ.n0 + d) 0) :: E), Qm Γ.n0 ((d, .cells cs) :: L) M0, nb⟩ Q) : Rn Γ pc (⟨some d, .box n, [a], false, gd⟩ :: os) ⟨look E, Qm Γ.n0 L M0, nb⟩ Q := by
 refine Rn.k hw rfl rfl ?_ h
 have hfr := Qmn (Γ := Γ) (M0 := M0) hf
 have hn' : v.cells.length = n := by rw [hc]; exact Nat.eq_of_beq_eq_true hn
 simp only [List.map_cons, List.map_nil, V.dems, ha, Qh]
 cases v <;> first | (simp [Qd5] at hv; done) | (simp only [hn', hfr, decide_true, Bool.and_self, if_true, Qd2]; rw [← hc])
theorem Rn.alloc {z : List V} (hw : Wn E gd) (hf : (Qb2 L d).isNone = true)
  (h : Rn Γ pc os ⟨look ((d, .ptr (Γ.n0 + d) 0) :: E), Qm Γ.n0 ((d, .cells z) :: L) M0, nb⟩ Q) : Rn Γ pc (⟨some d, .alloc z, [], false, gd⟩ :: os) ⟨look E, Qm Γ.n0 L M0, nb⟩ Q := by
 refine Rn.k hw rfl rfl ?_ h
 simp only [List.map_nil, V.dems, Qh, Qmn (Γ := Γ) (M0 := M0) hf, if_true, Qd2]
theorem Rn.bslice {sz n : Nat} {z : List V} {ps : List Nat} {as : List Arg} {xs cs : List V} (hw : Wn E gd) (ha : V.dems (as.map (·.val (look E))) = xs) (hf : (Qb2 L d).isNone = true)
  (hc : (Nat.beq ps.length xs.length && decide (0 < sz) && z.length == sz && (ps.zip xs).all (fun (i, x) => Qd5 x && x.cells.length == sz && decide (i < n))) = true)
  (hcs : Qh9 (rep n z) ((ps.zip xs).map fun (i, x) => (i * sz, x.cells)) = cs)
  (h : Rn Γ pc os ⟨look ((d, .sl sz (Γ.n0 + d) 0 n n) :: E), Qm Γ.n0 ((d, .cells cs) :: L) M0, nb⟩ Q) : Rn Γ pc (⟨some d, .bslice sz n z ps, as, false, gd⟩ :: os) ⟨look E, Qm Γ.n0 L M0, nb⟩ Q := by
 refine Rn.k hw rfl rfl ?_ h
 rw [ha]
 simp only [Bool.and_eq_true] at hc
 have h1 : ps.length = xs.length := Nat.eq_of_beq_eq_true hc.1.1.1
 have hs : Qh Γ.n0 (Γ.n0 + d) (.bslice sz n z ps) xs (Qm Γ.n0 L M0) = (if ps.length = xs.length && decide (0 < sz) && z.length == sz && (ps.zip xs).all (fun (i, x) => Qd5 x && x.cells.length == sz && decide (i < n)) && (Qm Γ.n0 L M0 (Γ.n0 + d)).isNone
  then some (.sl sz (Γ.n0 + d) 0 n n, (Qm Γ.n0 L M0).put (Γ.n0 + d) (.cells (Qh9 (rep n z) ((ps.zip xs).map fun (i, x) => (i * sz, x.cells))))) else none) := by cases xs <;> rfl
 rw [hs, if_pos, Qd2, hcs]
 simp only [Bool.and_eq_true, Qmn (Γ := Γ) (M0 := M0) hf, and_true]
 exact ⟨⟨⟨by simpa using h1, hc.1.1.2⟩, hc.1.2⟩, hc.2⟩
theorem Qeh {t : Nat} {bx : Bx} (h : Qb2 L t = some bx) : Qm Γ.n0 L M0 (Γ.n0 + t) = some bx := by rw [Qdh]; exact h
theorem Rn.load {k off n : Nat} {ag : Bool} {cs : List V} {v : V} (hw : Wn E gd) (ha : a.val (look E) = .ptr k off) (hM : M k = some (.cells cs)) (hn : Nat.ble (off + n) cs.length = true) (hv : (if ag then some (.agg (V.dems ((cs.drop off).take n))) else (cs[off]?).map (·.dem)) = some v)
  (h : Rn Γ pc os ⟨look ((d, v) :: E), M, nb⟩ Q) : Rn Γ pc (⟨some d, .load ag n, [a], false, gd⟩ :: os) ⟨look E, M, nb⟩ Q := by
 refine Rn.k hw rfl rfl ?_ h
 have := Nat.le_of_ble_eq_true hn
 simp only [List.map_cons, List.map_nil, V.dems, ha, V.dem, Qh, hM, this, if_true]
 cases ag with
 | true => simp only [if_true, Option.some.injEq] at hv ⊢; rw [hv]
 | false =>
  simp only [Bool.false_eq_true, if_false, Option.map_eq_some_iff] at hv ⊢
  obtain ⟨x, hx, rfl⟩ := hv
  exact ⟨x, hx, rfl⟩
theorem Q3h {k : Nat} {bx : Bx} (hk : k < Γ.n0) (h : M0 k = some bx) : Qm Γ.n0 L M0 k = some bx := by rw [Qel hk]; exact h
theorem Rn.loadT {t off sz : Nat} {l : List (List D)} {cs cs' : List V} (hw : Wn E gd) (ha : a.val (look E) = .ptr (Γ.n0 + t) off) (hM : Qb2 L t = some (.cells cs)) (hx : cs[off]? = some (.own sz l)) (hcs : cs.set off (.d (.lst sz l)) = cs')
  (h : Rn Γ pc os ⟨look ((d, .own sz l) :: E), Qm Γ.n0 ((t, .cells cs') :: L) M0, nb⟩ Q) : Rn Γ pc (⟨some d, .loadT, [a], false, gd⟩ :: os) ⟨look E, Qm Γ.n0 L M0, nb⟩ Q := by
 refine Rn.k hw rfl rfl ?_ h
 simp only [List.map_cons, List.map_nil, V.dems, ha, V.dem, Qh, Qeh hM, hx, Option.map_some, V.top]
 rw [← hcs, Qd2]
theorem Rn.store {t off n : Nat} {v : V} {cs cs' : List V} (hw : Wn E gd) (ha : a.val (look E) = .ptr (Γ.n0 + t) off) (hb : (b.val (look E)).dem = v) (hv : Qd5 v = true) (hM : Qb2 L t = some (.cells cs))
  (hn : (Nat.beq v.cells.length n && Nat.ble (off + n) cs.length) = true) (hcs : cs.take off ++ v.cells ++ cs.drop (off + n) = cs')
  (h : Rn Γ pc os ⟨look E, Qm Γ.n0 ((t, .cells cs') :: L) M0, nb⟩ Q) : Rn Γ pc (⟨none, .store n, [a, b], false, gd⟩ :: os) ⟨look E, Qm Γ.n0 L M0, nb⟩ Q := by
 simp only [Bool.and_eq_true] at hn
 have h1 : v.cells.length = n := Nat.eq_of_beq_eq_true hn.1
 have h2 := Nat.le_of_ble_eq_true hn.2
 have hf : v.dem = v := by rw [← hb]; exact Qdu _
 have ht : v.topS = v := Q7f hf
 refine Rn.kS (v := .und) hw ?_ (fun _ => rfl) h
 simp only [Bool.false_eq_true, if_false, List.map_cons, List.map_nil, V.dems, ha, V.dem, hb]
 simp only [Qh]
 cases v <;> first
  | (simp [Qd5] at hv; done)
  | (simp only [Qeh hM, ht, h1, h2, decide_true, Bool.true_and, Nat.le_add_right, Bool.true_or, if_true]; rw [← hcs, Qd2])
theorem Rn.storeO {t u off sz : Nat} {l : List (List D)} {cs cs' : List V} (hw : Wn E gd) (ha : a.val (look E) = .ptr (Γ.n0 + t) off) (hb : look E u = .own sz l) (hM : Qb2 L t = some (.cells cs))
  (hn : Nat.ble (off + 1) cs.length = true) (hcs : cs.take off ++ [.own sz l] ++ cs.drop (off + 1) = cs')
  (h : Rn Γ pc os ⟨look ((u, .d (.lst sz l)) :: E), Qm Γ.n0 ((t, .cells cs') :: L) M0, nb⟩ Q) : Rn Γ pc (⟨none, .store 1, [a, .t u], true, gd⟩ :: os) ⟨look E, Qm Γ.n0 L M0, nb⟩ Q := by
 have h2 := Nat.le_of_ble_eq_true hn
 have hm : [a, Arg.t u].map (fun x => x.val (look E)) = [V.ptr (Γ.n0 + t) off, .own sz l] := by simp only [List.map_cons, List.map_nil, ha]; rw [show (Arg.t u).val (look E) = _ from hb]
 refine Rn.kS (v := .und) hw ?_ (fun i => ?_) h
 ·simp only [if_true, hm]
  simp only [Qh, Qeh hM, V.topS, V.cells, List.length_cons, List.length_nil, h2, decide_true, Bool.true_and, Nat.le_add_right, Bool.true_or, if_true]
  rw [← hcs, Qd2]
 ·simp only [if_true, hm, Qbu, Qz, V.dem]
  have : a.putTo (look E) (.ptr (Γ.n0 + t) off) = look E := by
   cases a with
   | c v => rfl
   | t j =>
    simp only [Arg.val] at ha
    funext i; simp only [Arg.putTo, Sl.put]; split
    ·rename_i e; subst e; exact ha.symm
    ·rfl
  rw [this, show (Arg.t u).putTo (look E) (.d (.lst sz l)) = (look E).put u (.d (.lst sz l)) from rfl, Qcv]
theorem Rn.storeD {t u off : Nat} {x : D} {cs cs' : List V} (hw : Wn E gd) (ha : a.val (look E) = .ptr (Γ.n0 + t) off) (hb : look E u = .d x) (hM : Qb2 L t = some (.cells cs))
  (hn : Nat.ble (off + 1) cs.length = true) (hcs : cs.take off ++ [.d x] ++ cs.drop (off + 1) = cs')
  (h : Rn Γ pc os ⟨look E, Qm Γ.n0 ((t, .cells cs') :: L) M0, nb⟩ Q) : Rn Γ pc (⟨none, .store 1, [a, .t u], true, gd⟩ :: os) ⟨look E, Qm Γ.n0 L M0, nb⟩ Q := by
 have h2 := Nat.le_of_ble_eq_true hn
 have hm : [a, Arg.t u].map (fun x => x.val (look E)) = [V.ptr (Γ.n0 + t) off, .d x] := by simp only [List.map_cons, List.map_nil, ha]; rw [show (Arg.t u).val (look E) = _ from hb]
 refine Rn.kS (v := .und) hw ?_ (fun i => ?_) h
 ·simp only [if_true, hm]
  simp only [Qh, Qeh hM, V.topS, V.dem, V.cells, List.length_cons, List.length_nil, h2, decide_true, Bool.true_and, Nat.le_add_right, Bool.true_or, if_true]
  rw [← hcs, Qd2]
 ·simp only [if_true, hm, Qbu, Qz, V.dem]
  have : a.putTo (look E) (.ptr (Γ.n0 + t) off) = look E := by
   cases a with
   | c v => rfl
   | t j =>
    simp only [Arg.val] at ha
    funext i; simp only [Arg.putTo, Sl.put]; split
    ·rename_i e; subst e; exact ha.symm
    ·rfl
  have h3 : (look E).put u (.d x) = look E := by
   funext i; simp only [Sl.put]; split
   ·rename_i e; subst e; exact hb.symm
   ·rfl
  rw [this, show (Arg.t u).putTo (look E) (.d x) = (look E).put u (.d x) from rfl, h3]
theorem Q75 {sz : Nat} {l : List (List D)} : Qf7 M sz (.d (.lst sz l)) = some l := by simp [Qf7]
theorem Q3i {sz t off len cap : Nat} {cs : List V} {l : List (List D)} (hM : Qb2 L t = some (.cells cs)) (hle : Nat.ble (off + len * sz) cs.length = true) (hl : (toDs ((cs.drop off).take (len * sz))).map (Qh8 sz len) = some l) :
  Qf7 (Qm Γ.n0 L M0) sz (.sl sz (Γ.n0 + t) off len cap) = some l := by
 have := Nat.le_of_ble_eq_true hle
 simp [Qf7, Qeh hM, this, hl]
theorem Rn.call {f : FuncId} {as : List Arg} {args : List V} {r : V} (hw : Wn E gd) (ha : V.dems (as.map (·.val (look E))) = args) (hC : ∀ M nb, ACalls Γ.P f args M nb r M nb) (hpc : one (pcOf pc) = true → ∀ k, nb ≤ k → M k = none)
  (h : Rn Γ pc os ⟨look ((d, r) :: E), M, nb⟩ Q) : Rn Γ pc (⟨some d, .call f, as, false, gd⟩ :: os) ⟨look E, M, nb⟩ Q := by
 refine Rn.cons ?_
 unfold COp.run
 rw [hw.wanted]
 simp only [show (K.call f).isCall = true from rfl, if_true, COp.callee, ha]
 have h' : Rn Γ pc os ⟨Q9 (look E) (some d) r, M, nb⟩ Q := by
  rw [show Q9 (look E) (some d) r = look ((d, r) :: E) from Qcv E d r]; exact h
 match hp : pcOf pc with
 | 0 => exact ⟨r, M, nb, hC _ _, fun _ h => h, fun _ _ _ _ => .inl rfl, h'⟩
 | 1 =>
  refine ⟨r, fun _ => none, nb, fun M2 _ h2 => ?_, ?_⟩
  ·have : M2.over nb (fun _ => none) = M2 := by
    funext k; simp only [Mem.over]; split
    ·rfl
    ·exact (h2 k (by omega)).symm
   rw [this]; exact hC _ _
  ·have : M.over nb (fun _ => none) = M := by
    funext k; simp only [Mem.over]; split
    ·rfl
    ·exact (hpc (by rw [hp]; rfl) k (by omega)).symm
   rw [this]; exact h'
 | n + 2 =>
  show (if n < 8 then _ else _)
  by_cases hn8 : n < 8
  ·rw [if_pos hn8]; exact ⟨r, hC, h'⟩
  ·rw [if_neg hn8]
   have h1 : one (pcOf pc) = true := by rw [hp]; unfold one; rw [show Nat.ble 10 (n + 2) = true from Nat.ble_eq_true_of_le (by omega), Bool.or_true]
   refine ⟨r, fun _ => none, fun _ => none, nb, .inr fun _ => rfl, fun _ h => (by cases h), fun _ _ _ h => (by cases h), fun M2 _ h2 => ?_, ?_⟩
   ·rw [Qgx fun _ => rfl]
    have : M2.over nb (fun _ => none) = M2 := by
     funext k; simp only [Mem.over]; split
     ·rfl
     ·exact (h2 k (by omega)).symm
    rw [this]; exact hC _ _
   ·rw [Qgx fun _ => rfl]
    have : M.over nb (fun _ => none) = M := by
     funext k; simp only [Mem.over]; split
     ·rfl
     ·exact (hpc h1 k (by omega)).symm
    rw [this]; exact h'
def FinP (rs : List Res) (r : V) (n0 : Nat) (M0 : Mem) : Ex → St → Prop := fun e σ =>
 (e = .norm ∨ e = .ret) ∧ ∃ r', Qnz σ rs = some r' ∧ Wk r' r ∧ r.on (There M0) ∧ ∀ k, k < n0 → σ.M k = M0 k
theorem Q0o {P : Program} {f : FuncId} {args : List V} {M M' : Mem} {nb nb' : Nat} {r : V} (hb : Qh0 P f = true) (hn : nb ≤ nb') (h : ¬ (∀ k, nb ≤ k → M k = none)) : ACalls P f args M nb r M' nb' := by
 refine ⟨hb, hn, fun w g us hm => ?_⟩
 refine absurd (fun k hk => ?_) h
 cases hM : M k with
 | none => rfl
 | some b => have := (hm.box k b hM).1; omega
theorem Qo6 {P : Program} {f : FuncId} {cf : CFn} (hcf : Qo P f = some cf) : Qh0 P f = true := by
 unfold Qo at hcf
 split at hcf <;> try (cases hcf; done)
 rename_i fn hfn
 split at hcf <;> try (cases hcf; done)
 rename_i code hbody
 split at hcf <;> try (cases hcf; done)
 split at hcf <;> try (cases hcf; done)
 rename_i hnd
 obtain ⟨hnd, hnp, hname⟩ := hnd
 simp [Qh0, hfn, hbody, Q2n] at hname ⊢; exact hname
theorem Qbt {P : Program} {f : FuncId} {cf : CFn} (hcf : Qo P f = some cf) {args : List V} {r : V} (hargs : Nat.beq args.length cf.np = true)
  (hrun : ∀ (Γ : Env) (M : Mem), Γ.P = P → Γ.nt = cf.nt → (∀ k, Γ.n0 ≤ k → M k = none) → Tr Γ cf.body ⟨Qov args, Qm Γ.n0 [] M, Γ.n0 + cf.nt⟩ (FinP cf.res r Γ.n0 M)) : ∀ M nb, ACalls P f args M nb r M nb := by
 intro M nb
 by_cases hM : ∀ k, nb ≤ k → M k = none
 case neg => exact Q0o (Qo6 hcf) (Nat.le_refl _) hM
 by_cases hon : MOn (There M) M
 case neg => exact ⟨Qo6 hcf, Nat.le_refl _, fun w g us hm h => absurd h hon⟩
 refine Qbjq hcf hM (Nat.eq_of_beq_eq_true hargs) (Nat.le_refl _) fun Γ hP hn ht => ?_
 have h := hrun Γ M hP ht (by rw [hn]; exact hM)
 rw [Qza (by rw [hn]; exact hM), hn] at h
 refine h.mono ?_
 rintro e σ' ⟨he, r', h1, h2, h3, h4⟩
 have hlt : ∀ k, There M k → k < nb := fun k hk => by
  rcases Nat.lt_or_ge k nb with h | h
  ·exact h
  ·simp [There, hM k h] at hk
 refine ⟨he, r', h1, h2, fun k b hk => ?_, h3, hon, hlt⟩
 rw [h4 k (hlt k (by simp [There, hk]))]; exact hk
theorem Q76 : ∀ (args : List V) (i : Nat), look ((List.range' i args.length).zip args) = fun t => if t < i then .und else args.getD (t - i) .und
 | [], i => by funext t; simp [look]
 | v :: vs, i => by
  funext t
  simp only [List.length_cons, List.range'_succ, List.zip_cons_cons, look, Q76 vs (i + 1)]
  cases hb : Nat.beq t i with
  | true => have := Nat.eq_of_beq_eq_true hb; subst this; simp
  | false =>
   have : t ≠ i := fun e => by subst e; simp at hb
   by_cases hlt : t < i
   ·have : t < i + 1 := by omega
    simp [hlt, this]
   ·have h1 : ¬ t < i + 1 := by omega
    have h2 : t - i = (t - (i + 1)) + 1 := by omega
    simp [hlt, h1, h2]
theorem Qbeb {args : List V} {E : List (Nat × V)} (h : (List.range' 0 args.length).zip args = E) : Qov args = look E := by
 rw [← h, Q76]
 funext t
 simp [Qov]
theorem Tr.init {cc : CC} {args : List V} {Q : Ex → St → Prop} (E : List (Nat × V)) (h : (List.range' 0 args.length).zip args = E) (k : Tr Γ cc ⟨look E, M, nb⟩ Q) : Tr Γ cc ⟨Qov args, M, nb⟩ Q := by
 rw [Qbeb h]; exact k
theorem ifT {R : Type} {p : Prop} [Decidable p] {A B : Option R} {r : R} (hb : decide p = true) (h : (if p then A else B) = some r) : A = some r := by rwa [if_pos (of_decide_eq_true hb)] at h
theorem ifF {R : Type} {p : Prop} [Decidable p] {A B : Option R} {r : R} (hb : decide p = false) (h : (if p then A else B) = some r) : B = some r := by rwa [if_neg (of_decide_eq_false hb)] at h
theorem bT {R : Type} {b : Bool} {A B : Option R} {r : R} (hb : b = true) (h : (if b then A else B) = some r) : A = some r := by subst hb; simpa using h
theorem bF {R : Type} {b : Bool} {A B : Option R} {r : R} (hb : b = false) (h : (if b then A else B) = some r) : B = some r := by subst hb; simpa using h
theorem bnd {X R : Type} {A : Option X} {g : X → Option R} {r : R} (h : A.bind g = some r) : ∃ x, A = some x ∧ g x = some r := Option.bind_eq_some_iff.1 h
theorem nT {b : Bool} (h : b = true) : (!b) = false := by subst h; rfl
theorem nF {b : Bool} (h : b = false) : (!b) = true := by subst h; rfl
theorem nT' {b : Bool} (h : (!b) = true) : b = false := by cases b <;> simp_all
theorem nF' {b : Bool} (h : (!b) = false) : b = true := by cases b <;> simp_all
def Qbih {X : Type} (Γ : Env) (mk : X → St) (z : X) (Q : Ex → St → Prop) : Ex → St → Prop
 | .norm, σ' => WeakSt Γ σ' (mk z)
 | .exit i, σ' => Q (.exit i) σ'
 | .ret, σ' => Q .ret σ'
theorem Tr.cutB {X R : Type} {x y : CC} {Q : Ex → St → Prop} (mk : X → St) {A : Option X} {g : X → Option R} {r : R} (h : A.bind g = some r) (hx : ∀ z, A = some z → Tr Γ x σ (Qbih Γ mk z Q)) (hy : ∀ z, g z = some r → Tr Γ y (mk z) Q) : Tr Γ (.seq x y) σ Q := by
 obtain ⟨z, h1, h2⟩ := bnd h
 refine Tr.seq ((hx z h1).mono ?_)
 intro e σ' hq
 cases e with
 | norm => exact (hy z h2).weak hq
 | exit id => exact hq
 | ret => exact hq
def letJ {X R : Type} (J : X → Option R) (body : (X → Option R) → Option R) : Option R := body J
theorem Tr.cutJ {X R : Type} {x y : CC} {Q : Ex → St → Prop} (mk : X → St) {J : X → Option R} {body : (X → Option R) → Option R} {r : R} (h : letJ J body = some r)
  (hx : ∀ J', body J' = some r → Tr Γ x σ (Qbjr Γ mk J' r Q)) (hy : ∀ z, J z = some r → Tr Γ y (mk z) Q) : Tr Γ (.seq x y) σ Q := Tr.cut mk J r hy (hx J h)
def eI (k : IntKind) (n : Int) : List D := [.int k n]
abbrev i_ (n : Int) : V := .d (.int .i64 n)
abbrev b_ (b : Bool) : V := .d (.bool b)
abbrev l_ (l : List Int) : V := .d (.lst 1 (List.map (eI .i64) l))
def eB (b : Bool) : List D := [.bool b]
def eL {α : Type} (sz : Nat) (e : α → List D) (l : List α) : List D := [.lst sz (List.map e l)]
theorem toN {y : CC} {Q : Ex → St → Prop} (h : Tr Γ y σ Q) : Qbea Γ y Q .norm σ := h
theorem Q1n {G : Prop} (b : Bool) (h1 : b = true → G) (h2 : b = false → G) : G := by cases b; exact h2 rfl; exact h1 rfl
theorem pc9 {p : Prop} : one (pcOf 9) = true → p := by intro h; cases h
theorem pc0 {p : Prop} : one (pcOf 0) = true → p := by intro h; cases h
theorem pc2 {p : Prop} : one (pcOf 2) = true → p := by intro h; cases h
theorem Qbjs {n0 nt : Nat} {L : List (Nat × Bx)} {M0 : Mem} (hM : ∀ k, n0 ≤ k → M0 k = none) (hL : (L.all fun p => Nat.blt p.1 nt) = true) : ∀ k, n0 + nt ≤ k → Qm n0 L M0 k = none := by
 intro k hk
 simp only [Qm]
 rw [if_neg (by omega)]
 cases hb : Qb2 L (k - n0) with
 | none => rfl
 | some b =>
  obtain ⟨p, hp, he⟩ := Qzb hb
  have := List.all_eq_true.1 hL p hp
  have := Nat.le_of_ble_eq_true this
  omega
theorem Q9w {E : List (Nat × V)} {n0 p t off n nb : Nat} {ag : Bool} {cs : List V} {v : V} (hp : look E p = .ptr (n0 + t) off) (hM : Qb2 L t = some (.cells cs)) (hn : Nat.ble (off + n) cs.length = true) (hv : (if ag then some (.agg (V.dems ((cs.drop off).take n))) else (cs[off]?).map (·.dem)) = some v) :
  Res.val ⟨look E, Qm n0 L M0, nb⟩ (.cell p ag n) = some v := by
 have := Nat.le_of_ble_eq_true hn
 have hb : Qm n0 L M0 (n0 + t) = some (.cells cs) := by rw [Qdh]; exact hM
 simp only [Res.val, hp, Qh, hb, this, if_true]
 cases ag with
 | true => simp only [if_true, Option.some.injEq] at hv ⊢; rw [hv]; rfl
 | false =>
  simp only [Bool.false_eq_true, if_false] at hv ⊢
  rw [Option.map_map]
  rw [← hv]; congr 1
theorem res2 {x y : Res} {v w : V} (h1 : x.val σ = some v) (h2 : y.val σ = some w) : Qnz σ [x, y] = some (.tup [v, w]) := by simp [Qnz, h1, h2]
theorem res3 {x y z : Res} {v w u : V} (h1 : x.val σ = some v) (h2 : y.val σ = some w) (h3 : z.val σ = some u) : Qnz σ [x, y, z] = some (.tup [v, w, u]) := by simp [Qnz, h1, h2, h3]
def remO (k : IntKind) (a b : Int) : Option Int := if b = 0 then none else some (a.tmod b)
def shrO (k : IntKind) (a b : Int) : Option Int := if b < 0 then none else some (a.fdiv (2 ^ (min b.toNat k.bits)))
def andI (k : IntKind) (a b : Int) : Int := k.wrap ((BitVec.ofInt k.bits a) &&& (BitVec.ofInt k.bits b)).toNat
theorem Q6q {k : IntKind} {tb : Bool} {x y z : Int} (h : remO k x y = some z) : binD .rem tb (.int k x) (.int k y) = some (.int k z) := by
 unfold remO at h; split at h <;> cases h
 simp [binD, Q7b, *]
theorem Qbec {k k' : IntKind} {tb : Bool} {x y z : Int} (h : shrO k x y = some z) : binD .shr tb (.int k x) (.int k' y) = some (.int k z) := by
 unfold shrO at h; split at h <;> cases h
 simp [binD, *]
end Go.Abs
end
section
namespace Go.Abs
open Go
variable {Γ:Env} {pc d nb:Nat} {os:List COp} {E:List (Nat×V)} {M M' M0:Mem} {L:List (Nat×Bx)} {Q:St→Prop} {σ:St} {gd:Option (Nat×Bool)} {a b c:Arg}
def Ext (M M2:Mem):Prop:=∀ k b,M k=some b→M2 k=some b
theorem Ext.refl (M:Mem):Ext M M:=fun _ _ h=>h
theorem Ext.trans {A B C:Mem} (h:Ext A B) (k:Ext B C):Ext A C:=fun i b hi=>k i b (h i b hi)
theorem ltB {n0:Nat} (hM:∀ k,n0≤k→M0 k=none) {k:Nat} {b:Bx} (h:M0 k=some b):k<n0:=by
 rcases Nat.lt_or_ge k n0 with hk|hk
 ·exact hk
 ·rw [hM k hk] at h;cases h
theorem Qve {n0:Nat} (hM:∀ k,n0≤k→M0 k=none):Ext M0 (Qm n0 L M0):=fun k b h=>by rw [Qel (ltB hM h)];exact h
theorem Q9x {n0:Nat} (hM:∀ k,n0≤k→M0 k=none) {k:Nat} {b:Bx} (h:M0 k=some b):Qm n0 L M0 k=some b:=Qve hM k b h
theorem Rn.callM {f:FuncId} {as:List Arg} {args:List V} {r:V} (hw:Wn E gd) (ha:V.dems (as.map (·.val (look E)))=args) (hC:∀ M2 nb2,nb≤nb2→Ext M M2→ACalls Γ.P f args M2 nb2 r M2 nb2) (hp2:(Nat.ble (pcOf pc) 1||Nat.ble 10 (pcOf pc))=true) (hpc:one (pcOf pc)=true→∀ k,nb≤k→M k=none)
  (h:Rn Γ pc os ⟨look ((d,r)::E),M,nb⟩ Q):Rn Γ pc (⟨some d,.call f,as,false,gd⟩::os) ⟨look E,M,nb⟩ Q:=by
 refine Rn.cons ?_;unfold COp.run;rw [hw.wanted];simp only [show (K.call f).isCall=true from rfl,if_true,COp.callee,ha];have h' : Rn Γ pc os ⟨Q9 (look E) (some d) r,M,nb⟩ Q:=by
  rw [show Q9 (look E) (some d) r=look ((d,r)::E) from Qcv E d r];exact h
 match hp:pcOf pc with
 | 0=>exact ⟨r,M,nb,hC _ _ (Nat.le_refl _) (Ext.refl _),fun _ h=>h,fun _ _ _ _=>.inl rfl,h'⟩
 | 1 =>
  refine ⟨r,fun _=>none,nb,fun M2 h1 h2=>?_,?_⟩
  ·have:M2.over nb (fun _=>none)=M2:=by
    funext k;simp only [Mem.over];split
    ·rfl
    ·exact (h2 k (by omega)).symm
   rw [this];exact hC _ _ (Nat.le_refl _) fun k b hk=>by rw [h1 k (by simp [hk])];exact hk
  ·have:M.over nb (fun _=>none)=M:=by
    funext k;simp only [Mem.over];split
    ·rfl
    ·exact (hpc (by rw [hp];rfl) k (by omega)).symm
   rw [this];exact h'
 | n+2 =>
  have hn8:¬ n<8:=by
   intro hn;rw [hp] at hp2;simp only [Bool.or_eq_true,Nat.ble_eq] at hp2;omega
  have h1:one (pcOf pc)=true:=by rw [hp];unfold one;rw [show Nat.ble 10 (n+2)=true from Nat.ble_eq_true_of_le (by omega),Bool.or_true]
  show (if n<8 then _ else _);rw [if_neg hn8];refine ⟨r,fun _=>none,fun _=>none,nb,.inr fun _=>rfl,fun _ h=>(by cases h),fun _ _ _ h=>(by cases h),fun M2 h3 h2=>?_,?_⟩
  ·rw [Qgx fun _=>rfl];have:M2.over nb (fun _=>none)=M2:=by
    funext k;simp only [Mem.over];split
    ·rfl
    ·exact (h2 k (by omega)).symm
   rw [this];exact hC _ _ (Nat.le_refl _) fun k b hk=>by rw [h3 k (by simp [hk])];exact hk
  ·rw [Qgx fun _=>rfl];have:M.over nb (fun _=>none)=M:=by
    funext k;simp only [Mem.over];split
    ·rfl
    ·exact (hpc h1 k (by omega)).symm
   rw [this];exact h'
theorem Rn.callvM {t:Nat} {f:FuncId} {caps:List V} {as:List Arg} {args:List V} {r:V} (hw:Wn E gd) (ht:look E t = .clo f caps) (ha:V.dems (as.map (·.val (look E)))++V.dems caps=args) (hC:∀ M2 nb2,nb≤nb2→Ext M M2→ACalls Γ.P f args M2 nb2 r M2 nb2) (hp2:(Nat.ble (pcOf pc) 1||Nat.ble 10 (pcOf pc))=true) (hpc:one (pcOf pc)=true→∀ k,nb≤k→M k=none)
  (h:Rn Γ pc os ⟨look ((d,r)::E),M,nb⟩ Q):Rn Γ pc (⟨some d,.callv,.t t::as,false,gd⟩::os) ⟨look E,M,nb⟩ Q:=by
 refine Rn.cons ?_;unfold COp.run;rw [hw.wanted];simp only [show K.callv.isCall=true from rfl,if_true,COp.callee,List.map_cons,show (Arg.t t).val (look E) = .clo f caps from ht,ha];have h' : Rn Γ pc os ⟨Q9 (look E) (some d) r,M,nb⟩ Q:=by
  rw [show Q9 (look E) (some d) r=look ((d,r)::E) from Qcv E d r];exact h
 match hp:pcOf pc with
 | 0=>exact ⟨r,M,nb,hC _ _ (Nat.le_refl _) (Ext.refl _),fun _ h=>h,fun _ _ _ _=>.inl rfl,h'⟩
 | 1 =>
  refine ⟨r,fun _=>none,nb,fun M2 h1 h2=>?_,?_⟩
  ·have:M2.over nb (fun _=>none)=M2:=by
    funext k;simp only [Mem.over];split
    ·rfl
    ·exact (h2 k (by omega)).symm
   rw [this];exact hC _ _ (Nat.le_refl _) fun k b hk=>by rw [h1 k (by simp [hk])];exact hk
  ·have:M.over nb (fun _=>none)=M:=by
    funext k;simp only [Mem.over];split
    ·rfl
    ·exact (hpc (by rw [hp];rfl) k (by omega)).symm
   rw [this];exact h'
 | n+2 =>
  have hn8:¬ n<8:=by
   intro hn;rw [hp] at hp2;simp only [Bool.or_eq_true,Nat.ble_eq] at hp2;omega
  have h1:one (pcOf pc)=true:=by rw [hp];unfold one;rw [show Nat.ble 10 (n+2)=true from Nat.ble_eq_true_of_le (by omega),Bool.or_true]
  show (if n<8 then _ else _);rw [if_neg hn8];refine ⟨r,fun _=>none,fun _=>none,nb,.inr fun _=>rfl,fun _ h=>(by cases h),fun _ _ _ h=>(by cases h),fun M2 h3 h2=>?_,?_⟩
  ·rw [Qgx fun _=>rfl];have:M2.over nb (fun _=>none)=M2:=by
    funext k;simp only [Mem.over];split
    ·rfl
    ·exact (h2 k (by omega)).symm
   rw [this];exact hC _ _ (Nat.le_refl _) fun k b hk=>by rw [h3 k (by simp [hk])];exact hk
  ·rw [Qgx fun _=>rfl];have:M.over nb (fun _=>none)=M:=by
    funext k;simp only [Mem.over];split
    ·rfl
    ·exact (hpc h1 k (by omega)).symm
   rw [this];exact h'
theorem Qvf {P:Program} {f:FuncId} {cf:CFn} (hcf:Qo P f=some cf) {args:List V} {r:V} (hargs:Nat.beq args.length cf.np=true) (M:Mem) (nb:Nat)
  (hrun:∀ (Γ:Env),Γ.P=P→Γ.nt=cf.nt→Γ.n0=nb→(∀ k,Γ.n0≤k→M k=none)→Tr Γ cf.body ⟨Qov args,Qm Γ.n0 [] M,Γ.n0+cf.nt⟩ (FinP cf.res r Γ.n0 M)):ACalls P f args M nb r M nb:=by
 by_cases hM:∀ k,nb≤k→M k=none
 case neg=>exact Q0o (Qo6 hcf) (Nat.le_refl _) hM
 by_cases hon:MOn (There M) M
 case neg=>exact ⟨Qo6 hcf,Nat.le_refl _,fun w g us hm h=>absurd h hon⟩
 refine Qbjq hcf hM (Nat.eq_of_beq_eq_true hargs) (Nat.le_refl _) fun Γ hP hn ht=>?_;have h:=hrun Γ hP ht hn (by rw [hn];exact hM);rw [Qza (by rw [hn];exact hM),hn] at h;refine h.mono ?_;rintro e σ' ⟨he,r',h1,h2,h3,h4⟩;have hlt:∀ k,There M k→k<nb:=fun k hk=>by
  rcases Nat.lt_or_ge k nb with h|h
  ·exact h
  ·simp [There,hM k h] at hk
 refine ⟨he,r',h1,h2,fun k b hk=>?_,h3,hon,hlt⟩;rw [h4 k (hlt k (by simp [There,hk]))];exact hk
mutual
theorem Q77 {n0:Nat} {sites:List Nat}:∀ v:V,v.on (· < n0)→Qds (Qiz n0 sites) v=v
 | .und,_=>rfl
 | .d _,_=>rfl
 | .agg cs,h=>by simp only [Qds];rw [kills_base cs h]
 | .tup cs,h=>by simp only [Qds];rw [kills_base cs h]
 | .own ..,_=>rfl
 | .ownT ..,_=>rfl
 | .ptr k o,h=>by simp only [Qds];rw [Qot h];rfl
 | .nilp,_=>rfl
 | .f _,_=>rfl
 | .nils _,_=>rfl
 | .cref _,_=>rfl
 | .sl sz k o n c,h=>by simp only [Qds];rw [Qot h];rfl
 | .clo _ cs,h=>by simp only [Qds];rw [kills_base cs h]
 | .mp k,h=>by simp only [Qds];rw [Qot h];rfl
theorem kills_base {n0:Nat} {sites:List Nat}:∀ vs:List V,V.ons (· < n0) vs→Qds.go (Qiz n0 sites) vs=vs
 | [],_=>rfl
 | v::vs,h=>by simp only [Qds.go];rw [Q77 v h.1,kills_base vs h.2]
end
theorem kFun {n0:Nat} {sites:List Nat} {g:FuncId} {cp:List V} (hM:∀ k,n0≤k→M0 k=none) (h:V.ons (There M0) cp):WkV (Qds (Qiz n0 sites) (.clo g cp)) (.clo g cp):=by
 refine .same (Q77 _ (ons_mono (fun k hk=>?_) _ h));obtain ⟨b,hb⟩:=Option.isSome_iff_exists.1 hk;exact ltB hM hb
theorem Qvg {k:Nat} {b:Bx} (h:M k=some b):There M k:=by simp [There,h]
theorem Qbha {cp:List V} (hx:Ext M M') (h:V.ons (There M) cp):V.ons (There M') cp:=ons_mono (fun k hk=>by
 obtain ⟨b,hb⟩:=Option.isSome_iff_exists.1 hk;exact Qvg (hx k b hb)) _ h
end Go.Abs
end
section
namespace Go.Abs
open Go
def pl0:D→Bool
 | .int .. | .bool _ | .str _=>true
 | _=>false
def frzL (sz:Nat) (l:List (List D)):V:=if l.all fun x=>x.all pl0 then .f (.lst sz l) else .d (.lst sz l)
theorem Qbjt {imm imm' : Nat→Nat→Prop} {w:World}:∀ {x:D} {u:Value},pl0 x=true→RD imm w x u→RD imm' w x u
 | .int ..,_,_,h=>by simpa [RD] using h
 | .bool _,_,_,h=>by simpa [RD] using h
 | .str _,_,_,h=>by simpa [RD] using h
 | .lst ..,_,h,_=>by cases h
 | .mp ..,_,h,_=>by cases h
theorem Qbii {p:Nat→Prop} {sz:Nat} {l:List (List D)}:(frzL sz l).on p:=by unfold frzL;split<;>trivial
theorem Qbed {sz:Nat} {l:List (List D)}:WkV (frzL sz l) (.d (.lst sz l)):=by
 unfold frzL;split
 ·exact ⟨fun g w ℓ u h=>by
   simp only [RV] at h ⊢;exact Qf0 ⟨fun b o h=>h.1,fun _ _ _=>rfl⟩ _ u h,fun _ _=>trivial⟩
 ·exact .same rfl
mutual
def frzV (k:Nat) (ds:List D):V→V
 | .und=>.und
 | .d x=>.d x
 | .agg cs=>.agg (frzVs k ds cs)
 | .tup cs=>.tup (frzVs k ds cs)
 | .own sz l=>.own sz l
 | .ownT sz l=>.ownT sz l
 | .ptr k' o=>if k'=k then .cref (ds.drop o) else .ptr k' o
 | .nilp=>.nilp
 | .f x=>.f x
 | .nils sz=>.nils sz
 | .cref cs=>.cref cs
 | .sl sz k' o n c=>if k'=k then (if o+n*sz≤ds.length∧n≤c then frzL sz (Qh8 sz n ((ds.drop o).take (n*sz))) else .und) else .sl sz k' o n c
 | .clo f cs=>.clo f (frzVs k ds cs)
 | .mp k'=>if k'=k then .und else .mp k'
def frzVs (k:Nat) (ds:List D):List V→List V
 | []=>[]
 | v::vs=>frzV k ds v::frzVs k ds vs
end
theorem Q3j (k:Nat) (ds:List D):∀ vs,frzVs k ds vs=vs.map (frzV k ds)
 | []=>rfl
 | v::vs=>by simp [frzVs,Q3j k ds vs]
mutual
theorem Qbhb {p:Nat→Prop} (k:Nat) (ds:List D):∀ v:V,v.on p→(frzV k ds v).on fun j=>p j∧j≠k
 | .und,_=>trivial
 | .d _,_=>trivial
 | .agg cs,h=>ons_frz k ds cs h
 | .tup cs,h=>ons_frz k ds cs h
 | .own ..,_=>trivial
 | .ownT ..,_=>trivial
 | .ptr k' o,h=>by
  simp only [frzV];split
  ·trivial
  ·rename_i hne;exact ⟨h,hne⟩
 | .nilp,_=>trivial
 | .f _,_=>trivial
 | .nils _,_=>trivial
 | .cref _,_=>trivial
 | .sl sz k' o n c,h=>by
  simp only [frzV];split
  ·split
   ·exact Qbii
   ·trivial
  ·rename_i hne;exact ⟨h,hne⟩
 | .clo _ cs,h=>ons_frz k ds cs h
 | .mp k',h=>by
  simp only [frzV];split
  ·trivial
  ·rename_i hne;exact ⟨h,hne⟩
theorem ons_frz {p:Nat→Prop} (k:Nat) (ds:List D):∀ vs:List V,V.ons p vs→V.ons (fun j=>p j∧j≠k) (frzVs k ds vs)
 | [],_=>trivial
 | v::vs,h=>⟨Qbhb k ds v h.1,ons_frz k ds vs h.2⟩
end
theorem Qba3 {imm:Nat→Nat→Prop} {w:World} {b:Nat}:∀ (j:Nat) {ds:List D} {o:Nat},RDc imm w b ds o→RDc imm w b (ds.drop j) (o+j)
 | 0,_,_,h=>h
 | j+1,[],o,h=>by simp [RDc]
 | j+1,d::ds,o,h=>by
  simp only [RDc] at h;have:=Qba3 j h.2.2
  grind
def G.frz (g:G) (k n:Nat) [DecidablePred fun b=>b=g.box k]:G:=⟨g.box,fun b o=>g.imm b o∨(b=g.box k∧o<n),fun b=>if b=g.box k then .ext else g.own b⟩
section
variable {g:G} {w:World} {k:Nat} {ds:List D} (hB:g.own (g.box k) = .box k) (hD:RDc (g.frz k ds.length).imm w (g.box k) ds 0)
include hB hD
theorem Q6r:Imm g.imm (g.frz k ds.length).imm w w:=⟨fun _ _ h=>.inl h,fun _ _ _=>rfl⟩
mutual
theorem Qbhc:∀ (v:V) (ℓ:Owner) (u:Value),ℓ ≠ .box k→RV g w v ℓ u→RV (g.frz k ds.length) w (frzV k ds v) ℓ u
 | .und,_,_,_,_=>by simp [frzV,RV]
 | .d x,_,_,_,h=>by
  simp only [frzV,RV] at h ⊢;exact Qf0 (Q6r hB hD) x _ h
 | .agg cs,ℓ,u,hl,h=>by
  simp only [frzV,RV] at h ⊢;obtain ⟨vs,rfl,h,h1⟩:=h;exact ⟨vs,rfl,RVs_frz cs ℓ 0 vs h,h1⟩
 | .tup cs,ℓ,u,hl,h=>by
  simp only [frzV,RV] at h ⊢;obtain ⟨vs,rfl,h⟩:=h;exact ⟨vs,rfl,RVs_frz cs ℓ 0 vs h⟩
 | .own sz l,ℓ,u,hl,h=>by
  simp only [frzV,RV] at h ⊢;rcases h with h|⟨b,cap,vals,e,h1,h2,h3,h4,h5,h6,h7,h8⟩
  ·exact .inl h
  ·have hne:b≠g.box k:=by rintro rfl;rw [hB] at h2;exact hl h2.symm
   refine .inr ⟨b,cap,vals,e,h1,by simp [G.frz,hne,h2],h3,h4,h5,h6,fun o=>?_,RDL_mono (Q6r hB hD) sz b l 0 h8⟩;rw [← h7 o];simp [G.frz,hne]
 | .ownT sz l,ℓ,u,hl,h=>by
  simp only [frzV,RV] at h ⊢;rcases h with h|⟨b,o0,cap,vals,e,h1,h2,h3,h4,h5,h6,h7,h8⟩
  ·exact .inl h
  ·have hne:b≠g.box k:=by rintro rfl;rw [hB] at h2;exact hl h2.symm
   refine .inr ⟨b,o0,cap,vals,e,h1,by simp [G.frz,hne,h2],h3,h4,h5,h6,fun o=>?_,RDL_mono (Q6r hB hD) sz b l o0 h8⟩;rw [← h7 o];simp [G.frz,hne]
 | .ptr k' o,ℓ,u,hl,h=>by
  simp only [frzV];split
  ·rename_i he;subst he;simp only [RV] at h ⊢;have:=Qba3 o hD;rw [Nat.zero_add] at this;exact ⟨_,_,h,this⟩
  ·simpa [RV,G.frz] using h
 | .nilp,_,_,_,h=>by simpa [frzV,RV] using h
 | .f x,_,u,_,h=>by
  simp only [frzV,RV] at h ⊢;exact Qf0 (Qbaf (g:=g) (g':=g.frz k ds.length) fun b o h1 h2=>⟨.inl h1,by simp only [G.frz];split<;>first|rfl|exact h2⟩) x u h
 | .nils _,_,_,_,h=>by simpa [frzV,RV] using h
 | .cref cs,ℓ,u,hl,h=>by
  simp only [frzV,RV] at h ⊢;obtain ⟨b,o,rfl,h⟩:=h;exact ⟨b,o,rfl,Qy1 (Q6r hB hD) b cs o h⟩
 | .sl sz k' o n c,ℓ,u,hl,h=>by
  simp only [frzV];split
  ·rename_i he;subst he;split
   ·rename_i hc;have hlen:((ds.drop o).take (n*sz)).length=n*sz:=by simp;omega
    obtain ⟨h1,h2,h3⟩:=Qrz n sz _ hlen;simp only [RV] at h;have key:∀ i x j y,(Qh8 sz n ((ds.drop o).take (n*sz)))[i]? = some x→x[j]? = some y→(g.frz k' ds.length).imm (g.box k') (o+i*sz+j)∧∃ u,w.cell? ⟨g.box k',o+i*sz+j,none⟩=some u∧RD (g.frz k' ds.length).imm w y u:=by
     intro i x j y hx hy;have h4:=h3 i x j y hx hy;rw [List.getElem?_take] at h4;split at h4
     ·rw [List.getElem?_drop] at h4;have:=Qta hD _ y h4;rw [show 0+(o+(i*sz+j))=o+i*sz+j from by omega] at this;exact this
     ·cases h4
    unfold frzL;split
    ·rename_i hp;simp only [RV,RD];refine ⟨_,c,by rw [h1];exact h,by rw [h1];exact hc.2,.inr ⟨_,o,rfl,Q1g fun i x hx=>⟨h2 x (List.mem_of_getElem? hx),Qxn fun j y hy=>?_⟩⟩⟩;obtain ⟨q1,q,q2,q3⟩:=key i x j y hx hy;refine ⟨⟨q1,by simp [G.frz],.inl (by rw [q2];rfl)⟩,q,q2,Qbjt ?_ q3⟩;exact List.all_eq_true.1 (List.all_eq_true.1 hp x (List.mem_of_getElem? hx)) y (List.mem_of_getElem? hy)
    ·simp only [RV,RD];refine ⟨_,c,by rw [h1];exact h,by rw [h1];exact hc.2,.inr ⟨_,o,rfl,Q1g fun i x hx=>⟨h2 x (List.mem_of_getElem? hx),Qxn fun j y hy=>key i x j y hx hy⟩⟩⟩
   ·simp [RV]
  ·simpa [RV,G.frz] using h
 | .clo f cs,ℓ,u,hl,h=>by
  simp only [frzV,RV] at h ⊢;obtain ⟨vs,rfl,h⟩:=h;exact ⟨vs,rfl,RVs_frz cs .ext 0 vs h⟩
 | .mp k',ℓ,u,hl,h=>by
  simp only [frzV];split
  ·simp [RV]
  ·simpa [RV,G.frz] using h
theorem RVs_frz:∀ (cs:List V) (ℓ:Owner) (i:Nat) (us:List Value),RVs g w cs ℓ i us→RVs (g.frz k ds.length) w (frzVs k ds cs) ℓ i us
 | [],_,_,_,h=>by simpa [frzVs,RVs] using h
 | c::cs,ℓ,i,us,h=>by
  simp only [frzVs,RVs] at h ⊢;obtain ⟨u,us',rfl,h1,h2⟩:=h;have hne:ℓ.sub i ≠ .box k:=by cases ℓ<;>simp [Owner.sub]
  exact ⟨u,us',rfl,Qbhc c (ℓ.sub i) u hne h1,RVs_frz cs ℓ (i+1) us' h2⟩
end
end
def PreD (cs:List V) (ds:List D):Prop:=ds.length≤cs.length∧∀ (j:Nat) v d,cs[j]? = some v→ds[j]? = some d→v.toD=some d
theorem PreD.of {cs:List V} {ds:List D} (h:toDs cs=some ds):PreD cs ds:=⟨Nat.le_of_eq (Qte h).1,(Qte h).2⟩
theorem PreD.app {cs tl:List V} {ds:List D} (h:toDs cs=some ds):PreD (cs++tl) ds:=by
 obtain ⟨h1,h2⟩:=Qte h;refine ⟨by simp;omega,fun j v d hv hd=>?_⟩
 grind
theorem Qbee {g:G} {w:World} {M:Mem} {nb k:Nat} {cs:List V} {ds:List D} [DecidablePred fun b=>b=g.box k] (hm:MR g w M nb) (hM:M k=some (.cells cs)) (hd:PreD cs ds):RDc (g.frz k ds.length).imm w (g.box k) ds 0:=by
 obtain ⟨hl,hg⟩:=hd;refine Qxn fun j y hj=>?_;have hlt:=(List.getElem?_eq_some_iff.1 hj).1;have hc:cs[j]? = some (cs[j]'(by omega)):=List.getElem?_eq_getElem _;obtain ⟨u,h1,h2,h3⟩:=Qws hm hM hc;refine ⟨.inr ⟨rfl,by omega⟩,u,by simpa using h1,?_⟩;exact Qf0 ⟨fun _ _ h=>.inl h,fun _ _ _=>rfl⟩ y u (Qva (hg j _ y hc hj) h2)
def Qq9 (n0 k:Nat) (f:V→V) (σ:St):St :=
 {
  s:=fun t=>f (σ.s t)
  M:=fun j=>if j=k then none else if j<n0 then σ.M j else
   match σ.M j with
   | some (.cells cs)=>some (.cells (cs.map f))
   | b=>b
  nb:=σ.nb }
abbrev Qbju (n0 k:Nat) (ds:List D) (σ:St):St:=Qq9 n0 k (frzV k ds) σ
variable {Γ:Env} {σ:St}
open Classical in
theorem Qbgg {k:Nat} {cs:List V} {ds:List D} (hk:Γ.n0≤k) (hM:σ.M k=some (.cells cs)) (hd:PreD cs ds):WeakSt Γ σ (Qbju Γ.n0 k ds σ):=by
 intro a w g hs;have hB:g.own (g.box k) = .box k:=(hs.mem.box k _ hM).2.1;have hD:=Qbee hs.mem hM hd;have hsub:∀ ℓ i,ℓ≠Owner.box k→ℓ.sub i ≠ .box k:=by intro ℓ i _;cases ℓ<;>simp [Owner.sub]
 have hkept:Kept g w (g.frz k ds.length) w (fun j=>j≠k) (fun o=>o ≠ .box k):=by
  refine ⟨⟨fun _ _ h=>.inl h,fun _ _ _=>rfl⟩,fun _ _=>rfl,fun b hb _=>?_⟩;have hne:b≠g.box k:=by rintro rfl;exact hb hB
  exact ⟨by simp [G.frz,hne],rfl,fun o=>by simp [G.frz,hne]⟩
 have hthere:∀ j,(There σ.M j∧j≠k)→There (Qbju Γ.n0 k ds σ).M j:=by
  rintro j ⟨h1,h2⟩;simp only [There,Qq9,h2,if_false] at h1 ⊢;split
  ·exact h1
  ·cases hj:σ.M j with
   | none=>simp [hj] at h1
   | some b=>cases b<;>rfl
 have hown:∀ j,j≠k→g.own (g.box j) = .box j→(g.frz k ds.length).own (g.box j) = .box j:=by
  intro j hj ho;have hne:g.box j≠g.box k:=by
   intro e;rw [e,hB] at ho;cases ho;exact hj rfl
  simp [G.frz,hne,ho]
 refine ⟨g.frz k ds.length,⟨⟨fun j b hb=>?_,fun b o hbo=>?_⟩,fun t=>Qbhc hB hD _ _ _ (by simp) (hs.slots t),hs.size,hs.defers,fun t=>Qfj hthere _ (Qbhb k ds _ (hs.onS t)),fun j cs' hb=>?_,hs.top,?_⟩⟩
 ·simp only [Qq9] at hb;split at hb
  ·cases hb
  ·rename_i hjk;split at hb
   ·rename_i hlt;obtain ⟨h1,h2,h3⟩:=hs.mem.box j b hb;refine ⟨h1,hown j hjk h2,?_⟩;cases b with
    | mp es c =>
     obtain ⟨ents,k1,k2⟩:=h3;exact ⟨ents,k1,Qkq (g:=g) (g':=g.frz k ds.length) hkept (fun _=>by simp) k2⟩
    | cells cs2 =>
     obtain ⟨vals,e,k1,k2,k3⟩:=h3;have hon:=(hs.onM j cs2 hb).2 hlt;exact ⟨vals,e,k1,RVs_mono hkept hsub (by simp) _ _ _ _ (by intro e;cases e;exact hjk rfl) (ons_mono (fun i hi=>by omega) _ hon) k2,k3⟩
   ·split at hb
    ·rename_i hlt _ cs2 hcs;cases hb;obtain ⟨h1,h2,vals,e,k1,k2,k3⟩:=hs.mem.box j _ hcs;refine ⟨h1,hown j hjk h2,vals,e,k1,?_,k3⟩;rw [← Q3j];exact RVs_frz hB hD _ _ _ _ k2
    ·rename_i hne;obtain ⟨h1,h2,h3⟩:=hs.mem.box j b hb;cases b with
     | mp es c =>
      obtain ⟨ents,k1,k2⟩:=h3;exact ⟨h1,hown j hjk h2,ents,k1,Qkq (g:=g) (g':=g.frz k ds.length) hkept (fun _=>by simp) k2⟩
     | cells cs2=>exact absurd hb (hne cs2)
 ·rcases hbo with hbo|⟨rfl,hlt⟩
  ·obtain ⟨h1,h2⟩:=hs.mem.imm b o hbo;refine ⟨h1,fun j=>?_⟩;simp only [G.frz];split
   ·simp
   ·exact h2 j
  ·refine ⟨?_,fun j=>by simp [G.frz]⟩;obtain ⟨_,_,vals,e,k1,_,_⟩:=hs.mem.box k _ hM;exact (Array.getElem?_eq_some_iff.1 k1).1
 ·simp only [Qq9] at hb;split at hb
  ·cases hb
  ·rename_i hjk;split at hb
   ·rename_i hlt;obtain ⟨h1,h2⟩:=hs.onM j cs' hb;refine ⟨ons_mono (fun i hi=>hthere i ⟨hi.1,?_⟩) _ (ons_and cs' h1 (h2 hlt)),h2⟩;have:=hi.2;omega
   ·split at hb
    ·rename_i hlt _ cs2 hcs;cases hb;refine ⟨?_,fun h=>absurd h hlt⟩;rw [← Q3j];exact ons_mono hthere _ (ons_frz k ds _ (hs.onM j cs2 hcs).1)
    ·rename_i hne;exact absurd hb (hne cs')
 ·have hf:=hs.fr;refine ⟨hf.os,hf.tape,hf.output,hf.size,⟨fun b o h=>.inl (hf.imm.mono b o h),hf.imm.look⟩,hf.box,fun b hb ho=>?_⟩;obtain ⟨h1,h2,h3⟩:=hf.old b hb ho;have hne:b≠g.box k:=by
   rintro rfl;rw [hB] at h1;rw [← h1] at ho;exact ho
  exact ⟨by simp [G.frz,hne,h1],h2,fun o=>by simp [G.frz,hne,h3]⟩
def FE (f:V→V) (s:Sl):List (Nat×V)→Prop
 | []=>True
 | (t,v)::E=>WkV (f (s t)) v∧FE f s E
theorem FE.at {f:V→V} {s:Sl}:∀ {E:List (Nat×V)},FE f s E→∀ t,WkV (f (s t)) (look E t)
 | [],_,t=>.und _
 | (u,v)::E,h,t=>by
  simp only [look];cases hb:Nat.beq t u with
  | true=>have:=Nat.eq_of_beq_eq_true hb;subst this;exact h.1
  | false=>exact FE.at h.2 t
def FB (f:V→V) (t0:Nat) (L:List (Nat×Bx)):List (Nat×Bx)→Prop
 | []=>True
 | (t,.cells cs')::L'=>(∃ cs,Qb2 L t=some (.cells cs)∧Nat.beq t t0=false∧WkVs (cs.map f) cs')∧FB f t0 L L'
 | (t,.mp es c)::L'=>(Qb2 L t=some (.mp es c)∧Nat.beq t t0=false)∧FB f t0 L L'
theorem FB.at {f:V→V} {t0:Nat} {L:List (Nat×Bx)}:∀ {L' : List (Nat×Bx)},FB f t0 L L'→∀ t b,Qb2 L' t=some b→Nat.beq t t0=false ∧
  ((∃ cs' cs,b = .cells cs'∧Qb2 L t=some (.cells cs)∧WkVs (cs.map f) cs')∨∃ es c,b = .mp es c∧Qb2 L t=some (.mp es c))
 | [],_,t,b,hb=>by simp [Qb2] at hb
 | (u,.cells cs')::L',h,t,b,hb=>by
  simp only [Qb2] at hb;cases hbe:Nat.beq t u with
  | true =>
   have:=Nat.eq_of_beq_eq_true hbe;subst this;rw [hbe] at hb;simp only [cond_true,Option.some.injEq] at hb;obtain ⟨cs,h1,h2,h3⟩:=h.1
   grind
  | false =>
   rw [hbe] at hb;exact FB.at h.2 t b hb
 | (u,.mp es c)::L',h,t,b,hb=>by
  simp only [Qb2] at hb;cases hbe:Nat.beq t u with
  | true =>
   have:=Nat.eq_of_beq_eq_true hbe;subst this;rw [hbe] at hb;simp only [cond_true,Option.some.injEq] at hb;exact ⟨h.1.2,.inr ⟨es,c,hb.symm,h.1.1⟩⟩
  | false =>
   rw [hbe] at hb;exact FB.at h.2 t b hb
theorem Q5n (f:V→V) (t:Nat) {E E' : List (Nat×V)} {L:List (Nat×Bx)} {L' : List (Nat×Bx)} {M0:Mem} {nb:Nat} (hW:WeakSt Γ ⟨look E,Qm Γ.n0 L M0,nb⟩ (Qq9 Γ.n0 (Γ.n0+t) f ⟨look E,Qm Γ.n0 L M0,nb⟩))
  (hE:FE f (look E) E') (hL:FB f t L L') (hk:(L.all fun p=>Nat.beq p.1 t||L'.any fun q=>Nat.beq p.1 q.1)=true) :
  WeakSt Γ ⟨look E,Qm Γ.n0 L M0,nb⟩ ⟨look E',Qm Γ.n0 (bxs L') M0,nb⟩:=by
 refine WeakSt.trans hW ?_;intro a w g hs;have hbase:∀ k,k<Γ.n0→(Qq9 Γ.n0 (Γ.n0+t) f ⟨look E,Qm Γ.n0 L M0,nb⟩).M k=M0 k:=by
  intro k hk;have h1:k≠Γ.n0+t:=by omega
  simp_all [Qq9,if_false,if_true,Qel]
 have hown:∀ u cs,Nat.beq u t=false→Qb2 L u=some (.cells cs)→(Qq9 Γ.n0 (Γ.n0+t) f ⟨look E,Qm Γ.n0 L M0,nb⟩).M (Γ.n0+u)=some (.cells (cs.map f)):=by
  intro u cs h1 h2;have h3:u≠t:=fun e=>by subst e;simp at h1
  have h4:Γ.n0+u≠Γ.n0+t:=by omega
  have h5:¬ Γ.n0+u<Γ.n0:=by omega
  have h6:Qm Γ.n0 L M0 (Γ.n0+u)=some (.cells cs):=by rw [Qdh];exact h2
  simp only [Qq9,h4,if_false,h5,h6]
 have hownm:∀ u es c,Nat.beq u t=false→Qb2 L u=some (.mp es c)→(Qq9 Γ.n0 (Γ.n0+t) f ⟨look E,Qm Γ.n0 L M0,nb⟩).M (Γ.n0+u)=some (.mp es c):=by
  intro u es c h1 h2;have h3:u≠t:=fun e=>by subst e;simp at h1
  have h4:Γ.n0+u≠Γ.n0+t:=by omega
  have h5:¬ Γ.n0+u<Γ.n0:=by omega
  have h6:Qm Γ.n0 L M0 (Γ.n0+u)=some (.mp es c):=by rw [Qdh];exact h2
  simp only [Qq9,h4,if_false,h5,h6]
 have hsplit:∀ k,k<Γ.n0∨∃ u,k=Γ.n0+u:=fun k=>by
  rcases Nat.lt_or_ge k Γ.n0 with h|h
  ·exact .inl h
  ·exact .inr ⟨k-Γ.n0,by omega⟩
 have hthere:∀ k,There (Qq9 Γ.n0 (Γ.n0+t) f ⟨look E,Qm Γ.n0 L M0,nb⟩).M k→There (Qm Γ.n0 (bxs L') M0) k:=by
  intro k hk';rcases hsplit k with h|⟨u,rfl⟩
  ·grind [There,Qel]
  ·simp only [There,Qdh];have h5:¬ Γ.n0+u<Γ.n0:=by omega
   have h4:Γ.n0+u≠Γ.n0+t:=by
    grind [There,Qq9]
   have h7:∃ b,Qb2 L u=some b:=by
    cases hb:Qb2 L u with
    | some b=>exact ⟨b,rfl⟩
    | none =>
     have h6:Qm Γ.n0 L M0 (Γ.n0+u)=none:=by rw [Qdh];exact hb
     simp only [There,Qq9,h4,if_false,h5,h6] at hk';cases hk'
   obtain ⟨b,hb⟩:=h7;obtain ⟨p,hp,rfl⟩:=Qzb hb;have:=List.all_eq_true.1 hk p hp;rw [Bool.or_eq_true] at this;rcases this with h8|h8
   ·simp_all
   ·obtain ⟨q,hq,he⟩:=List.any_eq_true.1 h8
    grind [Nat.eq_of_beq_eq_true,Q0n]
 refine ⟨g,⟨⟨fun k b hb=>?_,hs.mem.imm⟩,fun t=>(hE.at t).rd _ _ _ _ (hs.slots t),hs.size,hs.defers,fun t=>Qfj hthere _ ((hE.at t).on _ (hs.onS t)),fun k cs hb=>?_,hs.top,hs.fr⟩⟩
 ·rcases hsplit k with h|⟨u,rfl⟩
  ·have hb' : (Qq9 Γ.n0 (Γ.n0+t) f ⟨look E,Qm Γ.n0 L M0,nb⟩).M k=some b:=by grind [Qel]
   exact hs.mem.box k b hb'
  ·have hb' : Qb2 (bxs L') u=some b:=by rw [← hb];exact Qdh.symm
   obtain ⟨h2,⟨cs',cs,rfl,h1,h3⟩|⟨es,c,rfl,h1⟩⟩:=hL.at u b hb'
   ·obtain ⟨k1,k2,vals,e,k3,k4,k5⟩:=hs.mem.box _ _ (hown u cs h2 h1);exact ⟨k1,k2,vals,e,k3,h3.rd _ _ _ _ _ k4,k5⟩
   ·exact hs.mem.box _ _ (hownm u es c h2 h1)
 ·rcases hsplit k with h|⟨u,rfl⟩
  ·have hb' : (Qq9 Γ.n0 (Γ.n0+t) f ⟨look E,Qm Γ.n0 L M0,nb⟩).M k=some (.cells cs):=by grind [Qel]
   obtain ⟨k1,k2⟩:=hs.onM k cs hb';exact ⟨ons_mono hthere _ k1,k2⟩
  ·have hb' : Qb2 (bxs L') u=some (.cells cs):=by rw [← hb];exact Qdh.symm
   obtain ⟨h2,⟨cs',cs0,he,h1,h3⟩|⟨es,c,he,h1⟩⟩:=hL.at u _ hb'<;>cases he;obtain ⟨k1,k2⟩:=hs.onM _ _ (hown u cs0 h2 h1);exact ⟨ons_mono hthere _ (h3.on _ k1),fun hlt=>absurd hlt (by omega)⟩
theorem Qqn (t:Nat) {E E' : List (Nat×V)} {L:List (Nat×Bx)} {L' : List (Nat×Bx)} {M0:Mem} {nb:Nat} {cs:List V} (ds:List D) (hM:Qb2 L t=some (.cells cs)) (hd:PreD cs ds)
  (hE:FE (frzV (Γ.n0+t) ds) (look E) E') (hL:FB (frzV (Γ.n0+t) ds) t L L') (hk:(L.all fun p=>Nat.beq p.1 t||L'.any fun q=>Nat.beq p.1 q.1)=true) :
  WeakSt Γ ⟨look E,Qm Γ.n0 L M0,nb⟩ ⟨look E',Qm Γ.n0 (bxs L') M0,nb⟩ :=
 Q5n (frzV (Γ.n0+t) ds) t (Qbgg (σ:=⟨look E,Qm Γ.n0 L M0,nb⟩) (k:=Γ.n0+t) (by omega) (by grind [Qm,Qdh]) hd) hE hL hk
theorem Qb9 (t:Nat) {E E' : List (Nat×V)} {L:List (Nat×Bx)} {L' : List (Nat×Bx)} {M0:Mem} {nb:Nat} {cs:List V} (ds:List D) (hM:Qb2 L t=some (.cells cs)) (hd:toDs cs=some ds)
  (hE:FE (frzV (Γ.n0+t) ds) (look E) E') (hL:FB (frzV (Γ.n0+t) ds) t L L') (hk:(L.all fun p=>Nat.beq p.1 t||L'.any fun q=>Nat.beq p.1 q.1)=true) :
  WeakSt Γ ⟨look E,Qm Γ.n0 L M0,nb⟩ ⟨look E',Qm Γ.n0 (bxs L') M0,nb⟩ :=
 Qqn t ds hM (.of hd) hE hL hk
theorem fPtr {n0 t u o:Nat} {ds:List D} (h:Nat.beq u t=false):WkV (frzV (n0+t) ds (.ptr (n0+u) o)) (.ptr (n0+u) o):=by
 have:¬ n0+u=n0+t:=by
  intro e
  simp_all
 exact .same (by simp only [frzV];rw [if_neg this])
theorem fSlO {n0 t u sz o n c:Nat} {ds:List D} (h:Nat.beq u t=false):WkV (frzV (n0+t) ds (.sl sz (n0+u) o n c)) (.sl sz (n0+u) o n c):=by
 have:¬ n0+u=n0+t:=by
  intro e
  simp_all
 exact .same (by simp only [frzV];rw [if_neg this])
theorem fSl {n0 t sz o n c:Nat} {ds:List D} {l:List (List D)} (h:(Nat.ble (o+n*sz) ds.length&&Nat.ble n c)=true) (hl:Qh8 sz n ((ds.drop o).take (n*sz))=l):WkV (frzV (n0+t) ds (.sl sz (n0+t) o n c)) (.d (.lst sz l)):=by
 simp only [Bool.and_eq_true] at h
 grind [Nat.le_of_ble_eq_true,frzV,frzL,Qbed]
def nilO {α R:Type} [DecidableEq R] (l:List α) (K:Bool→Option R):Option R :=
 match l with
 | []=>if K true=K false then K false else none
 | _::_=>K false
theorem Qbef {α R:Type} [DecidableEq R] {l:List α} {K:Bool→Option R} {r:R} (h:nilO l K=some r) (b:Bool) (hb:b=true→l.length=0):K b=some r:=by
 cases l with
 | nil =>
  simp only [nilO] at h;split at h
  ·rename_i he;cases b with
   | true=>rw [he];exact h
   | false=>exact h
  ·cases h
 | cons x l =>
  cases b with
  | true=>simp at hb
  | false=>exact h
variable {pc d nb:Nat} {os:List COp} {E:List (Nat×V)} {M:Mem} {Q:St→Prop} {gd:Option (Nat×Bool)} {a:Arg}
theorem Rn.isnil {α R:Type} [DecidableEq R] {e:α→List D} {sz:Nat} {xs:List α} {neg:Bool} {J:Bool→Option R} {r:R} (hw:Wn E gd) (ha:(a.val (look E)).dem = .d (.lst sz (xs.map e))) (h:nilO xs J=some r)
  (hk:∀ b,J b=some r→Rn Γ 9 os ⟨look ((d,.d (.bool (bif neg then !b else b)))::E),M,nb⟩ Q):Rn Γ 9 (⟨some d,.isnil neg,[a],false,gd⟩::os) ⟨look E,M,nb⟩ Q:=by
 refine Rn.cons ?_;unfold COp.run;rw [hw.wanted];simp only [show (Abs.K.isnil neg).isCall=false from rfl,show (Abs.K.isnil neg).isNil=true from rfl,Bool.false_eq_true,if_false,if_true,COp.runN,COp.xs,List.map_cons,List.map_nil,V.dems,ha,Q2l,List.length_map,Abs.K.negNil];intro b hb;have e1:∀ v,Q9 (look E) (some d) v=look ((d,v)::E):=fun v=>Qcv E d v;have h2:=hk b (Qbef h b hb)
 grind
end Go.Abs
end
section
namespace Go.Abs
open Go
variable {Γ:Env} {σ:St}
def G.ow (g:G) (k n:Nat) (ℓ:Owner) [DecidablePred fun b=>b=g.box k]:G:=⟨g.box,fun b o=>g.imm b o∨(b=g.box k∧o<n),fun b=>if b=g.box k then ℓ else g.own b⟩
section
variable {g:G} {w:World} {k n:Nat} {ℓ0:Owner} (hB:g.own (g.box k) = .box k)
include hB
mutual
theorem Qbjv [DecidablePred fun b=>b=g.box k]:∀ (v:V) (ℓ:Owner) (u:Value),ℓ ≠ .box k→RV g w v ℓ u→RV (g.ow k n ℓ0) w v ℓ u
 | .und,_,_,_,_=>by simp [RV]
 | .d x,_,_,_,h=>by
  simp only [RV] at h ⊢;exact Qf0 ⟨fun _ _ h=>.inl h,fun _ _ _=>rfl⟩ x _ h
 | .agg cs,ℓ,u,hl,h=>by
  simp only [RV] at h ⊢;obtain ⟨vs,rfl,h,h1⟩:=h;exact ⟨vs,rfl,RVs_ow cs ℓ 0 vs h,h1⟩
 | .tup cs,ℓ,u,hl,h=>by
  simp only [RV] at h ⊢;obtain ⟨vs,rfl,h⟩:=h;exact ⟨vs,rfl,RVs_ow cs ℓ 0 vs h⟩
 | .own sz l,ℓ,u,hl,h=>by
  simp only [RV] at h ⊢;rcases h with h|⟨b,cap,vals,e,h1,h2,h3,h4,h5,h6,h7,h8⟩
  ·exact .inl h
  ·have hne:b≠g.box k:=by rintro rfl;rw [hB] at h2;exact hl h2.symm
   refine .inr ⟨b,cap,vals,e,h1,by simp [G.ow,hne,h2],h3,h4,h5,h6,fun o=>?_,RDL_mono ⟨fun _ _ h=>.inl h,fun _ _ _=>rfl⟩ sz b l 0 h8⟩;rw [← h7 o];simp [G.ow,hne]
 | .ownT sz l,ℓ,u,hl,h=>by
  simp only [RV] at h ⊢;rcases h with h|⟨b,o0,cap,vals,e,h1,h2,h3,h4,h5,h6,h7,h8⟩
  ·exact .inl h
  ·have hne:b≠g.box k:=by rintro rfl;rw [hB] at h2;exact hl h2.symm
   refine .inr ⟨b,o0,cap,vals,e,h1,by simp [G.ow,hne,h2],h3,h4,h5,h6,fun o=>?_,RDL_mono ⟨fun _ _ h=>.inl h,fun _ _ _=>rfl⟩ sz b l o0 h8⟩;rw [← h7 o];simp [G.ow,hne]
 | .ptr k' o,ℓ,u,hl,h=>by simpa [RV,G.ow] using h
 | .nilp,_,_,_,h=>by simpa [RV] using h
 | .f x,_,u,_,h=>by
  simp only [RV] at h ⊢;refine Qf0 (Qbaf (g:=g) (g':=g.ow k n ℓ0) fun b o h1 h2=>⟨.inl h1,?_⟩) x u h;have hne:b≠g.box k:=by rintro rfl;rw [hB] at h2;cases h2
  simp [G.ow,hne,h2]
 | .nils _,_,_,_,h=>by simpa [RV] using h
 | .cref cs,ℓ,u,hl,h=>by
  simp only [RV] at h ⊢;obtain ⟨b,o,rfl,h⟩:=h;exact ⟨b,o,rfl,Qy1 ⟨fun _ _ h=>.inl h,fun _ _ _=>rfl⟩ b cs o h⟩
 | .sl sz k' o n c,ℓ,u,hl,h=>by simpa [RV,G.ow] using h
 | .clo f cs,ℓ,u,hl,h=>by
  simp only [RV] at h ⊢;obtain ⟨vs,rfl,h⟩:=h;exact ⟨vs,rfl,RVs_ow cs .ext 0 vs h⟩
 | .mp k',ℓ,u,hl,h=>by simpa [RV,G.ow] using h
theorem RVs_ow [DecidablePred fun b=>b=g.box k]:∀ (cs:List V) (ℓ:Owner) (i:Nat) (us:List Value),RVs g w cs ℓ i us→RVs (g.ow k n ℓ0) w cs ℓ i us
 | [],_,_,_,h=>by simpa [RVs] using h
 | c::cs,ℓ,i,us,h=>by
  simp only [RVs] at h ⊢;obtain ⟨u,us',rfl,h1,h2⟩:=h;have hne:ℓ.sub i ≠ .box k:=by cases ℓ<;>simp [Owner.sub]
  exact ⟨u,us',rfl,Qbjv c (ℓ.sub i) u hne h1,RVs_ow cs ℓ (i+1) us' h2⟩
end
end
open Classical in
theorem Qbgh {t t0 sz n:Nat} {cs:List V} {ds:List D} (hM:σ.M (Γ.n0+t)=some (.cells cs)) (hd:toDs cs=some ds) (hs0:σ.s t0 = .sl sz (Γ.n0+t) 0 n n) (hn:(Nat.beq (n*sz) ds.length&&Nat.ble n 65536)=true) :
  WeakSt Γ σ ⟨(Qlc Γ.n0 [t] σ).s.put t0 (.own sz (Qh8 sz n ds)),(Qlc Γ.n0 [t] σ).M,σ.nb⟩:=by
 intro a w g hs;simp only [Bool.and_eq_true] at hn;have hn1:n*sz=ds.length:=Nat.eq_of_beq_eq_true hn.1;have hn2:=Nat.le_of_ble_eq_true hn.2;have hc:=Q2c hs [t];have hB:g.own (g.box (Γ.n0+t)) = .box (Γ.n0+t):=(hs.mem.box _ _ hM).2.1;obtain ⟨hl,hg⟩:=Qte hd;have hself:Qiz Γ.n0 [t] (Γ.n0+t)=true:=by simp [Qiz]
 have hgone:∀ j,There (Qlc Γ.n0 [t] σ).M j→j≠Γ.n0+t:=by
  rintro j hj rfl;simp [There,Qlc,hself] at hj
 have hD:RDc (g.ow (Γ.n0+t) (n*sz) (.slot t0 [])).imm w (g.box (Γ.n0+t)) ds 0:=by
  refine Qxn fun j y hj=>?_;have hlt:=(List.getElem?_eq_some_iff.1 hj).1;have hcj:cs[j]? = some (cs[j]'(by omega)):=List.getElem?_eq_getElem _;obtain ⟨u,h1,h2,h3⟩:=Qws hs.mem hM hcj;refine ⟨.inr ⟨rfl,by omega⟩,u,by simpa using h1,?_⟩;exact Qf0 ⟨fun _ _ h=>.inl h,fun _ _ _=>rfl⟩ y u (Qva (hg j _ y hcj hj) h2)
 refine ⟨g.ow (Γ.n0+t) (n*sz) (.slot t0 []),⟨⟨fun j b hb=>?_,fun b o hbo=>?_⟩,fun i=>?_,hs.size,hs.defers,fun i=>?_,hc.onM,hs.top,?_⟩⟩
 ·have hjk:=hgone j (by simp [There,show (Qlc Γ.n0 [t] σ).M j=some b from hb]);obtain ⟨h1,h2,h3⟩:=hc.mem.box j b hb;have hne:g.box j≠g.box (Γ.n0+t):=by
   intro e;rw [e,hB] at h2;cases h2;exact hjk rfl
  refine ⟨h1,by simp [G.ow,hne,h2],?_⟩;cases b with
  | mp es c =>
   obtain ⟨ents,k1,k2⟩:=h3;exact ⟨ents,k1,Q7h (g:=g) (g':=g.ow (Γ.n0+t) (n*sz) (.slot t0 [])) ⟨fun _ _ h=>.inl h,fun _ _ _=>rfl⟩ (fun b i hbi _=>by have hne2:b≠g.box (Γ.n0+t):=(by rintro rfl;rw [hB] at hbi;cases hbi);exact ⟨by simp [G.ow,hne2,hbi],rfl,fun o=>by simp [G.ow,hne2]⟩) k2⟩
  | cells cs2 =>
   obtain ⟨vals,e,k1,k2,k3⟩:=h3;exact ⟨vals,e,k1,RVs_ow hB _ _ _ _ k2,k3⟩
 ·rcases hbo with hbo|⟨rfl,hlt⟩
  ·obtain ⟨h1,h2⟩:=hs.mem.imm b o hbo;refine ⟨h1,fun j=>?_⟩;simp only [G.ow];split
   ·simp
   ·exact h2 j
  ·refine ⟨?_,fun j=>by simp [G.ow]⟩;obtain ⟨_,_,vals,e,k1,_,_⟩:=hs.mem.box _ _ hM;exact (Array.getElem?_eq_some_iff.1 k1).1
 ·simp only [Sl.put];split
  ·rename_i he;subst he;have h0:=hs.slots i;rw [hs0] at h0;simp only [RV] at h0 ⊢;obtain ⟨_,_,vals,e,k1,k2,k3⟩:=hs.mem.box _ _ hM;have hvl:=Qor k2;obtain ⟨q1,q2,q3⟩:=Qrz n sz ds hn1.symm;refine .inr ⟨g.box (Γ.n0+t),n,vals.toArray,e,by rw [q1];exact h0,by simp [G.ow],k1,by omega,by unfold maxLen;omega,⟨by simp;omega,fun u hu=>k3 u (by simpa using hu)⟩,fun o=>?_,Q1g fun i x hx=>⟨q2 x (List.mem_of_getElem? hx),Qxn fun j y hy=>?_⟩⟩
   ·have hno:¬ g.imm (g.box (Γ.n0+t)) o:=fun h=>(hs.mem.imm _ _ h).2 _ hB;simp [G.ow,hno,q1]
   ·have h4:=q3 i x j y hx hy;have:=Qta hD _ y h4;rw [show 0+(i*sz+j)=0+i*sz+j from by omega] at this;exact this
  ·exact Qbjv hB _ _ _ (by simp) (hc.slots i)
 ·simp only [Sl.put];split
  ·trivial
  ·exact hc.onS i
 ·have hf:=hs.fr;refine ⟨hf.os,hf.tape,hf.output,hf.size,⟨fun b o h=>.inl (hf.imm.mono b o h),hf.imm.look⟩,hf.box,fun b hb ho=>?_⟩;obtain ⟨h1,h2,h3⟩:=hf.old b hb ho;have hne:b≠g.box (Γ.n0+t):=by
   rintro rfl;rw [hB] at h1;rw [← h1] at ho;exact ho
  exact ⟨by simp [G.ow,hne,h1],h2,fun o=>by simp [G.ow,hne,h3]⟩
theorem Qr5 (t t0:Nat) {sz n:Nat} {E E' : List (Nat×V)} {L:List (Nat×Bx)} {L' : List (Nat×Bx)} {M0:Mem} {nb:Nat} {cs:List V} (ds:List D) (hM:Qb2 L t=some (.cells cs)) (hd:toDs cs=some ds) (hs0:look E t0 = .sl sz (Γ.n0+t) 0 n n)
  (hn:(Nat.beq (n*sz) ds.length&&Nat.ble n 65536)=true) {l:List (List D)} (hl:Qh8 sz n ds=l) (hE:KL Γ.n0 [t] (look E) E') (hL:KB Γ.n0 [t] L L') (hk:(L.all fun p=>[t].any (Nat.beq p.1)||L'.any fun q=>Nat.beq p.1 q.1)=true) :
  WeakSt Γ ⟨look E,Qm Γ.n0 L M0,nb⟩ ⟨look ((t0,.own sz l)::E'),Qm Γ.n0 (bxs L') M0,nb⟩:=by
 intro a w g hs;subst hl;have hwk:∀ i,WkV ((Qlc Γ.n0 [t] ⟨look E,Qm Γ.n0 L M0,nb⟩).s.put t0 (.own sz (Qh8 sz n ds)) i) (look ((t0,.own sz (Qh8 sz n ds))::E') i):=by
  intro i;simp only [Sl.put,look];cases hb:Nat.beq i t0 with
  | true=>grind [Nat.eq_of_beq_eq_true,WkV.refl]
  | false =>
   have:i≠t0:=fun e=>by subst e;simp at hb
   simp only [this,if_false,cond_false];exact hE.at i
 obtain ⟨g1,h1⟩:=Qbgh (σ:=⟨look E,Qm Γ.n0 L M0,nb⟩) (t:=t) (t0:=t0) (by grind [Qm,Qdh]) hd hs0 hn a w g hs;exact Qba2 (Γ:=Γ) (sites:=[t]) (E:=E) hwk hL hk a w g1 h1
variable {pc d nb:Nat} {os:List COp} {E:List (Nat×V)} {M M0:Mem} {L:List (Nat×Bx)} {Q:St→Prop} {gd:Option (Nat×Bool)} {b:Arg} {α:Type} {e:α→List D}
theorem Rn.app0 {t u sz bytes:Nat} {ys zs:List α} {src:V} {cs:List V} (hw:Wn E gd) (ha:look E t = .sl sz (Γ.n0+u) 0 0 0) (hM:Qb2 L u=some (.cells cs)) (hb:b.val (look E)=src) (hf:src.dem=src) (hs:Qf7 (Qm Γ.n0 L M0) sz src=some (ys.map e)) (hx:appO ([]:List α) ys=some zs) (hbd:(Nat.ble bytes 128&&Nat.ble 1 sz)=true)
  (h:Rn Γ pc os ⟨look ((d,.own sz (zs.map e))::E),Qm Γ.n0 L M0,nb⟩ Q):Rn Γ pc (⟨some d,.append sz bytes,[.t t,b],true,gd⟩::os) ⟨look E,Qm Γ.n0 L M0,nb⟩ Q:=by
 unfold appO at hx;split at hx<;>cases hx;rename_i hl;simp only [Bool.and_eq_true] at hbd;have h1:=Nat.le_of_ble_eq_true hbd.1;have h2:0<sz:=Nat.le_of_ble_eq_true hbd.2;have hm:[Arg.t t,b].map (fun x=>x.val (look E))=[V.sl sz (Γ.n0+u) 0 0 0,src]:=by
  simp only [List.map_cons,List.map_nil,hb];rw [show (Arg.t t).val (look E)=_ from ha]
 have he:Qf7 (Qm Γ.n0 L M0) sz (.sl sz (Γ.n0+u) 0 0 0)=some []:=by simp [Qf7,Qeh hM,toDs,Qh8]
 refine Rn.kT hw rfl rfl (v:=.own sz (([]++ys).map e)) ?_ (fun i=>?_) h
 ·rw [hm];simp only [Qh,he,hs]
  grind
 ·rw [hm];simp only [Qbu,hf,show (V.sl sz (Γ.n0+u) 0 0 0).dem = .sl sz (Γ.n0+u) 0 0 0 from rfl,Qz,show ∀ s v,(Arg.t t).putTo s v=s.put t v from fun _ _=>rfl];have hz:∀ (a:Arg) (v:V) (s:Sl),a.val s=v→a.putTo s v=s:=by
   intro a v s hs;cases a with
   | c v=>rfl
   | t j =>
    simp only [Arg.val] at hs;funext i;simp_all [Arg.putTo,Sl.put]
  have e1:(look E).put t (.sl sz (Γ.n0+u) 0 0 0)=look E:=hz (.t t) _ _ ha;rw [e1,hz b src _ hb,Qcv]
end Go.Abs
namespace Go.Abs
open Go
theorem WkV.nilsO (sz:Nat):WkV (.nils sz) (.own sz []):=⟨fun g w ℓ u h=>by
 simp_all [RV,trivial],fun _ _=>trivial⟩
theorem WkV.nilsD (sz:Nat):WkV (.nils sz) (.d (.lst sz [])):=⟨fun g w ℓ u h=>by
 simp only [RV] at h ⊢;obtain ⟨a,rfl⟩:=h;simp [RD],fun _ _=>trivial⟩
theorem WkVs.rf {g:G} {w:World} {vs vs' : List V} (h:WkVs vs vs'):∀ {us:List Value},RFs g w vs us→RFs g w vs' us:=by
 induction h with
 | nil=>exact fun h=>h
 | cons h t ih =>
  rintro us ⟨u,us',e,h1,h2⟩;exact ⟨u,us',e,fun ℓ=>h.rd _ _ _ _ (h1 ℓ),ih h2⟩
theorem RAs.weak {g:G} {w:World} {vs vs' : List V} (h:WkVs vs vs'):∀ {j:Nat} {us:List Value},RAs g w j vs us→RAs g w j vs' us:=by
 induction h with
 | nil=>exact fun h=>h
 | cons h t ih =>
  rintro j us ⟨u,us',e,h1,h2⟩;exact ⟨u,us',e,h.rd _ _ _ _ h1,ih h2⟩
theorem ACalls.weakO {P:Program} {f:FuncId} {args args' : List V} {M M' : Mem} {nb nb' : Nat} {r:V} (h:ACalls P f args' M nb r M' nb') (hw:WkVs args args'):ACalls P f args M nb r M' nb' :=
 ⟨h.1,h.2.1,fun w g us hm hMon hus hons=>h.2.2 w g us hm hMon (hus.weak hw) (hw.on _ hons)⟩
theorem ACalls.weak {P:Program} {f:FuncId} {args args' : List V} {M M' : Mem} {nb nb' : Nat} {r:V} (h:ACalls P f args' M nb r M' nb') (hw:WkVs args args') (hf:V.dems args'=args'):ACalls P f args M nb r M' nb':=h.weakO hw
end Go.Abs
end
section
namespace Go.Abs
open Go
variable {α:Type}
def Qei (g:α→List V) (xs:List α):List V:=(xs.map g).flatten
theorem Qk1 (g:α→List V) (x:α) (xs:List α):Qei g (x::xs)=g x++Qei g xs:=by simp [Qei]
theorem Qm9 {g:α→List V} {sz:Nat} (hg:∀ x,(g x).length=sz):∀ xs:List α,(Qei g xs).length=xs.length*sz
 | []=>by simp [Qei]
 | x::xs=>by rw [Qk1,List.length_append,hg,Qm9 hg xs,List.length_cons,Nat.add_mul];omega
theorem Q0p {g:α→List V} {sz:Nat} (hg:∀ x,(g x).length=sz):∀ (xs:List α) (i:Nat),i≤xs.length→(Qei g xs).drop (i*sz)=Qei g (xs.drop i)
 | xs,0,_=>by simp
 | [],i+1,h=>by simp at h
 | x::xs,i+1,h=>by
  rw [Qk1,Nat.add_mul,Nat.add_comm,Nat.one_mul,← List.drop_drop,show (g x++Qei g xs).drop sz=Qei g xs from by rw [← hg x];simp];rw [Q0p hg xs i (by simpa using h)]
  rfl
theorem Q5o {g:α→List V} {sz:Nat} (hg:∀ x,(g x).length=sz):∀ (xs:List α) (i:Nat),i≤xs.length→(Qei g xs).take (i*sz)=Qei g (xs.take i)
 | xs,0,_=>by simp [Qei]
 | [],i+1,h=>by simp at h
 | x::xs,i+1,h=>by
  simp_all [Qk1,Nat.add_mul,Nat.add_comm,Nat.one_mul,List.take_append,List.take_of_length_le,Q5o,List.take_succ_cons]
theorem Qbeg {g:α→List V} {sz:Nat} (hg:∀ x,(g x).length=sz) {xs:List α} {i:Nat} {x:α} (hx:xs[i]? = some x):((Qei g xs).drop (i*sz)).take sz=g x:=by
 grind [List.getElem?_eq_some_iff,Q0p,List.drop_eq_getElem_cons,Qk1]
theorem Q3k {g:α→List V} {sz:Nat} (hg:∀ x,(g x).length=sz) {xs:List α} {i:Nat} (y:α) (hi:i<xs.length):(Qei g xs).take (i*sz)++g y++(Qei g xs).drop (i*sz+sz)=Qei g (xs.set i y):=by
 rw [Q5o hg xs i (by omega),show i*sz+sz=(i+1)*sz from by grind,Q0p hg xs (i+1) (by omega)];rw [List.set_eq_take_append_cons_drop,if_pos hi];simp [Qei]
theorem Qbeh (g:α→List V) (x:α) (n:Nat):Qei g (List.replicate n x)=rep n (g x):=by simp [Qei,rep]
def mkO (n:Int) (x:α):Option (List α):=if 0≤n∧n≤lim then some (List.replicate n.toNat x) else none
def inO (len:Nat) (i:Int):Option Unit:=if 0≤i∧i<len then some () else none
def setO (l:List α) (i:Int) (y:α):Option (List α):=if 0≤i∧i.toNat<l.length then some (l.set i.toNat y) else none
variable {Γ:Env} {pc d nb:Nat} {os:List COp} {E:List (Nat×V)} {M M0:Mem} {L:List (Nat×Bx)} {Q:St→Prop} {gd:Option (Nat×Bool)} {a b:Arg} {g:α→List V} {xs:List α} {sz:Nat}
theorem Rn.makes {bytes:Nat} {z:List V} {n:Int} {x:α} (hw:Wn E gd) (ha:a.val (look E) = .d (.int .i64 n)) (hb:b.val (look E) = .d (.int .i64 n)) (hf:(Qb2 L d).isNone=true) (hz:g x=z) (hc:(Nat.ble bytes 128&&Nat.beq z.length sz&&Nat.ble 1 sz)=true) (hx:mkO n x=some xs)
  (h:Rn Γ pc os ⟨look ((d,.sl sz (Γ.n0+d) 0 n.toNat n.toNat)::E),Qm Γ.n0 ((d,.cells (Qei g xs))::L) M0,nb⟩ Q):Rn Γ pc (⟨some d,.makes sz bytes z,[a,b],false,gd⟩::os) ⟨look E,Qm Γ.n0 L M0,nb⟩ Q:=by
 unfold mkO at hx;split at hx<;>cases hx;rename_i hn;simp only [Bool.and_eq_true] at hc;have h1:=Nat.le_of_ble_eq_true hc.1.1;have h2:z.length=sz:=Nat.eq_of_beq_eq_true hc.1.2;have h3:0<sz:=Nat.le_of_ble_eq_true hc.2;refine Rn.k hw rfl rfl ?_ h
 simp_all [List.map_cons,List.map_nil,V.dems,V.dem,Qh,Qmn,if_pos,Qd2,Qbeh]
theorem Rn.idxA {k len cap:Nat} {kk:IntKind} {i:Int} (hw:Wn E gd) (ha:(a.val (look E)).dem = .sl sz k 0 len cap) (hb:b.val (look E) = .d (.int kk i)) (hx:inO len i=some ()) (h:Rn Γ pc os ⟨look ((d,.ptr k (0+i.toNat*sz))::E),M,nb⟩ Q) :
  Rn Γ pc (⟨some d,.idx sz,[a,b],false,gd⟩::os) ⟨look E,M,nb⟩ Q:=by
 unfold inO at hx;split at hx<;>cases hx;rename_i hc;refine Rn.k hw rfl rfl ?_ h
 grind [V.dems,V.dem,Qh]
theorem Rn.lenA {k off len cap:Nat} (hw:Wn E gd) (ha:(a.val (look E)).dem = .sl sz k off len cap) (h:Rn Γ pc os ⟨look ((d,.d (.int .i64 len))::E),M,nb⟩ Q):Rn Γ pc (⟨some d,.len,[a],false,gd⟩::os) ⟨look E,M,nb⟩ Q:=by
 refine Rn.k hw rfl rfl ?_ h;simp [ha,V.dems,Qh]
theorem Rn.loadA {k f n:Nat} {ag:Bool} {i:Int} {x:α} {v:V} (hg:∀ x,(g x).length=sz) (hw:Wn E gd) (ha:a.val (look E) = .ptr k (0+i.toNat*sz+f)) (hM:M k=some (.cells (Qei g xs))) (hx:getO xs i=some x) (hn:Nat.ble (f+max n 1) sz=true)
  (hv:(if ag then some (.agg (V.dems (((g x).drop f).take n))) else ((g x)[f]?).map (·.dem))=some v) (h:Rn Γ pc os ⟨look ((d,v)::E),M,nb⟩ Q):Rn Γ pc (⟨some d,.load ag n,[a],false,gd⟩::os) ⟨look E,M,nb⟩ Q:=by
 have hn:=Nat.le_of_ble_eq_true hn;unfold getO at hx;split at hx<;>try (cases hx;done)
 obtain ⟨hlt,hx'⟩:=List.getElem?_eq_some_iff.1 hx;have hl:=Qm9 hg xs;have hge:=Qbeg hg hx;have hb:i.toNat*sz+sz≤xs.length*sz:=by
  grind
 refine Rn.k hw rfl rfl ?_ h;simp only [List.map_cons,List.map_nil,V.dems,ha,V.dem,Qh,hM];rw [if_pos (by rw [hl];omega)];have hdrop:(Qei g xs).drop (0+i.toNat*sz+f)=((Qei g xs).drop (i.toNat*sz)).drop f:=by simp_all
 cases ag with
 | true =>
  simp only [if_true,Option.some.injEq] at hv ⊢
  grind [List.drop_take,Min.min]
 | false =>
  grind
theorem Rn.storeA {t:Nat} {i:Int} {y:α} {ys:List α} {v:V} (hg:∀ x,(g x).length=sz) (hw:Wn E gd) (ha:a.val (look E) = .ptr (Γ.n0+t) (0+i.toNat*sz)) (hb:(b.val (look E)).dem=v) (hv:Qd5 v=true) (hM:Qb2 L t=some (.cells (Qei g xs))) (hc:v.cells=g y)
  (hx:setO xs i y=some ys) (h:Rn Γ pc os ⟨look E,Qm Γ.n0 ((t,.cells (Qei g ys))::L) M0,nb⟩ Q):Rn Γ pc (⟨none,.store sz,[a,b],false,gd⟩::os) ⟨look E,Qm Γ.n0 L M0,nb⟩ Q:=by
 unfold setO at hx;split at hx<;>cases hx;rename_i hi;have hl:=Qm9 hg xs;have hb2:i.toNat*sz+sz≤xs.length*sz:=by
  rw [show i.toNat*sz+sz=(i.toNat+1)*sz from by grind];exact Nat.mul_le_mul_right _ hi.2
 refine Rn.store (cs':=Qei g (xs.set i.toNat y)) hw ha hb hv hM ?_ ?_ h
 ·simp_all
 ·rw [hc,Nat.zero_add];exact Q3k hg y hi.2
theorem Qbhd {f:V→V} (h:∀ x,(g x).map f=g x):WkVs ((Qei g xs).map f) (Qei g xs):=by
 refine .same ?_
 grind [Qei,List.map_map,List.map_congr_left]
def lenO (l:List α) (n:Nat):Option Unit:=if l.length=n then some () else none
theorem Qg1 {l:List α} {n:Nat} (h:lenO l n=some ()):l.length=n:=by
 grind [lenO]
theorem Q3l:∀ {a b:List V} {x y:List D},toDs a=some x→toDs b=some y→toDs (a++b)=some (x++y)
 | [],b,x,y,h,k=>by grind [toDs]
 | v::a,b,x,y,h,k=>by
  simp only [toDs] at h;split at h<;>try (cases h;done)
  rename_i d ds hd hds;cases h;simp only [List.cons_append,toDs,hd,Q3l hds k]
theorem Qr6 {e:α→List D} (h:∀ x,toDs (g x)=some (e x)):∀ xs:List α,toDs (Qei g xs)=some ((xs.map e).flatten)
 | []=>rfl
 | x::xs=>by rw [Qk1,List.map_cons,List.flatten_cons];exact Q3l (h x) (Qr6 h xs)
theorem Qx6 {e:α→List D} {sz:Nat} (h:∀ x,(e x).length=sz):∀ xs:List α,Qh8 sz xs.length ((xs.map e).flatten)=xs.map e
 | []=>rfl
 | x::xs=>by
  simp only [List.length_cons,Qh8,List.map_cons,List.flatten_cons];have h1:(e x++(xs.map e).flatten).take sz=e x:=by rw [← h x];simp
  have h2:(e x++(xs.map e).flatten).drop sz=(xs.map e).flatten:=by rw [← h x];simp
  rw [h1,h2,Qx6 h xs]
theorem Qx7 {e:α→List D} {sz:Nat} (h:∀ x,(e x).length=sz):∀ xs:List α,((xs.map e).flatten).length=xs.length*sz
 | []=>by simp
 | x::xs=>by simp only [List.map_cons,List.flatten_cons,List.length_append,h,Qx7 h xs,List.length_cons,Nat.add_mul];omega
theorem fSlA {n0 t n:Nat} {e:α→List D} {xs:List α} (h:∀ x,(e x).length=sz) (hn:xs.length=n):WkV (frzV (n0+t) ((xs.map e).flatten) (.sl sz (n0+t) 0 n n)) (.d (.lst sz (xs.map e))):=by
 subst hn;have h1:=Qx7 h xs
 simp_all [List.drop_zero,List.take_of_length_le,frzV,if_true,if_pos,Nat.le_refl,Qx6,Qbed]
end Go.Abs
end
section
namespace Go.Abs
open Go
def Qt5:D→Bool
 | .lst _ l=>l.isEmpty
 | .mp ..=>false
 | _=>true
def Qno (l:List (List D)):Bool:=l.all fun x=>x.all Qt5
def Qgd:V→Bool
 | .d (.mp ..)=>true
 | .d x=>Qt5 x
 | .own _ l=>Qno l
 | .ownT _ l=>Qno l
 | .cref cs=>cs.isEmpty
 | .agg cs=>go cs
 | .tup vs=>go vs
 | .clo _ vs=>go vs
 | _=>true
where go:List V→Bool
 | []=>true
 | v::vs=>Qgd v&&go vs
theorem Qba4:∀ vs:List V,Qgd.go vs=true↔∀ v∈vs,Qgd v=true
 | []=>by simp [Qgd.go]
 | v::vs=>by simp [Qgd.go,Qba4 vs]
def Q1o:List (V×V×Nat)→Prop
 | []=>True
 | x::r=>Qgd x.1=true∧Qgd x.2.1=true∧Q1o r
theorem Qwy {imm imm' : Nat→Nat→Prop} {w:World} {x:D} {u:Value} (hp:Qt5 x=true) (h:RD imm w x u):RD imm' w x u:=by
 cases x with
 | int k n=>simpa [RD] using h
 | bool b=>simpa [RD] using h
 | str s=>simpa [RD] using h
 | lst sz l =>
  simp_all [Qt5,List.isEmpty_iff,RD,trivial]
 | mp es c=>cases hp
theorem Q78 {imm imm' : Nat→Nat→Prop} {w:World} {b:Nat} (hi:∀ o,imm b o→imm' b o):∀ {xs:List D} {o:Nat},xs.all Qt5=true→RDc imm w b xs o→RDc imm' w b xs o
 | [],_,_,_=>by simp [RDc]
 | x::xs,o,hp,h=>by
  simp only [List.all_cons,Bool.and_eq_true] at hp;simp only [RDc] at h ⊢;obtain ⟨h1,⟨u,h2,h3⟩,h4⟩:=h;exact ⟨hi _ h1,⟨u,h2,Qwy hp.1 h3⟩,Q78 hi hp.2 h4⟩
theorem Qzc {imm imm' : Nat→Nat→Prop} {w:World} {sz b:Nat} (hi:∀ o,imm b o→imm' b o):∀ {l:List (List D)} {o:Nat},Qno l=true→RDL imm w sz b l o→RDL imm' w sz b l o
 | [],_,_,_=>by simp [RDL]
 | x::l,o,hp,h=>by
  simp only [Qno,List.all_cons,Bool.and_eq_true] at hp;simp only [RDL] at h ⊢;exact ⟨h.1,Q78 hi hp.1 h.2.1,Qzc hi (by simpa [Qno] using hp.2) h.2.2⟩
theorem Qba5 {imm:Nat→Nat→Prop} {w:World} {sz b:Nat}:∀ {l:List (List D)} {o:Nat},RDL imm w sz b l o→l.flatten.length=l.length*sz∧∀ (j:Nat) y,l.flatten[j]? = some y→∃ u,w.cell? ⟨b,o+j,none⟩=some u∧RD imm w y u
 | [],o,_=>by simp
 | x::l,o,h=>by
  simp only [RDL] at h;obtain ⟨h1,h2,h3⟩:=h;obtain ⟨h4,h5⟩:=Qba5 h3;refine ⟨by simp [h1,h4,Nat.add_mul];omega,fun j y hj=>?_⟩;simp only [List.flatten_cons] at hj;by_cases hlt:j<x.length
  ·rw [List.getElem?_append_left hlt] at hj;obtain ⟨_,u,h6,h7⟩:=Qta h2 j y hj;exact ⟨u,h6,h7⟩
  ·rw [List.getElem?_append_right (by omega)] at hj;obtain ⟨u,h6,h7⟩:=h5 _ y hj;exact ⟨u,by rw [show o+j=o+sz+(j-x.length) from by omega];exact h6,h7⟩
def G.th (g:G) (b κ:Nat) [DecidablePred fun b'=>b'=b]:G:=⟨fun k=>if k=κ then b else g.box k,fun b' o=>g.imm b' o∧b' ≠ b,fun b'=>if b'=b then .box κ else g.own b'⟩
section
variable {g:G} {w:World} {b κ:Nat} {keep:Owner→Prop} (hB:¬ keep (g.own b)) (hs:∀ ℓ i,keep ℓ→keep (ℓ.sub i)) (he:keep .ext) (hm:Qxy w b=none)
include hB hs he hm
mutual
theorem Qbcf [DecidablePred fun b'=>b'=b]:∀ (v:V) (ℓ:Owner) (u:Value),Qgd v=true→v.on (· ≠ κ)→keep ℓ→RV g w v ℓ u→RV (g.th b κ) w v ℓ u
 | .und,_,_,_,_,_,_=>by simp [RV]
 | .d x,_,u,hp,_,_,h=>by
  cases x with
  | mp es c =>
   simp only [RV,RD] at h ⊢;obtain ⟨b',h0,h1,h2⟩:=h;refine ⟨b',h0,⟨h1,?_⟩,h2⟩;rintro rfl;rw [hm] at h2;cases h2
  | int k n=>simp only [RV] at h ⊢;exact Qwy (x:=.int k n) rfl h
  | bool b=>simp only [RV] at h ⊢;exact Qwy (x:=.bool b) rfl h
  | str s=>simp only [RV] at h ⊢;exact Qwy (x:=.str s) rfl h
  | lst sz l=>simp only [RV] at h ⊢;exact Qwy (x:=.lst sz l) hp h
 | .agg cs,ℓ,u,hp,ho,hl,h=>by
  simp only [RV,Qgd] at hp h ⊢;obtain ⟨vs,rfl,h,h1⟩:=h;exact ⟨vs,rfl,RVs_th cs ℓ 0 vs hp ho hl h,h1⟩
 | .tup cs,ℓ,u,hp,ho,hl,h=>by
  simp only [RV,Qgd] at hp h ⊢;obtain ⟨vs,rfl,h⟩:=h;exact ⟨vs,rfl,RVs_th cs ℓ 0 vs hp ho hl h⟩
 | .own sz l,ℓ,u,hp,ho,hl,h=>by
  simp only [RV,Qgd] at hp h ⊢;rcases h with h|⟨b',cap,vals,e,h1,h2,h3,h4,h5,h6,h7,h8⟩
  ·exact .inl h
  ·have hne:b' ≠ b:=by rintro rfl;rw [h2] at hB;exact hB hl
   refine .inr ⟨b',cap,vals,e,h1,by simp [G.th,hne,h2],h3,h4,h5,h6,fun o=>?_,Qzc (fun o ho=>⟨ho,hne⟩) hp h8⟩;rw [← h7 o];simp [G.th,hne]
 | .ownT sz l,ℓ,u,hp,ho,hl,h=>by
  simp only [RV,Qgd] at hp h ⊢;rcases h with h|⟨b',o0,cap,vals,e,h1,h2,h3,h4,h5,h6,h7,h8⟩
  ·exact .inl h
  ·have hne:b' ≠ b:=by rintro rfl;rw [h2] at hB;exact hB hl
   refine .inr ⟨b',o0,cap,vals,e,h1,by simp [G.th,hne,h2],h3,h4,h5,h6,fun o=>?_,Qzc (fun o ho=>⟨ho,hne⟩) hp h8⟩;rw [← h7 o];simp [G.th,hne]
 | .ptr k' o,ℓ,u,_,ho,hl,h=>by
  have:k' ≠ κ:=ho;simpa [RV,G.th,this] using h
 | .nilp,_,_,_,_,_,h=>by simpa [RV] using h
 | .f x,_,u,_,_,_,h=>by
  simp only [RV] at h ⊢;refine Qf0 (Qbaf (g:=g) (g':=g.th b κ) fun b' o h1 h2=>?_) x u h;have hne:b' ≠ b:=by rintro rfl;rw [h2] at hB;exact hB he
  exact ⟨⟨h1,hne⟩,by simp [G.th,hne,h2]⟩
 | .nils _,_,_,_,_,_,h=>by simpa [RV] using h
 | .cref cs,ℓ,u,hp,_,hl,h=>by
  simp only [Qgd,List.isEmpty_iff] at hp;subst hp;simp only [RV] at h ⊢;obtain ⟨b',o,rfl,_⟩:=h;exact ⟨b',o,rfl,by simp [RDc]⟩
 | .sl sz k' o n c,ℓ,u,_,ho,hl,h=>by
  have:k' ≠ κ:=ho;simpa [RV,G.th,this] using h
 | .clo f cs,ℓ,u,hp,ho,hl,h=>by
  simp only [RV,Qgd] at hp h ⊢;obtain ⟨vs,rfl,h⟩:=h;exact ⟨vs,rfl,RVs_th cs .ext 0 vs hp ho he h⟩
 | .mp k',ℓ,u,_,ho,hl,h=>by
  have:k' ≠ κ:=ho;simpa [RV,G.th,this] using h
theorem RVs_th [DecidablePred fun b'=>b'=b]:∀ (cs:List V) (ℓ:Owner) (i:Nat) (us:List Value),Qgd.go cs=true→V.ons (· ≠ κ) cs→keep ℓ→RVs g w cs ℓ i us→RVs (g.th b κ) w cs ℓ i us
 | [],_,_,_,_,_,_,h=>by simpa [RVs] using h
 | c::cs,ℓ,i,us,hp,ho,hl,h=>by
  simp only [Qgd.go,Bool.and_eq_true] at hp;simp only [RVs] at h ⊢;obtain ⟨u,us',rfl,h1,h2⟩:=h;exact ⟨u,us',rfl,Qbcf c (ℓ.sub i) u hp.1 ho.1 (hs _ _ hl) h1,RVs_th cs ℓ (i+1) us' hp.2 ho.2 hl h2⟩
end
end
theorem Qbij {g:G} {w:World} {b κ:Nat} {keep:Owner→Prop} [DecidablePred fun b'=>b'=b] (hB:¬ keep (g.own b)) (hs:∀ ℓ i,keep ℓ→keep (ℓ.sub i)) (he:keep .ext) (hm:Qxy w b=none) {k:Nat} (hk:∀ i,keep (.cell k i)):∀ {es:List (V×V×Nat)} {ents:List MapEntry},Q1o es→RM g w k es ents→RM (g.th b κ) w k es ents
 | [],_,_,hr=>hr
 | x::r,_,hp,hr=>by
  simp only [RM] at hr ⊢;obtain ⟨e,t,rfl,⟨a1,a2⟩,⟨b1,b2⟩,h3,h4⟩:=hr;exact ⟨e,t,rfl,⟨a1,Qbcf hB hs he hm _ _ _ hp.1 (Qu6 a1) he a2⟩,⟨b1,Qbcf hB hs he hm _ _ _ hp.2.1 (Qbj9 b1) (hk _) b2⟩,h3,Qbij hB hs he hm hk hp.2.2 h4⟩
variable {Γ:Env} {σ:St}
def Qby (l:List (List D)) (room:Nat):List V:=l.flatten.map V.d++List.replicate room .und
structure Lone (Γ:Env) (M:Mem):Prop where
 prot:∀ b,b<Γ.w0.heap.size→Prot (Γ.g0.own b)∨∃ k,k<Γ.n0∧(M k).isSome=true∧b=Γ.g0.box k
 imm:∀ b o,Γ.g0.imm b o→b<Γ.w0.heap.size
structure Q5p (M:Mem):Prop where
 cells:∀ k cs,M k=some (.cells cs)→Qgd.go cs=true
 mps:∀ k es c,M k=some (.mp es c)→Q1o es
theorem Lone.old {Γ:Env} {M M' : Mem} {nb:Nat} (h:Lone Γ M) {g:G} {w:World} (hm:MR g w M' nb) (hB:∀ k,k<Γ.n0→(M k).isSome=true→(M' k).isSome=true) (hf:Fr Γ.n0 Γ.g0 Γ.w0 g w) {b:Nat} (hb:¬ Prot (g.own b)) (hb2:∀ k,g.own b ≠ .box k):¬ b<Γ.w0.heap.size:=by
 intro hlt;rcases h.prot b hlt with hp|⟨k,hk,hk1,rfl⟩
 ·obtain ⟨h1,_,_⟩:=hf.old b hlt hp;rw [h1] at hb;exact hb hp
 ·obtain ⟨bx,hbx⟩:=Option.isSome_iff_exists.1 (hB k hk hk1);have h1:=(hm.box k bx hbx).2.1;rw [hf.box k hk] at h1;exact hb2 k h1
open Classical in
theorem Q79 {MB:Mem} (hG:Lone Γ MB) (hB:∀ k,k<Γ.n0→(MB k).isSome=true→(σ.M k).isSome=true) {a:Act} {w:World} {g:G} (hs:SR Γ.n0 Γ.nt Γ.g0 Γ.w0 σ a w g) {κ sz:Nat} {l:List (List D)} {ℓ:Owner} {u:Value} (keep:Owner→Prop) (hkeep:¬ keep ℓ) (hsub:∀ o i,keep o→keep (o.sub i)) (he:keep .ext) (hℓ:¬ Prot ℓ) (hℓ2:∀ k,ℓ ≠ .box k)
  (hown:RV g w (.own sz l) ℓ u) (hl:¬ ∃ ad,u = .slice ad 0 0) (hpl:Qno l=true) (hκ:Γ.n0≤κ) (hκ2:κ<σ.nb) (hκM:σ.M κ=none) :
  ∃ c b,l.length≤c∧c≤maxLen∧u = .slice (some ⟨b,0,none⟩) l.length c∧g.own b=ℓ∧(g.th b κ).box κ=b∧BR (g.th b κ) w κ (.cells (Qby l ((c-l.length)*sz)))∧Fr Γ.n0 Γ.g0 Γ.w0 (g.th b κ) w ∧
   (∀ b' o,(g.th b κ).imm b' o→b'<w.heap.size∧∀ k,(g.th b κ).own b' ≠ .box k)∧(∀ k,There σ.M k→k≠κ)∧Qxy w b=none:=by
 simp only [RV] at hown;rcases hown with ⟨h,_⟩|⟨b,cap,vals,e,rfl,hb,hh,h4,h5,⟨h6,h6'⟩,h7,h8⟩
 ·exact absurd h hl
 have hnp:¬ Prot (g.own b):=by rw [hb];exact hℓ
 have hnew:=hG.old hs.mem hB hs.fr hnp (fun k=>by rw [hb];exact hℓ2 k);have hk' : ¬ keep (g.own b):=by rw [hb];exact hkeep
 refine ⟨cap,b,h4,h5,rfl,hb,by simp [G.th],⟨vals.toList,e,by simpa [G.th] using hh,?_,h6'⟩,?_,?_,?_,by simp [Qxy,hh]⟩
 ·have h8' : RDL (g.th b κ).imm w sz b l 0→False∨True:=fun _=>.inr trivial;obtain ⟨hfl,hfg⟩:=Qba5 h8;have hlen:vals.toList.length=(Qby l ((cap-l.length)*sz)).length:=by
   simp only [Qby,List.length_append,List.length_map,List.length_replicate,hfl,Array.length_toList,h6];rw [← Nat.add_mul];congr 1;omega
  refine (Qcr _ _ _ _).2 ⟨hlen,fun j c x hc hx=>?_⟩;simp only [Qby] at hc;by_cases hj:j<l.flatten.length
  ·rw [List.getElem?_append_left (by rw [List.length_map];exact hj),List.getElem?_map] at hc;obtain ⟨y,hy,rfl⟩:=Option.map_eq_some_iff.1 hc;obtain ⟨x',hx1,hx2⟩:=hfg j y hy;have hcell:w.cell? ⟨b,0+j,none⟩=vals[j]?:=by simp [World.cell?,hh]
   rw [hcell] at hx1;have:x=x':=by
    have h9:vals[j]? = some x:=by simpa using hx
    rw [h9] at hx1;exact Option.some.inj hx1
   subst this;have hmem:y∈l.flatten:=List.mem_of_getElem? hy;obtain ⟨r,hr1,hr2⟩:=List.mem_flatten.1 hmem;have hp:Qt5 y=true:=List.all_eq_true.1 (List.all_eq_true.1 hpl r hr1) y hr2;simp only [RV];exact Qwy hp hx2
  ·rw [List.getElem?_append_right (by rw [List.length_map];omega)] at hc;have:c = .und:=by
    have:=List.mem_of_getElem? hc;exact (List.mem_replicate.1 this).2
   subst this;simp [RV]
 ·have hf:=hs.fr;refine ⟨hf.os,hf.tape,hf.output,hf.size,⟨fun b' o hi=>⟨hf.imm.mono b' o hi,?_⟩,hf.imm.look⟩,fun k hk=>?_,fun b' hb' ho=>?_⟩
  ·rintro rfl;exact hnew (hG.imm _ _ hi)
  ·have:k≠κ:=by omega
   simp only [G.th,this,if_false];exact hf.box k hk
  ·have hne:b' ≠ b:=by rintro rfl;exact hnew hb'
   obtain ⟨k1,k2,k3⟩:=hf.old b' hb' ho;exact ⟨by simp [G.th,hne,k1],k2,fun o=>by simp [G.th,hne,k3]⟩
 ·rintro b' o ⟨hi,hne⟩;obtain ⟨k1,k2⟩:=hs.mem.imm b' o hi;exact ⟨k1,fun k=>by simp only [G.th,hne,if_false];exact k2 k⟩
 ·rintro k hk rfl;simp [There,hκM] at hk
theorem Qbjw {M:Mem} {κ:Nat} (hκ:∀ k,There M k→k≠κ) {v:V} (h:v.on fun k=>(M k).isSome=true):v.on (· ≠ κ):=Qfj (fun k hk=>hκ k hk) v h
theorem Qba6 {g:G} {w:World} {sz:Nat} {l:List (List D)} {ℓ:Owner} {u:Value} (h:RV g w (.own sz l) ℓ u) (hu:∃ ad,u = .slice ad 0 0):l=[]:=by
 obtain ⟨ad,rfl⟩:=hu
 grind [RV,List.eq_nil_of_length_eq_zero]
open Classical in
theorem Tr.thawS {cc:CC} {Q:Ex→St→Prop} {MB:Mem} (hG:Lone Γ MB) (hB:∀ k,k<Γ.n0→(MB k).isSome=true→(σ.M k).isSome=true) {t κ sz:Nat} {l:List (List D)} (hl:l≠[]) (hpl:Qno l=true) (hs0:σ.s t = .own sz l) (hκ:Γ.n0≤κ) (hκ2:κ<σ.nb) (hκM:σ.M κ=none)
  (hps:∀ t',t' ≠ t→Qgd (σ.s t')=true) (hpm:∀ k cs,σ.M k=some (.cells cs)→Qgd.go cs=true) (hpn:∀ k es c,σ.M k=some (.mp es c)→Q1o es)
  (h:∀ c,l.length≤c→c≤maxLen→Tr Γ cc ⟨σ.s.put t (.sl sz κ 0 l.length c),σ.M.put κ (.cells (Qby l ((c-l.length)*sz))),σ.nb⟩ Q):Tr Γ cc σ Q:=by
 intro code hcode a w g hs;have hslot:=hs.slots t;rw [hs0] at hslot;have hsub:∀ (o:Owner) i,o ≠ .slot t []→o.sub i ≠ .slot t []:=by intro o i ho;cases o<;>simp_all [Owner.sub]
 obtain ⟨c,b,h1,h2,hu,hb,hbox,hbr,hfr,himm,hne,hmp⟩:=Q79 hG hB hs (fun o=>o ≠ .slot t []) (by simp) hsub (by simp) (by simp [Prot]) (by simp) hslot (fun h=>hl (Qba6 hslot h)) hpl hκ hκ2 hκM;have hk' : ¬ (fun o=>o≠Owner.slot t []) (g.own b):=by simp [hb]
 refine h c h1 h2 code hcode a w (g.th b κ) ⟨⟨fun k bx hk=>?_,himm⟩,fun t'=>?_,hs.size,hs.defers,fun t'=>?_,fun k cs hk=>?_,hs.top,hfr⟩
 ·replace hk:(σ.M.put κ (.cells (Qby l ((c-l.length)*sz)))) k=some bx:=hk;by_cases hkk:k=κ
  ·subst hkk;rw [Qgl] at hk;cases hk;exact ⟨hκ2,by rw [hbox];simp [G.th],hbr⟩
  ·rw [Qb8 _ _ hkk] at hk;obtain ⟨k1,k2,k3⟩:=hs.mem.box k bx hk;have hbx:(g.th b κ).box k=g.box k:=by simp [G.th,hkk]
   have hne' : g.box k≠b:=by
    rintro rfl;rw [k2] at hb;cases hb
   refine ⟨k1,by rw [hbx];simp [G.th,hne',k2],?_⟩;cases bx with
   | mp es c =>
    obtain ⟨ents,q1,q2⟩:=k3;exact ⟨ents,by rw [hbx];exact q1,Qbij hk' hsub (by simp) hmp (fun _=>by simp) (hpn k es c hk) q2⟩
   | cells cs =>
    obtain ⟨vals,e,q1,q2,q3⟩:=k3;refine ⟨vals,e,by rw [hbx];exact q1,RVs_th hk' hsub (by simp) hmp cs (.box k) 0 vals (hpm k cs hk) ?_ (by simp) q2,q3⟩;exact ons_mono (fun j hj=>hne j hj) _ (hs.onM k cs hk).1
 ·simp only [Sl.put];split
  ·rename_i he;subst he;simp only [RV];rw [hbox];exact hu
  ·rename_i hne2;refine Qbcf hk' hsub (by simp) hmp _ _ _ (hps t' hne2) (Qbjw hne (hs.onS t')) ?_ (hs.slots t');simp;exact hne2
 ·simp only [Sl.put];split
  ·show There _ κ;exact There.self
  ·exact Qfj (fun k hk=>There.put hk) _ (hs.onS t')
 ·replace hk:(σ.M.put κ (.cells (Qby l ((c-l.length)*sz)))) k=some (.cells cs):=hk;by_cases hkk:k=κ
  ·subst hkk;rw [Qgl] at hk;cases hk;have hno:∀ p:Nat→Prop,V.ons p (Qby l ((c-l.length)*sz)):=by
    intro p;rw [Qhz];intro v hv;simp only [Qby,List.mem_append,List.mem_map,List.mem_replicate] at hv;rcases hv with ⟨x,_,rfl⟩|⟨_,rfl⟩<;>trivial
   exact ⟨hno _,fun _=>hno _⟩
  ·rw [Qb8 _ _ hkk] at hk;obtain ⟨q1,q2⟩:=hs.onM k cs hk;exact ⟨ons_mono (fun j hj=>There.put hj) _ q1,q2⟩
open Classical in
theorem Tr.thawCE {cc:CC} {Q:Ex→St→Prop} {MB:Mem} (hG:Lone Γ MB) (hB:∀ k,k<Γ.n0→(MB k).isSome=true→(σ.M k).isSome=true) {k0 i κ sz:Nat} {l:List (List D)} {cs0:List V} (hl:l=[]→Tr Γ cc ⟨σ.s,σ.M.put k0 (.cells (cs0.set i (.nils sz))),σ.nb⟩ Q) (hpl:Qno l=true) (hk0:Γ.n0≤k0) (hM0:σ.M k0=some (.cells cs0)) (hi:cs0[i]? = some (.own sz l)) (hκ:Γ.n0≤κ) (hκ2:κ<σ.nb) (hκM:σ.M κ=none)
  (hps:∀ t',Qgd (σ.s t')=true) (hpm:∀ k cs,σ.M k=some (.cells cs)→Qgd.go (if k=k0 then cs.set i .und else cs)=true) (hpn:∀ k es c,σ.M k=some (.mp es c)→Q1o es)
  (h:∀ c,l.length≤c→c≤maxLen→Tr Γ cc ⟨σ.s,(σ.M.put k0 (.cells (cs0.set i (.sl sz κ 0 l.length c)))).put κ (.cells (Qby l ((c-l.length)*sz))),σ.nb⟩ Q):Tr Γ cc σ Q:=by
 intro code hcode a w g hs;obtain ⟨u0,hcell,hrv0,_⟩:=Qws hs.mem hM0 hi;have hsub:∀ (o:Owner) j,(o ≠ .cell k0 i∧o ≠ .box k0)→(o.sub j ≠ .cell k0 i∧o.sub j ≠ .box k0):=by
  rintro o j ⟨h1,h2⟩;cases o<;>simp_all [Owner.sub]
 have hnk:k0≠κ:=by rintro rfl;rw [hM0] at hκM;cases hκM
 by_cases hnn:∃ ad,u0 = .slice ad 0 0
 ·refine hl (Qba6 hrv0 hnn) code hcode a w g ⟨⟨fun k bx hk=>?_,hs.mem.imm⟩,hs.slots,hs.size,hs.defers,fun t=>Qfj (fun _ hj=>There.put hj) _ (hs.onS t),fun k cs hk=>?_,hs.top,hs.fr⟩
  ·replace hk:(σ.M.put k0 (.cells (cs0.set i (.nils sz)))) k=some bx:=hk;by_cases hkz:k=k0
   ·subst hkz;rw [Qgl] at hk;cases hk;obtain ⟨k1,k2,vals,e,q1,q2,q3⟩:=hs.mem.box k _ hM0;obtain ⟨r1,r2⟩:=(Qcr _ _ _ _).1 q2;refine ⟨k1,k2,vals,e,q1,(Qcr _ _ _ _).2 ⟨by rw [List.length_set];exact r1,fun j d x hd hx=>?_⟩,q3⟩;by_cases hj:j=i
    ·subst hj;rw [List.getElem?_set_self (List.getElem?_eq_some_iff.1 hi).1] at hd;cases hd;have hcx:w.cell? ⟨g.box k,j,none⟩=some x:=by simp [World.cell?,q1];simpa using hx
     rw [hcell] at hcx;cases hcx;simp only [RV];exact hnn
    ·rw [List.getElem?_set_ne (Ne.symm hj)] at hd;exact r2 j d x hd hx
   ·rw [Qb8 _ _ hkz] at hk;exact hs.mem.box k bx hk
  ·replace hk:(σ.M.put k0 (.cells (cs0.set i (.nils sz)))) k=some (.cells cs):=hk;by_cases hkz:k=k0
   ·subst hkz;rw [Qgl] at hk;cases hk;obtain ⟨q1,q2⟩:=hs.onM k cs0 hM0;exact ⟨Q0k i (ons_mono (fun j hj=>There.put hj) _ q1) trivial,fun hlt=>absurd hlt (by omega)⟩
   ·rw [Qb8 _ _ hkz] at hk;obtain ⟨q1,q2⟩:=hs.onM k cs hk;exact ⟨ons_mono (fun j hj=>There.put hj) _ q1,q2⟩
 obtain ⟨c,b,h1,h2,hu,hb,hbox,hbr,hfr,himm,hne,hmp⟩:=Q79 hG hB hs (fun o=>o ≠ .cell k0 i∧o ≠ .box k0) (by simp) hsub (by simp) (by simp [Prot]) (by simp) hrv0 hnn hpl hκ hκ2 hκM;have hk' : ¬ (fun o=>o≠Owner.cell k0 i∧o ≠ .box k0) (g.own b):=by simp [hb]
 have hther:∀ j,There σ.M j→There ((σ.M.put k0 (.cells (cs0.set i (.sl sz κ 0 l.length c)))).put κ (.cells (Qby l ((c-l.length)*sz)))) j:=fun j hj=>There.put (There.put hj);refine h c h1 h2 code hcode a w (g.th b κ) ⟨⟨fun k bx hk=>?_,himm⟩,fun t'=>?_,hs.size,hs.defers,fun t'=>?_,fun k cs hk=>?_,hs.top,hfr⟩
 ·replace hk:((σ.M.put k0 (.cells (cs0.set i (.sl sz κ 0 l.length c)))).put κ (.cells (Qby l ((c-l.length)*sz)))) k=some bx:=hk;by_cases hkk:k=κ
  ·subst hkk;rw [Qgl] at hk;cases hk;exact ⟨hκ2,by rw [hbox];simp [G.th],hbr⟩
  ·rw [Qb8 _ _ hkk] at hk;have hbx:(g.th b κ).box k=g.box k:=by simp [G.th,hkk]
   by_cases hkz:k=k0
   ·subst hkz;rw [Qgl] at hk;cases hk;obtain ⟨k1,k2,vals,e,q1,q2,q3⟩:=hs.mem.box k _ hM0;have hne' : g.box k≠b:=by
     rintro rfl;rw [k2] at hb;cases hb
    refine ⟨k1,by rw [hbx];simp [G.th,hne',k2],vals,e,by rw [hbx];exact q1,(Qcr _ _ _ _).2 ⟨?_,fun j d x hd hx=>?_⟩,q3⟩
    ·rw [List.length_set];exact Qor q2
    ·obtain ⟨r1,r2⟩:=(Qcr _ _ _ _).1 q2;by_cases hj:j=i
     ·subst hj;have hlt:=(List.getElem?_eq_some_iff.1 hi).1;rw [List.getElem?_set_self hlt] at hd;cases hd;have hcx:w.cell? ⟨g.box k,j,none⟩=some x:=by
       have h9:vals.toArray[j]? = some x:=by simpa using hx
       simp [World.cell?,q1];simpa using hx
      rw [hcell] at hcx;cases hcx;simp only [RV];rw [hbox];exact hu
     ·rw [List.getElem?_set_ne (Ne.symm hj)] at hd;have hpl2:=hpm k cs0 hM0;rw [if_pos rfl,Qba4] at hpl2;have hmem:d∈cs0.set i .und:=by
       have:(cs0.set i .und)[j]? = some d:=by rw [List.getElem?_set_ne (Ne.symm hj)];exact hd
       exact List.mem_of_getElem? this
      refine Qbcf hk' hsub (by simp) hmp d _ x (hpl2 d hmem) ?_ ?_ (r2 j d x hd hx)
      ·exact Qfj (fun j hj=>hne j hj) _ (Qfa (hs.onM k cs0 hM0).1 hd)
      ·simp [Owner.sub];omega
   ·rw [Qb8 _ _ hkz] at hk;obtain ⟨k1,k2,k3⟩:=hs.mem.box k bx hk;have hne' : g.box k≠b:=by
     rintro rfl;rw [k2] at hb;cases hb
    refine ⟨k1,by rw [hbx];simp [G.th,hne',k2],?_⟩;cases bx with
    | mp es c =>
     obtain ⟨ents,q1,q2⟩:=k3;exact ⟨ents,by rw [hbx];exact q1,Qbij hk' hsub (by simp) hmp (fun _=>⟨by intro h;injection h with h1;exact hkz h1,by simp⟩) (hpn k es c hk) q2⟩
    | cells cs =>
     obtain ⟨vals,e,q1,q2,q3⟩:=k3;have hp:=hpm k cs hk;rw [if_neg hkz] at hp;refine ⟨vals,e,by rw [hbx];exact q1,RVs_th hk' hsub (by simp) hmp cs (.box k) 0 vals hp ?_ ⟨by simp,by simpa using hkz⟩ q2,q3⟩;exact ons_mono (fun j hj=>hne j hj) _ (hs.onM k cs hk).1
 ·exact Qbcf hk' hsub (by simp) hmp _ _ _ (hps t') (Qbjw hne (hs.onS t')) (by simp) (hs.slots t')
 ·exact Qfj hther _ (hs.onS t')
 ·replace hk:((σ.M.put k0 (.cells (cs0.set i (.sl sz κ 0 l.length c)))).put κ (.cells (Qby l ((c-l.length)*sz)))) k=some (.cells cs):=hk;by_cases hkk:k=κ
  ·subst hkk;rw [Qgl] at hk;cases hk;have hno:∀ p:Nat→Prop,V.ons p (Qby l ((c-l.length)*sz)):=by
    intro p;rw [Qhz];intro v hv;simp only [Qby,List.mem_append,List.mem_map,List.mem_replicate] at hv;rcases hv with ⟨x,_,rfl⟩|⟨_,rfl⟩<;>trivial
   exact ⟨hno _,fun _=>hno _⟩
  ·rw [Qb8 _ _ hkk] at hk;by_cases hkz:k=k0
   ·subst hkz;rw [Qgl] at hk;cases hk;obtain ⟨q1,q2⟩:=hs.onM k cs0 hM0;refine ⟨Q0k i (ons_mono hther _ q1) ?_,fun hlt=>absurd hlt (by omega)⟩;show There _ κ;exact There.self
   ·rw [Qb8 _ _ hkz] at hk;obtain ⟨q1,q2⟩:=hs.onM k cs hk;exact ⟨ons_mono hther _ q1,q2⟩
end Go.Abs
end
section
namespace Go.Abs
open Go Go.Sort
def D.val:D→Value
 | .int k n=>.int k n
 | .bool b=>.bool b
 | .str s=>.string s
 | .lst _ _=>.slice none 0 0
 | .mp ..=>.map none
def D.scalar:D→Bool
 | .lst _ _=>false
 | .mp ..=>false
 | _=>true
theorem Qbei {imm:Nat→Nat→Prop} {w:World} {x:D} {u:Value} (hs:x.scalar=true):RD imm w x u↔u=x.val:=by
 cases x<;>simp [RD,D.val,D.scalar] at hs ⊢
theorem Q9y {x:D} (hs:x.scalar=true):x.val.oneCell'=true:=by cases x<;>simp [D.scalar,D.val] at hs ⊢ <;> rfl
def rowV {α:Type} (e:α→List D) (xs:List α):List Value:=(xs.map e).flatten.map D.val
theorem Q3m (w:World) (n blk:Nat) (F:Array Value) (os:Array Obj) {c:Array Value} {e:TypeId} (h:w.heap[blk]? = some (.cells c e (0,0))):(grow (putRow id (Sort.ahead w n) blk 0 F) os).heap[blk]? = some (.cells (putCells id 0 F c) e (0,0)):=by
 have hlt:blk<w.heap.size:=(Array.getElem?_eq_some_iff.1 h).1;have hsz:(putRow id (Sort.ahead w n) blk 0 F).heap.size=w.heap.size:=by simp_all
 rw [heap_grow_old _ _ (by rw [hsz];exact hlt)];show (w.heap.modify blk (onCells (putCells id 0 F)))[blk]? = _;rw [Array.getElem?_modify,if_pos rfl,h]
 rfl
theorem Qr7 (w:World) (n blk:Nat) (F:Array Value) (os:Array Obj) {b:Nat} (hb:b≠blk) (hlt:b<w.heap.size):(grow (putRow id (Sort.ahead w n) blk 0 F) os).heap[b]? = w.heap[b]?:=by
 have hsz:(putRow id (Sort.ahead w n) blk 0 F).heap.size=w.heap.size:=by simp_all
 rw [heap_grow_old _ _ (by rw [hsz];exact hlt)];show (w.heap.modify blk (onCells (putCells id 0 F)))[b]? = _
 grind
def Qbej {α:Type} (P:Program) (f:FuncId) (e:α→List D) (ex:Array Value) (srt:List α→List α):Prop :=
 ∀ (blk cap:Nat) (xs:List α) (w:World),(∀ j,j<(rowV e xs).length→w.cell? ⟨blk,j,none⟩=(rowV e xs)[j]? ∧ w.frozen? ⟨blk,j,none⟩=false)→blk<w.heap.size→xs.length<4611686018427387904 →
  Calls P f (#[.slice (some ⟨blk,0,none⟩) xs.length cap]++ex) w fun e' w'=>e' = .returned (.tuple #[])∧∃ n os,w'=grow (putRow id (Sort.ahead w n) blk 0 (rowV e (srt xs)).toArray) os
theorem Q6s {α:Type} {e:α→List D} {sz:Nat} (hlen:∀ x,(e x).length=sz) (xs:List α):(rowV e xs).length=xs.length*sz:=by
 simp only [rowV,List.length_map]
 induction xs with
 | nil=>simp
 | cons x xs ih=>grind
theorem Q5q {α:Type} {P:Program} {f:FuncId} {e:α→List D} {sz:Nat} (hlen:∀ x,(e x).length=sz) (hsc:∀ x,(e x).all D.scalar=true) {srt:List α→List α} (hsl:∀ xs,(srt xs).length=xs.length)
  {ex:Array Value} {exV:List V} (hex:∀ g w us,RFs g w exV us→us=ex.toList) (hb:Qh0 P f=true) (hK:Qbej P f e ex srt)
  (xs:List α) (c k0:Nat) (M:Mem) (nb:Nat) (hM:M k0=some (.cells (Qby (xs.map e) ((c-xs.length)*sz)))) (hsz:xs.length<4611686018427387904) (hexf:V.dems exV=exV:=by rfl) :
  ACalls P f (.sl sz k0 0 xs.length c::exV) M nb (.tup []) (M.put k0 (.cells (Qby ((srt xs).map e) ((c-xs.length)*sz)))) nb:=by
 refine ACalls.mk' hb (Nat.le_refl _) (by simp only [V.dems,V.dem,hexf]) fun w g us hm hMon hus hfl hons=>?_;obtain ⟨u0,us',rfl,hu0,hus'⟩:=hus;have h0:=Q4l.1 hu0;subst h0;have h1:=hex _ _ _ hus';obtain ⟨hk0,hown,vals,et,hh,hrv,hone⟩:=hm.box k0 _ hM;have hlt:g.box k0<w.heap.size:=(Array.getElem?_eq_some_iff.1 hh).1;obtain ⟨hvl,hvr⟩:=(Qcr _ _ _ _).1 hrv;have hscf:∀ (l:List α),∀ y∈(l.map e).flatten,y.scalar=true:=by
  grind
 have hfl' : ∀ l:List α,(l.map e).flatten.length=l.length*sz:=fun l=>by have:=Q6s hlen l;rw [rowV,List.length_map] at this;exact this
 have hcell:∀ j,j<(rowV e xs).length→vals[j]? = (rowV e xs)[j]?:=by
  intro j hj;rw [Q6s hlen] at hj;have hjf:j<(xs.map e).flatten.length:=by rw [hfl'];exact hj
  have hjv:j<vals.length:=by
   grind [Qby,List.length_append,List.length_map]
  have hc:(Qby (xs.map e) ((c-xs.length)*sz))[j]? = some (.d (xs.map e).flatten[j]):=by
   grind [Qby,List.getElem?_append_left,List.length_map,List.getElem?_eq_getElem]
  grind [List.getElem?_eq_getElem,RV,Qbei,List.getElem_mem,rowV]
 have hcall:=hK (g.box k0) c xs w (fun j hj=>⟨by grind [Go.World.cell?],by simp [World.frozen?,hh]⟩) hlt hsz;have hus2:(Value.slice (some ⟨g.box k0,0,none⟩) xs.length c::us').toArray = #[.slice (some ⟨g.box k0,0,none⟩) xs.length c]++ex:=by
  grind
 rw [hus2];refine hcall.mono ?_;rintro e' w' ⟨rfl,n,os,rfl⟩;generalize hF:(rowV e (srt xs)).toArray=F;have hFs:F.size=xs.length*sz:=by grind [Q6s]
 have hblk:=Q3m w n (g.box k0) F os hh;have hoth:∀ b,b≠g.box k0→b<w.heap.size→(grow (putRow id (Sort.ahead w n) (g.box k0) 0 F) os).heap[b]? = w.heap[b]?:=fun b hb hlt=>Qr7 w n _ F os hb hlt;have hsize:w.heap.size≤(grow (putRow id (Sort.ahead w n) (g.box k0) 0 F) os).heap.size:=by
  grind
 generalize hw' : grow (putRow id (Sort.ahead w n) (g.box k0) 0 F) os=w' at hblk hoth hsize;have himm:Imm g.imm g.imm w w':=by
  refine ⟨fun _ _ h=>h,fun b o h=>?_⟩;obtain ⟨k1,k2⟩:=hm.imm b o h;have hne:b≠g.box k0:=by grind
  exact Qet (hoth b hne k1)
 have hkept:Kept g w g w' (There M) (fun o=>o ≠ .box k0):=⟨himm,fun _ _=>rfl,fun b hb hl=>⟨rfl,hoth b (by grind) hl,fun _=>Iff.rfl⟩⟩;have hsub:∀ (o:Owner) i,o ≠ .box k0→o.sub i ≠ .box k0:=by intro o i _;cases o<;>simp [Owner.sub]
 have hnew:∀ p:Nat→Prop,V.ons p (Qby ((srt xs).map e) ((c-xs.length)*sz)):=by
  intro p;rw [Qhz];intro v hv;simp only [Qby,List.mem_append,List.mem_map,List.mem_replicate] at hv;rcases hv with ⟨x,_,rfl⟩|⟨_,rfl⟩<;>trivial
 refine ⟨_,g,rfl,⟨fun k b hk=>?_,fun b o h=>⟨Nat.lt_of_lt_of_le (hm.imm b o h).1 hsize,(hm.imm b o h).2⟩⟩,⟨[],rfl,rfl⟩,trivial,fun k cs hk=>?_,?_⟩
 ·by_cases hkk:k=k0
  ·subst hkk;rw [Qgl] at hk;cases hk;refine ⟨hk0,hown,(putCells id 0 F vals.toArray).toList,et,by simpa using hblk,(Qcr _ _ _ _).2 ⟨?_,fun j cc x hc hx=>?_⟩,fun x hx=>?_⟩
   ·grind [Qby,List.length_append,List.length_map,List.length_replicate,Go.Sort.putCells]
   ·have hx' : (putCells id 0 F vals.toArray)[j]? = some x:=by simpa using hx
    simp only [putCells,Array.getElem?_mapIdx,List.getElem?_toArray,Option.map_eq_some_iff] at hx';obtain ⟨y,hy,rfl⟩:=hx';simp only [Qby] at hc;by_cases hj:j<((srt xs).map e).flatten.length
    ·rw [List.getElem?_append_left (by grind),List.getElem?_map,List.getElem?_eq_getElem hj,Option.map_some,Option.some.injEq] at hc;subst hc;rw [hfl',hsl] at hj;have hjF:j<F.size:=by rw [hFs];exact hj
     rw [if_pos ⟨Nat.zero_le _,by omega⟩];have hj2:j<((srt xs).map e).flatten.length:=by rw [hfl',hsl];exact hj
     simp only [RV];rw [Qbei (hscf (srt xs) _ (List.getElem_mem hj2))];simp only [Nat.sub_zero,id]
     grind [rowV]
    grind [List.getElem?_append_right,List.length_map,List.mem_of_getElem?,RV]
   ·obtain ⟨j,hj⟩:=List.getElem?_of_mem hx;have hx' : (putCells id 0 F vals.toArray)[j]? = some x:=by simpa using hj
    simp only [putCells,Array.getElem?_mapIdx,List.getElem?_toArray,Option.map_eq_some_iff] at hx';obtain ⟨y,hy,rfl⟩:=hx'
    grind [id,rowV,Q9y,List.getElem_mem,List.mem_of_getElem?]
  ·rw [Qb8 _ _ hkk] at hk;obtain ⟨k1,k2,k3⟩:=hm.box k b hk;cases b with
   | mp es c =>
    obtain ⟨ents,q1,q2⟩:=k3;have hne:g.box k≠g.box k0:=by
     grind
    exact ⟨k1,k2,ents,(hoth _ hne (Array.getElem?_eq_some_iff.1 q1).1).trans q1,Qkq (g:=g) (g':=g) hkept (fun _=>by simp) q2⟩
   | cells cs =>
    obtain ⟨vals2,e2,q1,q2,q3⟩:=k3;have hne:g.box k≠g.box k0:=by
     grind
    refine ⟨k1,k2,vals2,e2,(hoth _ hne (Array.getElem?_eq_some_iff.1 q1).1).trans q1,?_,q3⟩;exact RVs_mono hkept hsub (by simp) cs (.box k) 0 vals2 (by simpa using hkk) (hMon k cs hk) q2
 ·by_cases hkk:k=k0
  ·grind [Qgl]
  ·rw [Qb8 _ _ hkk] at hk;exact ons_mono (fun j hj=>There.put hj) _ (hMon k cs hk)
 ·refine ⟨by rw [← hw'];rfl,by rw [← hw'];rfl,by rw [← hw'];rfl,hsize,himm,fun _ _=>rfl,fun b hb ho=>⟨rfl,hoth b ?_ hb,fun _=>Iff.rfl⟩⟩;rintro rfl;rw [hown] at ho;exact ho
end Go.Abs
end
section
namespace Go.Abs
open Go
variable {Γ:Env} {σ:St} {α:Type}
section
variable {g:G} {w:World} (hx:∀ b o,g.imm b o→g.own b = .ext)
include hx
mutual
theorem Qbhe:∀ (v:V) (ℓ:Owner) (u:Value),RV g w v ℓ u→RV g w v.toF ℓ u
 | .d (.lst sz l),_,u,h=>by
  simp only [V.toF,RV] at h ⊢;exact Qbjo (fun b o h1 h2=>⟨h1,hx b o h1,h2⟩) _ u h
 | .d (.int ..),_,_,h=>by simpa [V.toF] using h
 | .d (.bool _),_,_,h=>by simpa [V.toF] using h
 | .d (.str _),_,_,h=>by simpa [V.toF] using h
 | .d (.mp ..),_,_,h=>by simpa [V.toF] using h
 | .agg cs,ℓ,u,h=>by
  simp only [V.toF,RV] at h ⊢;obtain ⟨vs,rfl,h,h1⟩:=h;exact ⟨vs,rfl,RVs_toF cs ℓ 0 vs h,h1⟩
 | .und,_,_,h=>h
 | .tup _,_,_,h=>h
 | .own ..,_,_,h=>h
 | .ownT ..,_,_,h=>h
 | .ptr ..,_,_,h=>h
 | .nilp,_,_,h=>h
 | .f _,_,_,h=>h
 | .nils _,_,_,h=>h
 | .cref _,_,_,h=>h
 | .sl ..,_,_,h=>h
 | .clo ..,_,_,h=>h
 | .mp _,_,_,h=>h
theorem RVs_toF:∀ (cs:List V) (ℓ:Owner) (i:Nat) (us:List Value),RVs g w cs ℓ i us→RVs g w (V.toFs cs) ℓ i us
 | [],_,_,_,h=>h
 | c::cs,ℓ,i,us,h=>by
  simp only [RVs,V.toFs] at h ⊢;obtain ⟨u,us',rfl,h1,h2⟩:=h;exact ⟨u,us',rfl,Qbhe c _ u h1,RVs_toF cs ℓ (i+1) us' h2⟩
end
theorem Qbek:∀ {cs:List V} {us:List Value},RFs g w cs us→RFs g w (V.toFs cs) us
 | [],_,h=>h
 | c::cs,_,⟨u,us',e,r,h⟩=>⟨u,us',e,fun ℓ=>Qbhe hx c ℓ u (r ℓ),Qbek h⟩
end
mutual
theorem Qbik:∀ v:V,v.toF.dem=v.toF→v.dem=v
 | .d _,_=>rfl
 | .agg cs,h=>by
  simp only [V.toF,V.dem,V.agg.injEq] at h ⊢;exact dems_toF cs h
 | .und,_=>rfl
 | .tup _,h=>h
 | .own ..,h=>by cases h
 | .ownT ..,h=>by cases h
 | .ptr ..,_=>rfl
 | .nilp,_=>rfl
 | .f _,_=>rfl
 | .nils _,_=>rfl
 | .cref _,_=>rfl
 | .sl ..,_=>rfl
 | .clo ..,_=>rfl
 | .mp _,_=>rfl
theorem dems_toF:∀ vs:List V,V.dems (V.toFs vs)=V.toFs vs→V.dems vs=vs
 | [],_=>rfl
 | v::vs,h=>by
  simp only [V.toFs,V.dems,List.cons.injEq] at h ⊢;exact ⟨Qbik v h.1,dems_toF vs h.2⟩
end
theorem Qbel {P:Program} {f:FuncId} {cf:CFn} (hcf:Qo P f=some cf) {args args' : List V} {r:V} (hargs:Nat.beq args'.length cf.np=true) (hr0:r.lt 0=true) (hr1:Qy9 r=true) (ha:V.toFs args=args') (hfl:V.dems args'=args') (hlt:V.lt.go 0 args'=true)
  (hrun:∀ (Γ:Env) (M:Mem),Γ.P=P→Γ.nt=cf.nt→Lone Γ M→Q5p M→(∀ k,Γ.n0≤k→M k=none)→Tr Γ cf.body ⟨Qov args',Qm Γ.n0 [] M,Γ.n0+cf.nt⟩ (FinP cf.res r Γ.n0 M)):∀ M nb,ACalls P f args M nb r M nb:=by
 intro M nb;have hflat:∀ x∈args',Flat x:=by
  rw [← hfl];exact Qj1
 refine Qbjp hcf hr0 hr1 (dems_toF args (by rw [ha];exact hfl)) (fun g0 w0 us hp hi hus=>⟨args',by rw [← ha];exact Qbek (fun b _ _=>hp b) hus,hflat,hlt,Nat.eq_of_beq_eq_true hargs,fun Γ k1 k2 k3 k4 k5=>?_⟩) M;have h:=hrun Γ (fun _=>none) k1 k3 ⟨fun b _=>.inl (by rw [k4,hp b];trivial),fun b o hb=>by grind⟩ ⟨fun _ _ h=>(by cases h),fun _ _ _ h=>(by cases h)⟩ (fun _ _=>rfl);rw [Qza (fun _ _=>rfl),k2] at h;refine h.mono ?_;rintro e σ' ⟨he,r',q1,q2,q3,q4⟩;exact ⟨he,r',q1,q2,fun k b hk=>(by cases hk),fun _ _ _=>⟨q3,fun k cs hk=>(by cases hk),fun k hk=>(by cases hk)⟩⟩
theorem fToD {x:D}:WkV (.f x) (.d x):=⟨fun g w ℓ u h=>by
  simp only [RV] at h ⊢;exact Qf0 ⟨fun b o h=>h.1,fun _ _ _=>rfl⟩ x u h,fun _ _=>trivial⟩
open Classical in
theorem ACalls.frz {P:Program} {f:FuncId} {args:List V} {M M' : Mem} {nb nb' sz:Nat} {l:List (List D)} (h:ACalls P f args M nb (.own sz l) M' nb') (hpl:Qno l=true):ACalls P f args M nb (.f (.lst sz l)) M' nb':=by
 obtain ⟨h1,h2,h3⟩:=h;refine ⟨h1,h2,fun w g us k1 k2 k3 k4=>(h3 w g us k1 k2 k3 k4).mono ?_⟩;rintro e w' ⟨v,g',rfl,hm,hv,_,hon,hf⟩;let g2:G:=⟨g'.box,g'.imm,fun b=>if g'.own b = .res [] then .ext else g'.own b⟩;have hown:∀ b,g'.own b ≠ .res []→g2.own b=g'.own b:=fun b hb=>by simp [g2,hb]
 have hkept:Kept g' w' g2 w' (fun _=>True) (fun o=>o ≠ .res []):=⟨⟨fun _ _ h=>h,fun _ _ _=>rfl⟩,fun _ _=>rfl,fun b hb _=>⟨hown b hb,rfl,fun _=>Iff.rfl⟩⟩;have hsub:∀ (o:Owner) i,o ≠ .res []→o.sub i ≠ .res []:=by intro o i _;cases o<;>simp [Owner.sub]
 refine ⟨v,g2,rfl,⟨fun k b hk=>?_,fun b o hb=>?_⟩,?_,trivial,hon,?_⟩
 ·obtain ⟨q1,q2,q3⟩:=hm.box k b hk;refine ⟨q1,(hown _ (by rw [q2];simp)).trans q2,?_⟩;cases b with
  | mp es c =>
   obtain ⟨ents,p1,p2⟩:=q3;exact ⟨ents,p1,Qkq (g:=g') (g':=g2) hkept (fun _=>by simp) p2⟩
  | cells cs =>
   obtain ⟨vals,e,p1,p2,p3⟩:=q3;exact ⟨vals,e,p1,RVs_mono hkept hsub (by simp) cs (.box k) 0 vals (by simp) (by rw [Qhz];intro v _;exact Q9u v) p2,p3⟩
 ·obtain ⟨q1,q2⟩:=hm.imm b o hb;refine ⟨q1,fun k=>?_⟩;simp only [g2];split
  ·simp
  ·exact q2 k
 ·have hrd:=Qj0 hv;simp only [RV] at hv ⊢;rcases hv with ⟨⟨a,rfl⟩,rfl⟩|⟨b,cap,vals,e,rfl,hb,hh,h4,h5,h6,h7,h8⟩
  ·simp only [RD];exact ⟨a,0,rfl,Nat.le_refl _,.inl trivial⟩
  ·simp only [RD];refine ⟨_,cap,rfl,h4,.inr ⟨b,0,rfl,?_⟩⟩;have h9:=RDL_strong sz b l 0 h8;exact Qzc (fun o ho=>⟨ho.1,by simp [g2,hb],ho.2⟩) hpl h9
 ·refine ⟨hf.os,hf.tape,hf.output,hf.size,hf.imm,hf.box,fun b hb ho=>?_⟩;obtain ⟨q1,q2,q3⟩:=hf.old b hb ho;exact ⟨(hown b (by rw [q1];intro e;rw [e] at ho;exact ho)).trans q1,q2,q3⟩
theorem Qba7 {e:α→List D} (h:∀ x,(e x).all Qt5=true) {sz:Nat} {xs:List α}:Qgd (.own sz (List.map e xs))=true:=by
 grind [Qgd,Qno,List.all_map,List.all_eq_true]
theorem Qba8 {e:α→List D} (h:∀ x,(e x).all Qt5=true) {xs:List α}:Qno (List.map e xs)=true:=by
 grind [Qno,List.all_map,List.all_eq_true]
def PL:List (Nat×V)→Prop
 | []=>True
 | (_,v)::E=>Qgd v=true∧PL E
theorem PL.at:∀ {E:List (Nat×V)},PL E→∀ t,Qgd (look E t)=true
 | [],_,t=>rfl
 | (u,v)::E,h,t=>by
  simp only [look];cases hb:Nat.beq t u with
  | true=>exact h.1
  | false=>exact PL.at h.2 t
def PV:List V→Prop
 | []=>True
 | v::vs=>Qgd v=true∧PV vs
theorem PV.go:∀ {vs:List V},PV vs→Qgd.go vs=true
 | [],_=>rfl
 | v::vs,h=>by simp only [Qgd.go,Bool.and_eq_true];exact ⟨h.1,PV.go h.2⟩
def PB (t0 i:Nat):List (Nat×Bx)→Prop
 | []=>True
 | (t,.cells cs)::L=>PV (bif Nat.beq t t0 then cs.set i .und else cs)∧PB t0 i L
 | (_,.mp es _)::L=>Q1o es∧PB t0 i L
theorem PB.at {t0 i:Nat}:∀ {L:List (Nat×Bx)},PB t0 i L→∀ t cs,Qb2 L t=some (.cells cs)→Qgd.go (if t=t0 then cs.set i .und else cs)=true
 | [],_,t,cs,h=>by cases h
 | (u,.cells ds)::L,hp,t,cs,h=>by
  simp only [Qb2] at h;cases hb:Nat.beq t u with
  | true =>
   have:=Nat.eq_of_beq_eq_true hb;subst this;rw [hb] at h;cases h;have:=hp.1.go;by_cases ht:t=t0
   ·grind
   ·have hf:Nat.beq t t0=false:=by
     grind [Nat.beq,absurd,Nat.eq_of_beq_eq_true]
    grind
  | false=>rw [hb] at h;exact PB.at hp.2 t cs h
 | (u,.mp ..)::L,hp,t,cs,h=>by
  simp only [Qb2] at h;cases hb:Nat.beq t u with
  | true=>rw [hb] at h;cases h
  | false=>rw [hb] at h;exact PB.at hp.2 t cs h
theorem PB.nomp {t0 i:Nat}:∀ {L:List (Nat×Bx)},PB t0 i L→∀ t es c,Qb2 L t=some (.mp es c)→Q1o es
 | [],_,t,es,c,h=>by cases h
 | (u,.cells ds)::L,hp,t,es,c,h=>by
  simp only [Qb2] at h;cases hb:Nat.beq t u with
  | true=>rw [hb] at h;cases h
  | false=>rw [hb] at h;exact PB.nomp hp.2 t es c h
 | (u,.mp ..)::L,hp,t,es,c,h=>by
  simp only [Qb2] at h;cases hb:Nat.beq t u with
  | true=>rw [hb] at h;cases h;exact hp.1
  | false=>rw [hb] at h;exact PB.nomp hp.2 t es c h
theorem PB.nomem {t0 i n0:Nat} {L:List (Nat×Bx)} {M0:Mem} (hMe:Q5p M0) (h:PB t0 i L):∀ k es c,Qm n0 L M0 k=some (.mp es c)→Q1o es:=by
 intro k es c hk;rcases Nat.lt_or_ge k n0 with hlt|hge
 ·rw [Qel hlt] at hk;exact hMe.mps k es c hk
 ·obtain ⟨u,rfl⟩ : ∃ u,k=n0+u:=⟨k-n0,by omega⟩;rw [Qdh] at hk;exact h.nomp u es c hk
theorem Qbil {cc:CC} {Q:Ex→St→Prop} {M0:Mem} (hG:Lone Γ M0) (hMe:Q5p M0) (t0 i κ:Nat) {sz m:Nat} {e:α→List D} {xs:List α} {E:List (Nat×V)} {L:List (Nat×Bx)} {cs0:List V} (hxs:xs=[]→Tr Γ cc ⟨look E,Qm Γ.n0 ((t0,.cells (cs0.set i (.nils sz)))::L) M0,Γ.n0+m⟩ Q) (hpl:∀ x,(e x).all Qt5=true) (hM0:Qb2 L t0=some (.cells cs0))
  (hi:cs0[i]? = some (.own sz (List.map e xs))) (hκ2:Nat.blt κ m=true) (hκM:Qb2 L κ=none) (hE:PL E) (hL:PB t0 i L)
  (h:∀ c,xs.length≤c→xs.length≤maxLen→Tr Γ cc ⟨look E,Qm Γ.n0 ((κ,.cells (Qby (List.map e xs) ((c-xs.length)*sz)))::(t0,.cells (cs0.set i (.sl sz (Γ.n0+κ) 0 xs.length c)))::L) M0,Γ.n0+m⟩ Q):Tr Γ cc ⟨look E,Qm Γ.n0 L M0,Γ.n0+m⟩ Q:=by
 have hlt:κ<m:=Nat.le_of_ble_eq_true hκ2;refine Tr.thawCE (σ:=⟨look E,Qm Γ.n0 L M0,Γ.n0+m⟩) hG (fun k hk h=>by show (Qm Γ.n0 L M0 k).isSome=true;rw [Qel hk];exact h) (k0:=Γ.n0+t0) (i:=i) (κ:=Γ.n0+κ) (l:=List.map e xs) (fun hn=>by simp_all [Qd2]) (Qba8 hpl) (by omega) ((Qdh (n0:=Γ.n0) (L:=L) (M0:=M0)).trans hM0) hi (by omega) (by grind) ((Qdh (n0:=Γ.n0) (L:=L) (M0:=M0)).trans hκM) (fun t=>hE.at t) ?_ (hL.nomem hMe) ?_
 ·intro k cs hk;have hk:Qm Γ.n0 L M0 k=some (.cells cs):=hk;rcases Nat.lt_or_ge k Γ.n0 with hlt|hge
  ·rw [Qel hlt] at hk;rw [if_neg (by omega)];exact hMe.cells k cs hk
  ·obtain ⟨t,rfl⟩ : ∃ t,k=Γ.n0+t:=⟨k-Γ.n0,by omega⟩;rw [Qdh] at hk;have:=hL.at t cs hk
   grind
 ·intro c hc hm;have:=h c (by simpa using hc) (by simp at hc;omega)
  simp_all [Qd2]
theorem Qbjx {cc:CC} {Q:Ex→St→Prop} {M0:Mem} (hG:Lone Γ M0) (hMe:Q5p M0) (t0 i κ:Nat) {sz m:Nat} {e:α→List D} {xs:List α} {E:List (Nat×V)} {L:List (Nat×Bx)} {cs0:List V} (hxs:¬ xs=[]) (hpl:∀ x,(e x).all Qt5=true) (hM0:Qb2 L t0=some (.cells cs0))
  (hi:cs0[i]? = some (.own sz (List.map e xs))) (hκ2:Nat.blt κ m=true) (hκM:Qb2 L κ=none) (hE:PL E) (hL:PB t0 i L)
  (h:∀ c,xs.length≤c→xs.length≤maxLen→Tr Γ cc ⟨look E,Qm Γ.n0 ((κ,.cells (Qby (List.map e xs) ((c-xs.length)*sz)))::(t0,.cells (cs0.set i (.sl sz (Γ.n0+κ) 0 xs.length c)))::L) M0,Γ.n0+m⟩ Q):Tr Γ cc ⟨look E,Qm Γ.n0 L M0,Γ.n0+m⟩ Q :=
 Qbil hG hMe t0 i κ (fun h=>absurd h hxs) hpl hM0 hi hκ2 hκM hE hL h
theorem Qbhf {cc:CC} {Q:Ex→St→Prop} {M0:Mem} (hG:Lone Γ M0) (hMe:Q5p M0) (t κ:Nat) {sz m:Nat} {e:α→List D} {xs:List α} {E:List (Nat×V)} {L:List (Nat×Bx)} (hxs:¬ xs=[]) (hpl:∀ x,(e x).all Qt5=true) (hs0:look E t = .own sz (List.map e xs))
  (hκ2:Nat.blt κ m=true) (hκM:Qb2 L κ=none) (hE:PL ((t,.und)::E)) (hL:PB κ 0 L)
  (h:∀ c,xs.length≤c→xs.length≤maxLen→Tr Γ cc ⟨look ((t,.sl sz (Γ.n0+κ) 0 xs.length c)::E),Qm Γ.n0 ((κ,.cells (Qby (List.map e xs) ((c-xs.length)*sz)))::L) M0,Γ.n0+m⟩ Q):Tr Γ cc ⟨look E,Qm Γ.n0 L M0,Γ.n0+m⟩ Q:=by
 have hlt:κ<m:=Nat.le_of_ble_eq_true hκ2;refine Tr.thawS (σ:=⟨look E,Qm Γ.n0 L M0,Γ.n0+m⟩) hG (fun k hk h=>by show (Qm Γ.n0 L M0 k).isSome=true;rw [Qel hk];exact h) (t:=t) (κ:=Γ.n0+κ) (l:=List.map e xs) (by simpa using hxs) (Qba8 hpl) hs0 (by omega) (by grind) ((Qdh (n0:=Γ.n0) (L:=L) (M0:=M0)).trans hκM) (fun t' ht=>?_) ?_ (hL.nomem hMe) ?_
 ·have:=hE.at t'
  grind [look,Nat.beq,absurd,Nat.eq_of_beq_eq_true]
 ·intro k cs hk;have hk:Qm Γ.n0 L M0 k=some (.cells cs):=hk;rcases Nat.lt_or_ge k Γ.n0 with hlt|hge
  ·rw [Qel hlt] at hk;exact hMe.cells k cs hk
  ·obtain ⟨u,rfl⟩ : ∃ u,k=Γ.n0+u:=⟨k-Γ.n0,by omega⟩;rw [Qdh] at hk;have hne:u≠κ:=by grind
   have:=hL.at u cs hk
   rwa [if_neg hne] at this
 ·intro c hc hm;have:=h c (by simpa using hc) (by simp at hc;omega)
  simp_all [Qd2,Qcv]
def RowK (P:Program) (c:Nat) (e:α→List D) (sz:Nat) (ex:List V) (f:List α→Option (List α)):Prop :=
 ∀ xs ys,f xs=some ys→ys.length=xs.length∧(xs=[]→ys=xs∧∀ M nb,ACalls P c (.d (.lst sz (List.map e xs))::ex) M nb (.tup []) M nb) ∧
  (xs.length≤maxLen→∀ cap k0 M nb,M k0=some (.cells (Qby (List.map e xs) ((cap-xs.length)*sz)))→ACalls P c (.sl sz k0 0 xs.length cap::ex) M nb (.tup []) (M.put k0 (.cells (Qby (List.map e ys) ((cap-xs.length)*sz)))) nb)
section
variable {pc d nb:Nat} {os:List COp} {E:List (Nat×V)} {M0:Mem} {L:List (Nat×Bx)} {Q:St→Prop} {gd:Option (Nat×Bool)}
theorem Rn.callRow {f:FuncId} {as:List Arg} {args:List V} {r:V} {t:Nat} {cs cs' : List V} (hw:Wn E gd) (ha:V.dems (as.map (·.val (look E)))=args) (ht:Qb2 L t=some (.cells cs)) (hC:∀ M,M (Γ.n0+t)=some (.cells cs)→ACalls Γ.P f args M nb r (M.put (Γ.n0+t) (.cells cs')) nb)
  (hpc:pcOf pc=0) (h:Rn Γ pc os ⟨look ((d,r)::E),Qm Γ.n0 ((t,.cells cs')::L) M0,nb⟩ Q):Rn Γ pc (⟨some d,.call f,as,false,gd⟩::os) ⟨look E,Qm Γ.n0 L M0,nb⟩ Q:=by
 refine Rn.cons ?_;unfold COp.run;rw [hw.wanted];simp only [show (K.call f).isCall=true from rfl,if_true,COp.callee,ha];rw [hpc];refine ⟨r,(Qm Γ.n0 L M0).put (Γ.n0+t) (.cells cs'),nb,hC _ (by rw [Qdh];exact ht),fun k hk=>?_,fun k cs2 hk hM=>.inl ?_,?_⟩
 ·grind [Mem.put]
 ·rw [Qb8 _ _ (by omega)]
 simp_all [Q9,look,Qcv,Qd2]
end
theorem fSlT {n0 t n c sz:Nat} {e:α→List D} {ys:List α} (h:∀ x,(e x).length=sz) (hn:ys.length=n) (hc:n≤c):WkV (frzV (n0+t) ((ys.map e).flatten) (.sl sz (n0+t) 0 n c)) (.d (.lst sz (ys.map e))):=by
 subst hn;have h1:=Qx7 h ys
 simp_all [List.drop_zero,List.take_of_length_le,frzV,if_true,if_pos,Qx6,Qbed]
theorem Q5r:∀ ds:List D,toDs (ds.map V.d)=some ds
 | []=>rfl
 | d::ds=>by simp only [List.map_cons,toDs,V.toD,Q5r ds]
theorem Qbim {e:α→List D} {ys:List α} {room:Nat}:PreD (Qby (List.map e ys) room) ((List.map e ys).flatten):=PreD.app (Q5r _)
theorem Tr.seqW {x y:CC} {Q:Ex→St→Prop} (σ2:St) (hx:Tr Γ x σ fun e σ'=>e = .norm∧WeakSt Γ σ' σ2) (hy:Tr Γ y σ2 Q):Tr Γ (.seq x y) σ Q:=by
 refine Tr.seq (hx.mono ?_);rintro e σ' ⟨rfl,hw⟩;exact hy.weak hw
end Go.Abs
end
section
namespace Go.Abs
open Go
theorem Qba9 {k:IntKind} (a b:Int×Int):Qe9 (.agg [.d (.int k a.1),.d (.int k a.2)]) (.agg [.d (.int k b.1),.d (.int k b.2)])=(a==b):=by
 obtain ⟨a1,a2⟩:=a;obtain ⟨b1,b2⟩:=b;simp only [Qe9,Qqi,Qjc,Bool.and_true]
 rfl
theorem decB {p:Prop} [Decidable p] {b:Bool} (h:b=true↔p):b=decide p:=by
 cases b with
 | true=>simp [h.1 rfl]
 | false =>
  by_cases hp:p
  ·have:=h.2 hp;cases this
  ·simp [hp]
variable {κ β:Type} [BEq κ]
def mapE (ek:κ→V) (ev:β→V):Nat→List (κ×β)→List (V×V×Nat)
 | _,[]=>[]
 | i,(k,v)::m=>(ek k,ev v,i)::mapE ek ev (i+1) m
def idxS (m:List (κ×β)) (k:κ):Nat:=match m with
 | []=>0
 | (k',_)::m=>if k==k' then 0 else idxS m k+1
def hasM (m:List (κ×β)) (k:κ):Bool:=m.any fun p=>k==p.1
def getM (m:List (κ×β)) (k:κ) (z:β):β:=match m with
 | []=>z
 | (k',v)::m=>if k==k' then v else getM m k z
def setM (m:List (κ×β)) (k:κ) (v:β):List (κ×β):=match m with
 | []=>[(k,v)]
 | (k',v')::m=>if k==k' then (k,v)::m else (k',v')::setM m k v
def putM (m:List (κ×β)) (i:Nat) (v:β):List (κ×β):=m.modify i fun p=>(p.1,v)
theorem Qj2 {k k' : κ} {v:β} {m:List (κ×β)}:hasM ((k',v)::m) k=((k==k')||hasM m k):=rfl
theorem Q3n {ek:κ→V} {ev:β→V}:∀ (i:Nat) (m:List (κ×β)),(mapE ek ev i m).length=m.length
 | _,[]=>rfl
 | i,_::m=>by simp [mapE,Q3n (i+1) m]
theorem Q6t {ek:κ→V} {ev:β→V}:∀ (i j:Nat) (m:List (κ×β)),(mapE ek ev i m)[j]? = (m[j]?).map fun p=>(ek p.1,ev p.2,i+j)
 | _,j,[]=>by simp [mapE]
 | i,0,_::m=>by simp [mapE]
 | i,j+1,_::m=>by
  simp only [mapE,List.getElem?_cons_succ,Q6t (i+1) j m];rw [show i+1+j=i+(j+1) from by omega]
theorem Qo7 {ek:κ→V} {ev:β→V}:∀ (i:Nat) (m n:List (κ×β)),mapE ek ev i (m++n)=mapE ek ev i m++mapE ek ev (i+m.length) n
 | _,[],n=>by simp [mapE]
 | i,(k,v)::m,n=>by simp [mapE,Qo7 (i+1) m n];congr 1;omega
theorem Qm4 {ek:κ→V} {ev:β→V} {kd:MK} (hk:∀ a,kd.ok (ek a)=true):∀ (i:Nat) (m:List (κ×β)),kd.all (mapE ek ev i m)=true
 | _,[]=>rfl
 | i,(k,v)::m=>by
  have:=Qm4 (ev:=ev) hk (i+1) m;simp only [MK.all] at *
  simp [mapE,hk,this]
section
variable {ek:κ→V} {ev:β→V} (hs:∀ a b,Qe9 (ek a) (ek b)=(a==b))
include hs
theorem Qlg {k:κ}:∀ (i:Nat) (m:List (κ×β)) (z:β),Qgr (ek k) (mapE ek ev i m)=if hasM m k then some (idxS m k,ev (getM m k z)) else none
 | _,[],z=>rfl
 | i,(k',v)::m,z=>by
  simp only [mapE,Qgr,hs,Qlg (i+1) m z,Qj2,idxS,getM];by_cases hb:(k==k')=true
  ·simp [hb]
  ·simp only [hb,Bool.false_eq_true,if_false,Bool.false_or];by_cases hq:hasM m k=true
   ·rw [if_pos hq,if_pos hq];rfl
   ·rw [if_neg hq,if_neg hq];rfl
omit hs in
theorem Qbem {k:κ}:∀ {m:List (κ×β)},hasM m k=true→idxS m k<m.length
 | [],h=>by cases h
 | (k',v)::m,h=>by
  simp only [idxS,hasM,List.any_cons] at *
  cases hb:(k==k') with
  | true=>simp
  | false =>
   rw [hb] at h;have:=Qbem (m:=m) (by simpa [hasM] using h);simp;exact this
omit hs in
theorem Q8a {k:κ}:∀ {m:List (κ×β)},hasM m k=false→idxS m k=m.length
 | [],h=>rfl
 | (k',v)::m,h=>by
  simp only [hasM,List.any_cons,Bool.or_eq_false_iff] at h;simp only [idxS,h.1,Bool.false_eq_true,if_false,List.length_cons];rw [Q8a (m:=m) h.2]
omit hs in
theorem Qr8 {k:κ} {v:β}:∀ {m:List (κ×β)},hasM m k=false→setM m k v=m++[(k,v)]
 | [],h=>rfl
 | (k',v')::m,h=>by
  simp only [hasM,List.any_cons,Bool.or_eq_false_iff] at h;simp only [setM,h.1,Bool.false_eq_true,if_false,List.cons_append];rw [Qr8 (m:=m) h.2]
omit hs in
theorem Q2e {k:κ} {v:β}:∀ (i:Nat) {m:List (κ×β)},hasM m k=true→modM (ek k) (ev v) (idxS m k) (mapE ek ev i m)=mapE ek ev i (setM m k v)
 | _,[],h=>by cases h
 | i,(k',v')::m,h=>by
  simp only [idxS,setM,mapE,hasM,List.any_cons] at *
  cases hb:(k==k') with
  | true=>simp [modM,mapE]
  | false =>
   rw [hb] at h;simp only [Bool.false_eq_true,if_false,modM,mapE];rw [Q2e (i+1) (by simpa [hasM] using h)]
omit hs in
theorem Qo8 {k:κ} {v:β}:∀ {m:List (κ×β)},hasM m k=true→(setM m k v).length=m.length
 | [],h=>by cases h
 | (k',v')::m,h=>by
  simp only [setM,hasM,List.any_cons] at *
  cases hb:(k==k') with
  | true=>simp
  | false =>
   rw [hb] at h;simp [Qo8 (m:=m) (by simpa [hasM] using h)]
omit hs in
theorem Qben {v:β}:∀ (i j:Nat) {m:List (κ×β)} {p:κ×β},m[j]? = some p→modM (ek p.1) (ev v) j (mapE ek ev i m)=mapE ek ev i (putM m j v)
 | i,0,q::m,p,h=>by simp at h;subst h;simp [putM,mapE,modM]
 | i,j+1,q::m,p,h=>by
  simp at h;have:=Qben (v:=v) (i+1) j h;simp only [putM,mapE,modM,List.modify_succ_cons] at *
  rw [this]
 | i,j,[],p,h=>by simp at h
omit hs in
theorem Q8b:∀ (i j:Nat) (m:List (κ×β)),j<m.length→Q56 ((i+j:Nat):Int) (mapE ek ev i m)=some j
 | i,j,[],h=>by simp at h
 | i,0,_::m,h=>by simp [mapE,Q56]
 | i,j+1,_::m,h=>by
  have:=Q8b (i+1) j m (by simpa using h);simp only [mapE,Q56];have hne:((i:Int)==((i+(j+1):Nat):Int))=false:=by simp;omega
  rw [hne,show i+(j+1)=i+1+j from by omega,this];rfl
end
variable {Γ:Env} {pc d nb:Nat} {os:List COp} {E:List (Nat×V)} {M M' M0:Mem} {L:List (Nat×Bx)} {Q:St→Prop} {gd:Option (Nat×Bool)} {a b c:Arg} {ek:κ→V} {ev:β→V} {m:List (κ×β)}
theorem Rn.k0 {k:K} {as:List Arg} {v:V} (hw:Wn E gd) (hc:k.isCall=false) (hn:k.isNil=false) (hk:Qh Γ.n0 (Γ.n0+0) k (V.dems (as.map (·.val (look E)))) M=some (v,M'))
  (h:Rn Γ pc os ⟨look E,M',nb⟩ Q):Rn Γ pc (⟨none,k,as,false,gd⟩::os) ⟨look E,M,nb⟩ Q:=by
 refine Rn.cons ?_;unfold COp.run;rw [hw.wanted];simp only [hc,hn,Bool.false_eq_true,if_false,COp.step,COp.xs,Option.getD_none,hk,Q9];exact h
theorem Rn.mkmap (hw:Wn E gd) (hf:(Qb2 L d).isNone=true) (ek:κ→V) (ev:β→V) (h:Rn Γ pc os ⟨look ((d,.mp (Γ.n0+d))::E),Qm Γ.n0 ((d,.mp (mapE ek ev 0 []) 0)::L) M0,nb⟩ Q) :
  Rn Γ pc (⟨some d,.mkmap,[],false,gd⟩::os) ⟨look E,Qm Γ.n0 L M0,nb⟩ Q:=by
 refine Rn.k hw rfl rfl ?_ h;simp only [List.map_nil,V.dems,Qh];rw [if_pos (by simp [Qmn (Γ:=Γ) (M0:=M0) hf]),Qd2];rfl
theorem Rn.mkmapH {k:IntKind} {n:Int} (hw:Wn E gd) (ha:a.val (look E) = .d (.int k n)) (hf:(Qb2 L d).isNone=true) (ek:κ→V) (ev:β→V) (h:Rn Γ pc os ⟨look ((d,.mp (Γ.n0+d))::E),Qm Γ.n0 ((d,.mp (mapE ek ev 0 []) 0)::L) M0,nb⟩ Q) :
  Rn Γ pc (⟨some d,.mkmap,[a],false,gd⟩::os) ⟨look E,Qm Γ.n0 L M0,nb⟩ Q:=by
 refine Rn.k hw rfl rfl ?_ h;simp only [List.map_cons,List.map_nil,V.dems,ha,V.dem,Qh];rw [if_pos (by simp [Qmn (Γ:=Γ) (M0:=M0) hf]),Qd2];rfl
theorem Rn.lenm {t:Nat} (hw:Wn E gd) (ha:a.val (look E) = .mp (Γ.n0+t)) (hM:Qb2 L t=some (.mp (mapE ek ev 0 m) m.length)) (h:Rn Γ pc os ⟨look ((d,.d (.int .i64 m.length))::E),Qm Γ.n0 L M0,nb⟩ Q) :
  Rn Γ pc (⟨some d,.lenm,[a],false,gd⟩::os) ⟨look E,Qm Γ.n0 L M0,nb⟩ Q:=by
 refine Rn.k hw rfl rfl ?_ h;simp only [List.map_cons,List.map_nil,V.dems,ha,V.dem,Qh,Qeh hM,Q3n]
section
variable (hs:∀ a b,Qe9 (ek a) (ek b)=(a==b)) {kd:MK} (hk:∀ a,kd.ok (ek a)=true) (hv:∀ b,(ev b).dat=true)
include hs hk hv
theorem Rn.lookup {t:Nat} {z:V} {k:κ} (zb:β) (hz:ev zb=z) (hw:Wn E gd) (ha:a.val (look E) = .mp (Γ.n0+t)) (hb:(b.val (look E)).dem=ek k) (hM:Qb2 L t=some (.mp (mapE ek ev 0 m) m.length))
  (h:Rn Γ pc os ⟨look ((d,ev (getM m k zb))::E),Qm Γ.n0 L M0,nb⟩ Q):Rn Γ pc (⟨some d,.lookup kd false z,[a,b],false,gd⟩::os) ⟨look E,Qm Γ.n0 L M0,nb⟩ Q:=by
 subst hz;refine Rn.k hw rfl rfl ?_ h;simp only [List.map_cons,List.map_nil,V.dems,ha,hb,V.dem,Qh,Qeh hM,hk,Qm4 hk,Bool.and_self,if_true,Qlg hs 0 m zb];cases hh:hasM m k with
 | true=>simp [Qxm (hv _),Qu7 (hv _)]
 | false =>
  have:getM m k zb=zb:=by
   clear hM h
   induction m with
   | nil=>rfl
   | cons p m ih =>
    simp only [hasM,List.any_cons,Bool.or_eq_false_iff] at hh;simp only [getM,hh.1,Bool.false_eq_true,if_false];exact ih hh.2
  simp [hv,this]
theorem Rn.lookupC {t:Nat} {z:V} {k:κ} (zb:β) (hz:ev zb=z) (hw:Wn E gd) (ha:a.val (look E) = .mp (Γ.n0+t)) (hb:(b.val (look E)).dem=ek k) (hM:Qb2 L t=some (.mp (mapE ek ev 0 m) m.length))
  (h:Rn Γ pc os ⟨look ((d,.tup [ev (getM m k zb),.d (.bool (hasM m k))])::E),Qm Γ.n0 L M0,nb⟩ Q):Rn Γ pc (⟨some d,.lookup kd true z,[a,b],false,gd⟩::os) ⟨look E,Qm Γ.n0 L M0,nb⟩ Q:=by
 subst hz;refine Rn.k hw rfl rfl ?_ h;simp only [List.map_cons,List.map_nil,V.dems,ha,hb,V.dem,Qh,Qeh hM,hk,Qm4 hk,Bool.and_self,if_true,Qlg hs 0 m zb];cases hh:hasM m k with
 | true=>simp [Qxm (hv _),Qu7 (hv _)]
 | false =>
  have:getM m k zb=zb:=by
   clear hM h
   induction m with
   | nil=>rfl
   | cons p m ih =>
    simp only [hasM,List.any_cons,Bool.or_eq_false_iff] at hh;simp only [getM,hh.1,Bool.false_eq_true,if_false];exact ih hh.2
  simp [hv,this]
theorem Rn.mapset {t:Nat} {k:κ} {v:β} (hw:Wn E gd) (ha:a.val (look E) = .mp (Γ.n0+t)) (hb:(b.val (look E)).dem=ek k) (hc:Qu3 (c.val (look E)).dem=ev v) (hcd:(c.val (look E)).dem.dat=true) (hM:Qb2 L t=some (.mp (mapE ek ev 0 m) m.length))
  (h:Rn Γ pc os ⟨look E,Qm Γ.n0 ((t,.mp (mapE ek ev 0 (setM m k v)) (setM m k v).length)::L) M0,nb⟩ Q):Rn Γ pc (⟨none,.mapset kd,[a,b,c],false,gd⟩::os) ⟨look E,Qm Γ.n0 L M0,nb⟩ Q:=by
 refine Rn.k0 (v:=.und) hw rfl rfl ?_ h;simp only [List.map_cons,List.map_nil,V.dems,ha,hb,hc,V.dem,Qh,Qeh hM,hk,hcd,Qm4 hk,Bool.and_self,if_true];rw [Qlg hs 0 m v,← Qd2];cases hh:hasM m k with
 | true=>simp only [if_true];rw [Q2e 0 hh,Qo8 hh]
 | false =>
  simp only [Bool.false_eq_true,if_false];rw [Qr8 hh,Qo7];simp [mapE]
theorem Rn.mapentry {t:Nat} {z:V} {k:κ} (zb:β) (hz:ev zb=z) (hw:Wn E gd) (ha:a.val (look E) = .mp (Γ.n0+t)) (hb:(b.val (look E)).dem=ek k) (hM:Qb2 L t=some (.mp (mapE ek ev 0 m) m.length))
  (h:Rn Γ pc os ⟨look ((d,.tup [ev (getM m k zb),.d (.int .i64 (idxS m k))])::E),Qm Γ.n0 ((t,.mp (mapE ek ev 0 (setM m k (getM m k zb))) (setM m k (getM m k zb)).length)::L) M0,nb⟩ Q):Rn Γ pc (⟨some d,.mapentry kd z,[a,b],false,gd⟩::os) ⟨look E,Qm Γ.n0 L M0,nb⟩ Q:=by
 subst hz;refine Rn.k hw rfl rfl ?_ h;simp only [List.map_cons,List.map_nil,V.dems,ha,hb,V.dem,Qh,Qeh hM,hk,hv,Qm4 hk,Bool.and_self,if_true,Qlg hs 0 m zb];rw [← Qd2];cases hh:hasM m k with
 | true =>
  have hlt:=Qbem hh;simp only [if_true,hv,Q6t,List.getElem?_eq_getElem hlt,Option.map_some,Nat.zero_add];rw [Q2e 0 hh,Qo8 hh]
 | false =>
  have:getM m k zb=zb:=by
   clear hM h
   induction m with
   | nil=>rfl
   | cons p m ih =>
    simp only [hasM,List.any_cons,Bool.or_eq_false_iff] at hh;simp only [getM,hh.1,Bool.false_eq_true,if_false];exact ih hh.2
  simp only [Bool.false_eq_true,if_false];rw [this,Qr8 hh,Qo7,Q8a hh];simp [mapE]
omit hs hk in
theorem Rn.entrystore {t i:Nat} {v:β} (hi:i<m.length) (hw:Wn E gd) (ha:a.val (look E) = .mp (Γ.n0+t)) (hb:b.val (look E) = .d (.int .i64 (i:Int))) (hc:Qu3 (c.val (look E)).dem=ev v) (hcd:(c.val (look E)).dem.dat=true) (hM:Qb2 L t=some (.mp (mapE ek ev 0 m) m.length))
  (h:Rn Γ pc os ⟨look E,Qm Γ.n0 ((t,.mp (mapE ek ev 0 (putM m i v)) (putM m i v).length)::L) M0,nb⟩ Q):Rn Γ pc (⟨none,.entrystore,[a,b,c],false,gd⟩::os) ⟨look E,Qm Γ.n0 L M0,nb⟩ Q:=by
 refine Rn.k0 (v:=.und) hw rfl rfl ?_ h;have hbn:=Q8b (ek:=ek) (ev:=ev) 0 i m hi;rw [Nat.zero_add] at hbn;simp only [List.map_cons,List.map_nil,V.dems,ha,hb,hc,V.dem,Qh,Qeh hM,hcd,if_true,hbn,Q6t,List.getElem?_eq_getElem hi,Option.map_some];rw [← Qd2,Qben 0 i (List.getElem?_eq_getElem hi)];simp [putM]
end
theorem Qbkd {P:Nat→Bool}:Qds.go P []=[]:=rfl
theorem Qbke {n0 t o:Nat} {sites:List Nat} {cs:List V} (h:sites.any (fun u=>Nat.beq t u)=false) (r:Qds.go (Qiz n0 sites) cs=cs):Qds.go (Qiz n0 sites) (.ptr (n0+t) o::cs) = .ptr (n0+t) o::cs:=by
 simp [Qds.go,Qds,Qo5,h,r]
theorem Qbjy {n0 k o:Nat} {sites:List Nat} {cs:List V} (h:k<n0) (r:Qds.go (Qiz n0 sites) cs=cs):Qds.go (Qiz n0 sites) (.ptr k o::cs) = .ptr k o::cs:=by
 simp [Qds.go,Qds,Qot h,r]
theorem kgD {P:Nat→Bool} {x:D} {cs:List V} (r:Qds.go P cs=cs):Qds.go P (.d x::cs) = .d x::cs:=by
 simp [Qds.go,Qds,r]
theorem kClo {P:Nat→Bool} {f:FuncId} {cs:List V} (h:Qds.go P cs=cs):WkV (Qds P (.clo f cs)) (.clo f cs):=.same (by simp [Qds,h])
theorem kMp {n0 t:Nat} {sites:List Nat} (h:sites.any (fun u=>Nat.beq t u)=false):WkV (Qds (Qiz n0 sites) (.mp (n0+t))) (.mp (n0+t)):=by
 refine .same ?_;simp [Qds,Qo5,h]
theorem fMp {n0 t u:Nat} {ds:List D} (h:Nat.beq u t=false):WkV (frzV (n0+t) ds (.mp (n0+u))) (.mp (n0+u)):=by
 have:¬ n0+u=n0+t:=by
  intro e;have:u=t:=by omega
  subst this;simp at h
 exact .same (by simp only [frzV];rw [if_neg this])
end Go.Abs
end
section
namespace Go.Abs
open Go
mutual
def frmV (k:Nat) (x:D):V→V
 | .und=>.und
 | .d y=>.d y
 | .agg cs=>.agg (frmVs k x cs)
 | .tup cs=>.tup (frmVs k x cs)
 | .own sz l=>.own sz l
 | .ownT sz l=>.ownT sz l
 | .ptr k' o=>if k'=k then .und else .ptr k' o
 | .nilp=>.nilp
 | .f y=>.f y
 | .nils sz=>.nils sz
 | .cref cs=>.cref cs
 | .sl sz k' o n c=>if k'=k then .und else .sl sz k' o n c
 | .clo f cs=>.clo f (frmVs k x cs)
 | .mp k'=>if k'=k then .d x else .mp k'
def frmVs (k:Nat) (x:D):List V→List V
 | []=>[]
 | v::vs=>frmV k x v::frmVs k x vs
end
theorem Q3o (k:Nat) (x:D):∀ vs,frmVs k x vs=vs.map (frmV k x)
 | []=>rfl
 | v::vs=>by simp [frmVs,Q3o k x vs]
mutual
theorem Qbhg {p:Nat→Prop} (k:Nat) (x:D):∀ v:V,v.on p→(frmV k x v).on fun j=>p j∧j≠k
 | .und,_=>trivial
 | .d _,_=>trivial
 | .agg cs,h=>ons_frm k x cs h
 | .tup cs,h=>ons_frm k x cs h
 | .own ..,_=>trivial
 | .ownT ..,_=>trivial
 | .ptr k' o,h=>by
  simp only [frmV];split
  ·trivial
  ·rename_i hne;exact ⟨h,hne⟩
 | .nilp,_=>trivial
 | .f _,_=>trivial
 | .nils _,_=>trivial
 | .cref _,_=>trivial
 | .sl sz k' o n c,h=>by
  simp only [frmV];split
  ·trivial
  ·rename_i hne;exact ⟨h,hne⟩
 | .clo _ cs,h=>ons_frm k x cs h
 | .mp k',h=>by
  simp only [frmV];split
  ·trivial
  ·rename_i hne;exact ⟨h,hne⟩
theorem ons_frm {p:Nat→Prop} (k:Nat) (x:D):∀ vs:List V,V.ons p vs→V.ons (fun j=>p j∧j≠k) (frmVs k x vs)
 | [],_=>trivial
 | v::vs,h=>⟨Qbhg k x v h.1,ons_frm k x vs h.2⟩
end
section
variable {g:G} {w:World} {k:Nat} {x:D} [DecidablePred fun b=>b=g.box k] (hB:g.own (g.box k) = .box k) (hx:RD (g.frz k 1).imm w x (.map (some (g.box k))))
theorem Qo9 {k:Nat}:∀ ℓ i,ℓ≠Owner.box k→ℓ.sub i ≠ .box k:=by intro ℓ i _;cases ℓ<;>simp [Owner.sub]
include hB
theorem Qlh:Kept g w (g.frz k 1) w (fun j=>j≠k) (fun o=>o ≠ .box k):=by
 refine ⟨⟨fun _ _ h=>.inl h,fun _ _ _=>rfl⟩,fun _ _=>rfl,fun b hb _=>?_⟩;have hne:b≠g.box k:=by rintro rfl;exact hb hB
 exact ⟨by simp [G.frz,hne],rfl,fun o=>by simp [G.frz,hne]⟩
include hx
mutual
theorem Qbhh:∀ (v:V) (ℓ:Owner) (u:Value),ℓ ≠ .box k→RV g w v ℓ u→RV (g.frz k 1) w (frmV k x v) ℓ u
 | .agg cs,ℓ,u,hl,h=>by
  simp only [frmV,RV] at h ⊢;obtain ⟨vs,rfl,h,h1⟩:=h;exact ⟨vs,rfl,RVs_frm cs ℓ 0 vs h,h1⟩
 | .tup cs,ℓ,u,hl,h=>by
  simp only [frmV,RV] at h ⊢;obtain ⟨vs,rfl,h⟩:=h;exact ⟨vs,rfl,RVs_frm cs ℓ 0 vs h⟩
 | .clo f cs,ℓ,u,hl,h=>by
  simp only [frmV,RV] at h ⊢;obtain ⟨vs,rfl,h⟩:=h;exact ⟨vs,rfl,RVs_frm cs .ext 0 vs h⟩
 | .ptr k' o,ℓ,u,hl,h=>by
  simp only [frmV];split
  ·simp [RV]
  ·rename_i hne;exact Qdc (Qlh hB) Qo9 (by simp) (.ptr k' o) ℓ u hl hne h
 | .sl sz k' o n c,ℓ,u,hl,h=>by
  simp only [frmV];split
  ·simp [RV]
  ·rename_i hne;exact Qdc (Qlh hB) Qo9 (by simp) (.sl sz k' o n c) ℓ u hl hne h
 | .mp k',ℓ,u,hl,h=>by
  simp only [frmV];split
  ·rename_i he;subst he;simp only [RV] at h ⊢;subst h;exact hx
  ·rename_i hne;exact Qdc (Qlh hB) Qo9 (by simp) (.mp k') ℓ u hl hne h
 | .und,_,_,_,_=>by simp [frmV,RV]
 | .d y,ℓ,u,hl,h=>Qdc (Qlh hB) Qo9 (by simp) (.d y) ℓ u hl trivial h
 | .own sz l,ℓ,u,hl,h=>Qdc (Qlh hB) Qo9 (by simp) (.own sz l) ℓ u hl trivial h
 | .ownT sz l,ℓ,u,hl,h=>Qdc (Qlh hB) Qo9 (by simp) (.ownT sz l) ℓ u hl trivial h
 | .nilp,ℓ,u,hl,h=>Qdc (Qlh hB) Qo9 (by simp) .nilp ℓ u hl trivial h
 | .f y,ℓ,u,hl,h=>Qdc (Qlh hB) Qo9 (by simp) (.f y) ℓ u hl trivial h
 | .nils sz,ℓ,u,hl,h=>Qdc (Qlh hB) Qo9 (by simp) (.nils sz) ℓ u hl trivial h
 | .cref cs,ℓ,u,hl,h=>Qdc (Qlh hB) Qo9 (by simp) (.cref cs) ℓ u hl trivial h
theorem RVs_frm:∀ (cs:List V) (ℓ:Owner) (i:Nat) (us:List Value),RVs g w cs ℓ i us→RVs (g.frz k 1) w (frmVs k x cs) ℓ i us
 | [],_,_,_,h=>by simpa [frmVs,RVs] using h
 | c::cs,ℓ,i,us,h=>by
  simp only [frmVs,RVs] at h ⊢;obtain ⟨u,us',rfl,h1,h2⟩:=h;have hne:ℓ.sub i ≠ .box k:=by cases ℓ<;>simp [Owner.sub]
  exact ⟨u,us',rfl,Qbhh c (ℓ.sub i) u hne h1,RVs_frm cs ℓ (i+1) us' h2⟩
end
end
theorem Qbeo {g:G} {w:World} {ℓ:Owner} {u u' : Value} (h:(Qm6 u).dat1=true) (hr:RV g w (Qm6 u) ℓ u'):u'=u:=by
 cases u<;>simp [Qm6,V.dat1] at h<;>simpa [Qm6,RV,RD] using hr
theorem Q5s {g:G} {w:World} {ℓ:Owner}:∀ {us us' : List Value} {i:Nat},(us.map Qm6).all V.dat1=true→RVs g w (us.map Qm6) ℓ i us'→us'=us
 | [],_,_,_,h=>by simpa [RVs] using h
 | u::us,us',i,hd,h=>by
  simp only [List.map_cons,List.all_cons,Bool.and_eq_true] at hd;simp only [List.map_cons,RVs] at h;obtain ⟨v,vs,rfl,h1,h2⟩:=h;rw [Qbeo hd.1 h1,Q5s hd.2 h2]
theorem Qbba {g:G} {w:World} {ℓ:Owner} {u u' : Value} (h:(Qug u).dat=true) (hr:RV g w (Qug u) ℓ u'):u'=u:=by
 cases u with
 | agg vs =>
  simp only [Qug,RV] at hr;obtain ⟨us,rfl,h1,_⟩:=hr;rw [Q5s h h1]
 | _=>grind [Qug,Qm6,V.dat,RV,RD]
theorem Qbep {g:G} {w:World} {kb:Nat}:∀ {ents ents' : List MapEntry},RM g w kb (ents.map entV) ents'→ents'=ents
 | [],_,h=>by simpa [RM] using h
 | e::ents,ents',h=>by
  simp only [List.map_cons,RM] at h;obtain ⟨e',t,rfl,⟨a1,a2⟩,⟨b1,b2⟩,h3,h4⟩:=h;rw [Qbep h4];obtain ⟨k,v,b⟩:=e;obtain ⟨k',v',b'⟩:=e';have b3:(Qug v).dat=true:=by
   rcases Qqj b1 with h|⟨sz,l,h⟩
   ·exact h
   ·cases v<;>simp [entV,Qug,Qm6] at h
  rw [show k'=k from Qbba a1 a2,show v'=v from Qbba b3 b2,show b'=b from h3]
variable {Γ:Env} {σ:St}
open Classical in
theorem Qbgi {k c:Nat} {ents:List MapEntry} (hk:Γ.n0≤k) (hM:σ.M k=some (.mp (ents.map entV) c)):WeakSt Γ σ (Qq9 Γ.n0 k (frmV k (.mp ents c)) σ):=by
 intro a w g hs;obtain ⟨hltk,hB,ents',hh,hr⟩:=hs.mem.box k _ hM;rw [Qbep hr] at hh;have hx:RD (g.frz k 1).imm w (.mp ents c) (.map (some (g.box k))):=by
  simp only [RD];exact ⟨_,rfl,.inr ⟨rfl,by omega⟩,Qbfu hh⟩
 have hkept:=Qlh (w:=w) hB;have hthere:∀ j,(There σ.M j∧j≠k)→There (Qq9 Γ.n0 k (frmV k (.mp ents c)) σ).M j:=by
  rintro j ⟨h1,h2⟩;simp only [There,Qq9,h2,if_false] at h1 ⊢;split
  ·exact h1
  ·cases hj:σ.M j with
   | none=>simp [hj] at h1
   | some b=>cases b<;>rfl
 have hown:∀ j,j≠k→g.own (g.box j) = .box j→(g.frz k 1).own (g.box j) = .box j:=by
  intro j hj ho;have hne:g.box j≠g.box k:=by
   intro e;rw [e,hB] at ho;cases ho;exact hj rfl
  simp [G.frz,hne,ho]
 refine ⟨g.frz k 1,⟨⟨fun j b hb=>?_,fun b o hbo=>?_⟩,fun t=>Qbhh hB hx _ _ _ (by simp) (hs.slots t),hs.size,hs.defers,fun t=>Qfj hthere _ (Qbhg k _ _ (hs.onS t)),fun j cs' hb=>?_,hs.top,?_⟩⟩
 ·simp only [Qq9] at hb;split at hb
  ·cases hb
  ·rename_i hjk;split at hb
   ·rename_i hlt;obtain ⟨h1,h2,h3⟩:=hs.mem.box j b hb;refine ⟨h1,hown j hjk h2,?_⟩;cases b with
    | mp es c =>
     obtain ⟨ents,k1,k2⟩:=h3;exact ⟨ents,k1,Qkq (g:=g) (g':=g.frz k 1) hkept (fun _=>by simp) k2⟩
    | cells cs2 =>
     obtain ⟨vals,e,k1,k2,k3⟩:=h3;have hon:=(hs.onM j cs2 hb).2 hlt;exact ⟨vals,e,k1,RVs_mono hkept Qo9 (by simp) _ _ _ _ (by intro e;cases e;exact hjk rfl) (ons_mono (fun i hi=>by omega) _ hon) k2,k3⟩
   ·split at hb
    ·rename_i hlt _ cs2 hcs;cases hb;obtain ⟨h1,h2,vals,e,k1,k2,k3⟩:=hs.mem.box j _ hcs;refine ⟨h1,hown j hjk h2,vals,e,k1,?_,k3⟩;rw [← Q3o];exact RVs_frm hB hx _ _ _ _ k2
    ·rename_i hne;obtain ⟨h1,h2,h3⟩:=hs.mem.box j b hb;cases b with
     | mp es c =>
      obtain ⟨ents,k1,k2⟩:=h3;exact ⟨h1,hown j hjk h2,ents,k1,Qkq (g:=g) (g':=g.frz k 1) hkept (fun _=>by simp) k2⟩
     | cells cs2=>exact absurd hb (hne cs2)
 ·rcases hbo with hbo|⟨rfl,hlt⟩
  ·obtain ⟨h1,h2⟩:=hs.mem.imm b o hbo;refine ⟨h1,fun j=>?_⟩;simp only [G.frz];split
   ·simp
   ·exact h2 j
  ·exact ⟨(Array.getElem?_eq_some_iff.1 hh).1,fun j=>by simp [G.frz]⟩
 ·simp only [Qq9] at hb;split at hb
  ·cases hb
  ·rename_i hjk;split at hb
   ·rename_i hlt;obtain ⟨h1,h2⟩:=hs.onM j cs' hb;refine ⟨ons_mono (fun i hi=>hthere i ⟨hi.1,?_⟩) _ (ons_and cs' h1 (h2 hlt)),h2⟩;have:=hi.2;omega
   ·split at hb
    ·rename_i hlt _ cs2 hcs;cases hb;refine ⟨?_,fun h=>absurd h hlt⟩;rw [← Q3o];exact ons_mono hthere _ (ons_frm k _ _ (hs.onM j cs2 hcs).1)
    ·rename_i hne;exact absurd hb (hne cs')
 ·have hf:=hs.fr;refine ⟨hf.os,hf.tape,hf.output,hf.size,⟨fun b o h=>.inl (hf.imm.mono b o h),hf.imm.look⟩,hf.box,fun b hb ho=>?_⟩;obtain ⟨h1,h2,h3⟩:=hf.old b hb ho;have hne:b≠g.box k:=by
   rintro rfl;rw [hB] at h1;rw [← h1] at ho;exact ho
  exact ⟨by simp [G.frz,hne,h1],h2,fun o=>by simp [G.frz,hne,h3]⟩
def Qbhi:V→Value
 | .d (.int k n)=>.int k n
 | .d (.bool b)=>.bool b
 | .d (.str s)=>.string s
 | _=>undef
def Q8c:V→Value
 | .agg cs=>.agg (cs.map Qbhi).toArray
 | v=>Qbhi v
def Qbin (e:V×V×Nat):MapEntry:=⟨Q8c e.1,Q8c e.2.1,e.2.2⟩
section
variable {κ β:Type}
def mpD (ek:κ→V) (ev:β→V) (m:List (κ×β)):D:=.mp ((mapE ek ev 0 m).map Qbin) m.length
theorem Q3p {ek:κ→V} {ev:β→V} (hk:∀ a,Qug (Q8c (ek a))=ek a) (hv:∀ b,Qug (Q8c (ev b))=ev b):∀ (i:Nat) (m:List (κ×β)),((mapE ek ev i m).map Qbin).map entV=mapE ek ev i m
 | _,[]=>rfl
 | i,(k,v)::m=>by
  have:=Q3p hk hv (i+1) m;simp only [mapE,List.map_cons,this];simp only [Qbin,entV,hk,hv]
theorem Q1p (t:Nat) {E E' : List (Nat×V)} {L:List (Nat×Bx)} {L' : List (Nat×Bx)} {M0:Mem} {nb:Nat} {ek:κ→V} {ev:β→V} {m:List (κ×β)} (hM:Qb2 L t=some (.mp (mapE ek ev 0 m) m.length))
  (hkk:∀ a,Qug (Q8c (ek a))=ek a) (hvv:∀ b,Qug (Q8c (ev b))=ev b)
  (hE:FE (frmV (Γ.n0+t) (mpD ek ev m)) (look E) E') (hL:FB (frmV (Γ.n0+t) (mpD ek ev m)) t L L') (hk:(L.all fun p=>Nat.beq p.1 t||L'.any fun q=>Nat.beq p.1 q.1)=true) :
  WeakSt Γ ⟨look E,Qm Γ.n0 L M0,nb⟩ ⟨look E',Qm Γ.n0 (bxs L') M0,nb⟩ :=
 Q5n _ t (Qbgi (σ:=⟨look E,Qm Γ.n0 L M0,nb⟩) (k:=Γ.n0+t) (by omega) (by show Qm Γ.n0 L M0 (Γ.n0+t)=_;rw [Qdh,Q3p hkk hvv];exact hM)) hE hL hk
end
theorem mPtr {n0 t u o:Nat} {x:D} (h:Nat.beq u t=false):WkV (frmV (n0+t) x (.ptr (n0+u) o)) (.ptr (n0+u) o):=by
 have:¬ n0+u=n0+t:=by
  intro e
  simp_all
 exact .same (by simp only [frmV];rw [if_neg this])
theorem mSlO {n0 t u sz o n c:Nat} {x:D} (h:Nat.beq u t=false):WkV (frmV (n0+t) x (.sl sz (n0+u) o n c)) (.sl sz (n0+u) o n c):=by
 have:¬ n0+u=n0+t:=by
  intro e
  simp_all
 exact .same (by simp only [frmV];rw [if_neg this])
theorem mMpS {n0 t:Nat} {x:D}:WkV (frmV (n0+t) x (.mp (n0+t))) (.d x):=.same (by simp [frmV])
section
variable {κ β:Type} [BEq κ] {Γ:Env} {pc d nb:Nat} {os:List COp} {E:List (Nat×V)} {M:Mem} {Q:St→Prop} {gd:Option (Nat×Bool)} {a b:Arg} {ek:κ→V} {ev:β→V} {m:List (κ×β)}
variable (hs:∀ a b,Qe9 (ek a) (ek b)=(a==b)) {kd:MK} (hk:∀ a,kd.ok (ek a)=true) (hv:∀ b,(ev b).dat=true) (hkk:∀ a,Qug (Q8c (ek a))=ek a) (hvv:∀ b,Qug (Q8c (ev b))=ev b)
theorem Qbbb {k:κ} {zb:β}:∀ {m:List (κ×β)},hasM m k=false→getM m k zb=zb
 | [],_=>rfl
 | p::m,hh=>by
  simp only [hasM,List.any_cons,Bool.or_eq_false_iff] at hh;simp only [getM,hh.1,Bool.false_eq_true,if_false];exact Qbbb hh.2
theorem Qbbc (hv:∀ b,(ev b).dat=true):∀ (i:Nat) (m:List (κ×β)),((mapE ek ev i m).all fun e=>e.2.1.dat)=true
 | _,[]=>rfl
 | i,(k,v)::m=>by simp only [mapE,List.all_cons,hv,Qbbc hv (i+1) m,Bool.and_self]
include hs hk hv hkk hvv
theorem Rn.lookupDC {z:V} {k:κ} (zb:β) (hz:ev zb=z) (hw:Wn E gd) (ha:a.val (look E) = .d (mpD ek ev m)) (hb:(b.val (look E)).dem=ek k)
  (h:Rn Γ pc os ⟨look ((d,.tup [ev (getM m k zb),.d (.bool (hasM m k))])::E),M,nb⟩ Q):Rn Γ pc (⟨some d,.lookup kd true z,[a,b],false,gd⟩::os) ⟨look E,M,nb⟩ Q:=by
 subst hz;refine Rn.k hw rfl rfl ?_ h;simp only [List.map_cons,List.map_nil,V.dems,ha,hb,V.dem,mpD,Qh,Q3p hkk hvv,hk,Qm4 hk,Bool.and_self,if_true,Qlg hs 0 m zb,Qbbc hv]
 grind [hasM,Qbbb]
end
end Go.Abs
end
section
namespace Go.Abs
open Go
abbrev oo (d:Nat) (k:K) (as:List Arg):COp:=⟨some d,k,as,false,none⟩
abbrev oM (d a:Nat):COp:=⟨some d,.mov,[.t a],false,none⟩
abbrev oL (d a:Nat):COp:=⟨some d,.load false 1,[.t a],false,none⟩
abbrev oF (d n a:Nat):COp:=⟨some d,.fld n,[.t a],false,none⟩
abbrev cI (n:Int):Arg:=.c (.d (.int .i64 n))
abbrev ot (d:Nat) (k:K) (as:List Arg):COp:=⟨some d,k,as,true,none⟩
universe u
variable {α:Type u} {Γ:Env} {pc d nb:Nat} {os:List COp} {E:List (Nat×V)} {M:Mem} {Q:St→Prop} {gd:Option (Nat×Bool)} {a b:Arg} {sz:Nat}
theorem Rn.idxArr {k o o' len:Nat} {kk:IntKind} {i:Int} (hw:Wn E gd) (ha:a.val (look E) = .ptr k o) (hb:b.val (look E) = .d (.int kk i)) (ho:o'=o+i.toNat*sz) (hx:inO len i=some ()) (h:Rn Γ pc os ⟨look ((d,.ptr k o')::E),M,nb⟩ Q) :
  Rn Γ pc (⟨some d,.idxarr sz len,[a,b],false,gd⟩::os) ⟨look E,M,nb⟩ Q:=by
 subst ho;unfold inO at hx;split at hx<;>cases hx;rename_i hc;refine Rn.k hw rfl rfl ?_ h;simp [ha,hb,V.dems,V.dem,Qh,hc.1,hc.2]
def rowO (l:List α) (i:Nat):Option α:=l[i]?
theorem Rn.loadArr {k off o n:Nat} {cs pre post:List V} {e:α→D} {l:List α} {x:α} (hw:Wn E gd) (ha:a.val (look E) = .ptr k off) (ho:off=o+n) (hM:M k=some (.cells cs)) (hc:cs=pre++(l.map fun x=>V.d (e x))++post) (hp:pre.length=o) (hx:rowO l n=some x)
  (h:Rn Γ pc os ⟨look ((d,.d (e x))::E),M,nb⟩ Q):Rn Γ pc (⟨some d,.load false 1,[a],false,gd⟩::os) ⟨look E,M,nb⟩ Q:=by
 subst ho hc hp;unfold rowO at hx;obtain ⟨hlt,hx'⟩:=List.getElem?_eq_some_iff.1 hx;refine Rn.k hw rfl rfl ?_ h;have h2:(pre++(l.map fun x=>V.d (e x))++post)[pre.length+n]? = some (.d (e x)):=by
  rw [List.append_assoc,List.getElem?_append_right (by omega),show pre.length+n-pre.length=n from by omega,List.getElem?_append_left (by simpa using hlt),List.getElem?_map,hx];rfl
 simp only [List.map_cons,List.map_nil,V.dems,ha,V.dem,Qh,hM];rw [if_pos (by simp only [List.length_append,List.length_map];omega)];simp only [Bool.false_eq_true,if_false,Option.map_eq_some_iff];exact ⟨_,h2,rfl⟩
theorem Rn.lit {bytes:Nat} {xs:List α} {e:α→List D} {ls:List (List D)} (hw:Wn E gd) (hl:xs.map e=ls) (hbd:(Nat.ble bytes 128&&Nat.ble 1 sz&&Nat.ble ls.length lim)=true)
  (h:Rn Γ pc os ⟨look ((d,.own sz (xs.map e))::E),M,nb⟩ Q):Rn Γ pc (⟨some d,.append sz bytes,[.c (.nils sz),.c (.d (.lst sz ls))],true,gd⟩::os) ⟨look E,M,nb⟩ Q:=by
 subst hl;simp only [Bool.and_eq_true] at hbd;have h1:=Nat.le_of_ble_eq_true hbd.1.1;have h2:0<sz:=Nat.le_of_ble_eq_true hbd.1.2;have h3:=Nat.le_of_ble_eq_true hbd.2;refine Rn.kT hw rfl rfl (v:=.own sz (xs.map e)) ?_ (fun i=>?_) h
 ·simp only [List.map_cons,List.map_nil,Arg.val,Qh,Qf7,if_true];rw [if_pos (by simp only [h1,h2,h3,decide_true,Bool.and_self])]
 ·simp only [List.map_cons,List.map_nil,Arg.val,Qbu,Qz,Arg.putTo];rw [Qcv]
theorem tv:True:=trivial
abbrev f_ (l:List Int):V:=.f (.lst 1 (List.map (eI .i64) l))
abbrev o_ (l:List Int):V:=.own 1 (List.map (eI .i64) l)
theorem sr {cs:List COp} {y:CC} {σ:St} {Q:Ex→St→Prop} (h:Rn Γ 9 cs σ (Qbea Γ y Q .norm)):Tr Γ (.seq (.region cs 9 []) y) σ Q:=Tr.seq (Tr.rgn h)
theorem nt {y:CC} {σ:St} {Q:Ex→St→Prop} (h:Tr Γ y σ Q):Rn Γ 9 [] σ (Qbea Γ y Q .norm):=Rn.nil (toN h)
theorem md {x:D} (ha:a.val (look E) = .d x) (h:Rn Γ pc os ⟨look ((d,.d x)::E),M,nb⟩ Q):Rn Γ pc (⟨some d,.mov,[a],false,none⟩::os) ⟨look E,M,nb⟩ Q:=Rn.movD trivial ha h
end Go.Abs
end
section
namespace Go.Abs
open Go
def CompK (P:Program) (c:Nat) (f:List Int→Option (List Int)):Prop :=
 ∀ xs ys,f xs=some ys→ys.length≤xs.length∧(xs=[]→ys=xs∧∀ M nb,ACalls P c [.d (.lst 1 (List.map (eI .i64) xs))] M nb (.d (.lst 1 (List.map (eI .i64) xs))) M nb) ∧
  (∀ cap k0 M nb,xs.length≤cap→M k0=some (.cells (Qby (List.map (eI .i64) xs) ((cap-xs.length)*1))) →
   ACalls P c [.sl 1 k0 0 xs.length cap] M nb (.sl 1 k0 0 ys.length cap) (M.put k0 (.cells (Qby (List.map (eI .i64) ys) ((cap-ys.length)*1)))) nb)
theorem Qbgj {P:Program} {c:Nat} {xs ys:List Int} {n cap k0 nb:Nat} {M:Mem}
  (h:∀ cap k0 M nb,xs.length≤cap→M k0=some (.cells (Qby (List.map (eI .i64) xs) ((cap-xs.length)*1))) →
   ACalls P c [.sl 1 k0 0 xs.length cap] M nb (.sl 1 k0 0 ys.length cap) (M.put k0 (.cells (Qby (List.map (eI .i64) ys) ((cap-ys.length)*1)))) nb)
  (hl:xs.length=n) (hc:n≤cap) (hM:M k0=some (.cells (Qby (List.map (eI .i64) xs) ((cap-n)*1)))) :
  ACalls P c [.sl 1 k0 0 n cap] M nb (.sl 1 k0 0 ys.length cap) (M.put k0 (.cells (Qby (List.map (eI .i64) ys) ((cap-ys.length)*1)))) nb:=by
 subst hl;exact h _ _ _ _ hc hM
theorem Tr.seqW2 {Γ:Env} {x y r:CC} {σ:St} {Q:Ex→St→Prop} (σ2:St) (hx:Tr Γ x σ (Qbea Γ y fun e σ'=>e = .norm∧WeakSt Γ σ' σ2)) (hr:Tr Γ r σ2 Q):Tr Γ (.seq x (.seq y r)) σ Q:=by
 refine Tr.seq (hx.mono ?_);intro e σ' h;cases e with
 | norm=>exact Tr.seqW σ2 h hr
 | exit i=>exact absurd h.1 (by simp)
 | ret=>exact absurd h.1 (by simp)
end Go.Abs
end
section
namespace Go.Abs
open Go
variable {α:Type}
theorem WkVs.app {a a' b b' : List V} (h:WkVs a a') (k:WkVs b b'):WkVs (a++b) (a'++b'):=by
 induction h with
 | nil=>exact k
 | cons h t ih=>exact .cons h ih
theorem Qbio {g g' : α→List V} {f:V→V}:∀ {xs:List α},(∀ x∈xs,WkVs ((g x).map f) (g' x))→WkVs ((Qei g xs).map f) (Qei g' xs)
 | [],_=>.nil
 | x::xs,h=>by
  rw [Qk1,Qk1,List.map_append];exact .app (h x (by simp)) (Qbio fun y hy=>h y (by simp [hy]))
theorem Qbkf {sz:Nat} {e:α→List D} {n:Int} {xs:List (List α)} {f:V→V} (hf:f (.nils sz) = .nils sz) (h:mkO n ([]:List α)=some xs):WkVs ((Qei (fun (x:List α)=>[V.nils sz]) xs).map f) (Qei (fun (x:List α)=>[V.own sz (List.map e x)]) xs):=by
 refine Qbio fun x hx=>?_;unfold mkO at h;split at h<;>cases h;obtain rfl:=List.eq_of_mem_replicate hx;simp only [List.map_cons,List.map_nil,hf];exact .cons (WkV.nilsO _) .nil
theorem Qbkg {sz:Nat} {e:α→List D} {xs:List (List α)} {f:V→V} (hf:∀ l,f (.own sz l) = .own sz l):WkVs ((Qei (fun (x:List α)=>[V.own sz (List.map e x)]) xs).map f) (Qei (fun (x:List α)=>[V.d (.lst sz (List.map e x))]) xs):=by
 refine Qbio fun x hx=>?_;simp only [List.map_cons,List.map_nil,hf];exact .cons (WkV.dem' rfl) .nil
variable {Γ:Env} {pc d nb:Nat} {os:List COp} {E:List (Nat×V)} {M M0:Mem} {L:List (Nat×Bx)} {Q:St→Prop} {gd:Option (Nat×Bool)} {a b:Arg} {sz:Nat} {e:α→List D}
def LOn (p:Nat→Prop):List (Nat×Bx)→Prop
 | []=>True
 | (_,.cells cs)::L=>V.ons p cs∧LOn p L
 | (_,.mp ..)::L=>LOn p L
theorem LOn.at {p:Nat→Prop}:∀ {L:List (Nat×Bx)},LOn p L→∀ t cs,Qb2 L t=some (.cells cs)→V.ons p cs
 | [],_,t,cs,h=>by cases h
 | (u,.cells ds)::L,hp,t,cs,h=>by
  simp only [Qb2] at h;cases hb:Nat.beq t u with
  | true=>rw [hb] at h;cases h;exact hp.1
  | false=>rw [hb] at h;exact LOn.at hp.2 t cs h
 | (u,.mp ..)::L,hp,t,cs,h=>by
  simp only [Qb2] at h;cases hb:Nat.beq t u with
  | true=>rw [hb] at h;cases h
  | false=>rw [hb] at h;exact LOn.at (L:=L) hp t cs h
end Go.Abs
end
section
namespace Go.Abs
open Go
def Mem.puts (M:Mem):List (Nat×Bx)→Mem
 | []=>M
 | (k,b)::l=>(Mem.puts M l).put k b
variable {M M0 M1 M2 M3:Mem} {k k' : Nat} {b b' c:Bx} {B B' : List (Nat×Bx)}
theorem pg0:M.puts ((k,b)::B) k=some b:=by simp [Mem.puts,Mem.put]
theorem pgS (h:k≠k') (hg:M.puts B k=some b):M.puts ((k',c)::B) k=some b:=by simp [Mem.puts,Mem.put,h,hg]
theorem ps0:(M.puts ((k,b)::B)).put k b'=M.puts ((k,b')::B):=by
 funext i;simp only [Mem.puts,Mem.put];split<;>rfl
theorem psS (h:k≠k') (hp:(M.puts B).put k b=M.puts B'):(M.puts ((k',c)::B)).put k b=M.puts ((k',c)::B'):=by
 simp only [Mem.puts];rw [← hp]
 grind [Mem.put]
def Qbeq (M:Mem):List (Nat×Bx)→Prop
 | []=>True
 | (k,b)::l=>M k=some b∧Qbeq M l
theorem Q8d:∀ {B:List (Nat×Bx)},Qbeq M B→M.puts B=M
 | [],_=>rfl
 | (k,b)::l,h=>by
  rw [Mem.puts,Q8d h.2];funext i;simp only [Mem.put];split
  ·rename_i e;subst e;exact h.1.symm
  ·rfl
def Qbhj (n:Nat):List (Nat×Bx)→Prop
 | []=>True
 | (k,_)::l=>k<n∧Qbhj n l
theorem Qber {n0:Nat} (hM:∀ k,n0≤k→M k=none):∀ {B:List (Nat×Bx)},Qbhj n0 B→∀ k,n0≤k→M.puts B k=none
 | [],_,k,hk=>hM k hk
 | (j,b)::l,h,k,hk=>by
  have h1:k≠j:=by have:=h.1;omega
  simp only [Mem.puts,Mem.put,h1,if_false];exact Qber hM h.2 k hk
theorem There.puts:∀ {B:List (Nat×Bx)} {k:Nat},There M k→There (M.puts B) k
 | [],_,h=>h
 | _::l,_,h=>There.put (There.puts (B:=l) h)
variable {Γ:Env} {pc d nb:Nat} {os:List COp} {E:List (Nat×V)} {L L' : List (Nat×Bx)} {Q:St→Prop} {gd:Option (Nat×Bool)} {x y:Arg}
theorem Tr.puts {cc:CC} {s:Sl} {Q:Ex→St→Prop} (B:List (Nat×Bx)) (h:Qbeq M0 B) (k:Tr Γ cc ⟨s,Qm Γ.n0 L (M0.puts B),nb⟩ Q):Tr Γ cc ⟨s,Qm Γ.n0 L M0,nb⟩ Q:=by
 rw [Q8d h] at k;exact k
theorem Rn.storeOB {k u off sz:Nat} {l:List (List D)} {cs cs' : List V} (hw:Wn E gd) (ha:x.val (look E) = .ptr k off) (hb:look E u = .own sz l) (hk:k<Γ.n0) (hM:M1 k=some (.cells cs))
  (hn:Nat.ble (off+1) cs.length=true) (hcs:cs.take off++[.own sz l]++cs.drop (off+1)=cs') (hp:M1.put k (.cells cs')=M2)
  (h:Rn Γ pc os ⟨look ((u,.d (.lst sz l))::E),Qm Γ.n0 L M2,nb⟩ Q):Rn Γ pc (⟨none,.store 1,[x,.t u],true,gd⟩::os) ⟨look E,Qm Γ.n0 L M1,nb⟩ Q:=by
 have h2:=Nat.le_of_ble_eq_true hn;have hm:[x,Arg.t u].map (fun x=>x.val (look E))=[V.ptr k off,.own sz l]:=by simp only [List.map_cons,List.map_nil,ha];rw [show (Arg.t u).val (look E)=_ from hb]
 refine Rn.kS (v:=.und) hw ?_ (fun i=>?_) h
 ·simp_all [if_true,Qh,Q3h,V.topS,V.cells,List.length_cons,List.length_nil,decide_true,Bool.true_and,V.lt,Bool.or_true,Qtj]
 ·simp only [if_true,hm,Qbu,Qz,V.dem];have:x.putTo (look E) (.ptr k off)=look E:=by
   cases x with
   | c v=>rfl
   | t j =>
    simp only [Arg.val] at ha;funext i;simp_all [Arg.putTo,Sl.put]
  rw [this,show (Arg.t u).putTo (look E) (.d (.lst sz l))=(look E).put u (.d (.lst sz l)) from rfl,Qcv]
theorem Rn.loadTB {k off sz:Nat} {l:List (List D)} {cs cs' : List V} (hw:Wn E gd) (ha:x.val (look E) = .ptr k off) (hk:k<Γ.n0) (hM:M1 k=some (.cells cs)) (hx:cs[off]? = some (.own sz l)) (hcs:cs.set off (.d (.lst sz l))=cs') (hp:M1.put k (.cells cs')=M2)
  (h:Rn Γ pc os ⟨look ((d,.own sz l)::E),Qm Γ.n0 L M2,nb⟩ Q):Rn Γ pc (⟨some d,.loadT,[x],false,gd⟩::os) ⟨look E,Qm Γ.n0 L M1,nb⟩ Q:=by
 refine Rn.k hw rfl rfl ?_ h
 grind [V.dems,V.dem,Qh,Q3h,V.top,Qtj]
def OkB (n0:Nat):List (Nat×Bx)→Prop
 | []=>True
 | (k,.cells cs)::l=>(n0≤k∨V.lt.go n0 cs=true)∧OkB n0 l
 | (k,.mp ..)::l=>OkB n0 l
theorem OkB.at {n0:Nat} {M:Mem}:∀ {B:List (Nat×Bx)},OkB n0 B→∀ k cs,k<n0→M.puts B k=some (.cells cs)→M.puts B k=M k∨V.lt.go n0 cs=true
 | [],_,_,_,_,_=>.inl rfl
 | (j,.cells ds)::l,h,k,cs,hk,hg=>by
  by_cases e:k=j
  ·subst e;simp only [Mem.puts,Mem.put,if_true,Option.some.injEq,Bx.cells.injEq] at hg;subst hg;rcases h.1 with h1|h1
   ·omega
   ·exact .inr h1
  ·simp only [Mem.puts,Mem.put,e,if_false] at hg ⊢;exact OkB.at h.2 k cs hk hg
 | (j,.mp ..)::l,h,k,cs,hk,hg=>by
  by_cases e:k=j
  ·simp_all [Mem.puts,Mem.put,if_true]
  ·simp only [Mem.puts,Mem.put,e,if_false] at hg ⊢;exact OkB.at (B:=l) h k cs hk hg
theorem cw0:(Qm Γ.n0 L M1).puts []=Qm Γ.n0 L M1:=rfl
theorem Qbgk {t:Nat} (h:(Qm Γ.n0 L M1).puts B=Qm Γ.n0 L' M2):(Qm Γ.n0 L M1).puts ((Γ.n0+t,b)::B)=Qm Γ.n0 ((t,b)::L') M2:=by
 rw [Mem.puts,h,Qd2]
theorem runW {o:COp} {f:FuncId} {args:List V} {r:V} (hw:o.wanted (look E)=some true) (hc:o.kind.isCall=true) (ha:o.callee (look E)=some (f,args)) (hC:ACalls Γ.P f args (Qm Γ.n0 L M1) nb r ((Qm Γ.n0 L M1).puts B) nb) (hB:OkB Γ.n0 B) (hp:(Qm Γ.n0 L M1).puts B=Qm Γ.n0 L' M2) (hpc:pcOf pc=0)
  (h:Rn Γ pc os ⟨Q9 (look E) o.dst r,Qm Γ.n0 L' M2,nb⟩ Q):Rn Γ pc (o::os) ⟨look E,Qm Γ.n0 L M1,nb⟩ Q:=by
 refine Rn.cons ?_;unfold COp.run;rw [hw];simp only [hc,if_true,ha,hpc];refine ⟨r,_,nb,hC,fun k hk=>There.puts hk,fun k cs hk hg=>hB.at k cs hk hg,?_⟩;rw [hp];exact h
def AllIn (M:Mem):List (Nat×Bx)→Prop
 | []=>True
 | (k,_)::B=>(M k).isSome=true∧AllIn M B
theorem AllIn.at {M:Mem}:∀ {B:List (Nat×Bx)},AllIn M B→∀ k,(B.any fun p=>Nat.beq p.1 k)=true→(M k).isSome=true
 | [],_,k,h=>by cases h
 | (j,b)::B,hA,k,h=>by
  simp only [List.any_cons,Bool.or_eq_true] at h;rcases h with h|h
  ·have:=Nat.eq_of_beq_eq_true h;subst this;exact hA.1
  ·exact AllIn.at hA.2 k h
theorem OkB.cells {n0:Nat}:∀ {B:List (Nat×Bx)},OkB n0 B→∀ k cs,k<n0→Mem.puts (fun _=>none) B k=some (.cells cs)→V.lt.go n0 cs=true
 | [],_,_,_,_,h=>by cases h
 | (j,.cells ds)::l,h,k,cs,hk,hg=>by
  by_cases e:k=j
  ·subst e;simp only [Mem.puts,Mem.put,if_true,Option.some.injEq,Bx.cells.injEq] at hg;subst hg;rcases h.1 with h1|h1
   ·omega
   ·exact h1
  ·simp only [Mem.puts,Mem.put,e,if_false] at hg;exact OkB.cells (B:=l) h.2 k cs hk hg
 | (j,.mp ..)::l,h,k,cs,hk,hg=>by
  by_cases e:k=j
  ·simp_all [Mem.puts,Mem.put,if_true]
  ·simp only [Mem.puts,Mem.put,e,if_false] at hg;exact OkB.cells (B:=l) h k cs hk hg
theorem Rn.callvW {t:Nat} {f:FuncId} {caps:List V} {as:List Arg} {args:List V} {r:V} (hw:Wn E gd) (ht:look E t = .clo f caps) (ha:V.dems (as.map (·.val (look E)))++V.dems caps=args) (hC:ACalls Γ.P f args (Qm Γ.n0 L M1) nb r ((Qm Γ.n0 L M1).puts B) nb) (hB:OkB Γ.n0 B) (hp:(Qm Γ.n0 L M1).puts B=Qm Γ.n0 L' M2) (hpc:pcOf pc=0)
  (h:Rn Γ pc os ⟨look ((d,r)::E),Qm Γ.n0 L' M2,nb⟩ Q):Rn Γ pc (⟨some d,.callv,.t t::as,false,gd⟩::os) ⟨look E,Qm Γ.n0 L M1,nb⟩ Q :=
 runW (hw.wanted _ _ _ _) rfl (by simp only [COp.callee,List.map_cons,show (Arg.t t).val (look E) = .clo f caps from ht,ha]) hC hB hp hpc (by grind [Q9,look,Qcv])
theorem Rn.storeV {t u off:Nat} {v:V} {cs cs' : List V} (hw:Wn E gd) (ha:x.val (look E) = .ptr (Γ.n0+t) off) (hb:look E u=v) (hv:Qd5 v=true) (hf:v.topS=v) (hf2:v.dem=v) (hM:Qb2 L t=some (.cells cs))
  (hn:(Nat.beq v.cells.length 1&&Nat.ble (off+1) cs.length)=true) (hcs:cs.take off++v.cells++cs.drop (off+1)=cs')
  (h:Rn Γ pc os ⟨look E,Qm Γ.n0 ((t,.cells cs')::L) M0,nb⟩ Q):Rn Γ pc (⟨none,.store 1,[x,.t u],true,gd⟩::os) ⟨look E,Qm Γ.n0 L M0,nb⟩ Q:=by
 simp only [Bool.and_eq_true] at hn;have h1:v.cells.length=1:=Nat.eq_of_beq_eq_true hn.1;have h2:=Nat.le_of_ble_eq_true hn.2;have hm:[x,Arg.t u].map (fun x=>x.val (look E))=[V.ptr (Γ.n0+t) off,v]:=by simp only [List.map_cons,List.map_nil,ha];rw [show (Arg.t u).val (look E)=_ from hb]
 refine Rn.kS (v:=.und) hw ?_ (fun i=>?_) h
 ·simp only [if_true,hm];simp only [Qh];cases v<;>first
   | (simp [Qd5] at hv;done)
   | simp_all [Qeh,decide_true,Bool.true_and,Nat.le_add_right,Bool.true_or,if_true,Qd2]
 ·simp only [if_true,hm,Qbu,Qz,hf2];have:x.putTo (look E) (.ptr (Γ.n0+t) off)=look E:=by
   cases x with
   | c v=>rfl
   | t j =>
    simp only [Arg.val] at ha;funext i;simp_all [Arg.putTo,Sl.put]
  have h3:(look E).put u v=look E:=by
   grind [Sl.put]
  rw [this,show (Arg.t u).putTo (look E) v=(look E).put u v from rfl,h3]
def argE:List Arg→List V→List (Nat×V)→List (Nat×V)
 | .t i::as,v::vs,E=>argE as vs ((i,v)::E)
 | .c _::as,_::vs,E=>argE as vs E
 | _,_,E=>E
theorem Qvh:∀ (as:List Arg) (vs:List V) (E:List (Nat×V)),Qz (look E) as vs=look (argE as vs E)
 | [],vs,E=>by cases vs<;>rfl
 | a::as,[],E=>by cases a<;>rfl
 | .t i::as,v::vs,E=>by
  simp only [Qz,argE];rw [show (Arg.t i).putTo (look E) v=(look E).put i v from rfl,Qcv];exact Qvh as vs _
 | .c _::as,v::vs,E=>by
  simp only [Qz,argE];exact Qvh as vs E
theorem Rn.buildT {as:List Arg} {z:List V} {ps:List (Nat×Nat)} {v:V} (hw:Wn E gd) (hk:Qh Γ.n0 (Γ.n0+d) (.build z ps) (as.map (·.val (look E))) M=some (v,M))
  (h:Rn Γ pc os ⟨look ((d,v)::argE as (V.dems (as.map (·.val (look E)))) E),M,nb⟩ Q):Rn Γ pc (⟨some d,.build z ps,as,true,gd⟩::os) ⟨look E,M,nb⟩ Q:=by
 refine Rn.kT hw rfl rfl hk (fun i=>?_) h
 simp_all [Qbu,look,V.dems,Qvh,Qcv]
theorem Rn.storeT {t u off n:Nat} {v:V} {ds cs cs' : List V} (hw:Wn E gd) (ha:x.val (look E) = .ptr (Γ.n0+t) off) (hb:look E u=v) (hv:Qd5 v=true) (hds:v.topS.cells=ds) (hM:Qb2 L t=some (.cells cs))
  (hn:(Nat.beq ds.length n&&Nat.ble (off+n) cs.length)=true) (hcs:cs.take off++ds++cs.drop (off+n)=cs')
  (h:Rn Γ pc os ⟨look ((u,v.dem)::E),Qm Γ.n0 ((t,.cells cs')::L) M0,nb⟩ Q):Rn Γ pc (⟨none,.store n,[x,.t u],true,gd⟩::os) ⟨look E,Qm Γ.n0 L M0,nb⟩ Q:=by
 simp only [Bool.and_eq_true] at hn;have h1:v.topS.cells.length=n:=by simp_all
 have h2:=Nat.le_of_ble_eq_true hn.2;have hm:[x,Arg.t u].map (fun x=>x.val (look E))=[V.ptr (Γ.n0+t) off,v]:=by simp only [List.map_cons,List.map_nil,ha];rw [show (Arg.t u).val (look E)=_ from hb]
 refine Rn.kS (v:=.und) hw ?_ (fun i=>?_) h
 ·simp only [if_true,hm];simp only [Qh];cases v<;>first
   | (simp [Qd5] at hv;done)
   | simp_all [Qeh,decide_true,Bool.true_and,Nat.le_add_right,Bool.true_or,if_true,Qd2]
 ·simp only [if_true,hm,Qbu,Qz];have:x.putTo (look E) (.ptr (Γ.n0+t) off)=look E:=by
   cases x with
   | c v=>rfl
   | t j =>
    simp only [Arg.val] at ha;funext i;simp_all [Arg.putTo,Sl.put]
  rw [this,show (Arg.t u).putTo (look E) v.dem=(look E).put u v.dem from rfl,Qcv]
def WkB:List (Nat×Bx)→List (Nat×Bx)→Prop
 | [],[]=>True
 | (k,.cells cs)::B,(k',.cells cs')::B'=>(k=k'∧WkVs cs cs')∧WkB B B'
 | _,_=>False
theorem WkB.at {M:Mem}:∀ {B B' : List (Nat×Bx)},WkB B B'→∀ k,M.puts B' k=M.puts B k∨∃ cs cs',M.puts B k=some (.cells cs)∧M.puts B' k=some (.cells cs')∧WkVs cs cs'
 | [],[],_,_=>.inl rfl
 | (j,.cells cs)::B,(j',.cells cs')::B',h,k=>by
  obtain ⟨⟨e,hw⟩,h⟩:=h;subst e;by_cases hk:k=j
  ·grind [pg0]
  ·simp only [Mem.puts,Mem.put,hk,if_false];exact WkB.at h k
 | [],_::_,h,_=>h.elim
 | (_,.cells _)::_,[],h,_=>h.elim
 | (_,.mp ..)::_,[],h,_=>h.elim
 | (_,.mp ..)::_,_::_,h,_=>h.elim
 | (_,.cells _)::_,(_,.mp ..)::_,h,_=>h.elim
def FinW (rs:List Res) (r:V) (n0:Nat) (M1:Mem):Ex→St→Prop:=fun e σ =>
 (e = .norm∨e = .ret)∧∃ r',Qnz σ rs=some r'∧Wk r' r∧r.on (There M1)∧∀ k,k<n0→σ.M k=M1 k
theorem Qbjz {P:Program} {f:FuncId} {cf:CFn} (hcf:Qo P f=some cf) {args:List V} {r:V} (hargs:Nat.beq args.length cf.np=true) (M M1:Mem) (nb:Nat) (hM1:(∀ k,nb≤k→M k=none)→∀ k,nb≤k→M1 k=none)
  (hrun:∀ (Γ:Env),Γ.P=P→Γ.nt=cf.nt→Γ.n0=nb→(∀ k,Γ.n0≤k→M k=none)→Tr Γ cf.body ⟨Qov args,Qm Γ.n0 [] M,Γ.n0+cf.nt⟩ (FinW cf.res r Γ.n0 M1)):ACalls P f args M nb r M1 nb:=by
 by_cases hM:∀ k,nb≤k→M k=none
 case neg=>exact Q0o (Qo6 hcf) (Nat.le_refl _) hM
 have hM1:=hM1 hM;have hlt:∀ k,There M1 k→k<nb:=fun k hk=>by
  grind [Nat.lt_or_ge,There]
 refine Qbg9 hcf hM (Nat.eq_of_beq_eq_true hargs) (Nat.le_refl _) fun Γ hP hn ht=>?_;have h:=hrun Γ hP ht hn (by rw [hn];exact hM);rw [Qza (by rw [hn];exact hM),hn] at h;refine h.mono ?_;rintro e σ' ⟨he,r',h1,h2,h3,h4⟩;refine ⟨he,r',h1,h2,fun k b hk=>?_,fun _ hons _=>⟨h3,fun k cs hk=>?_,hlt⟩⟩
 ·grind
 ·have hk':=hlt k (by simp [There,hk]);have h5:=(hons k cs (by rw [h4 k hk'];exact hk)).1;have h6:=(hons k cs (by rw [h4 k hk'];exact hk)).2 hk';refine ons_mono (fun j hj=>?_) cs (ons_and cs h5 h6)
  grind [There]
theorem res0 {σ:St}:Qnz σ []=some (.tup []):=rfl
theorem Qbcg {n0 a b:Nat} (h:Nat.beq a b=false):n0+a≠n0+b:=by
 intro e
 simp_all
end Go.Abs
end
section
namespace Go.Abs
open Go
theorem Qbhk {α:Type} {e:α→List D} {g:α→List V} (hg:∀ x,g x=(e x).map V.d):∀ xs:List α,Qby (List.map e xs) 0=Qei g xs
 | []=>rfl
 | x::xs=>by
  have:=Qbhk hg xs;unfold Qby at this ⊢;rw [Qk1,← this,hg];simp
end Go.Abs
end
section
namespace Go.Abs
open Go
variable {α:Type}
def neO (l:List α):Option Unit:=match l with
 | []=>none
 | _::_=>some ()
theorem Qbgl {l:List α} (h:neO l=some ()):¬ l=[]:=by
 rintro rfl;cases h
abbrev rowR (g:α→List V) (xs:List α) (R:Nat):List V:=Qei g xs++List.replicate R .und
theorem Qbj0 {e:α→List D} {g:α→List V} (hg:∀ x,g x=(e x).map V.d) (xs:List α) (R:Nat):Qby (List.map e xs) R=rowR g xs R:=by
 have:=Qbhk hg xs;unfold Qby at this ⊢;rw [List.replicate_zero,List.append_nil] at this;rw [this]
theorem Qbj1 {Γ:Env} {cc:CC} {Q:Ex→St→Prop} {M0:Mem} (hG:Lone Γ M0) (hMe:Q5p M0) (t κ:Nat) {sz m:Nat} {e:α→List D} (g:α→List V) {xs:List α} {E:List (Nat×V)} {L:List (Nat×Bx)} (hg:∀ x,g x=(e x).map V.d) (hxs:¬ xs=[]) (hpl:∀ x,(e x).all Qt5=true) (hs0:look E t = .own sz (List.map e xs))
  (hκ2:Nat.blt κ m=true) (hκM:Qb2 L κ=none) (hE:PL ((t,.und)::E)) (hL:PB κ 0 L)
  (h:∀ c R,xs.length≤c→Tr Γ cc ⟨look ((t,.sl sz (Γ.n0+κ) 0 xs.length c)::E),Qm Γ.n0 ((κ,.cells (rowR g xs R))::L) M0,Γ.n0+m⟩ Q):Tr Γ cc ⟨look E,Qm Γ.n0 L M0,Γ.n0+m⟩ Q:=by
 refine Qbhf hG hMe t κ hxs hpl hs0 hκ2 hκM hE hL fun c h1 h2=>?_;rw [Qbj0 hg];exact h c _ h1
theorem PV.of:∀ {vs:List V},Qgd.go vs=true→PV vs
 | [],_=>trivial
 | v::vs,h=>by simp only [Qgd.go,Bool.and_eq_true] at h;exact ⟨h.1,PV.of h.2⟩
theorem Q9z {g:α→List V} {xs:List α} {R:Nat} {f:V→V} (h:∀ x,(g x).map f=g x) (hu:f .und = .und):WkVs ((rowR g xs R).map f) (rowR g xs R):=by
 refine .same ?_;unfold rowR Qei;rw [List.map_append,List.map_replicate,hu,List.map_flatten,List.map_map];congr 2;exact List.map_congr_left fun x _=>h x
theorem preR {e:α→List D} {g:α→List V} {ys:List α} {R:Nat} (hg:∀ x,g x=(e x).map V.d):PreD (rowR g ys R) ((List.map e ys).flatten):=by
 rw [← Qbj0 hg];exact Qbim
variable {Γ:Env} {pc d nb:Nat} {os:List COp} {E:List (Nat×V)} {M M0:Mem} {L:List (Nat×Bx)} {Q:St→Prop} {gd:Option (Nat×Bool)} {a b:Arg} {g:α→List V} {xs:List α} {sz:Nat}
theorem Rn.storeR {t R:Nat} {i:Int} {y:α} {ys:List α} {v:V} (hg:∀ x,(g x).length=sz) (hw:Wn E gd) (ha:a.val (look E) = .ptr (Γ.n0+t) (0+i.toNat*sz)) (hb:(b.val (look E)).dem=v) (hv:Qd5 v=true) (hM:Qb2 L t=some (.cells (rowR g xs R))) (hc:v.cells=g y)
  (hx:setO xs i y=some ys) (h:Rn Γ pc os ⟨look E,Qm Γ.n0 ((t,.cells (rowR g ys R))::L) M0,nb⟩ Q):Rn Γ pc (⟨none,.store sz,[a,b],false,gd⟩::os) ⟨look E,Qm Γ.n0 L M0,nb⟩ Q:=by
 unfold setO at hx;split at hx<;>cases hx;rename_i hi;have hl:=Qm9 hg xs;have hb2:i.toNat*sz+sz≤xs.length*sz:=by
  rw [show i.toNat*sz+sz=(i.toNat+1)*sz from by rw [Nat.add_mul,Nat.one_mul]];exact Nat.mul_le_mul_right _ hi.2
 refine Rn.store (cs':=rowR g (xs.set i.toNat y) R) hw ha hb hv hM ?_ ?_ h
 ·rw [hc,hg,List.length_append,hl];simp only [Bool.and_eq_true];exact ⟨by simp,Nat.ble_eq_true_of_le (by omega)⟩
 ·rw [hc,Nat.zero_add,List.take_append_of_le_length (by omega),List.drop_append_of_le_length (by omega),← List.append_assoc,Q3k hg y hi.2]
end Go.Abs
end
section
namespace Go.Abs
open Go
section
variable {lk:Option Bx} {P:Prop} {f:V→V} {cs cs' : List V}
theorem bS (h1:lk=some (.cells cs)) (h2:P) (h3:cs.map f=cs'):∃ cs,lk=some (.cells cs)∧P∧WkVs (cs.map f) cs':=⟨cs,h1,h2,.same h3⟩
theorem bM {α:Type} {g:α→List V} {xs:List α} (h1:lk=some (.cells (Qei g xs))) (h2:P) (h3:∀ x,(g x).map f=g x):∃ cs,lk=some (.cells cs)∧P∧WkVs (cs.map f) (Qei g xs):=⟨_,h1,h2,Qbhd h3⟩
end
theorem mB {n0:Nat} {L:List (Nat×Bx)} {M0:Mem}:∀ k,k<n0→Qm n0 L M0 k=M0 k:=fun _ hk=>Qel hk
theorem cS {v v' : V} {vs vs' : List V} (h:v=v') (t:WkVs vs vs'):WkVs (v::vs) (v'::vs'):=.cons (sm h) t
section
variable {Γ:Env} {pc:Nat} {os:List COp} {E:List (Nat×V)} {M:Mem} {nb:Nat} {Q:St→Prop}
end
end Go.Abs
end
section
namespace Go.Abs
universe u
open Go
section
variable {κ α:Type} [BEq κ]
abbrev ownE (sz:Nat) (e:α→List D) (x:List α):V:=.own sz (x.map e)
def mapH (ek:κ→V) (sz:Nat) (e:α→List D) (k:κ):Nat→List (κ×List α)→List (V×V×Nat)
 | _,[]=>[]
 | i,(k',v)::m=>if k==k' then (ek k',.d (.lst sz (v.map e)),i)::mapE ek (ownE sz e) (i+1) m else (ek k',ownE sz e v,i)::mapH ek sz e k (i+1) m
abbrev takH (sz:Nat) (e:α→List D) (m:List (κ×List α)) (k:κ):V:=if hasM m k then .own sz ((getM m k []).map e) else .nils sz
variable {ek:κ→V} {sz:Nat} {e:α→List D}
theorem Qbbd {ev:α→V}:∀ {n i:Nat} (m:List (κ×α)),n≤i→upM n (mapE ek ev i m)=true
 | _,_,[],_=>rfl
 | n,i,_::m,h=>by
  simp only [mapE,upM,decide_eq_true h,Bool.true_and];exact Qbbd m (Nat.le_refl _)
theorem Q3q {k:κ}:∀ {i:Nat} {m:List (κ×List α)},hasM m k=false→mapH ek sz e k i m=mapE ek (ownE sz e) i m
 | _,[],_=>rfl
 | i,(k',v)::m,h=>by
  simp only [hasM,List.any_cons,Bool.or_eq_false_iff] at h;simp only [mapH,mapE,h.1,Bool.false_eq_true,if_false];rw [Q3q (m:=m) h.2]
theorem Q8e {k:κ}:∀ {i:Nat} {m:List (κ×List α)},hasM m k=true→∃ x,(mapE ek (ownE sz e) i m)[idxS m k]? = some x∧modM x.1 (.d (.lst sz ((getM m k []).map e))) (idxS m k) (mapE ek (ownE sz e) i m)=mapH ek sz e k i m
 | _,[],h=>by cases h
 | i,(k',v)::m,h=>by
  simp only [hasM,List.any_cons] at h;simp only [idxS,mapE,mapH,getM];cases hb:(k==k') with
  | true=>exact ⟨_,rfl,by simp [modM]⟩
  | false =>
   rw [hb] at h;obtain ⟨x,h1,h2⟩:=Q8e (i:=i+1) (m:=m) (k:=k) (by simpa [hasM] using h);refine ⟨x,by simpa using h1,?_⟩;simp only [Bool.false_eq_true,if_false,modM,h2]
theorem Qbbe {k:κ} {kd:MK} (hk:∀ a,kd.ok (ek a)=true):∀ (i:Nat) (m:List (κ×List α)),kd.all (mapH ek sz e k i m)=true
 | _,[]=>rfl
 | i,(k',v)::m=>by
  simp only [mapH];have h1:=Qm4 (ev:=ownE sz e) hk (i+1) m;have h2:=Qbbe (k:=k) hk (i+1) m;simp only [MK.all] at *
  split<;>simp [hk,h1,h2]
theorem Q8f (hs:∀ a b,Qe9 (ek a) (ek b)=(a==b)) {k:κ}:∀ (i:Nat) (m:List (κ×List α)),Qgr (ek k) (mapH ek sz e k i m)=if hasM m k then some (idxS m k,.d (.lst sz ((getM m k []).map e))) else none
 | _,[]=>rfl
 | i,(k',v)::m=>by
  simp only [mapH,Qj2,idxS,getM];by_cases hb:(k==k')=true
  ·simp [Qgr,hs,hb]
  ·simp only [hb,Bool.false_eq_true,if_false,Qgr,hs,Bool.false_or,Q8f hs (i+1) m];by_cases hq:hasM m k=true
   ·rw [if_pos hq,if_pos hq];rfl
   ·rw [if_neg hq,if_neg hq];rfl
theorem Qbbf {k:κ} {v:List α}:∀ (i:Nat) {m:List (κ×List α)},hasM m k=true→modM (ek k) (ownE sz e v) (idxS m k) (mapH ek sz e k i m)=mapE ek (ownE sz e) i (setM m k v)
 | _,[],h=>by cases h
 | i,(k',v')::m,h=>by
  simp only [hasM,List.any_cons] at h;simp only [idxS,setM,mapH];cases hb:(k==k') with
  | true=>simp [modM,mapE]
  | false =>
   rw [hb] at h;simp only [Bool.false_eq_true,if_false,modM,mapE];rw [Qbbf (i+1) (by simpa [hasM] using h)]
variable {Γ:Env} {pc d nb:Nat} {os:List COp} {E:List (Nat×V)} {M M' M0:Mem} {L:List (Nat×Bx)} {Q:St→Prop} {gd:Option (Nat×Bool)} {a b c:Arg} {m:List (κ×List α)}
section
variable (hs:∀ a b,Qe9 (ek a) (ek b)=(a==b)) {kd:MK} (hk:∀ a,kd.ok (ek a)=true)
include hs hk
theorem Rn.lookupT {t:Nat} {z:V} {k:κ} (hz:z = .nils sz) (hw:Wn E gd) (ha:a.val (look E) = .mp (Γ.n0+t)) (hb:(b.val (look E)).dem=ek k) (hM:Qb2 L t=some (.mp (mapE ek (ownE sz e) 0 m) m.length))
  (h:Rn Γ pc os ⟨look ((d,takH sz e m k)::E),Qm Γ.n0 ((t,.mp (mapH ek sz e k 0 m) m.length)::L) M0,nb⟩ Q):Rn Γ pc (⟨some d,.lookupT kd z,[a,b],false,gd⟩::os) ⟨look E,Qm Γ.n0 L M0,nb⟩ Q:=by
 subst hz;refine Rn.k hw rfl rfl ?_ h;simp only [List.map_cons,List.map_nil,V.dems,ha,hb,V.dem,Qh,Qeh hM,hk,Qm4 hk,Qbbd m (Nat.le_refl _),Bool.and_self,if_true,Qlg hs 0 m []];rw [← Qd2];cases hh:hasM m k with
 | true =>
  obtain ⟨x,h1,h2⟩:=Q8e (ek:=ek) (sz:=sz) (e:=e) (i:=0) hh;simp only [if_true,h1,Option.map_some,takH,hh,h2]
 | false =>
  simp only [Bool.false_eq_true,if_false,takH,hh,Q3q hh];have:(Qm Γ.n0 L M0).put (Γ.n0+t) (.mp (mapE ek (ownE sz e) 0 m) m.length)=Qm Γ.n0 L M0:=by
   funext j;simp only [Mem.put];split
   ·rename_i hj;subst hj;exact (Qeh hM).symm
   ·rfl
  rw [this];rfl
theorem Rn.mapsetT {t u:Nat} {k:κ} {v:List α} (hw:Wn E gd) (ha:a.val (look E) = .mp (Γ.n0+t)) (hb:b.val (look E)=ek k) (hc:look E u = .own sz (v.map e)) (hM:Qb2 L t=some (.mp (mapH ek sz e k 0 m) m.length))
  (h:Rn Γ pc os ⟨look ((u,.d (.lst sz (v.map e)))::E),Qm Γ.n0 ((t,.mp (mapE ek (ownE sz e) 0 (setM m k v)) (setM m k v).length)::L) M0,nb⟩ Q):Rn Γ pc (⟨none,.mapsetT kd,[a,b,.t u],true,gd⟩::os) ⟨look E,Qm Γ.n0 L M0,nb⟩ Q:=by
 refine Rn.cons ?_;unfold COp.run;rw [hw.wanted];have hm:[a,b,Arg.t u].map (fun x=>x.val (look E))=[.mp (Γ.n0+t),ek k,.own sz (v.map e)]:=by
  simp only [List.map_cons,List.map_nil,ha,hb];rw [show (Arg.t u).val (look E)=_ from hc]
 have hst:Qh Γ.n0 (Γ.n0+0) (.mapsetT kd) [.mp (Γ.n0+t),ek k,.own sz (v.map e)] (Qm Γ.n0 L M0)=some (.und,Qm Γ.n0 ((t,.mp (mapE ek (ownE sz e) 0 (setM m k v)) (setM m k v).length)::L) M0):=by
  simp only [Qh,Qeh hM,hk,Qbbe hk,Bool.and_self,if_true,Q8f hs];rw [← Qd2];cases hh:hasM m k with
  | true=>simp only [if_true];rw [Qbbf 0 hh,Qo8 hh]
  | false =>
   simp only [Bool.false_eq_true,if_false];rw [Qr8 hh,Qo7,Q3q hh];simp [mapE]
 simp only [K.isCall,K.isNil,Bool.false_eq_true,if_false,COp.step,COp.xs,if_true,Option.getD_none,hm,hst,Q9];have hsl:Qz (look E) [a,b,Arg.t u] (Qbu (.mapsetT kd) [.mp (Γ.n0+t),ek k,.own sz (v.map e)])=look ((u,.d (.lst sz (v.map e)))::E):=by
  simp only [Qbu,Qz,V.dem];have put_same' : ∀ (x:Arg) (v:V),x.val (look E)=v→x.putTo (look E) v=look E:=by
   intro x v hv;cases x with
   | c _=>rfl
   | t i =>
    funext j;simp only [Arg.putTo,Sl.put];split
    ·rename_i hj;subst hj;exact hv.symm
    ·rfl
  rw [put_same' a _ ha,put_same' b _ hb];exact Qcv E u _
 rw [hsl];exact h
end
end
theorem sq {v:V}:WkV v v:=.same rfl
theorem sj {β:Type u} {x y:β} (h:some x=some y):y=x:=(Option.some.inj h).symm
def fl2 (off:Nat):V→Option (Nat×Nat)
 | .ptr k o=>some (k,o+off)
 | _=>none
def bi2 (op:BinOp) (tb:Bool):V→V→Option D
 | .d x,.d y=>binD op tb x y
 | _,_=>none
section
variable {Γ:Env} {pc:Nat} {os:List COp} {E:List (Nat×V)} {M:Mem} {nb:Nat} {Q:St→Prop} {d:Nat} {a b c:Arg}
theorem fP {k off o' : Nat} (ha:fl2 off (a.val (look E))=some (k,o')) (h:Rn Γ pc os ⟨look ((d,.ptr k o')::E),M,nb⟩ Q):Rn Γ pc (⟨some d,.fld off,[a],false,none⟩::os) ⟨look E,M,nb⟩ Q:=by
 cases hv:a.val (look E)<;>rw [hv] at ha<;>simp only [fl2,Option.some.injEq,Prod.mk.injEq,reduceCtorEq] at ha;obtain ⟨rfl,rfl⟩:=ha;exact Rn.fldP tv hv rfl h
theorem bN {op:BinOp} {tb:Bool} {z:D} (ha:bi2 op tb (a.val (look E)) (b.val (look E))=some z) (h:Rn Γ pc os ⟨look ((d,.d z)::E),M,nb⟩ Q):Rn Γ pc (⟨some d,.bin op tb,[a,b],false,none⟩::os) ⟨look E,M,nb⟩ Q:=by
 cases hv:a.val (look E)<;>cases hw:b.val (look E)<;>rw [hv,hw] at ha<;>simp only [bi2,reduceCtorEq] at ha;exact Rn.bin tv hv hw ha h
theorem sK {t:Nat} {k:K} {as:List Arg} {tk:Bool} {g:Nat} {q want:Bool} (h1:look E g = .d (.bool q)) (h2:q = !want) (h:Rn Γ pc os ⟨look ((t,.tup [])::E),M,nb⟩ Q):Rn Γ pc (⟨some t,k,as,tk,some (g,want)⟩::os) ⟨look E,M,nb⟩ Q:=Rn.sk (nw h1 h2) h
theorem pT (v:V) {q:Bool} (hq:c.val (look E) = .d (.bool q)) (hb:q=true) (ha:(a.val (look E)).dem=v) (h:Rn Γ pc os ⟨look ((d,v)::E),M,nb⟩ Q):Rn Γ pc (⟨some d,.pick,[c,a,b],false,none⟩::os) ⟨look E,M,nb⟩ Q:=Rn.pickT tv hq hb ha h
theorem pF (v:V) {q:Bool} (hq:c.val (look E) = .d (.bool q)) (hb:q=false) (ha:(b.val (look E)).dem=v) (h:Rn Γ pc os ⟨look ((d,v)::E),M,nb⟩ Q):Rn Γ pc (⟨some d,.pick,[c,a,b],false,none⟩::os) ⟨look E,M,nb⟩ Q:=Rn.pickF tv hq hb ha h
theorem mv (v:V) (ha:(a.val (look E)).dem=v) (h:Rn Γ pc os ⟨look ((d,v)::E),M,nb⟩ Q):Rn Γ pc (⟨some d,.mov,[a],false,none⟩::os) ⟨look E,M,nb⟩ Q:=Rn.mov tv ha h
end
end Go.Abs
end
section
namespace Go.Abs
open Go
variable {α:Type}
variable {Γ:Env} {pc d nb:Nat} {os:List COp} {E:List (Nat×V)} {M M0:Mem} {L:List (Nat×Bx)} {Q:St→Prop} {gd:Option (Nat×Bool)} {a b:Arg} {g:α→List V} {e:α→List D} {xs:List α} {sz:Nat}
end Go.Abs
end
section
namespace Go.Abs
open Go
variable {Γ:Env} {pc d nb sz:Nat} {os:List COp} {E:List (Nat×V)} {M M0:Mem} {Q:St→Prop} {L:List (Nat×Bx)} {a b c:Arg} {R:Type} {r:R} {gd:Option (Nat×Bool)} {α:Type} {e:α→List D} {xs:List α} {k:IntKind} {i:Int}
abbrev g1 (g:Nat) (o:COp):COp:=⟨o.dst,o.kind,o.args,o.tk,some (g,true)⟩
abbrev g0 (g:Nat) (o:COp):COp:=⟨o.dst,o.kind,o.args,o.tk,some (g,false)⟩
abbrev oI (d n a b:Nat):COp:=⟨some d,.idx n,[.t a,.t b],false,none⟩
abbrev oB (d:Nat) (p:BinOp) (a b:Arg):COp:=⟨some d,.bin p false,[a,b],false,none⟩
abbrev oN (d a:Nat):COp:=⟨some d,.nilchk,[.t a],false,none⟩
abbrev oE (d a:Nat):COp:=⟨some d,.len,[.t a],false,none⟩
abbrev oC (d:Nat) (n:Int):COp:=⟨some d,.mov,[cI n],false,none⟩
abbrev oJ (d n a:Nat):COp:=⟨some d,.load true n,[.t a],false,none⟩
abbrev oT (d a:Nat):COp:=⟨some d,.mov,[.t a],true,none⟩
abbrev oX (d i a:Nat):COp:=⟨some d,.extract i,[.t a],false,none⟩
abbrev oK (d f:Nat) (l:List Arg):COp:=⟨some d,.call f,l,false,none⟩
abbrev oP (d g x:Nat):COp:=⟨some d,.pick,[.t g,.t x,.c (.d (.bool false))],false,none⟩
abbrev oQ (d g x:Nat):COp:=⟨some d,.pick,[.t g,.c (.d (.bool true)),.t x],false,none⟩
abbrev oS (n a b:Nat):COp:=⟨none,.store n,[.t a,.t b],true,none⟩
abbrev oU (n a b:Nat):COp:=⟨none,.store n,[.t a,.t b],false,none⟩
abbrev oA (d n m a b:Nat):COp:=⟨some d,.append n m,[.t a,.t b],true,none⟩
abbrev sg (l:List COp) (c:CC):CC:=.seq (.region l 9 []) c
abbrev rg (l:List COp):CC:=.region l 9 []
inductive Ls:List V→List V→Prop
  | nil:Ls [] []
  | d {x:D} {l m:List V} (h:Ls l m):Ls (.d x::l) (.d x::m)
  | cons {x:V} {l m:List V} (h:Ls l m):Ls (x::l) (x::m)
theorem Ls.eq {l m:List V} (h:Ls l m):l=m:=by
  induction h with
  | nil=>rfl
  | d _ ih=>rw [ih]
  | cons _ ih=>rw [ih]
structure Fu (n:Nat):Prop where
  t:True
structure Hd (m:Nat) (q:Prop):Prop where
  g:q
theorem Fu.dn {n:Nat} (h:Fu (n+1)):Fu n:=⟨tv⟩
theorem zL {t off n:Nat} {ag:Bool} {cs:List V} {v w:V} (hw:Wn E gd) (ha:a.val (look E) = .ptr (Γ.n0+t) off) (hM:Qb2 L t=some (.cells cs)) (hn:Nat.ble (off+n) cs.length=true) (hv:(if ag then some (.agg (V.dems ((cs.drop off).take n))) else (cs[off]?).map (·.dem))=some w) (he:w=v)
    (h:Rn Γ pc os ⟨look ((d,v)::E),Qm Γ.n0 L M0,nb⟩ Q):Rn Γ pc (⟨some d,.load ag n,[a],false,gd⟩::os) ⟨look E,Qm Γ.n0 L M0,nb⟩ Q:=Rn.load hw ha (Qeh hM) hn (he ▸ hv) h
theorem zLb {k off n:Nat} {ag:Bool} {cs:List V} {v w:V} (hw:Wn E gd) (ha:a.val (look E) = .ptr k off) (hM:M k=some (.cells cs)) (hn:Nat.ble (off+n) cs.length=true) (hv:(if ag then some (.agg (V.dems ((cs.drop off).take n))) else (cs[off]?).map (·.dem))=some w) (he:w=v)
    (h:Rn Γ pc os ⟨look ((d,v)::E),M,nb⟩ Q):Rn Γ pc (⟨some d,.load ag n,[a],false,gd⟩::os) ⟨look E,M,nb⟩ Q:=Rn.load hw ha hM hn (he ▸ hv) h
theorem zI {g:α→Option R} (hw:Wn E gd) (ha:(a.val (look E)).dem = .d (.lst sz (xs.map e))) (hb:b.val (look E) = .d (.int k i)) (h:(getO xs i).bind g=some r)
    (K:∀ x,g x=some r→Rn Γ pc os ⟨look ((d,.cref (e x))::E),M,nb⟩ Q):Rn Γ pc (⟨some d,.idx sz,[a,b],false,gd⟩::os) ⟨look E,M,nb⟩ Q:=by
  obtain ⟨x,hx,h⟩:=bnd h
  exact Rn.idxD hw ha hb hx (K x h)
theorem zX {kk len cap:Nat} {g:Unit→Option R} (hw:Wn E gd) (ha:(a.val (look E)).dem = .sl sz kk 0 len cap) (hb:b.val (look E) = .d (.int k i)) (h:(inO len i).bind g=some r)
    (K:g ()=some r→Rn Γ pc os ⟨look ((d,.ptr kk (0+i.toNat*sz))::E),M,nb⟩ Q):Rn Γ pc (⟨some d,.idx sz,[a,b],false,gd⟩::os) ⟨look E,M,nb⟩ Q:=by
  obtain ⟨⟨⟩,hx,h⟩:=bnd h
  exact Rn.idxA hw ha hb hx (K h)
section
variable {t bytes:Nat} {ys:List α} {src:V} {g:List α→Option R}
theorem zA (hw:Wn E gd) (ha:look E t = .own sz (xs.map e)) (hb:b.val (look E)=src) (hf:src.dem=src) (h:(appO xs ys).bind g=some r) (hs:Qf7 M sz src=some (ys.map e)) (hbd:(Nat.ble bytes 128&&Nat.ble 1 sz)=true)
    (K:∀ x,g x=some r→Rn Γ pc os ⟨look ((d,.own sz (x.map e))::(t,.d (.lst sz (xs.map e)))::E),M,nb⟩ Q):Rn Γ pc (⟨some d,.append sz bytes,[.t t,b],true,gd⟩::os) ⟨look E,M,nb⟩ Q:=by
  obtain ⟨x,hx,h⟩:=bnd h
  exact Rn.app hw ha hb hf hs hx hbd (K x h)
theorem zA0 {u:Nat} {cs:List V} (hw:Wn E gd) (ha:look E t = .sl sz (Γ.n0+u) 0 0 0) (hM:Qb2 L u=some (.cells cs)) (hb:b.val (look E)=src) (hf:src.dem=src) (h:(appO ([]:List α) ys).bind g=some r) (hs:Qf7 (Qm Γ.n0 L M0) sz src=some (ys.map e)) (hbd:(Nat.ble bytes 128&&Nat.ble 1 sz)=true)
    (K:∀ x,g x=some r→Rn Γ pc os ⟨look ((d,.own sz (x.map e))::E),Qm Γ.n0 L M0,nb⟩ Q):Rn Γ pc (⟨some d,.append sz bytes,[.t t,b],true,gd⟩::os) ⟨look E,Qm Γ.n0 L M0,nb⟩ Q:=by
  obtain ⟨x,hx,h⟩:=bnd h
  exact Rn.app0 hw ha hM hb hf hs hx hbd (K x h)
theorem zS2 {k' : IntKind} {lo hi:Int} (hw:Wn E gd) (ha:(a.val (look E)).dem = .d (.lst sz (xs.map e))) (hb:b.val (look E) = .d (.int k lo)) (hc:c.val (look E) = .d (.int k' hi)) (h:(slcO xs lo hi).bind g=some r) (K:∀ x,g x=some r→Rn Γ pc os ⟨look ((d,.d (.lst sz (x.map e)))::E),M,nb⟩ Q):Rn Γ pc (⟨some d,.slice sz true true,[a,b,c],false,gd⟩::os) ⟨look E,M,nb⟩ Q:=by
  obtain ⟨x,hx,h⟩:=bnd h
  exact Rn.slc2 hw ha hb hc hx (K x h)
theorem zSH {hi:Int} (hw:Wn E gd) (ha:(a.val (look E)).dem = .d (.lst sz (xs.map e))) (hb:b.val (look E) = .d (.int k hi)) (h:(slcO xs 0 hi).bind g=some r) (K:∀ x,g x=some r→Rn Γ pc os ⟨look ((d,.d (.lst sz (x.map e)))::E),M,nb⟩ Q):Rn Γ pc (⟨some d,.slice sz false true,[a,b],false,gd⟩::os) ⟨look E,M,nb⟩ Q:=by
  obtain ⟨x,hx,h⟩:=bnd h
  exact Rn.slcH hw ha hb hx (K x h)
end
section
variable {g:α→List V} {G:α→Option R} {f n:Nat} {ag:Bool} {kk:Nat}
theorem zLa (hw:Wn E gd) (ha:a.val (look E) = .ptr kk (0+i.toNat*sz+f)) (hM:M kk=some (.cells (Qei g xs))) (h:(getO xs i).bind G=some r) (K:((∀ x,(g x).length=sz)∧Nat.ble (f+max n 1) sz=true)∧∀ x,G x=some r→∃ v w,(if ag then some (.agg (V.dems (((g x).drop f).take n))) else ((g x)[f]?).map (·.dem))=some w∧w=v∧Rn Γ pc os ⟨look ((d,v)::E),M,nb⟩ Q) :
    Rn Γ pc (⟨some d,.load ag n,[a],false,gd⟩::os) ⟨look E,M,nb⟩ Q:=by
  obtain ⟨x,hx,h⟩:=bnd h
  obtain ⟨v,w,h1,rfl,h2⟩:=K.2 x h
  exact Rn.loadA K.1.1 hw ha hM hx K.1.2 h1 h2
theorem zLa0 (hw:Wn E gd) (ha:a.val (look E) = .ptr kk (0+i.toNat*sz)) (hM:M kk=some (.cells (Qei g xs))) (h:(getO xs i).bind G=some r) (K:((∀ x,(g x).length=sz)∧Nat.ble (0+max n 1) sz=true)∧∀ x,G x=some r→∃ v w,(if ag then some (.agg (V.dems (((g x).drop 0).take n))) else ((g x)[0]?).map (·.dem))=some w∧w=v∧Rn Γ pc os ⟨look ((d,v)::E),M,nb⟩ Q) :
    Rn Γ pc (⟨some d,.load ag n,[a],false,gd⟩::os) ⟨look E,M,nb⟩ Q:=zLa (f:=0) hw ha hM h K
end
theorem zK {X:Option V} {v w:V} (hv:X=some w) (he:w=v) (h:Rn Γ pc os ⟨look ((d,v)::E),M,nb⟩ Q):∃ v w,X=some w∧w=v∧Rn Γ pc os ⟨look ((d,v)::E),M,nb⟩ Q:=⟨v,w,hv,he,h⟩
theorem zBx {n:Nat} {v:V} {cs:List V} (hw:Wn E gd) (ha:(a.val (look E)).dem=v) (hv:Qd5 v=true) (hc:Ls v.cells cs) (hn:Nat.beq cs.length n=true) (hf:(Qb2 L d).isNone=true)
    (h:Rn Γ pc os ⟨look ((d,.ptr (Γ.n0+d) 0)::E),Qm Γ.n0 ((d,.cells cs)::L) M0,nb⟩ Q):Rn Γ pc (⟨some d,.box n,[a],false,gd⟩::os) ⟨look E,Qm Γ.n0 L M0,nb⟩ Q:=Rn.box hw ha hv hc.eq hn hf h
theorem zBs {n:Nat} {z:List V} {ps:List Nat} {as:List Arg} {xs cs:List V} (hw:Wn E gd) (ha:Ls (V.dems (as.map (·.val (look E)))) xs) (hf:(Qb2 L d).isNone=true)
    (hc:(Nat.beq ps.length xs.length&&decide (0<sz)&&z.length==sz&&(ps.zip xs).all (fun (i,x)=>Qd5 x&&x.cells.length==sz&&decide (i<n)))=true)
    (hcs:Ls (Qh9 (rep n z) ((ps.zip xs).map fun (i,x)=>(i*sz,x.cells))) cs)
    (h:Rn Γ pc os ⟨look ((d,.sl sz (Γ.n0+d) 0 n n)::E),Qm Γ.n0 ((d,.cells cs)::L) M0,nb⟩ Q):Rn Γ pc (⟨some d,.bslice sz n z ps,as,false,gd⟩::os) ⟨look E,Qm Γ.n0 L M0,nb⟩ Q:=Rn.bslice hw ha.eq hf hc hcs.eq h
theorem zBd {as:List Arg} {z vs cs xs:List V} {ps:List (Nat×Nat)} (hw:Wn E gd) (ha:Ls (V.dems (as.map (·.val (look E)))) xs) (hk:Qh Γ.n0 (Γ.n0+d) (.build z ps) xs M=some (.agg vs,M)) (hc:Ls vs cs) (h:Rn Γ pc os ⟨look ((d,.agg cs)::E),M,nb⟩ Q):Rn Γ pc (⟨some d,.build z ps,as,false,gd⟩::os) ⟨look E,M,nb⟩ Q :=
  Rn.build hw (by rw [ha.eq,hk,hc.eq]) h
theorem zSt {t off n:Nat} {v:V} {cs cs' : List V} (hw:Wn E gd) (ha:a.val (look E) = .ptr (Γ.n0+t) off) (hb:(b.val (look E)).dem=v) (hv:Qd5 v=true) (hM:Qb2 L t=some (.cells cs))
    (hn:(Nat.beq v.cells.length n&&Nat.ble (off+n) cs.length)=true) (hcs:Ls (cs.take off++v.cells++cs.drop (off+n)) cs')
    (h:Rn Γ pc os ⟨look E,Qm Γ.n0 ((t,.cells cs')::L) M0,nb⟩ Q):Rn Γ pc (⟨none,.store n,[a,b],false,gd⟩::os) ⟨look E,Qm Γ.n0 L M0,nb⟩ Q:=Rn.store hw ha hb hv hM hn hcs.eq h
theorem zSO {t u off:Nat} {l:List (List D)} {cs cs' : List V} (hw:Wn E gd) (ha:a.val (look E) = .ptr (Γ.n0+t) off) (hb:look E u = .own sz l) (hM:Qb2 L t=some (.cells cs))
    (hn:Nat.ble (off+1) cs.length=true) (hcs:Ls (cs.take off++[.own sz l]++cs.drop (off+1)) cs')
    (h:Rn Γ pc os ⟨look ((u,.d (.lst sz l))::E),Qm Γ.n0 ((t,.cells cs')::L) M0,nb⟩ Q):Rn Γ pc (⟨none,.store 1,[a,.t u],true,gd⟩::os) ⟨look E,Qm Γ.n0 L M0,nb⟩ Q:=Rn.storeO hw ha hb hM hn hcs.eq h
theorem zSD {t u off:Nat} {x:D} {cs cs' : List V} (hw:Wn E gd) (ha:a.val (look E) = .ptr (Γ.n0+t) off) (hb:look E u = .d x) (hM:Qb2 L t=some (.cells cs))
    (hn:Nat.ble (off+1) cs.length=true) (hcs:Ls (cs.take off++[.d x]++cs.drop (off+1)) cs')
    (h:Rn Γ pc os ⟨look E,Qm Γ.n0 ((t,.cells cs')::L) M0,nb⟩ Q):Rn Γ pc (⟨none,.store 1,[a,.t u],true,gd⟩::os) ⟨look E,Qm Γ.n0 L M0,nb⟩ Q:=Rn.storeD hw ha hb hM hn hcs.eq h
theorem zSV {t u off:Nat} {v:V} {cs cs' : List V} (hw:Wn E gd) (ha:a.val (look E) = .ptr (Γ.n0+t) off) (hb:look E u=v) (hv:Qd5 v=true) (hf:v.topS=v) (hf2:v.dem=v) (hM:Qb2 L t=some (.cells cs))
    (hn:(Nat.beq v.cells.length 1&&Nat.ble (off+1) cs.length)=true) (hcs:Ls (cs.take off++v.cells++cs.drop (off+1)) cs')
    (h:Rn Γ pc os ⟨look E,Qm Γ.n0 ((t,.cells cs')::L) M0,nb⟩ Q):Rn Γ pc (⟨none,.store 1,[a,.t u],true,gd⟩::os) ⟨look E,Qm Γ.n0 L M0,nb⟩ Q:=Rn.storeV hw ha hb hv hf hf2 hM hn hcs.eq h
theorem zST {t u off n:Nat} {v:V} {ds cs cs' : List V} (hw:Wn E gd) (ha:a.val (look E) = .ptr (Γ.n0+t) off) (hb:look E u=v) (hv:Qd5 v=true) (hds:Ls v.topS.cells ds) (hM:Qb2 L t=some (.cells cs))
    (hn:(Nat.beq ds.length n&&Nat.ble (off+n) cs.length)=true) (hcs:Ls (cs.take off++ds++cs.drop (off+n)) cs')
    (h:Rn Γ pc os ⟨look ((u,v.dem)::E),Qm Γ.n0 ((t,.cells cs')::L) M0,nb⟩ Q):Rn Γ pc (⟨none,.store n,[a,.t u],true,gd⟩::os) ⟨look E,Qm Γ.n0 L M0,nb⟩ Q:=Rn.storeT hw ha hb hv hds.eq hM hn hcs.eq h
theorem zLT {t off:Nat} {l:List (List D)} {cs cs' : List V} (hw:Wn E gd) (ha:a.val (look E) = .ptr (Γ.n0+t) off) (hM:Qb2 L t=some (.cells cs)) (hx:cs[off]? = some (.own sz l)) (hcs:Ls (cs.set off (.d (.lst sz l))) cs')
    (h:Rn Γ pc os ⟨look ((d,.own sz l)::E),Qm Γ.n0 ((t,.cells cs')::L) M0,nb⟩ Q):Rn Γ pc (⟨some d,.loadT,[a],false,gd⟩::os) ⟨look E,Qm Γ.n0 L M0,nb⟩ Q:=Rn.loadT hw ha hM hx hcs.eq h
theorem zE {i:Nat} {vs:List V} {v w:V} (hw:Wn E gd) (ha:(a.val (look E)).dem = .tup vs) (hv:vs[i]? = some w) (he:w=v) (ht:v.top=v) (h:Rn Γ pc os ⟨look ((d,v)::E),M,nb⟩ Q):Rn Γ pc (⟨some d,.extract i,[a],false,gd⟩::os) ⟨look E,M,nb⟩ Q:=Rn.ext hw ha (he ▸ hv) ht h
inductive Dr (L' : List (Nat×Bx)):List (Nat×Bx)→List Nat→Prop
  | nil:Dr L' [] []
  | keep {k:Nat} {v:Bx} {l:List (Nat×Bx)} {s:List Nat} (h:(L'.any fun q=>Nat.beq k q.1)=true) (t:Dr L' l s):Dr L' ((k,v)::l) s
  | drop {k:Nat} {v:Bx} {l:List (Nat×Bx)} {s:List Nat} (t:Dr L' l s):Dr L' ((k,v)::l) (k::s)
theorem Qbkh {E E' : List (Nat×V)} {L L' : List (Nat×Bx)} {M0:Mem} {nb:Nat} {s:List Nat} (hs:Dr L' L s) (hE:KL Γ.n0 s (look E) E') (hL:KB Γ.n0 s L L')
    (hk:(L.all fun p=>s.any (Nat.beq p.1)||L'.any fun q=>Nat.beq p.1 q.1)=true):WeakSt Γ ⟨look E,Qm Γ.n0 L M0,nb⟩ ⟨look E',Qm Γ.n0 (bxs L') M0,nb⟩:=Qg0 _ hE hL hk
theorem exR {rs:List Res} {r' v:V} {σ:St} {M0:Mem} {n0:Nat} (h1:Qnz σ rs=some r') (h2:Wk r' v) (h3:v.on (There M0)) (h4:∀ k,k<n0→σ.M k=M0 k):∃ r',Qnz σ rs=some r'∧Wk r' v∧v.on (There M0)∧∀ k,k<n0→σ.M k=M0 k:=⟨r',h1,h2,h3,h4⟩
theorem KLn {n0:Nat} {s:List Nat} {f:Sl}:KL n0 s f []:=tv
theorem KLc {n0 t:Nat} {s:List Nat} {f:Sl} {v v0:V} {E:List (Nat×V)} (h0:f t=v0) (h:WkV (Qds (Qiz n0 s) v0) v) (r:KL n0 s f E):KL n0 s f ((t,v)::E):=⟨h0 ▸ h,r⟩
theorem KBn {n0:Nat} {s:List Nat} {L:List (Nat×Bx)}:KB n0 s L []:=tv
theorem KBc {n0 t:Nat} {s:List Nat} {L L' : List (Nat×Bx)} {cs cs' : List V} (h:Qb2 L t=some (.cells cs)) (h2:s.all (fun u=>!Nat.beq t u)=true) (h3:WkVs (cs.map (Qds (Qiz n0 s))) cs') (r:KB n0 s L L'):KB n0 s L ((t,.cells cs')::L'):=⟨⟨cs,h,h2,h3⟩,r⟩
theorem KBm {n0 t c:Nat} {s:List Nat} {L L' : List (Nat×Bx)} {es:List (V×V×Nat)} (h:Qb2 L t=some (.mp es c)) (h2:s.all (fun u=>!Nat.beq t u)=true) (r:KB n0 s L L'):KB n0 s L ((t,.mp es c)::L'):=⟨⟨h,h2⟩,r⟩
theorem v1 {p:Prop} (h:p:=by
  first
    | (apply kPtr;exact rfl)
    | (apply kSl;exact rfl)
    | (apply kMp;exact rfl)
    | exact sq
    | (apply WkV.dem';exact rfl)
    | exact WkV.nilsO _
    | exact WkV.nilsD _
    | (apply Qbkc;apply ltB hM;assumption)
    | exact fToD
    | (apply kFun hM;assumption)
    | exact WkV.ownT _ _
    | exact WkV.und _):p:=h
theorem vM {p:Prop} (h:p:=by repeat first|exact WkVs.nil|(apply WkVs.cons;exact v1)):p:=h
theorem vL {p:Prop} (h:p:=by repeat first|exact WkVs.nil|(apply WkVs.cons;first|exact v1|(apply WkV.agg;exact vM)|(apply WkV.tup;exact vM))):p:=h
theorem vK {p:Prop} (h:p:=by first
    | exact v1
    | (apply WkV.agg;exact vL)
    | (apply WkV.tup;exact vL)
    | (apply kClo;repeat first|exact Qbkd|apply kgD|(apply Qbke;exact rfl)|(apply Qbjy;apply ltB hM;assumption))):p:=h
theorem vS {p:Prop} (h:p:=by first
    | (apply WkVs.same;exact rfl)
    | exact Qbhd fun _=>rfl
    | exact Q9z (fun _=>rfl) rfl
    | exact Qbkg fun _=>rfl
    | (apply Qbkf;exact rfl;assumption)
    | exact vL):p:=h
theorem wk {p:Prop} (h:p:=by
  first
    | (show WeakSt _ (Qlc _ _ _) ⟨look _,Qm _ (bxs _) _,_⟩;apply Q5m
       · repeat first|exact KLn|(apply KLc;(conv=>lhs;whnf);exact vK)
       · repeat first|exact KBn|(apply KBc;exact rfl;exact rfl;exact vS)|(apply KBm;exact rfl;exact rfl)
       · exact rfl)
    | (show WeakSt _ ⟨look _,Qm _ _ _,_⟩ ⟨look _,Qm _ (bxs _) _,_⟩;apply Qbkh;(repeat first|exact Dr.nil|(apply Dr.keep;exact rfl)|apply Dr.drop)
       · repeat first|exact KLn|(apply KLc;(conv=>lhs;whnf);exact vK)
       · repeat first|exact KBn|(apply KBc;exact rfl;exact rfl;exact vS)|(apply KBm;exact rfl;exact rfl)
       · exact rfl)
    | (show WkV _ _;exact vK)):p:=h
theorem Z (n m:Nat) {p q:Prop} (k:q) (f:Fu n→Hd m q→p:=by
  intro t k
  repeat (replace t:=Fu.dn t;first
        | (show Rn _ _ (_::_) _ _;first
          | (apply md;exact rfl)
          | (apply bN;exact rfl)
          | (apply fP;exact rfl)
          | (apply zL;(first|exact tv|(apply gw;exact rfl;first|assumption|exact rfl|exact nT (by assumption)|exact nF (by assumption)));exact rfl;exact rfl;exact rfl;exact rfl;(conv=>lhs;whnf))
          | (apply sK;exact rfl;(first|assumption|exact rfl|exact nT (by assumption)|exact nF (by assumption)))
          | (apply Rn.sk (nu rfl))
          | (apply pT;exact rfl;(first|assumption|exact rfl|exact nT (by assumption)|exact nF (by assumption));(conv=>lhs;whnf))
          | (apply pF;exact rfl;(first|assumption|exact rfl|exact nT (by assumption)|exact nF (by assumption));(conv=>lhs;whnf))
          | (apply mv;(conv=>lhs;whnf))
          | (apply Rn.mov;(first|exact tv|(apply gw;exact rfl;first|assumption|exact rfl|exact nT (by assumption)|exact nF (by assumption)));(conv=>lhs;whnf))
          | (apply Rn.movTF;(first|exact tv|(apply gw;exact rfl;first|assumption|exact rfl|exact nT (by assumption)|exact nF (by assumption)));(conv=>lhs;whnf);exact rfl)
          | (apply Rn.movTO;(first|exact tv|(apply gw;exact rfl;first|assumption|exact rfl|exact nT (by assumption)|exact nF (by assumption)));exact rfl)
          | (apply Rn.movTOT;(first|exact tv|(apply gw;exact rfl;first|assumption|exact rfl|exact nT (by assumption)|exact nF (by assumption)));exact rfl)
          | (apply Rn.movTC;(first|exact tv|(apply gw;exact rfl;first|assumption|exact rfl|exact nT (by assumption)|exact nF (by assumption))))
          | (apply Rn.bin;(first|exact tv|(apply gw;exact rfl;first|assumption|exact rfl|exact nT (by assumption)|exact nF (by assumption)));exact rfl;exact rfl;exact rfl)
          | (apply Rn.nilchkP;(first|exact tv|(apply gw;exact rfl;first|assumption|exact rfl|exact nT (by assumption)|exact nF (by assumption)));exact rfl)
          | (apply Rn.fldP;(first|exact tv|(apply gw;exact rfl;first|assumption|exact rfl|exact nT (by assumption)|exact nF (by assumption)));exact rfl;exact rfl)
          | (apply Rn.fldC;(first|exact tv|(apply gw;exact rfl;first|assumption|exact rfl|exact nT (by assumption)|exact nF (by assumption)));exact rfl)
          | (apply Rn.lenD;(first|exact tv|(apply gw;exact rfl;first|assumption|exact rfl|exact nT (by assumption)|exact nF (by assumption)));exact rfl)
          | (apply Rn.lenA;(first|exact tv|(apply gw;exact rfl;first|assumption|exact rfl|exact nT (by assumption)|exact nF (by assumption)));exact rfl)
          | (apply Rn.loadC;(first|exact tv|(apply gw;exact rfl;first|assumption|exact rfl|exact nT (by assumption)|exact nF (by assumption)));exact rfl)
          | (apply Rn.loadCA;(first|exact tv|(apply gw;exact rfl;first|assumption|exact rfl|exact nT (by assumption)|exact nF (by assumption)));exact rfl;exact rfl;exact rfl)
          | (apply zI;(first|exact tv|(apply gw;exact rfl;first|assumption|exact rfl|exact nT (by assumption)|exact nF (by assumption)));exact rfl;exact rfl;exact h;(try clear h);intro y h)
          | (apply zX;(first|exact tv|(apply gw;exact rfl;first|assumption|exact rfl|exact nT (by assumption)|exact nF (by assumption)));exact rfl;exact rfl;exact h;(try clear h);intro h)
          | (apply zLa0;(first|exact tv|(apply gw;exact rfl;first|assumption|exact rfl|exact nT (by assumption)|exact nF (by assumption)));exact rfl;(first|(apply Qeh;exact rfl)|(apply Q9x hM;assumption));exact h;refine ⟨⟨fun _=>rfl,rfl⟩,?_⟩;(try clear h);intro y h;apply zK;exact rfl;(conv=>lhs;whnf))
          | (apply zLa;(first|exact tv|(apply gw;exact rfl;first|assumption|exact rfl|exact nT (by assumption)|exact nF (by assumption)));exact rfl;(first|(apply Qeh;exact rfl)|(apply Q9x hM;assumption));exact h;refine ⟨⟨fun _=>rfl,rfl⟩,?_⟩;(try clear h);intro y h;apply zK;exact rfl;(conv=>lhs;whnf))
          | (apply zA;(first|exact tv|(apply gw;exact rfl;first|assumption|exact rfl|exact nT (by assumption)|exact nF (by assumption)));exact rfl;exact rfl;exact rfl;exact h;(first|(apply Q3i;exact rfl;exact rfl;exact rfl)|exact Q75|exact rfl);exact rfl;(try clear h);intro y h)
          | (apply zA0;(first|exact tv|(apply gw;exact rfl;first|assumption|exact rfl|exact nT (by assumption)|exact nF (by assumption)));exact rfl;exact rfl;exact rfl;exact rfl;exact h;(first|(apply Q3i;exact rfl;exact rfl;exact rfl)|exact Q75|exact rfl);exact rfl;(try clear h);intro y h)
          | (apply zLb;(first|exact tv|(apply gw;exact rfl;first|assumption|exact rfl|exact nT (by assumption)|exact nF (by assumption)));exact rfl;(first|(apply Qeh;exact rfl)|(apply Q9x hM;assumption));exact rfl;exact rfl;(conv=>lhs;whnf))
          | (apply zBs;(first|exact tv|(apply gw;exact rfl;first|assumption|exact rfl|exact nT (by assumption)|exact nF (by assumption)));(repeat first|exact Ls.nil|apply Ls.d|apply Ls.cons);exact rfl;exact rfl;(repeat first|exact Ls.nil|apply Ls.d|apply Ls.cons))
          | (apply zE;(first|exact tv|(apply gw;exact rfl;first|assumption|exact rfl|exact nT (by assumption)|exact nF (by assumption)));exact rfl;exact rfl;(conv=>lhs;whnf);exact rfl)
          | (apply Rn.un;(first|exact tv|(apply gw;exact rfl;first|assumption|exact rfl|exact nT (by assumption)|exact nF (by assumption)));exact rfl;exact rfl)
          | (apply zSt;(first|exact tv|(apply gw;exact rfl;first|assumption|exact rfl|exact nT (by assumption)|exact nF (by assumption)));exact rfl;(conv=>lhs;whnf);exact rfl;exact rfl;exact rfl;(repeat first|exact Ls.nil|apply Ls.d|apply Ls.cons))
          | (apply zSO;(first|exact tv|(apply gw;exact rfl;first|assumption|exact rfl|exact nT (by assumption)|exact nF (by assumption)));exact rfl;exact rfl;exact rfl;exact rfl;(repeat first|exact Ls.nil|apply Ls.d|apply Ls.cons))
          | (apply zSD;(first|exact tv|(apply gw;exact rfl;first|assumption|exact rfl|exact nT (by assumption)|exact nF (by assumption)));exact rfl;exact rfl;exact rfl;exact rfl;(repeat first|exact Ls.nil|apply Ls.d|apply Ls.cons))
          | (apply zSV;(first|exact tv|(apply gw;exact rfl;first|assumption|exact rfl|exact nT (by assumption)|exact nF (by assumption)));exact rfl;(conv=>lhs;whnf);exact rfl;exact rfl;exact rfl;exact rfl;exact rfl;(repeat first|exact Ls.nil|apply Ls.d|apply Ls.cons))
          | (apply zST;(first|exact tv|(apply gw;exact rfl;first|assumption|exact rfl|exact nT (by assumption)|exact nF (by assumption)));exact rfl;(conv=>lhs;whnf);exact rfl;(repeat first|exact Ls.nil|apply Ls.d|apply Ls.cons);exact rfl;exact rfl;(repeat first|exact Ls.nil|apply Ls.d|apply Ls.cons))
          | (apply zLT;(first|exact tv|(apply gw;exact rfl;first|assumption|exact rfl|exact nT (by assumption)|exact nF (by assumption)));exact rfl;exact rfl;exact rfl;(repeat first|exact Ls.nil|apply Ls.d|apply Ls.cons))
          | (apply zBx;(first|exact tv|(apply gw;exact rfl;first|assumption|exact rfl|exact nT (by assumption)|exact nF (by assumption)));(conv=>lhs;whnf);exact rfl;(repeat first|exact Ls.nil|apply Ls.d|apply Ls.cons);exact rfl;exact rfl)
          | (apply zBd;(first|exact tv|(apply gw;exact rfl;first|assumption|exact rfl|exact nT (by assumption)|exact nF (by assumption)));(repeat first|exact Ls.nil|apply Ls.d|apply Ls.cons);exact rfl;(repeat first|exact Ls.nil|apply Ls.d|apply Ls.cons))
          | (apply Rn.alloc;(first|exact tv|(apply gw;exact rfl;first|assumption|exact rfl|exact nT (by assumption)|exact nF (by assumption)));exact rfl)
          | (apply Rn.pickT;(first|exact tv|(apply gw;exact rfl;first|assumption|exact rfl|exact nT (by assumption)|exact nF (by assumption)));exact rfl;(first|assumption|exact rfl|exact nT (by assumption)|exact nF (by assumption));(conv=>lhs;whnf))
          | (apply Rn.pickF;(first|exact tv|(apply gw;exact rfl;first|assumption|exact rfl|exact nT (by assumption)|exact nF (by assumption)));exact rfl;(first|assumption|exact rfl|exact nT (by assumption)|exact nF (by assumption));(conv=>lhs;whnf))
          | (apply Rn.extTD;(first|exact tv|(apply gw;exact rfl;first|assumption|exact rfl|exact nT (by assumption)|exact nF (by assumption)));exact rfl;exact rfl;exact rfl)
          | (apply Rn.conv;(first|exact tv|(apply gw;exact rfl;first|assumption|exact rfl|exact nT (by assumption)|exact nF (by assumption)));exact rfl)
          | (apply zS2;(first|exact tv|(apply gw;exact rfl;first|assumption|exact rfl|exact nT (by assumption)|exact nF (by assumption)));exact rfl;exact rfl;exact rfl;exact h;(try clear h);intro y h)
          | (apply zSH;(first|exact tv|(apply gw;exact rfl;first|assumption|exact rfl|exact nT (by assumption)|exact nF (by assumption)));exact rfl;exact rfl;exact h;(try clear h);intro y h))
        | (show Rn _ _ _ _ _;first
          | refine Rn.nil ⟨rfl,?_⟩
          | refine Rn.nil ⟨by show Qwx _ _=true;first|rfl|(simp [Qwx,Qld,look,Bool.cond_eq_ite,Nat.beq_eq];done),?_⟩
          | apply Rn.nil)
        | apply Tr.seq
        | apply Tr.rgn
        | apply Tr.rgnD (by decide)
        | apply Tr.block
        | apply Tr.skip
        | apply Tr.ret
        | apply Tr.exit)
  first
    | exact (k:Hd 0 _).g
    | (have k:=(k:Hd 1 _);clear t;revert h;repeat revert y
       exact k.g)
    | exact ⟨_,h,wk⟩
    | (cases sj h
       first
        | exact wk
        | exact ⟨.inr rfl,_,rfl,fun _ _ _ _ h=>h,tv,mB⟩
        | (refine ⟨by first|exact .inr rfl|exact .inl rfl,?_⟩;apply exR
           · first|exact rfl|(apply Q9w;exact rfl;exact rfl;exact rfl;exact rfl)|(apply res2<;>first|exact rfl|(apply Q9w;exact rfl;exact rfl;exact rfl;exact rfl))|(apply res3<;>first|exact rfl|(apply Q9w;exact rfl;exact rfl;exact rfl;exact rfl))|exact res0
           · first|exact fun _ _ _ _ h=>h|exact WkV.rd wk
           · repeat' first|exact tv|refine ⟨?_,?_⟩
           · exact mB)))
  : p:=f ⟨tv⟩ ⟨k⟩
section
variable {q:Arg} {x y:CC} {σ:St} {Q:Ex→St→Prop}
theorem cd {b:Bool} {A B:Option R} (h:(if b then A else B)=some r) (hb:q.val σ.s = .d (.bool b)) (hx:A=some r→Tr Γ x σ Q) (hy:B=some r→Tr Γ y σ Q):Tr Γ (.cond q x y) σ Q :=
  Tr.cond hb (fun e=>hx (bT e h)) (fun e=>hy (bF e h))
theorem ci {p:Prop} [Decidable p] {A B:Option R} (h:(if p then A else B)=some r) (hb:q.val σ.s = .d (.bool (decide p))) (hx:A=some r→Tr Γ x σ Q) (hy:B=some r→Tr Γ y σ Q):Tr Γ (.cond q x y) σ Q :=
  Tr.cond hb (fun e=>hx (ifT e h)) (fun e=>hy (ifF e h))
theorem bs {G:Prop} {b:Bool} {A B:Option R} (h:(if b then A else B)=some r) (hx:b=true→A=some r→G) (hy:b=false→B=some r→G):G :=
  Q1n b (fun e=>hx e (bT e h)) (fun e=>hy e (bF e h))
theorem bi {G:Prop} {p:Prop} [Decidable p] {A B:Option R} (h:(if p then A else B)=some r) (hx:decide p=true→A=some r→G) (hy:decide p=false→B=some r→G):G :=
  Q1n (decide p) (fun e=>hx e (ifT e h)) (fun e=>hy e (ifF e h))
theorem cu {X:Type} {A:Option X} {g:X→Option R} (h:A.bind g=some r) (mk:X→St) (hx:∀ z,A=some z→Tr Γ x σ (Qbih Γ mk z Q)) (hy:∀ z,g z=some r→Tr Γ y (mk z) Q):Tr Γ (.seq x y) σ Q:=Tr.cutB mk h hx hy
theorem lo {X:Type} {F:(X→Option R)→X→Option R} {n:Nat} {x0:X} {sites:List Nat} (h:Qbx F n x0=some r) (mk:X→St) (h0:WeakSt Γ (Qlc Γ.n0 sites σ) (mk x0))
    (body:∀ (rec' : X→Option R) y,F rec' y=some r→Tr Γ x (mk y) (Qbig Γ sites mk rec' r Q)):Tr Γ (.loop sites x) σ Q:=Tr.loop h h0 body
end
inductive Le (E:List (Nat×V)):List Nat→List (Nat×V)→Prop
  | nil:Le E [] []
  | cons {k:Nat} {v:V} {ks:List Nat} {l:List (Nat×V)} (h:look E k=v) (t:Le E ks l):Le E (k::ks) ((k,v)::l)
inductive Lb (L:List (Nat×Bx)):List Nat→List (Nat×Bx)→Prop
  | nil:Lb L [] []
  | cons {k:Nat} {v:Bx} {ks:List Nat} {l:List (Nat×Bx)} (h:Qb2 L k=some v) (t:Lb L ks l):Lb L (k::ks) ((k,v)::l)
theorem ke {A B:Prop} (w:A∧B:=by
  constructor
  · repeat first|exact Le.nil|(apply Le.cons;(conv=>lhs;whnf))
  · repeat first|exact Lb.nil|(apply Lb.cons;exact rfl)):A∧B:=w
theorem wS (ks bs:List Nat) (dE:List (Nat×V)→List (Nat×V)) (dL:List (Nat×Bx)→List (Nat×Bx)) {E1:List (Nat×V)} {L1:List (Nat×Bx)} (w:Le E ks E1∧Lb L bs L1) (h:WeakSt Γ ⟨look E,Qm Γ.n0 L M,nb⟩ ⟨look (dE E1),Qm Γ.n0 (bxs (dL L1)) M,nb⟩):WeakSt Γ ⟨look E,Qm Γ.n0 L M,nb⟩ ⟨look (dE E1),Qm Γ.n0 (bxs (dL L1)) M,nb⟩:=h
section
variable {x y:CC} {Q:Ex→St→Prop} {X:Type} {E1:List (Nat×V)} {L1:List (Nat×Bx)}
theorem cw {A:Option X} {g:X→Option R} (h:A.bind g=some r) (ks bs:List Nat) (dE:X→List (Nat×V)→List (Nat×V)) (dL:X→List (Nat×Bx)→List (Nat×Bx)) (w:Le E ks E1∧Lb L bs L1)
    (hx:∀ z,A=some z→Tr Γ x ⟨look E,Qm Γ.n0 L M,nb⟩ (Qbih Γ (fun z=>⟨look (dE z E1),Qm Γ.n0 (bxs (dL z L1)) M,nb⟩) z Q)) (hy:∀ z,g z=some r→Tr Γ y ⟨look (dE z E1),Qm Γ.n0 (bxs (dL z L1)) M,nb⟩ Q):Tr Γ (.seq x y) ⟨look E,Qm Γ.n0 L M,nb⟩ Q:=Tr.cutB _ h hx hy
theorem lw {F:(X→Option R)→X→Option R} {n:Nat} {x0:X} {sites:List Nat} (h:Qbx F n x0=some r) (ks bs:List Nat) (dE:X→List (Nat×V)→List (Nat×V)) (dL:X→List (Nat×Bx)→List (Nat×Bx)) (w:Le E ks E1∧Lb L bs L1)
    (h0:WeakSt Γ (Qlc Γ.n0 sites ⟨look E,Qm Γ.n0 L M,nb⟩) ⟨look (dE x0 E1),Qm Γ.n0 (bxs (dL x0 L1)) M,nb⟩)
    (body:∀ (rec' : X→Option R) y,F rec' y=some r→Tr Γ x ⟨look (dE y E1),Qm Γ.n0 (bxs (dL y L1)) M,nb⟩ (Qbig Γ sites (fun y=>⟨look (dE y E1),Qm Γ.n0 (bxs (dL y L1)) M,nb⟩) rec' r Q)):Tr Γ (.loop sites x) ⟨look E,Qm Γ.n0 L M,nb⟩ Q:=Tr.loop h h0 body
end
theorem cl {X:Type} {g:X→Option R} {o:Option X} {f:FuncId} {as:List Arg} {args:List V} {w:X→V} (H:∀ x,o=some x→∀ M nb,ACalls Γ.P f args M nb (w x) M nb) (h:o.bind g=some r)
    (K:(Wn E gd∧(one (pcOf pc)=true→∀ k,nb≤k→M k=none)∧V.dems (as.map (·.val (look E)))=args)∧∀ x,g x=some r→Rn Γ pc os ⟨look ((d,w x)::E),M,nb⟩ Q):Rn Γ pc (⟨some d,.call f,as,false,gd⟩::os) ⟨look E,M,nb⟩ Q:=by
  obtain ⟨x,hx,h⟩:=bnd h
  exact Rn.call K.1.1 K.1.2.2 (H x hx) K.1.2.1 (K.2 x h)
theorem cm {X:Type} {g:X→Option R} {o:Option X} {f:FuncId} {as:List Arg} {args:List V} {w:X→V} (h:o.bind g=some r) (H:∀ x,o=some x→∀ M2 nb2,nb≤nb2→Ext M M2→ACalls Γ.P f args M2 nb2 (w x) M2 nb2) (hp:(Nat.ble (pcOf pc) 1||Nat.ble 10 (pcOf pc))=true)
    (K:(Wn E gd∧(one (pcOf pc)=true→∀ k,nb≤k→M k=none)∧V.dems (as.map (·.val (look E)))=args)∧∀ x,g x=some r→Rn Γ pc os ⟨look ((d,w x)::E),M,nb⟩ Q):Rn Γ pc (⟨some d,.call f,as,false,gd⟩::os) ⟨look E,M,nb⟩ Q:=by
  obtain ⟨x,hx,h⟩:=bnd h
  exact Rn.callM K.1.1 K.1.2.2 (H x hx) hp K.1.2.1 (K.2 x h)
theorem ini {cc:CC} {args:List V} {Q:Ex→St→Prop} (k:Tr Γ cc ⟨look ((List.range' 0 args.length).zip args),M,nb⟩ Q):Tr Γ cc ⟨Qov args,M,nb⟩ Q:=Tr.init _ rfl k
theorem cq {A B C p:Prop} (k:p) (w:A∧B∧C:=by refine ⟨?_,?_,rfl⟩;(first|exact tv|(apply gw;exact rfl;first|assumption|exact rfl|exact nT (by assumption)|exact nF (by assumption)));first|exact pc0|exact pc9|exact pc2|exact fun _=>Qbjs hM rfl):(A∧B∧C)∧p:=⟨w,k⟩
theorem Y {p:Prop} (h:p:=by exact Z 99 2 tv):p:=h
end Go.Abs
end
section
namespace Go.Abs
open Go
variable {Γ:Env} {pc d nb sz:Nat} {os:List COp} {E:List (Nat×V)} {M M0 M1 M2:Mem} {Q:St→Prop} {L:List (Nat×Bx)} {a b c:Arg} {gd:Option (Nat×Bool)} {α:Type}
theorem Rn.callO {f i t:Nat} {as:List Arg} {args args' : List V} {r:V} (hw:Wn E gd) (ht:Qs4 i as=some t) (ha:Qxw (look E) i as=args) (hk:WkVs args args') (hC:∀ M nb,ACalls Γ.P f args' M nb r M nb)
  (h:Rn Γ 9 os ⟨look ((d,r)::(t,(look E t).dem)::E),M,nb⟩ Q):Rn Γ 9 (⟨some d,.callO f i,as,false,gd⟩::os) ⟨look E,M,nb⟩ Q:=by
 refine Rn.cons ?_;unfold COp.run;rw [hw.wanted];simp only [show (K.callO f i).isCall=false from rfl,show (K.callO f i).isNil=true from rfl,Bool.false_eq_true,if_false,if_true,COp.runN,ha];refine ⟨rfl,r,M,nb,(hC _ _).weakO hk,fun _ h=>h,fun _ _ _ _=>.inl rfl,?_⟩;rw [show Q9 (Qs5 (look E) (Qs4 i as)) (some d) r=look ((d,r)::(t,(look E t).dem)::E) from by
  rw [ht];show Q9 ((look E).put t (look E t).dem) (some d) r=_;rw [show (look E).put t (look E t).dem=look ((t,(look E t).dem)::E) from Qcv E t _];exact Qcv _ d r]
 exact h
def chrO (s:ByteArray) (i:Int):Option Int:=if hi:0≤i∧i<s.size then some (s[i.toNat]'(by omega)).toNat else none
theorem Rn.idxs {k:IntKind} {s:ByteArray} {i x:Int} (hw:Wn E gd) (ha:a.val (look E) = .d (.str s)) (hb:b.val (look E) = .d (.int k i)) (hx:chrO s i=some x) (h:Rn Γ pc os ⟨look ((d,.d (.int .u8 x))::E),M,nb⟩ Q) :
  Rn Γ pc (⟨some d,.idxs,[a,b],false,gd⟩::os) ⟨look E,M,nb⟩ Q:=by
 refine Rn.k hw rfl rfl ?_ h;unfold chrO at hx;split at hx<;>cases hx;rename_i hi;simp only [List.map_cons,List.map_nil,V.dems,ha,hb,V.dem,Qh];rw [dif_pos hi]
theorem Q8g:∀ xs:List Int,Q7c (xs.map (eI .u8))=some xs
 | []=>rfl
 | x::xs=>by
  rw [List.map_cons];show (Q7c (xs.map (eI .u8))).map (x :: ·)=_;rw [Q8g xs];rfl
theorem Rn.bstr {xs:List Int} (hw:Wn E gd) (ha:(a.val (look E)).dem = .d (.lst 1 (xs.map (eI .u8)))) (h:Rn Γ pc os ⟨look ((d,.d (.str (strB xs)))::E),M,nb⟩ Q):Rn Γ pc (⟨some d,.bstr,[a],false,gd⟩::os) ⟨look E,M,nb⟩ Q:=by
 refine Rn.k hw rfl rfl ?_ h;simp only [List.map_cons,List.map_nil,V.dems,ha,Qh,Q8g,Option.map_some]
theorem Rn.storeAD {g:α→List V} {xs ys:List α} {t u:Nat} {i:Int} {y:α} {z:D} (hg:∀ x,(g x).length=1) (hw:Wn E gd) (ha:a.val (look E) = .ptr (Γ.n0+t) (0+i.toNat*1)) (hb:look E u = .d z) (hM:Qb2 L t=some (.cells (Qei g xs))) (hc:[V.d z]=g y)
  (hx:setO xs i y=some ys) (h:Rn Γ pc os ⟨look E,Qm Γ.n0 ((t,.cells (Qei g ys))::L) M0,nb⟩ Q):Rn Γ pc (⟨none,.store 1,[a,.t u],true,gd⟩::os) ⟨look E,Qm Γ.n0 L M0,nb⟩ Q:=by
 unfold setO at hx;split at hx<;>cases hx;rename_i hi;have hl2:=Qm9 hg xs;refine Rn.storeD (cs':=Qei g (xs.set i.toNat y)) hw ha hb hM ?_ ?_ h
 ·rw [hl2];exact Nat.ble_eq_true_of_le (by omega)
 ·rw [hc,Nat.zero_add];have:=Q3k hg y hi.2;simpa using this
theorem Rn.blit {n:Nat} {z:List V} {ps:List Nat} {as:List Arg} {xs:List V} {ds:List D} {l:List (List D)} (hw:Wn E gd) (ha:V.dems (as.map (·.val (look E)))=xs)
  (hc:(ps.length=xs.length&&decide (0<sz)&&z.length==sz&&(ps.zip xs).all (fun (i,x)=>Qd5 x&&x.cells.length==sz&&decide (i<n)))=true)
  (hd:toDs (Qh9 (rep n z) ((ps.zip xs).map fun (i,x)=>(i*sz,x.cells)))=some ds) (hl:Qh8 sz n ds=l)
  (h:Rn Γ pc os ⟨look ((d,.d (.lst sz l))::E),M,nb⟩ Q):Rn Γ pc (⟨some d,.blit sz n z ps,as,false,gd⟩::os) ⟨look E,M,nb⟩ Q:=by
 refine Rn.k hw rfl rfl ?_ h;rw [ha];have hs:∀ κ,Qh Γ.n0 κ (.blit sz n z ps) xs M=(if ps.length=xs.length&&decide (0<sz)&&z.length==sz&&(ps.zip xs).all (fun (i,x)=>Qd5 x&&x.cells.length==sz&&decide (i<n))
   then (toDs (Qh9 (rep n z) ((ps.zip xs).map fun (i,x)=>(i*sz,x.cells)))).map fun ds=>(V.d (.lst sz (Qh8 sz n ds)),M) else none):=fun κ=>by cases xs<;>rfl
 rw [hs,if_pos hc,hd,Option.map_some,hl]
section
variable {κ β:Type} [BEq κ] {ek:κ→V} {ev:β→V} {m:List (κ×β)} (hs:∀ a b,Qe9 (ek a) (ek b)=(a==b)) {kd:MK} (hk:∀ a,kd.ok (ek a)=true) (hv:∀ b,(ev b).dat=true)
include hs hk hv
theorem Rn.lookupB {k0:Nat} {z:V} {k:κ} (zb:β) (hz:ev zb=z) (hw:Wn E gd) (ha:a.val (look E) = .mp k0) (hb:(b.val (look E)).dem=ek k) (hM:M k0=some (.mp (mapE ek ev 0 m) m.length))
  (h:Rn Γ pc os ⟨look ((d,ev (getM m k zb))::E),M,nb⟩ Q):Rn Γ pc (⟨some d,.lookup kd false z,[a,b],false,gd⟩::os) ⟨look E,M,nb⟩ Q:=by
 subst hz;refine Rn.k hw rfl rfl ?_ h;simp only [List.map_cons,List.map_nil,V.dems,ha,hb,V.dem,Qh,hM,hk,Qm4 hk,Bool.and_self,if_true,Qlg hs 0 m zb];cases hh:hasM m k with
 | true=>simp [Qxm (hv _),Qu7 (hv _)]
 | false =>
  have:getM m k zb=zb:=by
   clear hM h
   induction m with
   | nil=>rfl
   | cons p m ih =>
    simp only [hasM,List.any_cons,Bool.or_eq_false_iff] at hh;simp only [getM,hh.1,Bool.false_eq_true,if_false];exact ih hh.2
  simp [this,hv]
omit hv in
theorem Rn.mapsetB {k0:Nat} {k:κ} {v:β} (hw:Wn E gd) (ha:a.val (look E) = .mp k0) (hb:(b.val (look E)).dem=ek k) (hc:Qu3 (c.val (look E)).dem=ev v) (hcd:(c.val (look E)).dem.dat=true) (hk0:k0<Γ.n0) (hM:M1 k0=some (.mp (mapE ek ev 0 m) m.length))
  (hp:M1.put k0 (.mp (mapE ek ev 0 (setM m k v)) (setM m k v).length)=M2) (h:Rn Γ pc os ⟨look E,Qm Γ.n0 L M2,nb⟩ Q):Rn Γ pc (⟨none,.mapset kd,[a,b,c],false,gd⟩::os) ⟨look E,Qm Γ.n0 L M1,nb⟩ Q:=by
 refine Rn.k0 (v:=.und) hw rfl rfl ?_ h;have hM' : Qm Γ.n0 L M1 k0=some (.mp (mapE ek ev 0 m) m.length):=by rw [Qel hk0];exact hM
 simp only [List.map_cons,List.map_nil,V.dems,ha,hb,hc,V.dem,Qh,hM',hk,hcd,Qm4 hk,Bool.and_self,if_true];rw [Qlg hs 0 m v,← hp,← Qtj hk0];cases hh:hasM m k with
 | true=>simp only [if_true];rw [Q2e 0 hh,Qo8 hh]
 | false =>
  simp only [Bool.false_eq_true,if_false];rw [Qr8 hh,Qo7];simp [mapE]
end
theorem Q8h {n0 t o:Nat} {ds cs:List D} (h:ds.drop o=cs):WkV (frzV (n0+t) ds (.ptr (n0+t) o)) (.cref cs):=by
 simp only [frzV,if_true,h];exact .same rfl
theorem crT {P:Program} {f:FuncId} {args:List V} {r1 r2:V} {b:Bool} (hb:b=true) (h:∀ M nb,ACalls P f args M nb (bif b then r1 else r2) M nb):∀ M nb,ACalls P f args M nb r1 M nb:=by
 subst hb;exact h
theorem crF {P:Program} {f:FuncId} {args:List V} {r1 r2:V} {b:Bool} (hb:b=false) (h:∀ M nb,ACalls P f args M nb (bif b then r1 else r2) M nb):∀ M nb,ACalls P f args M nb r2 M nb:=by
 subst hb;exact h
end Go.Abs
end
section
namespace Go.Abs
open Go
set_option maxRecDepth 10000
set_option maxHeartbeats 4000000
structure Qd where
  ambient_:Int
  language_:Int
  deriving DecidableEq
def Qbn (x:Qd):List D:=[.int .i64 x.ambient_,.int .i64 x.language_]
abbrev Qbb (x:Qd):List V:=[(i_ x.ambient_),(i_ x.language_)]
abbrev Qbc (x:Qd):V:=.agg (Qbb x)
abbrev Q0 (x:List Qd):V:=.d (.lst 2 (List.map Qbn x))
abbrev Qbs (x:List Qd):V:=.own 2 (List.map Qbn x)
theorem Qpa (a b:Qd):Qe9 (Qbc a) (Qbc b)=(a==b):=by
  cases a;cases b;refine (decB ?_);simp [Qbc,Qbb,Qe9,Qqi,Qjc]
structure Qb where
  From:Int
  Event:Int
  To:Int
  deriving DecidableEq
def Qj (x:Qb):List D:=[.int .i64 x.From,.int .i64 x.Event,.int .i64 x.To]
abbrev Qou (x:Qb):List V:=[(i_ x.From),(i_ x.Event),(i_ x.To)]
abbrev Qr9 (x:Qb):V:=.agg (Qou x)
abbrev Qg (x:List Qb):V:=.d (.lst 3 (List.map Qj x))
abbrev Qp (x:List Qb):V:=.own 3 (List.map Qj x)
structure Qa where
  zB:List Int
  zF:Int
  zC:List Int
  zD:List Qb
  deriving DecidableEq
def Qbp (x:Qa):List D:=[.lst 1 (List.map (eI .i64) x.zB),.int .i64 x.zF,.lst 1 (List.map (eI .i64) x.zC),.lst 3 (List.map Qj x.zD)]
abbrev Qr (x:Qa):List V:=[(l_ x.zB),(i_ x.zF),(l_ x.zC),.d (.lst 3 (List.map Qj x.zD))]
abbrev Qe (x:Qa):V:=.agg (Qr x)
abbrev Qbl (x:List Qa):V:=.d (.lst 4 (List.map Qbp x))
abbrev Qpb (x:List Qa):V:=.own 4 (List.map Qbp x)
structure Ql where
  Plant:Qa
  Ambient:Qa
  Requirement:Qa
  Observable:List Int
  Controllable:List Int
  deriving DecidableEq
def Qbbg (x:Ql):List D:=[.lst 1 (List.map (eI .i64) x.Plant.zB),.int .i64 x.Plant.zF,.lst 1 (List.map (eI .i64) x.Plant.zC),.lst 3 (List.map Qj x.Plant.zD),.lst 1 (List.map (eI .i64) x.Ambient.zB),.int .i64 x.Ambient.zF,.lst 1 (List.map (eI .i64) x.Ambient.zC),.lst 3 (List.map Qj x.Ambient.zD),.lst 1 (List.map (eI .i64) x.Requirement.zB),.int .i64 x.Requirement.zF,.lst 1 (List.map (eI .i64) x.Requirement.zC),.lst 3 (List.map Qj x.Requirement.zD),.lst 1 (List.map (eI .i64) x.Observable),.lst 1 (List.map (eI .i64) x.Controllable)]
abbrev Qbf (x:Ql):List V:=[(l_ x.Plant.zB),(i_ x.Plant.zF),(l_ x.Plant.zC),.d (.lst 3 (List.map Qj x.Plant.zD)),(l_ x.Ambient.zB),(i_ x.Ambient.zF),(l_ x.Ambient.zC),.d (.lst 3 (List.map Qj x.Ambient.zD)),(l_ x.Requirement.zB),(i_ x.Requirement.zF),(l_ x.Requirement.zC),.d (.lst 3 (List.map Qj x.Requirement.zD)),(l_ x.Observable),(l_ x.Controllable)]
abbrev Qu (x:Ql):V:=.agg (Qbf x)
structure Qb1 where
  list_:List Qa
  events_:List Int
  edges_:List (List ((Int×Int)×Int))
def Qbch (x:Qb1):List D:=[.lst 4 (List.map Qbp x.list_),.lst 1 (List.map (eI .i64) x.events_),.lst 1 (List.map (fun p:List ((Int×Int)×Int)=>[mpD (fun (x:Int×Int)=>(.agg [(i_ x.1),(i_ x.2)]:V)) (fun (x:Int)=>((i_ x):V)) p]) x.edges_)]
abbrev Qem (x:Qb1):List V:=[.d (.lst 4 (List.map Qbp x.list_)),(l_ x.events_),.d (.lst 1 (List.map (fun p:List ((Int×Int)×Int)=>[mpD (fun (x:Int×Int)=>(.agg [(i_ x.1),(i_ x.2)]:V)) (fun (x:Int)=>((i_ x):V)) p]) x.edges_))]
abbrev Qf9 (x:Qb1):V:=.agg (Qem x)
structure Qf where
  p_:Ql
  events_:List Int
  language_:List ((Int×Int)×Int)
  ambient_:List ((Int×Int)×Int)
  plant_:List Int
  moves_:List ((Int×Int)×Int)
  empty_:Bool
  start_:Qd
def Qc (x:Qf):List D:=[.lst 1 (List.map (eI .i64) x.p_.Plant.zB),.int .i64 x.p_.Plant.zF,.lst 1 (List.map (eI .i64) x.p_.Plant.zC),.lst 3 (List.map Qj x.p_.Plant.zD),.lst 1 (List.map (eI .i64) x.p_.Ambient.zB),.int .i64 x.p_.Ambient.zF,.lst 1 (List.map (eI .i64) x.p_.Ambient.zC),.lst 3 (List.map Qj x.p_.Ambient.zD),.lst 1 (List.map (eI .i64) x.p_.Requirement.zB),.int .i64 x.p_.Requirement.zF,.lst 1 (List.map (eI .i64) x.p_.Requirement.zC),.lst 3 (List.map Qj x.p_.Requirement.zD),.lst 1 (List.map (eI .i64) x.p_.Observable),.lst 1 (List.map (eI .i64) x.p_.Controllable),.lst 1 (List.map (eI .i64) x.events_),mpD (fun (x:Int×Int)=>(.agg [(i_ x.1),(i_ x.2)]:V)) (fun (x:Int)=>((i_ x):V)) x.language_,mpD (fun (x:Int×Int)=>(.agg [(i_ x.1),(i_ x.2)]:V)) (fun (x:Int)=>((i_ x):V)) x.ambient_,.lst 1 (List.map (eI .i64) x.plant_),mpD (fun (x:Int×Int)=>(.agg [(i_ x.1),(i_ x.2)]:V)) (fun (x:Int)=>((i_ x):V)) x.moves_,.bool x.empty_,.int .i64 x.start_.ambient_,.int .i64 x.start_.language_]
abbrev Q0q (x:Qf):List V:=[(l_ x.p_.Plant.zB),(i_ x.p_.Plant.zF),(l_ x.p_.Plant.zC),.d (.lst 3 (List.map Qj x.p_.Plant.zD)),(l_ x.p_.Ambient.zB),(i_ x.p_.Ambient.zF),(l_ x.p_.Ambient.zC),.d (.lst 3 (List.map Qj x.p_.Ambient.zD)),(l_ x.p_.Requirement.zB),(i_ x.p_.Requirement.zF),(l_ x.p_.Requirement.zC),.d (.lst 3 (List.map Qj x.p_.Requirement.zD)),(l_ x.p_.Observable),(l_ x.p_.Controllable),(l_ x.events_),.d (mpD (fun (x:Int×Int)=>(.agg [(i_ x.1),(i_ x.2)]:V)) (fun (x:Int)=>((i_ x):V)) x.language_),.d (mpD (fun (x:Int×Int)=>(.agg [(i_ x.1),(i_ x.2)]:V)) (fun (x:Int)=>((i_ x):V)) x.ambient_),(l_ x.plant_),.d (mpD (fun (x:Int×Int)=>(.agg [(i_ x.1),(i_ x.2)]:V)) (fun (x:Int)=>((i_ x):V)) x.moves_),(b_ x.empty_),(i_ x.start_.ambient_),(i_ x.start_.language_)]
abbrev Qbci (x:Qf):V:=.agg (Q0q x)
structure Qdo where
  at_:Qd
  states_:List Int
  word_:List Int
  deriving DecidableEq
def Q3r (x:Qdo):List D:=[.int .i64 x.at_.ambient_,.int .i64 x.at_.language_,.lst 1 (List.map (eI .i64) x.states_),.lst 1 (List.map (eI .i64) x.word_)]
abbrev Qfm (x:Qdo):List V:=[(i_ x.at_.ambient_),(i_ x.at_.language_),(l_ x.states_),(l_ x.word_)]
abbrev Q3s (x:Qdo):V:=.agg (Qfm x)
abbrev Qho (x:List Qdo):V:=.own 4 (List.map Q3r x)
structure Qt where
  state_:Int
  done_:Int
  deriving DecidableEq
def Qeu (x:Qt):List D:=[.int .i64 x.state_,.int .i64 x.done_]
abbrev Qbm (x:Qt):List V:=[(i_ x.state_),(i_ x.done_)]
abbrev Qpc (x:Qt):V:=.agg (Qbm x)
theorem Qg2 (a b:Qt):Qe9 (Qpc a) (Qpc b)=(a==b):=by
  cases a;cases b;refine (decB ?_);simp [Qpc,Qbm,Qe9,Qqi,Qjc]
structure Qcz where
  Word:List Int
  Other:List Int
  Event:Int
  deriving DecidableEq
def Qbbh (x:Qcz):List D:=[.lst 1 (List.map (eI .i64) x.Word),.lst 1 (List.map (eI .i64) x.Other),.int .i64 x.Event]
abbrev Qft (x:Qcz):List V:=[(l_ x.Word),(l_ x.Other),(i_ x.Event)]
abbrev Qbk (x:Qcz):V:=.agg (Qft x)
structure Qbo where
  state_:Int
  places_:List Qd
  deriving DecidableEq
def Qqo (x:Qbo):List D:=[.int .i64 x.state_,.lst 2 (List.map Qbn x.places_)]
abbrev Qzd (x:Qbo):List V:=[(i_ x.state_),.d (.lst 2 (List.map Qbn x.places_))]
abbrev Qze (x:Qbo):V:=.agg (Qzd x)
abbrev Qd7 (x:List Qbo):V:=.own 2 (List.map Qqo x)
structure Qs where
  zF:Int
  Marks:Int
  To:(Int×Int×Int×Int×Int)×(Int×Int×Int×Int×Int)×(Int×Int×Int×Int×Int)×(Int×Int×Int×Int×Int)×(Int×Int×Int×Int×Int)
def Qna (x:Qs):List D:=[.int .u8 x.zF,.int .u8 x.Marks,.int .u8 x.To.1.1,.int .u8 x.To.1.2.1,.int .u8 x.To.1.2.2.1,.int .u8 x.To.1.2.2.2.1,.int .u8 x.To.1.2.2.2.2,.int .u8 x.To.2.1.1,.int .u8 x.To.2.1.2.1,.int .u8 x.To.2.1.2.2.1,.int .u8 x.To.2.1.2.2.2.1,.int .u8 x.To.2.1.2.2.2.2,.int .u8 x.To.2.2.1.1,.int .u8 x.To.2.2.1.2.1,.int .u8 x.To.2.2.1.2.2.1,.int .u8 x.To.2.2.1.2.2.2.1,.int .u8 x.To.2.2.1.2.2.2.2,.int .u8 x.To.2.2.2.1.1,.int .u8 x.To.2.2.2.1.2.1,.int .u8 x.To.2.2.2.1.2.2.1,.int .u8 x.To.2.2.2.1.2.2.2.1,.int .u8 x.To.2.2.2.1.2.2.2.2,.int .u8 x.To.2.2.2.2.1,.int .u8 x.To.2.2.2.2.2.1,.int .u8 x.To.2.2.2.2.2.2.1,.int .u8 x.To.2.2.2.2.2.2.2.1,.int .u8 x.To.2.2.2.2.2.2.2.2]
abbrev Qvi (x:Qs):List V:=[.d (.int .u8 x.zF),.d (.int .u8 x.Marks),.d (.int .u8 x.To.1.1),.d (.int .u8 x.To.1.2.1),.d (.int .u8 x.To.1.2.2.1),.d (.int .u8 x.To.1.2.2.2.1),.d (.int .u8 x.To.1.2.2.2.2),.d (.int .u8 x.To.2.1.1),.d (.int .u8 x.To.2.1.2.1),.d (.int .u8 x.To.2.1.2.2.1),.d (.int .u8 x.To.2.1.2.2.2.1),.d (.int .u8 x.To.2.1.2.2.2.2),.d (.int .u8 x.To.2.2.1.1),.d (.int .u8 x.To.2.2.1.2.1),.d (.int .u8 x.To.2.2.1.2.2.1),.d (.int .u8 x.To.2.2.1.2.2.2.1),.d (.int .u8 x.To.2.2.1.2.2.2.2),.d (.int .u8 x.To.2.2.2.1.1),.d (.int .u8 x.To.2.2.2.1.2.1),.d (.int .u8 x.To.2.2.2.1.2.2.1),.d (.int .u8 x.To.2.2.2.1.2.2.2.1),.d (.int .u8 x.To.2.2.2.1.2.2.2.2),.d (.int .u8 x.To.2.2.2.2.1),.d (.int .u8 x.To.2.2.2.2.2.1),.d (.int .u8 x.To.2.2.2.2.2.2.1),.d (.int .u8 x.To.2.2.2.2.2.2.2.1),.d (.int .u8 x.To.2.2.2.2.2.2.2.2)]
abbrev Qvj (x:Qs):V:=.agg (Qvi x)
structure Qbq where
  Sets:Int×Int×Int×Int×Int
  Graphs:Qs×Qs×Qs
def Qnb (x:Qbq):List D:=[.int .u8 x.Sets.1,.int .u8 x.Sets.2.1,.int .u8 x.Sets.2.2.1,.int .u8 x.Sets.2.2.2.1,.int .u8 x.Sets.2.2.2.2,.int .u8 x.Graphs.1.zF,.int .u8 x.Graphs.1.Marks,.int .u8 x.Graphs.1.To.1.1,.int .u8 x.Graphs.1.To.1.2.1,.int .u8 x.Graphs.1.To.1.2.2.1,.int .u8 x.Graphs.1.To.1.2.2.2.1,.int .u8 x.Graphs.1.To.1.2.2.2.2,.int .u8 x.Graphs.1.To.2.1.1,.int .u8 x.Graphs.1.To.2.1.2.1,.int .u8 x.Graphs.1.To.2.1.2.2.1,.int .u8 x.Graphs.1.To.2.1.2.2.2.1,.int .u8 x.Graphs.1.To.2.1.2.2.2.2,.int .u8 x.Graphs.1.To.2.2.1.1,.int .u8 x.Graphs.1.To.2.2.1.2.1,.int .u8 x.Graphs.1.To.2.2.1.2.2.1,.int .u8 x.Graphs.1.To.2.2.1.2.2.2.1,.int .u8 x.Graphs.1.To.2.2.1.2.2.2.2,.int .u8 x.Graphs.1.To.2.2.2.1.1,.int .u8 x.Graphs.1.To.2.2.2.1.2.1,.int .u8 x.Graphs.1.To.2.2.2.1.2.2.1,.int .u8 x.Graphs.1.To.2.2.2.1.2.2.2.1,.int .u8 x.Graphs.1.To.2.2.2.1.2.2.2.2,.int .u8 x.Graphs.1.To.2.2.2.2.1,.int .u8 x.Graphs.1.To.2.2.2.2.2.1,.int .u8 x.Graphs.1.To.2.2.2.2.2.2.1,.int .u8 x.Graphs.1.To.2.2.2.2.2.2.2.1,.int .u8 x.Graphs.1.To.2.2.2.2.2.2.2.2,.int .u8 x.Graphs.2.1.zF,.int .u8 x.Graphs.2.1.Marks,.int .u8 x.Graphs.2.1.To.1.1,.int .u8 x.Graphs.2.1.To.1.2.1,.int .u8 x.Graphs.2.1.To.1.2.2.1,.int .u8 x.Graphs.2.1.To.1.2.2.2.1,.int .u8 x.Graphs.2.1.To.1.2.2.2.2,.int .u8 x.Graphs.2.1.To.2.1.1,.int .u8 x.Graphs.2.1.To.2.1.2.1,.int .u8 x.Graphs.2.1.To.2.1.2.2.1,.int .u8 x.Graphs.2.1.To.2.1.2.2.2.1,.int .u8 x.Graphs.2.1.To.2.1.2.2.2.2,.int .u8 x.Graphs.2.1.To.2.2.1.1,.int .u8 x.Graphs.2.1.To.2.2.1.2.1,.int .u8 x.Graphs.2.1.To.2.2.1.2.2.1,.int .u8 x.Graphs.2.1.To.2.2.1.2.2.2.1,.int .u8 x.Graphs.2.1.To.2.2.1.2.2.2.2,.int .u8 x.Graphs.2.1.To.2.2.2.1.1,.int .u8 x.Graphs.2.1.To.2.2.2.1.2.1,.int .u8 x.Graphs.2.1.To.2.2.2.1.2.2.1,.int .u8 x.Graphs.2.1.To.2.2.2.1.2.2.2.1,.int .u8 x.Graphs.2.1.To.2.2.2.1.2.2.2.2,.int .u8 x.Graphs.2.1.To.2.2.2.2.1,.int .u8 x.Graphs.2.1.To.2.2.2.2.2.1,.int .u8 x.Graphs.2.1.To.2.2.2.2.2.2.1,.int .u8 x.Graphs.2.1.To.2.2.2.2.2.2.2.1,.int .u8 x.Graphs.2.1.To.2.2.2.2.2.2.2.2,.int .u8 x.Graphs.2.2.zF,.int .u8 x.Graphs.2.2.Marks,.int .u8 x.Graphs.2.2.To.1.1,.int .u8 x.Graphs.2.2.To.1.2.1,.int .u8 x.Graphs.2.2.To.1.2.2.1,.int .u8 x.Graphs.2.2.To.1.2.2.2.1,.int .u8 x.Graphs.2.2.To.1.2.2.2.2,.int .u8 x.Graphs.2.2.To.2.1.1,.int .u8 x.Graphs.2.2.To.2.1.2.1,.int .u8 x.Graphs.2.2.To.2.1.2.2.1,.int .u8 x.Graphs.2.2.To.2.1.2.2.2.1,.int .u8 x.Graphs.2.2.To.2.1.2.2.2.2,.int .u8 x.Graphs.2.2.To.2.2.1.1,.int .u8 x.Graphs.2.2.To.2.2.1.2.1,.int .u8 x.Graphs.2.2.To.2.2.1.2.2.1,.int .u8 x.Graphs.2.2.To.2.2.1.2.2.2.1,.int .u8 x.Graphs.2.2.To.2.2.1.2.2.2.2,.int .u8 x.Graphs.2.2.To.2.2.2.1.1,.int .u8 x.Graphs.2.2.To.2.2.2.1.2.1,.int .u8 x.Graphs.2.2.To.2.2.2.1.2.2.1,.int .u8 x.Graphs.2.2.To.2.2.2.1.2.2.2.1,.int .u8 x.Graphs.2.2.To.2.2.2.1.2.2.2.2,.int .u8 x.Graphs.2.2.To.2.2.2.2.1,.int .u8 x.Graphs.2.2.To.2.2.2.2.2.1,.int .u8 x.Graphs.2.2.To.2.2.2.2.2.2.1,.int .u8 x.Graphs.2.2.To.2.2.2.2.2.2.2.1,.int .u8 x.Graphs.2.2.To.2.2.2.2.2.2.2.2]
abbrev Qvk (x:Qbq):List V:=[.d (.int .u8 x.Sets.1),.d (.int .u8 x.Sets.2.1),.d (.int .u8 x.Sets.2.2.1),.d (.int .u8 x.Sets.2.2.2.1),.d (.int .u8 x.Sets.2.2.2.2),.d (.int .u8 x.Graphs.1.zF),.d (.int .u8 x.Graphs.1.Marks),.d (.int .u8 x.Graphs.1.To.1.1),.d (.int .u8 x.Graphs.1.To.1.2.1),.d (.int .u8 x.Graphs.1.To.1.2.2.1),.d (.int .u8 x.Graphs.1.To.1.2.2.2.1),.d (.int .u8 x.Graphs.1.To.1.2.2.2.2),.d (.int .u8 x.Graphs.1.To.2.1.1),.d (.int .u8 x.Graphs.1.To.2.1.2.1),.d (.int .u8 x.Graphs.1.To.2.1.2.2.1),.d (.int .u8 x.Graphs.1.To.2.1.2.2.2.1),.d (.int .u8 x.Graphs.1.To.2.1.2.2.2.2),.d (.int .u8 x.Graphs.1.To.2.2.1.1),.d (.int .u8 x.Graphs.1.To.2.2.1.2.1),.d (.int .u8 x.Graphs.1.To.2.2.1.2.2.1),.d (.int .u8 x.Graphs.1.To.2.2.1.2.2.2.1),.d (.int .u8 x.Graphs.1.To.2.2.1.2.2.2.2),.d (.int .u8 x.Graphs.1.To.2.2.2.1.1),.d (.int .u8 x.Graphs.1.To.2.2.2.1.2.1),.d (.int .u8 x.Graphs.1.To.2.2.2.1.2.2.1),.d (.int .u8 x.Graphs.1.To.2.2.2.1.2.2.2.1),.d (.int .u8 x.Graphs.1.To.2.2.2.1.2.2.2.2),.d (.int .u8 x.Graphs.1.To.2.2.2.2.1),.d (.int .u8 x.Graphs.1.To.2.2.2.2.2.1),.d (.int .u8 x.Graphs.1.To.2.2.2.2.2.2.1),.d (.int .u8 x.Graphs.1.To.2.2.2.2.2.2.2.1),.d (.int .u8 x.Graphs.1.To.2.2.2.2.2.2.2.2),.d (.int .u8 x.Graphs.2.1.zF),.d (.int .u8 x.Graphs.2.1.Marks),.d (.int .u8 x.Graphs.2.1.To.1.1),.d (.int .u8 x.Graphs.2.1.To.1.2.1),.d (.int .u8 x.Graphs.2.1.To.1.2.2.1),.d (.int .u8 x.Graphs.2.1.To.1.2.2.2.1),.d (.int .u8 x.Graphs.2.1.To.1.2.2.2.2),.d (.int .u8 x.Graphs.2.1.To.2.1.1),.d (.int .u8 x.Graphs.2.1.To.2.1.2.1),.d (.int .u8 x.Graphs.2.1.To.2.1.2.2.1),.d (.int .u8 x.Graphs.2.1.To.2.1.2.2.2.1),.d (.int .u8 x.Graphs.2.1.To.2.1.2.2.2.2),.d (.int .u8 x.Graphs.2.1.To.2.2.1.1),.d (.int .u8 x.Graphs.2.1.To.2.2.1.2.1),.d (.int .u8 x.Graphs.2.1.To.2.2.1.2.2.1),.d (.int .u8 x.Graphs.2.1.To.2.2.1.2.2.2.1),.d (.int .u8 x.Graphs.2.1.To.2.2.1.2.2.2.2),.d (.int .u8 x.Graphs.2.1.To.2.2.2.1.1),.d (.int .u8 x.Graphs.2.1.To.2.2.2.1.2.1),.d (.int .u8 x.Graphs.2.1.To.2.2.2.1.2.2.1),.d (.int .u8 x.Graphs.2.1.To.2.2.2.1.2.2.2.1),.d (.int .u8 x.Graphs.2.1.To.2.2.2.1.2.2.2.2),.d (.int .u8 x.Graphs.2.1.To.2.2.2.2.1),.d (.int .u8 x.Graphs.2.1.To.2.2.2.2.2.1),.d (.int .u8 x.Graphs.2.1.To.2.2.2.2.2.2.1),.d (.int .u8 x.Graphs.2.1.To.2.2.2.2.2.2.2.1),.d (.int .u8 x.Graphs.2.1.To.2.2.2.2.2.2.2.2),.d (.int .u8 x.Graphs.2.2.zF),.d (.int .u8 x.Graphs.2.2.Marks),.d (.int .u8 x.Graphs.2.2.To.1.1),.d (.int .u8 x.Graphs.2.2.To.1.2.1),.d (.int .u8 x.Graphs.2.2.To.1.2.2.1),.d (.int .u8 x.Graphs.2.2.To.1.2.2.2.1),.d (.int .u8 x.Graphs.2.2.To.1.2.2.2.2),.d (.int .u8 x.Graphs.2.2.To.2.1.1),.d (.int .u8 x.Graphs.2.2.To.2.1.2.1),.d (.int .u8 x.Graphs.2.2.To.2.1.2.2.1),.d (.int .u8 x.Graphs.2.2.To.2.1.2.2.2.1),.d (.int .u8 x.Graphs.2.2.To.2.1.2.2.2.2),.d (.int .u8 x.Graphs.2.2.To.2.2.1.1),.d (.int .u8 x.Graphs.2.2.To.2.2.1.2.1),.d (.int .u8 x.Graphs.2.2.To.2.2.1.2.2.1),.d (.int .u8 x.Graphs.2.2.To.2.2.1.2.2.2.1),.d (.int .u8 x.Graphs.2.2.To.2.2.1.2.2.2.2),.d (.int .u8 x.Graphs.2.2.To.2.2.2.1.1),.d (.int .u8 x.Graphs.2.2.To.2.2.2.1.2.1),.d (.int .u8 x.Graphs.2.2.To.2.2.2.1.2.2.1),.d (.int .u8 x.Graphs.2.2.To.2.2.2.1.2.2.2.1),.d (.int .u8 x.Graphs.2.2.To.2.2.2.1.2.2.2.2),.d (.int .u8 x.Graphs.2.2.To.2.2.2.2.1),.d (.int .u8 x.Graphs.2.2.To.2.2.2.2.2.1),.d (.int .u8 x.Graphs.2.2.To.2.2.2.2.2.2.1),.d (.int .u8 x.Graphs.2.2.To.2.2.2.2.2.2.2.1),.d (.int .u8 x.Graphs.2.2.To.2.2.2.2.2.2.2.2)]
abbrev Qnc (x:Qbq):V:=.agg (Qvk x)
structure Qdd where
  p_:Ql
  c_:Qa
  k_:Qa
  plant_:List Int
  deriving DecidableEq
def Q8i (x:Qdd):List D:=[.lst 1 (List.map (eI .i64) x.p_.Plant.zB),.int .i64 x.p_.Plant.zF,.lst 1 (List.map (eI .i64) x.p_.Plant.zC),.lst 3 (List.map Qj x.p_.Plant.zD),.lst 1 (List.map (eI .i64) x.p_.Ambient.zB),.int .i64 x.p_.Ambient.zF,.lst 1 (List.map (eI .i64) x.p_.Ambient.zC),.lst 3 (List.map Qj x.p_.Ambient.zD),.lst 1 (List.map (eI .i64) x.p_.Requirement.zB),.int .i64 x.p_.Requirement.zF,.lst 1 (List.map (eI .i64) x.p_.Requirement.zC),.lst 3 (List.map Qj x.p_.Requirement.zD),.lst 1 (List.map (eI .i64) x.p_.Observable),.lst 1 (List.map (eI .i64) x.p_.Controllable),.lst 1 (List.map (eI .i64) x.c_.zB),.int .i64 x.c_.zF,.lst 1 (List.map (eI .i64) x.c_.zC),.lst 3 (List.map Qj x.c_.zD),.lst 1 (List.map (eI .i64) x.k_.zB),.int .i64 x.k_.zF,.lst 1 (List.map (eI .i64) x.k_.zC),.lst 3 (List.map Qj x.k_.zD),.lst 1 (List.map (eI .i64) x.plant_)]
abbrev Qvl (x:Qdd):List V:=[(l_ x.p_.Plant.zB),(i_ x.p_.Plant.zF),(l_ x.p_.Plant.zC),.d (.lst 3 (List.map Qj x.p_.Plant.zD)),(l_ x.p_.Ambient.zB),(i_ x.p_.Ambient.zF),(l_ x.p_.Ambient.zC),.d (.lst 3 (List.map Qj x.p_.Ambient.zD)),(l_ x.p_.Requirement.zB),(i_ x.p_.Requirement.zF),(l_ x.p_.Requirement.zC),.d (.lst 3 (List.map Qj x.p_.Requirement.zD)),(l_ x.p_.Observable),(l_ x.p_.Controllable),(l_ x.c_.zB),(i_ x.c_.zF),(l_ x.c_.zC),.d (.lst 3 (List.map Qj x.c_.zD)),(l_ x.k_.zB),(i_ x.k_.zF),(l_ x.k_.zC),.d (.lst 3 (List.map Qj x.k_.zD)),(l_ x.plant_)]
abbrev Qvm (x:Qdd):V:=.agg (Qvl x)
abbrev mq0 (p:List ((Int×Int)×(Int))):D:=mpD (fun (x:Int×Int)=>(.agg [(i_ x.1),(i_ x.2)]:V)) (fun (x:Int)=>((i_ x):V)) p
end Go.Abs
end
