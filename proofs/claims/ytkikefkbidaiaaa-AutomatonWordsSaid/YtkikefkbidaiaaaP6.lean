/-
  Part 6 of the proof: see the last text.
-/
import Derived.Test.YtkikefkbidaiaaaP5
import Derived.OpenShut
import Derived.ProofKit
import Derived.Carry
import GoSem.Claim
import GoSem.ClaimJoined
import Derived.JoinedTies
import Derived.KernelRfl
import Derived.Test.YtkikefkbidaiaaaProg
set_option linter.unusedVariables false
set_option linter.unusedSimpArgs false
set_option linter.unusedSectionVars false
section
namespace Go.Abs
open Go Go.ChangeShapes Go.WideShapes Go.ChangeAt Go.RowKit
set_option linter.unusedVariables false
set_option linter.unusedSimpArgs false
def live (w : World) : Nat → Nat → Prop := fun b o => (w.cell? ⟨b, o, none⟩).isSome = true
def RDs (w : World) : List D → List Value → Prop
  | [], vs => vs = []
  | x :: xs, vs => ∃ u us, vs = u :: us ∧ RD (live w) w x u ∧ RDs w xs us
theorem RDs_append {w : World} : ∀ {xs ys : List D} {us vs : List Value}, RDs w xs us → RDs w ys vs → RDs w (xs ++ ys) (us ++ vs)
  | [], ys, us, vs, h, k => by simp only [RDs] at h; subst h; simpa using k
  | x :: xs, ys, us, vs, ⟨u, us', e, r, h⟩, k => by subst e; exact ⟨u, us' ++ vs, by simp, r, RDs_append h k⟩
def RDat (w : World) (cs : List Value) (off : Nat) (xs : List D) : Prop := RDs w xs ((cs.drop off).take xs.length)
theorem RDat.app {w : World} {cs : List Value} {off : Nat} {xs ys : List D} (h : RDat w cs off xs) {n : Nat} (hn : n = off + xs.length) (k : RDat w cs n ys) : RDat w cs off (xs ++ ys) := by
  subst hn
  have := RDs_append h k
  unfold RDat
  rw [List.length_append, List.take_add, List.drop_drop]
  exact this
theorem RDat.nil {w : World} {cs : List Value} {off : Nat} : RDat w cs off [] := by simp [RDat, RDs]
theorem RDat.all {w : World} {cs : List Value} {xs : List D} (h : RDat w cs 0 xs) (hl : cs.length = xs.length) : RDs w xs cs := by
  unfold RDat at h
  rw [List.drop_zero, ← hl, List.take_length] at h
  exact h
def Reads {α : Type} (P : Program) (t : TypeId) (e : α → List D) (wf : α → Prop) : Prop :=
  ∀ {H : Type} {enc : TypeId × Value → H} {w : World} {base : Nat} {spare : Nat → Bool} {held : Bool} {fuel : Nat} {cs : List Value} {x : DataW H × List MemPlace},
    DataW.trod enc P w base spare held fuel t cs = some x → ∃ a, wf a ∧ RDs w (e a) cs
def wfI (k : IntKind) (n : Int) : Prop := (Lit.int k n).wf = true
variable {P : Program} {t : TypeId}
theorem reads_int {k : IntKind} (ht : P.underlying t = some (.int k)) : Reads P t (fun n : Int => [.int k n]) (wfI k) := by
  intro H enc w base spare held fuel cs x h
  obtain ⟨n, rfl, _, hw⟩ := DataW.trod_int ht h
  exact ⟨n, hw, _, _, rfl, by simp [RD], rfl⟩
theorem reads_at {α : Type} {el : TypeId} {e : α → List D} {wf : α → Prop} {sz : Nat} (he : Reads P el e wf) (hsz : P.cellsOf el = sz) (hlen : ∀ a, (e a).length = sz)
    {H : Type} {enc : TypeId × Value → H} {w : World} {base : Nat} {spare : Nat → Bool} {held : Bool} {fuel off : Nat} {cs : List Value} {x : DataW H × List MemPlace}
    (h : DataW.trod enc P w base spare held fuel el ((cs.drop off).take (P.cellsOf el)) = some x) : ∃ a, wf a ∧ RDat w cs off (e a) := by
  obtain ⟨a, h1, h2⟩ := he h
  refine ⟨a, h1, ?_⟩
  unfold RDat
  rw [hlen, ← hsz]; exact h2
theorem struct_at {H : Type} {enc : TypeId × Value → H} {w : World} {base : Nat} {spare : Nat → Bool} {held : Bool} {fuel : Nat} {cs : List Value} {x : DataW H × List MemPlace} {fs : Array Field}
    (ht : P.underlying t = some (.struct fs)) (h : DataW.trod enc P w base spare held fuel t cs = some x) :
    cs.length = P.cellsOf t ∧ ∃ n, ∀ (i : Nat) (f : Field), fs[i]? = some f → ∃ y, DataW.trod enc P w base spare held n f.type ((cs.drop f.offset).take (P.cellsOf f.type)) = some y := by
  obtain ⟨xs, n, _, _, h1, h2, h3⟩ := DataW.trod_struct ht h
  refine ⟨h1, n, fun i f hf => ?_⟩
  have hi : i < fs.size := (Array.getElem?_eq_some_iff.1 hf).1
  exact ⟨xs[i]'(by omega), by rw [h3 i f hf]; exact List.getElem?_eq_getElem (by omega)⟩
theorem array_at {H : Type} {enc : TypeId × Value → H} {w : World} {base : Nat} {spare : Nat → Bool} {held : Bool} {fuel : Nat} {cs : List Value} {x : DataW H × List MemPlace} {n : Nat} {el : TypeId}
    (ht : P.underlying t = some (.array n el)) (h : DataW.trod enc P w base spare held fuel t cs = some x) :
    cs.length = P.cellsOf t ∧ ∃ m, ∀ i, i < n → ∃ y, DataW.trod enc P w base spare held m el ((cs.drop (i * P.cellsOf el)).take (P.cellsOf el)) = some y := by
  obtain ⟨xs, m, _, _, h1, h2, h3⟩ := DataW.trod_array ht h
  exact ⟨h1, m, fun i hi => ⟨xs[i]'(by omega), by rw [h3 i hi]; exact List.getElem?_eq_getElem (by omega)⟩⟩
def ArgReads {α : Type} (P : Program) (t : TypeId) (v : α → V) (wf : α → Prop) : Prop :=
  ∀ {H : Type} {enc : TypeId × Value → H} {w : World} {base b0 : Nat} {spare : Nat → Bool} {held : Bool} {u : Value} {d : DataW H} {ps : List MemPlace},
    Value.okWide P w .any b0 t u → DataW.Trod enc P w base spare held t u d ps → ∃ a, wf a ∧ RF ⟨fun _ => 0, live w, fun _ => .ext⟩ w (v a) u
theorem arg_one {α : Type} {e : α → D} {wf : α → Prop} (he : Reads P t (fun a => [e a]) wf) (hone : ∀ w b0 u, Value.okWide P w .any b0 t u → u.cells = #[u]) : ArgReads P t (fun a => .d (e a)) wf := by
  intro H enc w base b0 spare held u d ps hok hd
  obtain ⟨fuel, hf⟩ := hd
  rw [hone _ _ _ hok] at hf
  obtain ⟨a, h1, u', us, h2, h3, h4⟩ := he hf
  simp only [RDs] at h4; subst h4
  simp at h2; subst h2
  exact ⟨a, h1, fun ℓ => by simpa [RV] using h3⟩
theorem one_int {k : IntKind} (ht : P.underlying t = some (.int k)) : ∀ w b0 u, Value.okWide P w .any b0 t u → u.cells = #[u] := by
  intro w b0 u h
  simp only [Value.okWide, ht] at h
  cases u <;> first | rfl | (simp [Cell.okWide, Cell.ok, ht] at h)
theorem RD_one {imm : Nat → Nat → Prop} {w : World} {x : D} {u : Value} (h : RD imm w x u) : u.oneCell' = true := by
  cases x with
  | int k n => simp only [RD] at h; subst h; rfl
  | bool b => simp only [RD] at h; subst h; rfl
  | str s => simp only [RD] at h; subst h; rfl
  | lst sz l => simp only [RD] at h; obtain ⟨a, cap, rfl, _⟩ := h; cases a <;> rfl
theorem RDs_RVs {w : World} {g : G} (hg : g.imm = live w) : ∀ {xs : List D} {us : List Value} {ℓ : Owner} {i : Nat}, RDs w xs us → RVs g w (xs.map V.d) ℓ i us ∧ ∀ u ∈ us, u.oneCell' = true
  | [], us, ℓ, i, h => by simp only [RDs] at h; subst h; simp [RVs]
  | x :: xs, us, ℓ, i, ⟨u, us', e, r, h⟩ => by
    subst e
    obtain ⟨h1, h2⟩ := RDs_RVs hg (ℓ := ℓ) (i := i + 1) h
    refine ⟨⟨u, us', rfl, by simpa [RV, hg] using r, h1⟩, fun v hv => ?_⟩
    rcases List.mem_cons.1 hv with rfl | hv
    · exact RD_one r
    · exact h2 v hv
theorem arg_agg {α : Type} {e : α → List D} {wf : α → Prop} (he : Reads P t e wf) (hagg : (∃ fs, P.underlying t = some (.struct fs)) ∨ ∃ n el, P.underlying t = some (.array n el)) : ArgReads P t (fun a => .agg ((e a).map V.d)) wf := by
  intro H enc w base b0 spare held u d ps hok hd
  obtain ⟨cs, rfl⟩ : ∃ cs, u = .agg cs := by
    rcases hagg with ⟨fs, ht⟩ | ⟨n, el, ht⟩
    · simp only [Value.okWide, ht] at hok; obtain ⟨cs, rfl, _⟩ := hok; exact ⟨cs, rfl⟩
    · simp only [Value.okWide, ht] at hok; obtain ⟨cs, rfl, _⟩ := hok; exact ⟨cs, rfl⟩
  obtain ⟨fuel, hf⟩ := hd
  obtain ⟨a, h1, h2⟩ := he hf
  refine ⟨a, h1, fun ℓ => ?_⟩
  simp only [RV]
  obtain ⟨h3, h4⟩ := RDs_RVs (g := ⟨fun _ => 0, live w, fun _ => .ext⟩) rfl (ℓ := ℓ) (i := 0) h2
  exact ⟨cs.toList, by simp, h3, h4⟩
def LawOK (P : Program) (f : FuncId) (ts : List TypeId) : Prop :=
  ∀ {H : Type} {enc : TypeId × Value → H} {w : World} {b0 : Nat} {us : List Value} {ds : List (DataW H)} {ps : List MemPlace},
    (∀ (j : Nat) t u, ts[j]? = some t → us[j]? = some u → Value.okWide P w .any b0 t u) → DataW.TrodAll enc P w 0 (fun _ => true) true ts us ds ps →
    ∃ vs, RFs ⟨fun _ => 0, live w, fun _ => .ext⟩ w vs us ∧ (∀ x ∈ vs, Flat x) ∧ V.lt.go 0 vs = true ∧ ∀ M nb, ACalls P f vs M nb (.d (.bool true)) M nb
theorem trodAll_stays (hl : laidOutB P = true) {W W' : World} {sp : Nat → Bool} {H : Type} {enc : TypeId × Value → H} : ∀ {ts : List TypeId} {us : List Value} {ds : List (DataW H)} {ps : List MemPlace},
    (∀ t ∈ ts, P.readableRec t = true ∧ t < P.types.size) → DataW.TrodAll enc P W 0 (fun _ => true) true ts us ds ps → (∀ p ∈ ps, W.sameAt W' p) → (∀ p ∈ ps, sp p.block = true) → DataW.TrodAll enc P W' 0 sp true ts us ds ps
  | [], [], [], ps, _, h, _, _ => h
  | t :: ts, u :: us, d :: ds, ps, hr, ⟨p, q, h1, h2, e⟩, hs, hp => by
    subst e
    obtain ⟨r1, r2⟩ := hr t (by simp)
    exact ⟨p, q, WideElems.Trod_stays hl r1 r2 h1 (fun x hx => hs x (by simp [hx])) (fun x hx => hp x (by simp [hx])), trodAll_stays hl (fun t ht => hr t (by simp [ht])) h2 (fun x hx => hs x (by simp [hx])) (fun x hx => hp x (by simp [hx])), rfl⟩
  | [], [], _ :: _, _, _, h, _, _ => h.elim
  | [], _ :: _, _, _, _, h, _, _ => h.elim
  | _ :: _, [], _, _, _, h, _, _ => h.elim
  | _ :: _, _ :: _, [], _, _, h, _, _ => h.elim
theorem trodAll_len {W : World} {sp : Nat → Bool} {held : Bool} {base : Nat} {H : Type} {enc : TypeId × Value → H} : ∀ {ts : List TypeId} {us : List Value} {ds : List (DataW H)} {ps : List MemPlace},
    DataW.TrodAll enc P W base sp held ts us ds ps → ds.length = ts.length ∧ us.length = ts.length
  | [], [], [], ps, h => ⟨rfl, rfl⟩
  | t :: ts, u :: us, d :: ds, ps, ⟨p, q, h1, h2, e⟩ => by have := trodAll_len h2; simp [this.1, this.2]
  | [], [], _ :: _, _, h => h.elim
  | [], _ :: _, _, _, h => h.elim
  | _ :: _, [], _, _, h => h.elim
  | _ :: _, _ :: _, [], _, h => h.elim
theorem law_returns {C : Checked} {f : FuncId} {fn : Func} {s : ChangeSpec} {conds : List PathCond} {bt : TypeId} {os : Os} {H : Type} {enc : TypeId × Value → H}
    (own : ownKnob C.prog.godebug = none) (started : os.Started) (noInit : C.prog.inits.idxOf? f = none) (hfn : C.prog.funcs[f]? = some fn)
    (witness : ∃ (w : World) (tape : Tape) (i : Input), w.os = os ∧ (w.forCall tape i).Shaped C.prog ∧ i.vars = [] ∧ Input.okWide C.prog (w.forCall tape i) .any w.heap.size f i ∧
      s.pre6 enc C.prog fn conds false (w.forCall tape i).memory i.args ∧ ({} : Assume).holds C.prog (lone (Frame.enter C.prog f i.args .normal) [] (w.forCall tape i)))
    (hvars : s.vars = []) (hres : fn.resultTypes = #[bt]) (hbt : C.prog.underlying bt = some .bool)
    (hl : laidOutB C.prog = true) (hread : ∀ t ∈ fn.params.toList, C.prog.readableRec t = true ∧ t < C.prog.types.size)
    (hspec : ∀ ds : List (DataW H), ds.length = fn.params.size → s.fn H ds = { results := [.lit (.bool true)], args := ds })
    (law : LawOK C.prog f fn.params.toList) :
    ReturnsInHanded {} C os f .any (s.pre6 enc C.prog fn conds false) (s.post enc C.prog fn false true false false) := by
  refine returnsInHanded_of_change own started noInit hfn witness ?_
  intro W base args ds gs before hval hW hcnd _
  have hW' := hW
  obtain ⟨p, q, hA, hV, hps, hfz, hnd⟩ := hW
  rw [hvars] at hV
  obtain ⟨rfl, rfl⟩ : gs = [] ∧ q = [] := by
    cases gs with
    | nil => exact ⟨rfl, hV⟩
    | cons _ _ => exact hV.elim
  obtain ⟨vs, h1, h2, h3, h4⟩ := law (fun j t u ht hu => hval j t u (by simpa using ht) (by simpa using hu)) hA
  obtain ⟨hb, _, h5⟩ := h4 (fun _ => none) 0
  have hlv : ∀ b o, live W b o → b < W.heap.size := by
    intro b o h
    simp only [live] at h
    obtain ⟨v, hv⟩ := Option.isSome_iff_exists.1 h
    unfold World.cell? at hv
    split at hv
    · rename_i hh; exact (Array.getElem?_eq_some_iff.1 hh).1
    · cases hv
  have hmr : MR ⟨fun _ => 0, live W, fun _ => .ext⟩ W (fun _ => none) 0 := ⟨fun k b h => (by cases h), fun b o h => ⟨hlv b o h, fun k h => by cases h⟩⟩
  have h6 := h5 W ⟨fun _ => 0, live W, fun _ => .ext⟩ args.toList hmr (fun k cs h => by cases h) (fun b => ⟨fun t p h => (by cases h), fun p h => (by cases h)⟩) h1 h2 (ons_mono (fun k hk => absurd hk (Nat.not_lt_zero k)) _ (ons_lt vs h3))
  refine Calls.mono h6 fun e W' ⟨v, g', he, _, hr, _, _, hf⟩ => ?_
  subst he
  have hv : v = .bool true := by simpa [RV, RD] using hr
  subst hv
  have hbelow : Below W.heap.size W W' := ⟨hf.os, hf.tape, hf.output, hf.size, fun k hk => (hf.old k hk trivial).2.1⟩
  have hrl : (Value.bool true).resultList fn.resultTypes.size = [.bool true] := by rw [hres]; rfl
  have hsp : s.fn H (ds ++ []) = { results := [.lit (.bool true)], args := ds } := by
    rw [List.append_nil]
    exact hspec ds (by have := (trodAll_len hA).1; simpa using this)
  have hlt : ∀ p ∈ before, p.block < W.heap.size := fun x hx => hW'.lt x hx
  have hst : ∀ sp : Nat → Bool, (∀ p ∈ before, sp p.block = true) → DataW.TrodAll enc C.prog W' 0 sp true fn.params.toList args.toList ds before := by
    intro sp hsp'
    have e : p = before := by rw [hps, List.append_nil]
    subst e
    exact trodAll_stays hl hread hA (fun x hx => hbelow.same (hlt x hx)) hsp'
  refine ⟨_, rfl, ds, [], before, [], before, [], hW', ?_, ?_, ?_, World.keptBut_mono (fun p hp => ⟨hp, .inr (.inl hp)⟩) (hbelow.frame (· ∈ before)), fun h => by cases h⟩
  · rw [hsp, hrl, hres]
    exact ⟨[], [], ⟨1, by simp [DataW.trod, Value.cells, hbt]⟩, rfl, rfl⟩
  · rw [hsp]
    exact hst _ fun p hp => by simpa using hlt p hp
  · rw [hsp, hvars]; rfl
section
variable {α β γ δ : Type} {f : FuncId} {ta tb tc td : TypeId} {va : α → V} {vb : β → V} {vc : γ → V} {vd : δ → V} {wa : α → Prop} {wb : β → Prop} {wc : γ → Prop} {wd : δ → Prop}
theorem trodAll_two {H : Type} {enc : TypeId × Value → H} {w : World} {base : Nat} {sp : Nat → Bool} {held : Bool} {t : TypeId} {ts : List TypeId} {us : List Value} {ds : List (DataW H)} {ps : List MemPlace} (h : DataW.TrodAll enc P w base sp held (t :: ts) us ds ps) :
    ∃ u us' d ds' p q, us = u :: us' ∧ ds = d :: ds' ∧ DataW.Trod enc P w base sp held t u d p ∧ DataW.TrodAll enc P w base sp held ts us' ds' q := by
  match us, ds, h with
  | u :: us', d :: ds', ⟨p, q, h1, h2, _⟩ => exact ⟨u, us', d, ds', p, q, rfl, rfl, h1, h2⟩
  | [], [], h => exact h.elim
  | [], _ :: _, h => exact h.elim
  | _ :: _, [], h => exact h.elim
theorem trodAll_end {H : Type} {enc : TypeId × Value → H} {w : World} {base : Nat} {sp : Nat → Bool} {held : Bool} {us : List Value} {ds : List (DataW H)} {ps : List MemPlace} (h : DataW.TrodAll enc P w base sp held [] us ds ps) : us = [] := by
  match us, ds, h with
  | [], [], _ => rfl
  | [], _ :: _, h => exact h.elim
  | _ :: _, [], h => exact h.elim
  | _ :: _, _ :: _, h => exact h.elim
theorem lawOK2 (ra : ArgReads P ta va wa) (fa : ∀ a, (va a).dem = va a) (la : ∀ a, (va a).lt 0 = true) (rb : ArgReads P tb vb wb) (fb : ∀ a, (vb a).dem = vb a) (lb : ∀ a, (vb a).lt 0 = true)
    (law : ∀ a b, wa a → wb b → ∀ M nb, ACalls P f [va a, vb b] M nb (.d (.bool true)) M nb) : LawOK P f [ta, tb] := by
  intro H enc w b0 us ds ps hok hT
  obtain ⟨u, us', d, ds', p, q, rfl, rfl, h1, hT⟩ := trodAll_two hT
  obtain ⟨u2, us', d2, ds', p2, q2, rfl, rfl, h2, hT⟩ := trodAll_two hT
  obtain rfl := trodAll_end hT
  obtain ⟨a, ha, hra⟩ := ra (hok 0 _ _ rfl rfl) h1
  obtain ⟨b, hb, hrb⟩ := rb (hok 1 _ _ rfl rfl) h2
  refine ⟨[va a, vb b], ⟨u, _, rfl, hra, u2, _, rfl, hrb, rfl⟩, ?_, by simp [V.lt.go, la, lb], law a b ha hb⟩
  intro x hx
  simp only [List.mem_cons, List.not_mem_nil, or_false] at hx
  rcases hx with rfl | rfl
  · exact fa a
  · exact fb b
theorem lawOK3 (ra : ArgReads P ta va wa) (fa : ∀ a, (va a).dem = va a) (la : ∀ a, (va a).lt 0 = true) (rb : ArgReads P tb vb wb) (fb : ∀ a, (vb a).dem = vb a) (lb : ∀ a, (vb a).lt 0 = true)
    (rc : ArgReads P tc vc wc) (fc : ∀ a, (vc a).dem = vc a) (lc : ∀ a, (vc a).lt 0 = true)
    (law : ∀ a b c, wa a → wb b → wc c → ∀ M nb, ACalls P f [va a, vb b, vc c] M nb (.d (.bool true)) M nb) : LawOK P f [ta, tb, tc] := by
  intro H enc w b0 us ds ps hok hT
  obtain ⟨u, us', d, ds', p, q, rfl, rfl, h1, hT⟩ := trodAll_two hT
  obtain ⟨u2, us', d2, ds', p2, q2, rfl, rfl, h2, hT⟩ := trodAll_two hT
  obtain ⟨u3, us', d3, ds', p3, q3, rfl, rfl, h3, hT⟩ := trodAll_two hT
  obtain rfl := trodAll_end hT
  obtain ⟨a, ha, hra⟩ := ra (hok 0 _ _ rfl rfl) h1
  obtain ⟨b, hb, hrb⟩ := rb (hok 1 _ _ rfl rfl) h2
  obtain ⟨c, hc, hrc⟩ := rc (hok 2 _ _ rfl rfl) h3
  refine ⟨[va a, vb b, vc c], ⟨u, _, rfl, hra, u2, _, rfl, hrb, u3, _, rfl, hrc, rfl⟩, ?_, by simp [V.lt.go, la, lb, lc], law a b c ha hb hc⟩
  intro x hx
  simp only [List.mem_cons, List.not_mem_nil, or_false] at hx
  rcases hx with rfl | rfl | rfl
  · exact fa a
  · exact fb b
  · exact fc c
end
theorem arr_at {H : Type} {enc : TypeId × Value → H} {w : World} {base : Nat} {spare : Nat → Bool} {held : Bool} {fuel : Nat} {cs : List Value} {x : DataW H × List MemPlace} {n sz : Nat} {el : TypeId}
    (ht : P.underlying t = some (.array n el)) (hsz : P.cellsOf el = sz) (h : DataW.trod enc P w base spare held fuel t cs = some x) :
    cs.length = P.cellsOf t ∧ ∃ m, ∀ i, i < n → ∃ y, DataW.trod enc P w base spare held m el ((cs.drop (i * sz)).take (P.cellsOf el)) = some y := by
  obtain ⟨h1, m, h2⟩ := array_at ht h
  exact ⟨h1, m, fun i hi => by have := h2 i hi; rwa [show i * P.cellsOf el = i * sz from by rw [hsz]] at this⟩
end Go.Abs
end
section
namespace Go.Proofs
open Go Go.Abs
set_option linter.unusedVariables false
set_option maxRecDepth 100000
def W_22 (x : Int) : Prop := wfI .u8 x
theorem R_22 : Reads Try.prog 22 (eI .u8) W_22 := reads_int Try.underlying22
theorem A_22 : ArgReads Try.prog 22 (fun (a : Int) => .d (.int .u8 a)) W_22 := arg_one R_22 (one_int Try.underlying22)
def W_5 (x : Int) : Prop := wfI .u8 x
theorem R_5 : Reads Try.prog 5 (eI .u8) W_5 := reads_int Try.underlying5
def W_23 (x : Int × Int × Int × Int × Int) : Prop := W_5 x.1 ∧ W_5 x.2.1 ∧ W_5 x.2.2.1 ∧ W_5 x.2.2.2.1 ∧ W_5 x.2.2.2.2
theorem R_23 : Reads Try.prog 23 (fun p => [.int .u8 p.1, .int .u8 p.2.1, .int .u8 p.2.2.1, .int .u8 p.2.2.2.1, .int .u8 p.2.2.2.2]) W_23 := by
  intro H enc w base spare held fuel cs x h
  obtain ⟨hl, n, hf⟩ := arr_at (sz := 1) Try.underlying23 (by kernel_rfl) h
  obtain ⟨y0, h0⟩ := hf 0 (by decide)
  obtain ⟨a0, w0, r0⟩ := reads_at (off := 0 * 1) (sz := 1) R_5 (by kernel_rfl) (fun _ => rfl) h0
  obtain ⟨y1, h1⟩ := hf 1 (by decide)
  obtain ⟨a1, w1, r1⟩ := reads_at (off := 1 * 1) (sz := 1) R_5 (by kernel_rfl) (fun _ => rfl) h1
  obtain ⟨y2, h2⟩ := hf 2 (by decide)
  obtain ⟨a2, w2, r2⟩ := reads_at (off := 2 * 1) (sz := 1) R_5 (by kernel_rfl) (fun _ => rfl) h2
  obtain ⟨y3, h3⟩ := hf 3 (by decide)
  obtain ⟨a3, w3, r3⟩ := reads_at (off := 3 * 1) (sz := 1) R_5 (by kernel_rfl) (fun _ => rfl) h3
  obtain ⟨y4, h4⟩ := hf 4 (by decide)
  obtain ⟨a4, w4, r4⟩ := reads_at (off := 4 * 1) (sz := 1) R_5 (by kernel_rfl) (fun _ => rfl) h4
  exact ⟨(a0, a1, a2, a3, a4), ⟨w0, w1, w2, w3, w4⟩, RDat.all (xs := (fun p => [.int .u8 p.1, .int .u8 p.2.1, .int .u8 p.2.2.1, .int .u8 p.2.2.2.1, .int .u8 p.2.2.2.2]) (a0, a1, a2, a3, a4)) (RDat.app r0 rfl (RDat.app r1 rfl (RDat.app r2 rfl (RDat.app r3 rfl r4)))) (hl.trans (by kernel_rfl))⟩
def W_24 (x : (Int × Int × Int × Int × Int) × (Int × Int × Int × Int × Int) × (Int × Int × Int × Int × Int) × (Int × Int × Int × Int × Int) × (Int × Int × Int × Int × Int)) : Prop := W_23 x.1 ∧ W_23 x.2.1 ∧ W_23 x.2.2.1 ∧ W_23 x.2.2.2.1 ∧ W_23 x.2.2.2.2
theorem R_24 : Reads Try.prog 24 (fun p => [.int .u8 p.1.1, .int .u8 p.1.2.1, .int .u8 p.1.2.2.1, .int .u8 p.1.2.2.2.1, .int .u8 p.1.2.2.2.2, .int .u8 p.2.1.1, .int .u8 p.2.1.2.1, .int .u8 p.2.1.2.2.1, .int .u8 p.2.1.2.2.2.1, .int .u8 p.2.1.2.2.2.2, .int .u8 p.2.2.1.1, .int .u8 p.2.2.1.2.1, .int .u8 p.2.2.1.2.2.1, .int .u8 p.2.2.1.2.2.2.1, .int .u8 p.2.2.1.2.2.2.2, .int .u8 p.2.2.2.1.1, .int .u8 p.2.2.2.1.2.1, .int .u8 p.2.2.2.1.2.2.1, .int .u8 p.2.2.2.1.2.2.2.1, .int .u8 p.2.2.2.1.2.2.2.2, .int .u8 p.2.2.2.2.1, .int .u8 p.2.2.2.2.2.1, .int .u8 p.2.2.2.2.2.2.1, .int .u8 p.2.2.2.2.2.2.2.1, .int .u8 p.2.2.2.2.2.2.2.2]) W_24 := by
  intro H enc w base spare held fuel cs x h
  obtain ⟨hl, n, hf⟩ := arr_at (sz := 5) Try.underlying24 (by kernel_rfl) h
  obtain ⟨y0, h0⟩ := hf 0 (by decide)
  obtain ⟨a0, w0, r0⟩ := reads_at (off := 0 * 5) (sz := 5) R_23 (by kernel_rfl) (fun _ => rfl) h0
  obtain ⟨y1, h1⟩ := hf 1 (by decide)
  obtain ⟨a1, w1, r1⟩ := reads_at (off := 1 * 5) (sz := 5) R_23 (by kernel_rfl) (fun _ => rfl) h1
  obtain ⟨y2, h2⟩ := hf 2 (by decide)
  obtain ⟨a2, w2, r2⟩ := reads_at (off := 2 * 5) (sz := 5) R_23 (by kernel_rfl) (fun _ => rfl) h2
  obtain ⟨y3, h3⟩ := hf 3 (by decide)
  obtain ⟨a3, w3, r3⟩ := reads_at (off := 3 * 5) (sz := 5) R_23 (by kernel_rfl) (fun _ => rfl) h3
  obtain ⟨y4, h4⟩ := hf 4 (by decide)
  obtain ⟨a4, w4, r4⟩ := reads_at (off := 4 * 5) (sz := 5) R_23 (by kernel_rfl) (fun _ => rfl) h4
  exact ⟨(a0, a1, a2, a3, a4), ⟨w0, w1, w2, w3, w4⟩, RDat.all (xs := (fun p => [.int .u8 p.1.1, .int .u8 p.1.2.1, .int .u8 p.1.2.2.1, .int .u8 p.1.2.2.2.1, .int .u8 p.1.2.2.2.2, .int .u8 p.2.1.1, .int .u8 p.2.1.2.1, .int .u8 p.2.1.2.2.1, .int .u8 p.2.1.2.2.2.1, .int .u8 p.2.1.2.2.2.2, .int .u8 p.2.2.1.1, .int .u8 p.2.2.1.2.1, .int .u8 p.2.2.1.2.2.1, .int .u8 p.2.2.1.2.2.2.1, .int .u8 p.2.2.1.2.2.2.2, .int .u8 p.2.2.2.1.1, .int .u8 p.2.2.2.1.2.1, .int .u8 p.2.2.2.1.2.2.1, .int .u8 p.2.2.2.1.2.2.2.1, .int .u8 p.2.2.2.1.2.2.2.2, .int .u8 p.2.2.2.2.1, .int .u8 p.2.2.2.2.2.1, .int .u8 p.2.2.2.2.2.2.1, .int .u8 p.2.2.2.2.2.2.2.1, .int .u8 p.2.2.2.2.2.2.2.2]) (a0, a1, a2, a3, a4)) (RDat.app r0 rfl (RDat.app r1 rfl (RDat.app r2 rfl (RDat.app r3 rfl r4)))) (hl.trans (by kernel_rfl))⟩
def W_26 (x : overseerlaw03_Graph) : Prop := W_5 x.States ∧ W_5 x.Marks ∧ W_24 x.To
theorem R_26 : Reads Try.prog 26 e_overseerlaw03_Graph W_26 := by
  intro H enc w base spare held fuel cs x h
  obtain ⟨hl, n, hf⟩ := struct_at Try.underlying26 h
  obtain ⟨y0, h0⟩ := hf 0 _ rfl
  obtain ⟨a0, w0, r0⟩ := reads_at (off := 0) (sz := 1) R_5 (by kernel_rfl) (fun _ => rfl) h0
  obtain ⟨y1, h1⟩ := hf 1 _ rfl
  obtain ⟨a1, w1, r1⟩ := reads_at (off := 1) (sz := 1) R_5 (by kernel_rfl) (fun _ => rfl) h1
  obtain ⟨y2, h2⟩ := hf 2 _ rfl
  obtain ⟨a2, w2, r2⟩ := reads_at (off := 2) (sz := 25) R_24 (by kernel_rfl) (fun _ => rfl) h2
  exact ⟨⟨a0, a1, a2⟩, ⟨w0, w1, w2⟩, RDat.all (xs := e_overseerlaw03_Graph ⟨a0, a1, a2⟩) (RDat.app r0 rfl (RDat.app r1 rfl r2)) (hl.trans (by kernel_rfl))⟩
theorem A_26 : ArgReads Try.prog 26 (fun (a : overseerlaw03_Graph) => .agg [.d (.int .u8 a.States), .d (.int .u8 a.Marks), .d (.int .u8 a.To.1.1), .d (.int .u8 a.To.1.2.1), .d (.int .u8 a.To.1.2.2.1), .d (.int .u8 a.To.1.2.2.2.1), .d (.int .u8 a.To.1.2.2.2.2), .d (.int .u8 a.To.2.1.1), .d (.int .u8 a.To.2.1.2.1), .d (.int .u8 a.To.2.1.2.2.1), .d (.int .u8 a.To.2.1.2.2.2.1), .d (.int .u8 a.To.2.1.2.2.2.2), .d (.int .u8 a.To.2.2.1.1), .d (.int .u8 a.To.2.2.1.2.1), .d (.int .u8 a.To.2.2.1.2.2.1), .d (.int .u8 a.To.2.2.1.2.2.2.1), .d (.int .u8 a.To.2.2.1.2.2.2.2), .d (.int .u8 a.To.2.2.2.1.1), .d (.int .u8 a.To.2.2.2.1.2.1), .d (.int .u8 a.To.2.2.2.1.2.2.1), .d (.int .u8 a.To.2.2.2.1.2.2.2.1), .d (.int .u8 a.To.2.2.2.1.2.2.2.2), .d (.int .u8 a.To.2.2.2.2.1), .d (.int .u8 a.To.2.2.2.2.2.1), .d (.int .u8 a.To.2.2.2.2.2.2.1), .d (.int .u8 a.To.2.2.2.2.2.2.2.1), .d (.int .u8 a.To.2.2.2.2.2.2.2.2)]) W_26 := arg_agg R_26 (.inl ⟨_, Try.underlying26⟩)
def W_3 (x : Int) : Prop := wfI .i64 x
theorem R_3 : Reads Try.prog 3 (eI .i64) W_3 := reads_int Try.underlying3
theorem A_3 : ArgReads Try.prog 3 (fun (a : Int) => .d (.int .i64 a)) W_3 := arg_one R_3 (one_int Try.underlying3)
end Go.Proofs
end
section
namespace Go.Abs
open Go
theorem iterF_rule {X R : Type} {F : (X → Option R) → X → Option R} (I : X → Prop) (m : X → Nat) (Q : X → Option R → Prop)
    (step : ∀ (k : X → Option R) (x : X), I x → (∀ y, I y → m y < m x → Q y (k y)) → Q x (F k x)) : ∀ (fuel : Nat) (x : X), I x → m x < fuel → Q x (iterF F fuel x)
  | 0, x, _, h => absurd h (Nat.not_lt_zero _)
  | fuel + 1, x, hi, h => step _ x hi fun y hy hm => iterF_rule I m Q step fuel y hy (by omega)
theorem iterF_to {X R : Type} {F : (X → Option R) → X → Option R} {fuel : Nat} {x : X} (I : X → Prop) (m : X → Nat) (q : Option R) (hi : I x) (hm : m x < fuel)
    (step : ∀ (k : X → Option R) (x : X), I x → (∀ y, I y → m y < m x → k y = q) → F k x = q) : iterF F fuel x = q :=
  iterF_rule I m (fun _ r => r = q) step fuel x hi hm
theorem wrap_id {x : Int} (h1 : -9223372036854775808 ≤ x) (h2 : x ≤ 9223372036854775807) : IntKind.wrap .i64 x = x := by
  simp [IntKind.wrap, IntKind.bits, IntKind.signed]; omega
theorem wrap_succ {n : Nat} (h : n < 9223372036854775807) : IntKind.wrap .i64 ((n : Int) + 1) = ((n + 1 : Nat) : Int) := by
  rw [wrap_id (by omega) (by omega)]; omega
theorem getO_nat {α : Type} {l : List α} {n : Nat} (h : n < l.length) : getO l (n : Int) = some l[n] := by
  simp [getO, h]
theorem getO_some {α : Type} {l : List α} {i : Int} {x : α} : getO l i = some x ↔ 0 ≤ i ∧ l[i.toNat]? = some x := by
  unfold getO; split
  · rename_i h; simp [h]
  · rename_i h; simp only [reduceCtorEq, false_iff, not_and]; exact fun h' => absurd h' h
theorem appO_some {α : Type} {l m : List α} (h : l.length + m.length ≤ lim) : appO l m = some (l ++ m) := by
  unfold appO; rw [if_pos h]
theorem take_eq_succ {α : Type} {s t : List α} {k : Nat} (hs : k < s.length) (ht : k < t.length) (h : s.take k = t.take k) (he : s[k] = t[k]) : s.take (k + 1) = t.take (k + 1) := by
  rw [List.take_add_one, List.take_add_one, h, List.getElem?_eq_getElem hs, List.getElem?_eq_getElem ht, he]
theorem iterF_idx {R : Type} {F : (Int → Option R) → Int → Option R} {len fuel : Nat} (G : Nat → Option R) (hf : len < fuel)
    (step : ∀ (k : Int → Option R) (n : Nat), n < len → k ((n + 1 : Nat) : Int) = G (n + 1) → F k (n : Int) = G n) (last : ∀ k : Int → Option R, F k (len : Int) = G len) : iterF F fuel 0 = G 0 := by
  have := iterF_rule (F := F) (fun x => ∃ n : Nat, x = (n : Int) ∧ n ≤ len) (fun x => len - x.toNat) (fun x r => ∀ n : Nat, x = (n : Int) → r = G n) (fun k x hx ih => by
    obtain ⟨n, rfl, hn⟩ := hx
    intro m hm
    obtain rfl : n = m := by omega
    by_cases h : n < len
    · exact step k n h (ih _ ⟨n + 1, rfl, by omega⟩ (by omega) (n + 1) rfl)
    · obtain rfl : n = len := by omega
      exact last k) fuel 0 ⟨0, rfl, by omega⟩ (by simpa using hf)
  exact this 0 rfl
theorem wrap_pred {n : Nat} (h0 : 0 < n) (h : n < 9223372036854775807) : IntKind.wrap .i64 ((n : Int) - 1) = ((n - 1 : Nat) : Int) := by
  rw [wrap_id (by omega) (by omega)]; omega
theorem iterF_at {X S R : Type} {F : (X → Option R) → X → Option R} {len : Nat} (mk : Nat → S → X) (G : Nat → S → Option R)
    (step : ∀ (k : X → Option R) (n : Nat) (s : S), n < len → (∀ s', k (mk (n + 1) s') = G (n + 1) s') → F k (mk n s) = G n s) (last : ∀ (k : X → Option R) (s : S), F k (mk len s) = G len s) :
    ∀ (fuel n : Nat) (s : S), n ≤ len → len - n < fuel → iterF F fuel (mk n s) = G n s
  | 0, n, s, _, h => by omega
  | fuel + 1, n, s, hn, h => by
    show F (iterF F fuel) (mk n s) = _
    by_cases hlt : n < len
    · exact step _ n s hlt fun s' => iterF_at mk G step last fuel (n + 1) s' (by omega) (by omega)
    · obtain rfl : n = len := by omega
      exact last _ s
theorem mid_ok {i j : Nat} (hi : i < 1000000000000) (hj : j < 1000000000000) : IntKind.wrap .i64 (Int.fdiv (IntKind.wrap .u64 (IntKind.wrap .i64 ((i : Int) + j))) (2 ^ (min (Int.toNat 1) (IntKind.bits .u64)))) = (((i + j) / 2 : Nat) : Int) := by
  have h1 : IntKind.wrap .i64 ((i : Int) + j) = ((i + j : Nat) : Int) := by rw [wrap_id (by omega) (by omega)]; omega
  have h2 : IntKind.wrap .u64 ((i + j : Nat) : Int) = ((i + j : Nat) : Int) := by
    simp [IntKind.wrap, IntKind.bits, IntKind.signed]; omega
  have h3 : (2 : Int) ^ (min (Int.toNat 1) (IntKind.bits .u64)) = 2 := by decide
  rw [h1, h2, h3, Int.fdiv_eq_ediv_of_nonneg _ (by omega), show ((i + j : Nat) : Int) / 2 = (((i + j) / 2 : Nat) : Int) from by omega, wrap_id (by omega) (by omega)]
theorem slcO_nat {α : Type} {l : List α} {i j : Nat} (h : i ≤ j) (hj : j ≤ l.length) : slcO l (i : Int) (j : Int) = some ((l.take j).drop i) := by
  simp [slcO, h, hj]
theorem sorted_ext : ∀ {l m : List Int}, l.Pairwise (· < ·) → m.Pairwise (· < ·) → (∀ x, x ∈ l ↔ x ∈ m) → l = m
  | l, m, h1, h2, h => by
    have n1 : l.Nodup := h1.imp fun h => by omega
    have n2 : m.Nodup := h2.imp fun h => by omega
    have hp : l.Perm m := (List.perm_ext_iff_of_nodup n1 n2).2 h
    exact List.Perm.eq_of_pairwise (le := (· < ·)) (fun a b _ _ h1 h2 => by omega) h1 h2 hp
section
variable {α : Type} {p : α → Bool}
theorem count_mono : ∀ {l : List α}, l.Pairwise (fun a b => p b = true → p a = true) → ∀ (n : Nat) (h : n < l.length), p l[n] = true ↔ n < (l.filter p).length
  | [], _, n, h => by simp at h
  | x :: xs, hs, n, h => by
    obtain ⟨h1, h2⟩ := List.pairwise_cons.1 hs
    cases n with
    | zero =>
      cases hx : p x with
      | true => simp [hx]
      | false =>
        have : xs.filter p = [] := List.filter_eq_nil_iff.2 fun y hy hp => by have := h1 y hy hp; rw [hx] at this; cases this
        simp [hx, this]
    | succ n =>
      have ih := count_mono h2 n (by simpa using h)
      cases hx : p x with
      | true => simp [hx, ih]
      | false =>
        have : xs.filter p = [] := List.filter_eq_nil_iff.2 fun y hy hp => by have := h1 y hy hp; rw [hx] at this; cases this
        rw [this] at ih
        simp [hx, this] at ih ⊢
        exact ih
end
theorem iterF_inv {X S R : Type} {F : (X → Option R) → X → Option R} {len : Nat} (mk : Nat → S → X) (I : Nat → S → Prop) (G : Nat → S → Option R)
    (step : ∀ (k : X → Option R) (n : Nat) (s : S), n < len → I n s → (∀ s', I (n + 1) s' → k (mk (n + 1) s') = G (n + 1) s') → F k (mk n s) = G n s) (last : ∀ (k : X → Option R) (s : S), I len s → F k (mk len s) = G len s) :
    ∀ (fuel n : Nat) (s : S), n ≤ len → len - n < fuel → I n s → iterF F fuel (mk n s) = G n s
  | 0, n, s, _, h, _ => by omega
  | fuel + 1, n, s, hn, h, hi => by
    show F (iterF F fuel) (mk n s) = _
    by_cases hlt : n < len
    · exact step _ n s hlt hi fun s' hi' => iterF_inv mk I G step last fuel (n + 1) s' (by omega) (by omega) hi'
    · obtain rfl : n = len := by omega
      exact last _ s hi
theorem sorted_len : ∀ {l : List Int} {a b : Int}, l.Pairwise (· < ·) → (∀ x ∈ l, a ≤ x ∧ x < b) → l.length ≤ (b - a).toNat
  | [], _, _, _, _ => by simp
  | x :: xs, a, b, h, hr => by
    obtain ⟨h1, h2⟩ := List.pairwise_cons.1 h
    have := sorted_len (a := x + 1) (b := b) h2 fun y hy => ⟨by have := h1 y hy; omega, (hr y (by simp [hy])).2⟩
    have := hr x (by simp)
    simp only [List.length_cons]
    omega
end Go.Abs
end
section
namespace Go.Abs
abbrev big : Nat := 1000000000000
def small (a : api_Automaton) : Prop := a.Alphabet.length < big ∧ a.Marked.length < big ∧ a.Edges.length < big
end Go.Abs
end
section
namespace Go.Abs
open Go
set_option linter.unusedSimpArgs false
def listErr (n : Int) : Option Int → List Int → Int
  | _, [] => 0
  | p, x :: xs => if x < 0 ∨ x ≥ n then 2 else if ∃ y, p = some y ∧ x ≤ y then 5 else listErr n (some x) xs
def edgesErr (al : List Int) (st : Int) : Option api_Edge → List api_Edge → Int
  | _, [] => 0
  | p, x :: xs => if x.From < 0 ∨ x.From ≥ st ∨ x.To < 0 ∨ x.To ≥ st then 2 else if x.Event ∉ al then 9 else if ∃ y, p = some y ∧ (x.From < y.From ∨ x.From = y.From ∧ x.Event ≤ y.Event) then 5 else edgesErr al st (some x) xs
def checkErr (a : api_Automaton) : Int :=
  if listErr 32 none a.Alphabet ≠ 0 then listErr 32 none a.Alphabet else if a.States < 0 then 2 else if a.States > 4096 then 3 else
  if listErr a.States none a.Marked ≠ 0 then listErr a.States none a.Marked else edgesErr a.Alphabet a.States none a.Edges
def ahead {α : Type} (l : List α) (n : Nat) : Option α := if n = 0 then none else l[n - 1]?
theorem ahead_zero {α : Type} (l : List α) : ahead l 0 = none := rfl
theorem ahead_succ {α : Type} (l : List α) {n : Nat} (h : n < l.length) : ahead l (n + 1) = some l[n] := by simp [ahead, h]
theorem ahead_pos {α : Type} (l : List α) {n : Nat} (h0 : 0 < n) (h : n ≤ l.length) : ahead l n = some (l[n - 1]'(by omega)) := by
  simp [ahead, show n ≠ 0 from by omega, show n - 1 < l.length from by omega]
theorem listErr_step {n : Int} {l : List Int} {k : Nat} (h : k < l.length) : listErr n (ahead l k) (l.drop k) = if l[k] < 0 ∨ l[k] ≥ n then 2 else if ∃ y, ahead l k = some y ∧ l[k] ≤ y then 5 else listErr n (ahead l (k + 1)) (l.drop (k + 1)) := by
  rw [List.drop_eq_getElem_cons h, listErr, ahead_succ l h]
theorem edgesErr_step {al : List Int} {n : Int} {l : List api_Edge} {k : Nat} (h : k < l.length) : edgesErr al n (ahead l k) (l.drop k) = if l[k].From < 0 ∨ l[k].From ≥ n ∨ l[k].To < 0 ∨ l[k].To ≥ n then 2 else if l[k].Event ∉ al then 9 else if ∃ y, ahead l k = some y ∧ (l[k].From < y.From ∨ l[k].From = y.From ∧ l[k].Event ≤ y.Event) then 5 else edgesErr al n (ahead l (k + 1)) (l.drop (k + 1)) := by
  rw [List.drop_eq_getElem_cons h, edgesErr, ahead_succ l h]
theorem checkSet_ok {l : List Int} {n : Int} (hl : l.length < big) : g_automaton_checkSet l n = some (listErr n none l) := by
  unfold g_automaton_checkSet f_automaton_checkSet
  refine (iterF_idx (len := l.length) (fun k => some (listErr n (ahead l k) (l.drop k))) (by unfold fuel0; unfold big at hl; omega) ?_ ?_).trans (by simp [ahead_zero])
  · intro k i hi ih
    have hb : i < 1000000000000 := by unfold big at hl; omega
    rw [listErr_step hi]
    try dsimp only
    rw [if_pos (by omega), getO_nat hi, wrap_succ (by omega), ih]
    simp only [Option.bind_some]
    by_cases h1 : l[i] < 0
    · simp [h1]
    · by_cases h2 : l[i] ≥ n
      · simp [h1, h2]
      · by_cases h0 : 0 < i
        · rw [wrap_pred h0 (by omega), getO_nat (by omega : i - 1 < l.length), ahead_pos l h0 (by omega)]
          by_cases h3 : l[i] ≤ l[i - 1] <;> simp [h1, h2, h3, h0]
        · obtain rfl : i = 0 := by omega
          simp [h1, h2, ahead_zero]
  · intro k; simp [listErr]
theorem index_ok {l : List Int} {v : Int} (hl : l.length < big) : g_slices_Index_int l v = some (if v ∈ l then (l.idxOf v : Int) else -1) := by
  unfold g_slices_Index_int f_slices_Index_int
  refine (iterF_idx (len := l.length) (fun k => some (if v ∈ l.drop k then ((k + (l.drop k).idxOf v : Nat) : Int) else -1)) (by unfold fuel0; unfold big at hl; omega) ?_ ?_).trans (by simp)
  · intro k i hi ih
    have hb : i < 1000000000000 := by unfold big at hl; omega
    try dsimp only
    rw [if_pos (by omega), getO_nat hi, wrap_succ (by omega), ih, List.drop_eq_getElem_cons hi]
    simp only [Option.bind_some, List.mem_cons, List.idxOf_cons]
    by_cases h : v = l[i]
    · simp [← h]
    · have : ¬ l[i] = v := fun e => h e.symm
      have hbq : (l[i] == v) = false := by simp [this]
      by_cases h2 : v ∈ l.drop (i + 1) <;> simp [h, h2, hbq]
      omega
  · intro k; simp
theorem contains_ok {l : List Int} {v : Int} (hl : l.length < big) : g_slices_Contains_int l v = some (decide (v ∈ l)) := by
  unfold g_slices_Contains_int f_slices_Contains_int
  rw [index_ok hl]
  simp only [Option.bind_some, Option.some.injEq]
  by_cases h : v ∈ l <;> simp [h]
theorem has_ok {l : List Int} {v : Int} (hl : l.length < big) : g_overseerref03_has l v = some (decide (v ∈ l)) := by
  unfold g_overseerref03_has f_overseerref03_has
  refine (iterF_idx (len := l.length) (fun k => some (decide (v ∈ l.drop k))) (by unfold fuel0; unfold big at hl; omega) ?_ ?_).trans (by simp)
  · intro k i hi ih
    have hb : i < 1000000000000 := by unfold big at hl; omega
    try dsimp only
    rw [if_pos (by omega), getO_nat hi, wrap_succ (by omega), ih, List.drop_eq_getElem_cons hi]
    simp only [Option.bind_some, List.mem_cons]
    by_cases h : l[i] = v
    · simp [h]
    · have : ¬ v = l[i] := fun e => h e.symm
      simp [h, this]
  · intro k; simp
theorem checkEdges_ok {a : api_Automaton} (h : small a) : g_automaton_checkEdges a = some (edgesErr a.Alphabet a.States none a.Edges) := by
  obtain ⟨hal, _, hl⟩ := h
  unfold g_automaton_checkEdges f_automaton_checkEdges
  refine (iterF_idx (len := a.Edges.length) (fun k => some (edgesErr a.Alphabet a.States (ahead a.Edges k) (a.Edges.drop k))) (by unfold fuel0; unfold big at hl; omega) ?_ ?_).trans (by simp [ahead_zero])
  · intro k i hi ih
    have hb : i < 1000000000000 := by unfold big at hl; omega
    rw [edgesErr_step hi]
    unfold letJ
    try dsimp only
    rw [if_pos (by omega), getO_nat hi, wrap_succ (by omega), ih]
    simp only [Option.bind_some, contains_ok hal]
    generalize a.Edges[i] = x
    by_cases h1 : x.From < 0
    · simp [h1]
    by_cases h2 : x.From ≥ a.States
    · simp [h1, h2]
    by_cases h3 : x.To < 0
    · simp [h1, h2, h3]
    by_cases h4 : x.To ≥ a.States
    · simp [h1, h2, h3, h4]
    by_cases h5 : x.Event ∈ a.Alphabet
    · by_cases h0 : 0 < i
      · rw [wrap_pred h0 (by omega), getO_nat (by omega : i - 1 < a.Edges.length), ahead_pos a.Edges h0 (by omega)]
        generalize a.Edges[i - 1] = y
        have hi0 : i ≠ 0 := by omega
        by_cases h6 : x.From < y.From
        · simp [h1, h2, h3, h4, h5, h6, hi0]
        by_cases h7 : y.From = x.From
        · by_cases h8 : x.Event ≤ y.Event <;> simp [h1, h2, h3, h4, h5, h6, h7, h8, hi0]
        · have h7' : ¬ x.From = y.From := fun e => h7 e.symm
          simp [h1, h2, h3, h4, h5, h6, h7, hi0, h7']
      · obtain rfl : i = 0 := by omega
        simp [h1, h2, h3, h4, h5, ahead_zero]
    · simp [h1, h2, h3, h4, h5]
  · intro k; unfold letJ; simp [edgesErr]
theorem check_ok {a : api_Automaton} (h : small a) : g_automaton_Check a = some (checkErr a) := by
  unfold g_automaton_Check f_automaton_Check checkErr
  rw [checkSet_ok h.1, checkSet_ok h.2.1, checkEdges_ok h]
  simp only [Option.bind_some]
  by_cases h1 : listErr 32 none a.Alphabet = 0
  · by_cases h2 : a.States < 0
    · simp [h1, h2]
    by_cases h3 : a.States > 4096
    · simp [h1, h2, h3]
    by_cases h4 : listErr a.States none a.Marked = 0 <;> simp [h1, h2, h3, h4]
  · simp [h1]
end Go.Abs
end
section
namespace Go.Abs
open Go
set_option linter.unusedSimpArgs false
set_option linter.unusedVariables false
def keyLt (x y : api_Edge) : Prop := x.From < y.From ∨ x.From = y.From ∧ x.Event < y.Event
instance (x y : api_Edge) : Decidable (keyLt x y) := by unfold keyLt; infer_instance
structure Right (a : api_Automaton) : Prop where
  al0 : ∀ x ∈ a.Alphabet, 0 ≤ x ∧ x < 32
  al : a.Alphabet.Pairwise (· < ·)
  st : 0 ≤ a.States ∧ a.States ≤ 4096
  ma0 : ∀ x ∈ a.Marked, 0 ≤ x ∧ x < a.States
  ma : a.Marked.Pairwise (· < ·)
  ed0 : ∀ x ∈ a.Edges, 0 ≤ x.From ∧ x.From < a.States ∧ 0 ≤ x.To ∧ x.To < a.States ∧ x.Event ∈ a.Alphabet
  ed : a.Edges.Pairwise keyLt
theorem listErr_zero {n : Int} : ∀ {l : List Int} {p : Option Int}, listErr n p l = 0 ↔ (∀ x ∈ l, 0 ≤ x ∧ x < n) ∧ l.Pairwise (· < ·) ∧ ∀ y, p = some y → ∀ x ∈ l, y < x
  | [], p => by simp [listErr]
  | x :: xs, p => by
    rw [listErr]
    split
    · rename_i h
      refine ⟨fun h => by omega, fun hh => ?_⟩
      have := hh.1 x (by simp); omega
    · rename_i h
      split
      · rename_i h2
        obtain ⟨y, hy, hxy⟩ := h2
        refine ⟨fun h => by omega, fun hh => ?_⟩
        have := hh.2.2 y hy x (by simp); omega
      · rename_i h2
        rw [listErr_zero]
        constructor
        · rintro ⟨k1, k2, k3⟩
          refine ⟨fun z hz => ?_, List.pairwise_cons.2 ⟨fun z hz => k3 x rfl z hz, k2⟩, fun y hy z hz => ?_⟩
          · rcases List.mem_cons.1 hz with rfl | hz
            · omega
            · exact k1 z hz
          · have hyx : y < x := by
              rcases Int.lt_or_le y x with h | h
              · exact h
              · exact absurd ⟨y, hy, h⟩ h2
            rcases List.mem_cons.1 hz with rfl | hz
            · exact hyx
            · have := k3 x rfl z hz; omega
        · rintro ⟨k1, k2, k3⟩
          obtain ⟨k4, k5⟩ := List.pairwise_cons.1 k2
          exact ⟨fun z hz => k1 z (by simp [hz]), k5, fun y hy z hz => by cases hy; exact k4 z hz⟩
theorem edgesErr_zero {al : List Int} {n : Int} : ∀ {l : List api_Edge} {p : Option api_Edge}, edgesErr al n p l = 0 ↔ (∀ x ∈ l, 0 ≤ x.From ∧ x.From < n ∧ 0 ≤ x.To ∧ x.To < n ∧ x.Event ∈ al) ∧ l.Pairwise keyLt ∧ ∀ y, p = some y → ∀ x ∈ l, keyLt y x
  | [], p => by simp [edgesErr]
  | x :: xs, p => by
    have tr : ∀ a b c : api_Edge, keyLt a b → keyLt b c → keyLt a c := fun a b c h k => by unfold keyLt at *; omega
    rw [edgesErr]
    split
    · rename_i h
      refine ⟨fun h => by omega, fun hh => ?_⟩
      have := hh.1 x (by simp); omega
    · rename_i h
      split
      · rename_i h2
        refine ⟨fun h => by omega, fun hh => ?_⟩
        exact absurd (hh.1 x (by simp)).2.2.2.2 h2
      · rename_i hal
        split
        · rename_i h2
          obtain ⟨y, hy, hxy⟩ := h2
          refine ⟨fun h => by omega, fun hh => ?_⟩
          have := hh.2.2 y hy x (by simp)
          unfold keyLt at this; omega
        · rename_i h2
          rw [edgesErr_zero]
          constructor
          · rintro ⟨k1, k2, k3⟩
            refine ⟨fun z hz => ?_, List.pairwise_cons.2 ⟨fun z hz => k3 x rfl z hz, k2⟩, fun y hy z hz => ?_⟩
            · rcases List.mem_cons.1 hz with rfl | hz
              · exact ⟨by omega, by omega, by omega, by omega, Decidable.not_not.1 hal⟩
              · exact k1 z hz
            · have hyx : keyLt y x := by
                apply Decidable.byContradiction
                intro h
                exact h2 ⟨y, hy, by unfold keyLt at h; omega⟩
              rcases List.mem_cons.1 hz with rfl | hz
              · exact hyx
              · exact tr _ _ _ hyx (k3 x rfl z hz)
          · rintro ⟨k1, k2, k3⟩
            obtain ⟨k4, k5⟩ := List.pairwise_cons.1 k2
            exact ⟨fun z hz => k1 z (by simp [hz]), k5, fun y hy z hz => by cases hy; exact k4 z hz⟩
theorem right_iff {a : api_Automaton} : checkErr a = 0 ↔ Right a := by
  unfold checkErr
  constructor
  · intro h
    split at h
    · rename_i h1; exact absurd h h1
    rename_i h1
    split at h
    · omega
    split at h
    · omega
    split at h
    · rename_i h4; exact absurd h h4
    rename_i h4
    have q1 := listErr_zero.1 (Decidable.not_not.1 h1)
    have q2 := listErr_zero.1 (Decidable.not_not.1 h4)
    have q3 := edgesErr_zero.1 h
    exact ⟨q1.1, q1.2.1, ⟨by omega, by omega⟩, q2.1, q2.2.1, q3.1, q3.2.1⟩
  · intro h
    have q1 : listErr 32 none a.Alphabet = 0 := listErr_zero.2 ⟨h.al0, h.al, fun y hy => by cases hy⟩
    have q2 : listErr a.States none a.Marked = 0 := listErr_zero.2 ⟨h.ma0, h.ma, fun y hy => by cases hy⟩
    have q3 : edgesErr a.Alphabet a.States none a.Edges = 0 := edgesErr_zero.2 ⟨h.ed0, h.ed, fun y hy => by cases hy⟩
    have := h.st
    rw [if_neg (by simp [q1]), if_neg (by omega), if_neg (by omega), if_neg (by simp [q2]), q3]
def outP (a : api_Automaton) (s : Int) : List api_Edge := a.Edges.filter fun x => x.From == s
def stepP (a : api_Automaton) (s e : Int) : Int := match a.Edges.find? fun x => x.From == s && x.Event == e with
  | some x => x.To
  | none => -1
theorem From_mono {l : List api_Edge} (h : l.Pairwise keyLt) (s : Int) : l.Pairwise fun a b => decide (b.From < s) = true → decide (a.From < s) = true :=
  h.imp fun h => by unfold keyLt at h; simp; omega
theorem bsf_ok {l : List api_Edge} {s : Int} {cmp : api_Edge → Int → Option Int} (hcmp : ∀ x ∈ l, cmp x s = some (x.From - s)) (hs : l.Pairwise keyLt) (hl : l.length < big) :
    ∃ b, g_slices_BinarySearchFunc_int l s cmp = some (((l.filter fun x => decide (x.From < s)).length : Int), b) := by
  have hc := fun n h => count_mono (p := fun x : api_Edge => decide (x.From < s)) (From_mono hs s) n h
  have hcl : (l.filter fun x => decide (x.From < s)).length ≤ l.length := List.length_filter_le _ _
  generalize (l.filter fun x => decide (x.From < s)).length = c at hc hcl
  have hb : l.length < 1000000000000 := hl
  unfold g_slices_BinarySearchFunc_int f_slices_BinarySearchFunc_int
  have hloop := iterF_rule (F := fun (k13 : Int × Int → Option Int) ((i11, j12) : Int × Int) => (if (i11 < j12) then ((getO l (IntKind.wrap .i64 (Int.fdiv (IntKind.wrap .u64 (IntKind.wrap .i64 (i11 + j12))) (2 ^ (min (Int.toNat 1) (IntKind.bits .u64)))))).bind fun x15 => ((cmp x15 s).bind fun x18 => (if (x18 < 0) then k13 ((IntKind.wrap .i64 ((IntKind.wrap .i64 (Int.fdiv (IntKind.wrap .u64 (IntKind.wrap .i64 (i11 + j12))) (2 ^ (min (Int.toNat 1) (IntKind.bits .u64))))) + 1)), j12) else k13 (i11, (IntKind.wrap .i64 (Int.fdiv (IntKind.wrap .u64 (IntKind.wrap .i64 (i11 + j12))) (2 ^ (min (Int.toNat 1) (IntKind.bits .u64))))))))) else some i11))
    (fun x => ∃ i j : Nat, x = ((i : Int), (j : Int)) ∧ i ≤ c ∧ c ≤ j ∧ j ≤ l.length) (fun x => (x.2 - x.1).toNat) (fun _ r => r = some (c : Int)) (by
      rintro k _ ⟨i, j, rfl, h1, h2, h3⟩ ih
      dsimp only
      by_cases hij : i < j
      · rw [if_pos (by omega), mid_ok (by omega) (by omega)]
        have hm : (i + j) / 2 < l.length := by omega
        rw [getO_nat hm]
        simp only [Option.bind_some]
        rw [hcmp _ (List.getElem_mem hm)]
        simp only [Option.bind_some]
        have hcm := hc ((i + j) / 2) hm
        by_cases hlt : l[(i + j) / 2].From < s
        · rw [if_pos (by omega), wrap_succ (by omega)]
          have : (i + j) / 2 < c := hcm.1 (by simpa using hlt)
          exact ih _ ⟨_, _, rfl, by omega, h2, h3⟩ (by simp only; omega)
        · rw [if_neg (by omega)]
          have : ¬ (i + j) / 2 < c := fun h => hlt (by simpa using hcm.2 h)
          exact ih _ ⟨_, _, rfl, h1, by omega, by omega⟩ (by simp only; omega)
      · rw [if_neg (by omega)]
        have : i = c := by omega
        rw [this]) fuel0 (0, (l.length : Int)) ⟨0, l.length, rfl, by omega, hcl, Nat.le_refl _⟩ (by unfold fuel0; simp only; omega)
  rw [hloop]
  simp only [Option.bind_some]
  by_cases hlt : c < l.length
  · rw [if_pos (by omega), getO_nat hlt]
    simp only [Option.bind_some]
    rw [hcmp _ (List.getElem_mem hlt)]
    exact ⟨_, rfl⟩
  · rw [if_neg (by omega)]
    exact ⟨_, rfl⟩
theorem out_parts : ∀ {l : List api_Edge} (s : Int), l.Pairwise keyLt → (l.take (l.filter fun x => decide (x.From < s + 1)).length).drop (l.filter fun x => decide (x.From < s)).length = l.filter fun x => x.From == s
  | [], s, _ => by simp
  | x :: xs, s, h => by
    obtain ⟨h1, h2⟩ := List.pairwise_cons.1 h
    have ih := out_parts s h2
    have hge : ∀ y ∈ xs, x.From ≤ y.From := fun y hy => by have := h1 y hy; unfold keyLt at this; omega
    by_cases hx : x.From < s
    · have e1 : decide (x.From < s) = true := by simpa using hx
      have e2 : decide (x.From < s + 1) = true := by simp; omega
      have e3 : (x.From == s) = false := by simp; omega
      simp only [List.filter_cons, e1, e2, e3, if_true, List.length_cons, List.take_succ_cons, List.drop_succ_cons, Bool.false_eq_true, if_false]
      exact ih
    · have hz : xs.filter (fun x => decide (x.From < s)) = [] := List.filter_eq_nil_iff.2 fun y hy => by have := hge y hy; simp; omega
      have e1 : decide (x.From < s) = false := by simpa using hx
      by_cases hq : x.From = s
      · have e2 : decide (x.From < s + 1) = true := by simp; omega
        have e3 : (x.From == s) = true := by simp [hq]
        simp only [List.filter_cons, e1, e2, e3, if_true, List.length_cons, List.take_succ_cons, Bool.false_eq_true, if_false, hz, List.length_nil, List.drop_zero]
        rw [hz, List.length_nil, List.drop_zero] at ih
        rw [ih]
      · have e2 : decide (x.From < s + 1) = false := by simp; omega
        have e3 : (x.From == s) = false := by simp [hq]
        have hz1 : xs.filter (fun x => decide (x.From < s + 1)) = [] := List.filter_eq_nil_iff.2 fun y hy => by have := hge y hy; simp; omega
        have hz2 : xs.filter (fun x => x.From == s) = [] := List.filter_eq_nil_iff.2 fun y hy => by have := hge y hy; simp; omega
        simp only [List.filter_cons, e1, e2, e3, Bool.false_eq_true, if_false, hz, hz1, hz2, List.length_nil, List.take_zero, List.drop_zero]
section
variable {a : api_Automaton} (h : Right a) (hs : small a)
include h hs
theorem out_ok {s : Int} (h0 : -1000000000000 < s) (h1 : s < 1000000000000) : g_automaton_out a s = some (outP a s) := by
  unfold g_automaton_out f_automaton_out
  have hst := h.st
  have hw : ∀ t : Int, -1000000000002 < t → t < 1000000000002 → ∀ x ∈ a.Edges, IntKind.wrap .i64 (x.From - t) = x.From - t := fun t k1 k2 x hx => by
    have := h.ed0 x hx; exact wrap_id (by omega) (by omega)
  have e1 : IntKind.wrap .i64 (s + 1) = s + 1 := wrap_id (by omega) (by omega)
  obtain ⟨b1, k1⟩ := bsf_ok (s := s) (cmp := g_automaton_out_1) (fun x hx => by unfold g_automaton_out_1 f_automaton_out_1; rw [hw s (by omega) (by omega) x hx]) h.ed hs.2.2
  obtain ⟨b2, k2⟩ := bsf_ok (s := s + 1) (cmp := g_automaton_out_2) (fun x hx => by unfold g_automaton_out_2 f_automaton_out_2; rw [hw (s + 1) (by omega) (by omega) x hx]) h.ed hs.2.2
  rw [k1, e1]
  simp only [Option.bind_some]
  rw [k2]
  simp only [Option.bind_some]
  have hle : (a.Edges.filter fun x => decide (x.From < s)).length ≤ (a.Edges.filter fun x => decide (x.From < s + 1)).length :=
    by rw [← List.countP_eq_length_filter, ← List.countP_eq_length_filter]; exact List.countP_mono_left fun x _ hx => by simp at hx ⊢; omega
  rw [slcO_nat hle (List.length_filter_le _ _), out_parts s h.ed]
  rfl
omit h in
theorem refStep_ok {s e : Int} : g_overseerref03_Step a s e = some (stepP a s e) := by
  have hb : a.Edges.length < 1000000000000 := hs.2.2
  unfold g_overseerref03_Step f_overseerref03_Step
  refine (iterF_idx (len := a.Edges.length) (fun k => some (match (a.Edges.drop k).find? (fun x => x.From == s && x.Event == e) with | some x => x.To | none => -1)) (by unfold fuel0; omega) ?_ ?_).trans (by simp [stepP])
  · intro k i hi ih
    rw [if_pos (by omega), getO_nat hi, wrap_succ (by omega), ih, List.drop_eq_getElem_cons hi]
    simp only [Option.bind_some, List.find?_cons]
    cases h1 : a.Edges[i].From == s <;> cases h2 : a.Edges[i].Event == e <;> simp [h1, h2]
  · intro k; simp
end
theorem stepP_range {a : api_Automaton} (h : Right a) (s e : Int) : stepP a s e = -1 ∨ 0 ≤ stepP a s e ∧ stepP a s e < a.States ∧ 0 ≤ s ∧ s < a.States ∧ e ∈ a.Alphabet := by
  unfold stepP
  split
  · rename_i x hx
    have hm := List.mem_of_find?_eq_some hx
    have hp := List.find?_some hx
    obtain ⟨k1, k2, k3, k4, k5⟩ := h.ed0 x hm
    simp at hp
    exact .inr ⟨k3, k4, by omega, by omega, hp.2 ▸ k5⟩
  · exact .inl rfl
theorem stepP_nonneg {a : api_Automaton} (h : Right a) {s e : Int} : 0 ≤ stepP a s e ↔ ∃ x ∈ outP a s, x.Event = e := by
  unfold stepP outP
  split
  · rename_i x hx
    have hm := List.mem_of_find?_eq_some hx
    have hp := List.find?_some hx
    simp at hp
    refine ⟨fun _ => ⟨x, by simp [hm, hp.1], hp.2⟩, fun _ => (h.ed0 x hm).2.2.1⟩
  · rename_i hx
    have := List.find?_eq_none.1 hx
    refine ⟨fun h => by omega, ?_⟩
    rintro ⟨x, h1, h2⟩
    simp at h1
    exact absurd (by simp [h1.2, h2]) (this x h1.1)
theorem outP_events {a : api_Automaton} (h : Right a) (s : Int) : (outP a s).map (·.Event) = a.Alphabet.filter fun e => decide (0 ≤ stepP a s e) := by
  refine sorted_ext ?_ (h.al.filter _) fun e => ?_
  · rw [List.pairwise_map]
    have h1 : (outP a s).Pairwise keyLt := h.ed.filter _
    have h2 : ∀ x ∈ outP a s, x.From = s := fun x hx => by unfold outP at hx; simp at hx; exact hx.2
    exact List.Pairwise.imp_of_mem (fun {x y} hx hy hk => by have := h2 x hx; have := h2 y hy; unfold keyLt at hk; omega) h1
  · simp only [List.mem_map, List.mem_filter, decide_eq_true_eq, stepP_nonneg h]
    constructor
    · rintro ⟨x, hx, rfl⟩
      refine ⟨?_, x, hx, rfl⟩
      unfold outP at hx; simp at hx; exact (h.ed0 x hx.1).2.2.2.2
    · rintro ⟨_, x, hx, rfl⟩; exact ⟨x, hx, rfl⟩
theorem outP_step {a : api_Automaton} (h : Right a) {s : Int} {x : api_Edge} (hx : x ∈ outP a s) : stepP a s x.Event = x.To := by
  unfold outP at hx
  simp at hx
  unfold stepP
  split
  · rename_i y hy
    have hm := List.mem_of_find?_eq_some hy
    have hp := List.find?_some hy
    simp at hp
    have : x = y := by
      rcases Classical.em (x = y) with e | hne
      · exact e
      · exfalso
        have hk : keyLt x y ∨ keyLt y x := by
          have := List.pairwise_iff_getElem.1 h.ed
          obtain ⟨i, hi, rfl⟩ := List.getElem_of_mem hx.1
          obtain ⟨j, hj, rfl⟩ := List.getElem_of_mem hm
          rcases Nat.lt_trichotomy i j with hij | hij | hij
          · exact .inl (this i j hi hj hij)
          · subst hij; exact absurd rfl hne
          · exact .inr (this j i hj hi hij)
        unfold keyLt at hk; omega
    rw [this]
  · rename_i hn
    exact absurd (by simp [hx.2]) (List.find?_eq_none.1 hn x hx.1)
end Go.Abs
end
section
namespace Go.Abs
open Go
set_option linter.unusedSimpArgs false
set_option linter.unusedVariables false
theorem Right.small {a : api_Automaton} (h : Right a) : small a ∧ a.Alphabet.length ≤ 32 ∧ a.Marked.length ≤ 4096 ∧ a.Edges.length ≤ 131072 := by
  have h1 := sorted_len h.al h.al0
  have h2 := sorted_len h.ma h.ma0
  have h3 : (a.Edges.map fun x => x.From * 32 + x.Event).Pairwise (· < ·) := by
    rw [List.pairwise_map]
    refine List.Pairwise.imp_of_mem (fun {x y} hx hy hk => ?_) h.ed
    have := h.al0 _ (h.ed0 x hx).2.2.2.2
    have := h.al0 _ (h.ed0 y hy).2.2.2.2
    unfold keyLt at hk; omega
  have h4 := sorted_len (a := 0) (b := 131072) h3 (by
    intro z hz
    obtain ⟨x, hx, rfl⟩ := List.mem_map.1 hz
    have := h.al0 _ (h.ed0 x hx).2.2.2.2
    have := h.ed0 x hx
    have := h.st
    omega)
  rw [List.length_map] at h4
  have := h.st
  refine ⟨⟨?_, ?_, ?_⟩, ?_, ?_, ?_⟩ <;> (try unfold big) <;> omega
theorem check_right {a : api_Automaton} (h : Right a) : g_automaton_Check a = some 0 := by rw [check_ok h.small.1, right_iff.2 h]
theorem select_ok {α β : Type} {l : List α} {f : α → Option β} {fuel : Nat} (hl : l.length < big) (hf : l.length < fuel) {F : (List β × Int → Option (List β)) → List β × Int → Option (List β)}
    (hF : ∀ (k : List β × Int → Option (List β)) (acc : List β) (n : Nat) (h : n < l.length), acc.length ≤ n → F k (acc, (n : Int)) = k (acc ++ (f l[n]).toList, IntKind.wrap .i64 ((n : Int) + 1)))
    (hlast : ∀ (k : List β × Int → Option (List β)) (acc : List β), F k (acc, (l.length : Int)) = some acc) : iterF F fuel ([], 0) = some (l.filterMap f) := by
  have hb : l.length < 1000000000000 := hl
  refine (iterF_inv (len := l.length) (fun n (acc : List β) => (acc, (n : Int))) (fun n acc => acc.length ≤ n) (fun n acc => some (acc ++ (l.drop n).filterMap f)) ?_ ?_ fuel 0 [] (Nat.zero_le _) (by omega) (Nat.le_refl _)).trans (by simp)
  · intro k n acc hn hi ih
    have hlen : (f l[n]).toList.length ≤ 1 := by cases f l[n] <;> simp
    rw [hF k acc n hn hi, wrap_succ (by omega), ih _ (by simp only [List.length_append]; omega), List.drop_eq_getElem_cons hn]
    rw [List.filterMap_cons]
    cases f l[n] <;> simp only [Option.toList_none, Option.toList_some, List.append_nil, List.append_assoc, List.cons_append, List.nil_append]
  · intro k acc _; rw [hlast]; simp
theorem refEnabled_ok {a : api_Automaton} (h : Right a) (s : Int) : g_overseerref03_Enabled a s = some ((outP a s).map (·.Event)) := by
  unfold g_overseerref03_Enabled f_overseerref03_Enabled
  obtain ⟨fuel, hfu, hge⟩ : ∃ f, fuel0 = f ∧ 1099511627776 ≤ f := ⟨_, rfl, Nat.le_refl _⟩
  rw [hfu]
  have hs := h.small.1
  have hb : a.Alphabet.length < 1000000000000 := hs.1
  rw [select_ok (l := a.Alphabet) (f := fun e => if 0 ≤ stepP a s e then some e else none) hs.1 (by omega) (fun k acc n hn hacc => by
    dsimp only
    rw [if_pos (by omega), getO_nat hn]
    simp only [Option.bind_some, refStep_ok hs]
    by_cases hx : 0 ≤ stepP a s a.Alphabet[n]
    · rw [if_pos hx, appO_some (by simp only [List.length_cons, List.length_nil]; unfold lim; omega), if_pos hx]; rfl
    · rw [if_neg (by omega), if_neg hx]; simp) (fun k acc => by dsimp only; rw [if_neg (by omega)])]
  rw [outP_events h]
  simp only [Option.bind_some, Option.some.injEq]
  induction a.Alphabet with
  | nil => rfl
  | cons x xs ih => by_cases hx : 0 ≤ stepP a s x <;> simp [List.filterMap_cons, List.filter_cons, hx, ih]
end Go.Abs
end
section
namespace Go.Abs
open Go
set_option linter.unusedSimpArgs false
set_option linter.unusedVariables false
def ins (o : List Int) (t : Int) : List Int := if t ∈ o then o else o ++ [t]
def succP (a : api_Automaton) (s : Int) : List Int := (outP a s).map (·.To)
def bfs (a : api_Automaton) : Nat → Nat → List Int → List Int
  | 0, _, o => o
  | fuel + 1, i, o => match o[i]? with
    | some s => bfs a fuel (i + 1) ((succP a s).foldl ins o)
    | none => o
def foundP (a : api_Automaton) : List Int := bfs a (a.States.toNat + 1) 0 (if 0 < a.States then [0] else [])
structure Fnd (a : api_Automaton) (o : List Int) : Prop where
  nd : o.Nodup
  rg : ∀ s ∈ o, 0 ≤ s ∧ s < a.States
theorem Fnd.len {a : api_Automaton} {o : List Int} (h : Fnd a o) : o.length ≤ a.States.toNat := by
  have hO : Go.Sort.SWO ltInt' := ⟨fun x => by simp [ltInt'], fun x y z h1 h2 => by simp [ltInt'] at *; omega, fun x y z h1 h2 => by simp [ltInt'] at *; omega⟩
  have hp := isortB_perm ltInt' o
  have hs := isortB_sorted hO o
  have hn : (isortB ltInt' o).Nodup := (hp.nodup_iff).2 h.nd
  have hlt : (isortB ltInt' o).Pairwise (· < ·) := by
    have : (isortB ltInt' o).Pairwise fun x y => ltInt' y x = false ∧ x ≠ y := hs.and hn
    exact this.imp fun ⟨h1, h2⟩ => by simp [ltInt'] at h1; omega
  have := sorted_len hlt (a := 0) (b := a.States) fun x hx => h.rg x (hp.mem_iff.1 hx)
  rw [isortB_length] at this
  simpa using this
theorem mem_ins {o : List Int} {t x : Int} : x ∈ ins o t ↔ x ∈ o ∨ x = t := by
  unfold ins; split
  · rename_i h; constructor
    · exact .inl
    · rintro (h' | rfl)
      · exact h'
      · exact h
  · simp
theorem pre_ins (o : List Int) (t : Int) : o <+: ins o t := by
  unfold ins; split
  · exact List.prefix_refl o
  · exact List.prefix_append o [t]
theorem Fnd.ins {a : api_Automaton} {o : List Int} (h : Fnd a o) {t : Int} (ht : 0 ≤ t ∧ t < a.States) : Fnd a (ins o t) := by
  refine ⟨?_, fun s hs => ?_⟩
  · unfold Go.Abs.ins; split
    · exact h.nd
    · rename_i hn
      rw [List.nodup_append]
      exact ⟨h.nd, by simp, fun x hx y hy => by simp at hy; subst hy; exact fun e => hn (e ▸ hx)⟩
  · rcases mem_ins.1 hs with hs | rfl
    · exact h.rg s hs
    · exact ht
theorem foldl_ins {a : api_Automaton} : ∀ {ts o : List Int}, Fnd a o → (∀ t ∈ ts, 0 ≤ t ∧ t < a.States) → Fnd a (ts.foldl ins o) ∧ o <+: ts.foldl ins o ∧ (∀ t ∈ ts, t ∈ ts.foldl ins o) ∧ ∀ x ∈ ts.foldl ins o, x ∈ o ∨ x ∈ ts
  | [], o, h, _ => ⟨h, List.prefix_refl o, by simp, fun x hx => .inl hx⟩
  | t :: ts, o, h, ht => by
    obtain ⟨h1, h2, h3, h4⟩ := foldl_ins (ts := ts) (h.ins (ht t (by simp))) fun t ht' => ht t (by simp [ht'])
    refine ⟨h1, (pre_ins o t).trans h2, fun x hx => ?_, fun x hx => ?_⟩
    · rcases List.mem_cons.1 hx with rfl | hx
      · exact h2.subset (mem_ins.2 (.inr rfl))
      · exact h3 x hx
    · rcases h4 x hx with h5 | h5
      · rcases mem_ins.1 h5 with h6 | rfl
        · exact .inl h6
        · exact .inr (by simp)
      · exact .inr (by simp [h5])
theorem succP_range {a : api_Automaton} (h : Right a) (s : Int) : ∀ t ∈ succP a s, 0 ≤ t ∧ t < a.States := by
  intro t ht
  unfold succP outP at ht
  obtain ⟨x, hx, rfl⟩ := List.mem_map.1 ht
  have := h.ed0 x ((List.mem_filter.1 hx).1)
  omega
theorem prefix_get {α : Type} {l m : List α} (h : l <+: m) {i : Nat} {x : α} (hx : l[i]? = some x) : m[i]? = some x := by
  obtain ⟨t, rfl⟩ := h
  have := (List.getElem?_eq_some_iff.1 hx).1
  rw [List.getElem?_append_left this]; exact hx
theorem bfs_spec {a : api_Automaton} (h : Right a) : ∀ (fuel i : Nat) (o : List Int), Fnd a o → i ≤ o.length → a.States.toNat + 1 ≤ fuel + i → (∀ j s, j < i → o[j]? = some s → ∀ t ∈ succP a s, t ∈ o) →
    Fnd a (bfs a fuel i o) ∧ o <+: bfs a fuel i o ∧ ∀ s ∈ bfs a fuel i o, ∀ t ∈ succP a s, t ∈ bfs a fuel i o
  | 0, i, o, hf, hi, hfu, _ => by have := hf.len; omega
  | fuel + 1, i, o, hf, hi, hfu, hc => by
    unfold bfs
    cases hg : o[i]? with
    | none =>
      dsimp only
      refine ⟨hf, List.prefix_refl o, fun s hs t ht => ?_⟩
      obtain ⟨j, hj⟩ := List.getElem?_of_mem hs
      have hlt := (List.getElem?_eq_some_iff.1 hj).1
      exact hc j s (by have := List.getElem?_eq_none_iff.1 hg; omega) hj t ht
    | some s =>
      dsimp only
      obtain ⟨h1, h2, h3, _⟩ := foldl_ins hf (succP_range h s)
      have hlen : i < o.length := (List.getElem?_eq_some_iff.1 hg).1
      have hle := h2.length_le
      obtain ⟨k1, k2, k3⟩ := bfs_spec h fuel (i + 1) ((succP a s).foldl ins o) h1 (by omega) (by omega) (fun j s' hj hs' t ht => by
        by_cases hji : j < i
        · have hjl : j < o.length := by omega
          have : o[j]? = some s' := by
            have := prefix_get h2 (List.getElem?_eq_getElem hjl)
            rw [hs'] at this; rw [List.getElem?_eq_getElem hjl]; exact this.symm
          exact h2.subset (hc j s' hji this t ht)
        · obtain rfl : j = i := by omega
          have := prefix_get h2 hg
          rw [hs'] at this; cases this
          exact h3 t ht)
      exact ⟨k1, h2.trans k2, k3⟩
theorem found_spec {a : api_Automaton} (h : Right a) : Fnd a (foundP a) ∧ (if 0 < a.States then [0] else []) <+: foundP a ∧ ∀ s ∈ foundP a, ∀ t ∈ succP a s, t ∈ foundP a :=
  bfs_spec h _ 0 _ ⟨by split <;> simp, fun s hs => by split at hs <;> simp at hs; subst hs; omega⟩ (Nat.zero_le _) (by omega) fun j s hj => by omega
def marksP (m : List Int) : Nat → List Int → List Int
  | _, [] => []
  | i, s :: t => (if s ∈ m then [(i : Int)] else []) ++ marksP m (i + 1) t
def rowP (a : api_Automaton) (F : List Int) (i : Nat) (s : Int) : List api_Edge := (outP a s).map fun x => ⟨(i : Int), x.Event, (F.idxOf x.To : Int)⟩
def edgesP (a : api_Automaton) (F : List Int) : Nat → List Int → List api_Edge
  | _, [] => []
  | i, s :: t => rowP a F i s ++ edgesP a F (i + 1) t
def canonP (a : api_Automaton) : api_Automaton := ⟨a.Alphabet, ((foundP a).length : Int), marksP a.Marked 0 (foundP a), edgesP a (foundP a) 0 (foundP a)⟩
theorem marksP_range {m : List Int} : ∀ {l : List Int} {i : Nat}, ∀ x ∈ marksP m i l, (i : Int) ≤ x ∧ x < (i + l.length : Nat)
  | [], i, x, hx => by simp [marksP] at hx
  | s :: t, i, x, hx => by
    simp only [marksP, List.mem_append] at hx
    rcases hx with hx | hx
    · split at hx <;> simp at hx
      subst hx; simp only [List.length_cons]; omega
    · have := marksP_range x hx; simp only [List.length_cons]; omega
theorem marksP_sorted {m : List Int} : ∀ {l : List Int} {i : Nat}, (marksP m i l).Pairwise (· < ·)
  | [], i => .nil
  | s :: t, i => by
    simp only [marksP]
    rw [List.pairwise_append]
    refine ⟨by split <;> simp, marksP_sorted, fun x hx y hy => ?_⟩
    have := marksP_range y hy
    split at hx <;> simp at hx
    omega
theorem edgesP_from {a : api_Automaton} {F : List Int} : ∀ {l : List Int} {i : Nat}, ∀ x ∈ edgesP a F i l, (i : Int) ≤ x.From ∧ x.From < (i + l.length : Nat) ∧ ∃ s ∈ l, ∃ y ∈ outP a s, x.Event = y.Event ∧ x.To = (F.idxOf y.To : Int)
  | [], i, x, hx => by simp [edgesP] at hx
  | s :: t, i, x, hx => by
    simp only [edgesP, List.mem_append] at hx
    rcases hx with hx | hx
    · obtain ⟨y, hy, rfl⟩ := List.mem_map.1 hx
      simp only [List.length_cons]
      exact ⟨by omega, by omega, s, by simp, y, hy, rfl, rfl⟩
    · obtain ⟨h1, h2, s', h3, h4⟩ := edgesP_from x hx
      simp only [List.length_cons]
      exact ⟨by omega, by omega, s', by simp [h3], h4⟩
theorem edgesP_sorted {a : api_Automaton} (h : Right a) {F : List Int} : ∀ {l : List Int} {i : Nat}, (edgesP a F i l).Pairwise keyLt
  | [], i => .nil
  | s :: t, i => by
    simp only [edgesP]
    rw [List.pairwise_append]
    refine ⟨?_, edgesP_sorted h, fun x hx y hy => ?_⟩
    · unfold rowP
      rw [List.pairwise_map]
      have h1 : (outP a s).Pairwise keyLt := h.ed.filter _
      have h2 : ∀ x ∈ outP a s, x.From = s := fun x hx => by unfold outP at hx; simp at hx; exact hx.2
      exact List.Pairwise.imp_of_mem (fun {x y} hx hy hk => by have := h2 x hx; have := h2 y hy; unfold keyLt at hk; exact .inr ⟨rfl, by show x.Event < y.Event; omega⟩) h1
    · obtain ⟨z, _, rfl⟩ := List.mem_map.1 hx
      have := (edgesP_from y hy).1
      unfold keyLt; simp only; omega
theorem canonP_right {a : api_Automaton} (h : Right a) : Right (canonP a) := by
  obtain ⟨h1, h2, h3⟩ := found_spec h
  have hl := h1.len
  have hst := h.st
  refine ⟨h.al0, h.al, ⟨by simp only [canonP]; omega, by simp only [canonP]; omega⟩, fun x hx => ?_, marksP_sorted, fun x hx => ?_, edgesP_sorted h⟩
  · have := marksP_range x hx; simp only [canonP]; omega
  · obtain ⟨k1, k2, s, hs, y, hy, k3, k4⟩ := edgesP_from x hx
    have hy' : y.To ∈ foundP a := h3 s hs y.To (List.mem_map.2 ⟨y, hy, rfl⟩)
    have := List.idxOf_lt_length_iff.2 hy'
    simp only [canonP]
    refine ⟨by omega, by omega, by omega, by omega, ?_⟩
    rw [k3]
    unfold outP at hy
    exact (h.ed0 y ((List.mem_filter.1 hy).1)).2.2.2.2
end Go.Abs
end
section
namespace Go.Abs
open Go
set_option linter.unusedSimpArgs false
set_option linter.unusedVariables false
theorem empty_ok {l : List Int} (hl : l.length ≤ lim) : g_overseerref03_Empty l = some ⟨l, 0, [], []⟩ := by
  unfold g_overseerref03_Empty f_overseerref03_Empty
  rw [appO_some (by simpa using hl)]; rfl
theorem refIndex_ok {l : List Int} {v : Int} (hl : l.length < big) : g_overseerref03_index l v = some (if v ∈ l then (l.idxOf v : Int) else -1) := by
  have hb : l.length < 1000000000000 := hl
  unfold g_overseerref03_index f_overseerref03_index
  refine (iterF_idx (len := l.length) (fun k => some (if v ∈ l.drop k then ((k + (l.drop k).idxOf v : Nat) : Int) else -1)) (by unfold fuel0; omega) ?_ ?_).trans (by simp)
  · intro k i hi ih
    rw [if_pos (by omega), getO_nat hi, wrap_succ (by omega), ih, List.drop_eq_getElem_cons hi]
    simp only [Option.bind_some, List.mem_cons, List.idxOf_cons]
    by_cases h : v = l[i]
    · simp [← h]
    · have h' : ¬ l[i] = v := fun e => h e.symm
      have hbq : (l[i] == v) = false := by simp [h']
      by_cases h2 : v ∈ l.drop (i + 1) <;> simp [h, h2, hbq]
      omega
  · intro k; simp
theorem succP_events {a : api_Automaton} (h : Right a) (s : Int) : succP a s = (a.Alphabet.filter fun e => decide (0 ≤ stepP a s e)).map (stepP a s) := by
  rw [← outP_events h, List.map_map]
  unfold succP
  exact List.map_congr_left fun x hx => (outP_step h hx).symm
theorem foldl_skip {a : api_Automaton} (s : Int) : ∀ (al o : List Int), al.foldl (fun o e => if 0 ≤ stepP a s e then ins o (stepP a s e) else o) o = ((al.filter fun e => decide (0 ≤ stepP a s e)).map (stepP a s)).foldl ins o
  | [], o => rfl
  | e :: al, o => by
    by_cases hx : 0 ≤ stepP a s e <;> simp [List.filter_cons, hx, foldl_skip s al]
theorem bfs_succ {a : api_Automaton} {fuel i : Nat} {o : List Int} (hi : i < o.length) : bfs a (fuel + 1) i o = bfs a fuel (i + 1) ((succP a o[i]).foldl ins o) := by
  conv => lhs; unfold bfs
  rw [List.getElem?_eq_getElem hi]
theorem bfs_end {a : api_Automaton} {fuel : Nat} {o : List Int} : bfs a fuel o.length o = o := by
  cases fuel with
  | zero => rfl
  | succ n => unfold bfs; simp
section
variable {a : api_Automaton} (h : Right a)
include h
theorem found_loop (fuel : Nat) (hfu : 1099511627776 ≤ fuel) {s : Int} {o : List Int} {i : Nat} (hf : Fnd a o) (hi : o[i]? = some s) :
    iterF (fun k12 ((out10, k11) : (List Int) × Int) => (if (k11 < (a.Alphabet.length : Int)) then ((((getO out10 (i : Int)).bind fun x14 => ((getO a.Alphabet k11).bind fun x16 => ((g_overseerref03_Step a x14 x16).bind fun x19 => (((if (x19 ≥ 0) then ((g_overseerref03_has out10 x19).bind fun x22 => some (!x22)) else some false)).bind fun (x23 : Bool) => (if x23 then ((appO out10 [x19]).bind fun x25 => some x25) else some out10)))))).bind fun (out27 : List Int) => k12 (out27, (IntKind.wrap .i64 (k11 + 1)))) else some out10)) fuel (o, 0) = some ((succP a s).foldl ins o) := by
  have hs := h.small.1
  have hst := h.st
  have hb : a.Alphabet.length < 1000000000000 := hs.1
  rw [succP_events h, ← foldl_skip]
  refine (iterF_inv (len := a.Alphabet.length) (fun n (acc : List Int) => (acc, (n : Int))) (fun n acc => Fnd a acc ∧ acc[i]? = some s) (fun n acc => some ((a.Alphabet.drop n).foldl (fun o e => if 0 ≤ stepP a s e then ins o (stepP a s e) else o) acc)) ?_ ?_ fuel 0 o (Nat.zero_le _) (by omega) ⟨hf, hi⟩).trans (by simp)
  · intro k n acc hn ⟨k1, k2⟩ ih
    have hlen := k1.len
    have hg : getO acc (i : Int) = some s := by rw [getO_some]; exact ⟨by omega, by simpa using k2⟩
    dsimp only
    rw [if_pos (by omega), hg, getO_nat hn]
    simp only [Option.bind_some]
    rw [refStep_ok hs, wrap_succ (by omega)]
    simp only [Option.bind_some]
    rw [has_ok (by unfold big; omega), List.drop_eq_getElem_cons hn, List.foldl_cons]
    rcases stepP_range h s a.Alphabet[n] with hr | hr
    · rw [hr]; simp only [show ¬ ((-1 : Int) ≥ 0) from by omega, show ¬ ((0 : Int) ≤ -1) from by omega, if_false, Option.bind_some, Bool.false_eq_true]
      exact ih _ ⟨k1, k2⟩
    · have hge : stepP a s a.Alphabet[n] ≥ 0 := hr.1
      by_cases hm : stepP a s a.Alphabet[n] ∈ acc
      · simp only [hge, hm, decide_true, Bool.not_true, if_true, Option.bind_some, Bool.false_eq_true, if_false, hr.1, ins]
        exact ih _ ⟨k1, k2⟩
      · simp only [hge, hm, decide_false, Bool.not_false, if_true, Option.bind_some, hr.1, ins, if_false]
        rw [appO_some (by simp only [List.length_cons, List.length_nil]; unfold lim; omega)]
        simp only [Option.bind_some]
        have hi' := k1.ins (t := stepP a s a.Alphabet[n]) ⟨hr.1, hr.2.1⟩
        unfold ins at hi'
        rw [if_neg hm] at hi'
        exact ih _ ⟨hi', prefix_get (List.prefix_append acc _) k2⟩
  · intro k acc _
    dsimp only
    rw [if_neg (by omega)]; simp
theorem refFound_ok : g_overseerref03_Found a = some (foundP a) := by
  have hs := h.small.1
  have hst := h.st
  unfold g_overseerref03_Found f_overseerref03_Found
  obtain ⟨fuel, hfu, hge⟩ : ∃ f, fuel0 = f ∧ 1099511627776 ≤ f := ⟨_, rfl, Nat.le_refl _⟩
  rw [hfu]
  have hloop : ∀ o : List Int, Fnd a o → iterF (fun (k8 : List Int × Int → Option (List Int)) ((out6, i7) : (List Int) × Int) => (if (i7 < (out6.length : Int)) then ((iterF (fun k12 ((out10, k11) : (List Int) × Int) => (if (k11 < (a.Alphabet.length : Int)) then ((((getO out10 i7).bind fun x14 => ((getO a.Alphabet k11).bind fun x16 => ((g_overseerref03_Step a x14 x16).bind fun x19 => (((if (x19 ≥ 0) then ((g_overseerref03_has out10 x19).bind fun x22 => some (!x22)) else some false)).bind fun (x23 : Bool) => (if x23 then ((appO out10 [x19]).bind fun x25 => some x25) else some out10)))))).bind fun (out27 : List Int) => k12 (out27, (IntKind.wrap .i64 (k11 + 1)))) else some out10)) fuel (out6, 0)).bind fun (out28 : List Int) => k8 (out28, (IntKind.wrap .i64 (i7 + 1)))) else some out6)) fuel (o, 0) = some (bfs a (a.States.toNat + 1) 0 o) := by
    intro o ho
    have := iterF_rule (F := fun (k8 : List Int × Int → Option (List Int)) ((out6, i7) : (List Int) × Int) => (if (i7 < (out6.length : Int)) then ((iterF (fun k12 ((out10, k11) : (List Int) × Int) => (if (k11 < (a.Alphabet.length : Int)) then ((((getO out10 i7).bind fun x14 => ((getO a.Alphabet k11).bind fun x16 => ((g_overseerref03_Step a x14 x16).bind fun x19 => (((if (x19 ≥ 0) then ((g_overseerref03_has out10 x19).bind fun x22 => some (!x22)) else some false)).bind fun (x23 : Bool) => (if x23 then ((appO out10 [x19]).bind fun x25 => some x25) else some out10)))))).bind fun (out27 : List Int) => k12 (out27, (IntKind.wrap .i64 (k11 + 1)))) else some out10)) fuel (out6, 0)).bind fun (out28 : List Int) => k8 (out28, (IntKind.wrap .i64 (i7 + 1)))) else some out6))
      (fun x => ∃ i : Nat, x.2 = (i : Int) ∧ i ≤ x.1.length ∧ Fnd a x.1) (fun x => a.States.toNat + 1 - x.2.toNat) (fun x r => r = some (bfs a (a.States.toNat + 1 - x.2.toNat) x.2.toNat x.1)) (by
        rintro k ⟨o, i⟩ ⟨i, rfl, hi, hf⟩ ih
        replace hi : i ≤ o.length := hi
        replace hf : Fnd a o := hf
        have hl := hf.len
        dsimp only
        by_cases hlt : i < o.length
        · rw [if_pos (by omega), found_loop h fuel hge hf (List.getElem?_eq_getElem hlt), Option.bind_some, wrap_succ (by omega)]
          obtain ⟨q1, q2, _, _⟩ := foldl_ins hf (succP_range h o[i])
          have hle := q2.length_le
          rw [ih _ ⟨i + 1, rfl, by simp only; omega, q1⟩ (by simp only; omega)]
          simp only [Int.toNat_natCast]
          rw [show a.States.toNat + 1 - i = (a.States.toNat + 1 - (i + 1)) + 1 from by omega, bfs_succ hlt]
        · rw [if_neg (by omega)]
          obtain rfl : i = o.length := by omega
          simp only [Int.toNat_natCast, bfs_end]) fuel (o, 0) ⟨0, rfl, Nat.zero_le _, ho⟩ (by simp only; omega)
    simpa using this
  by_cases h0 : 0 < a.States
  · rw [if_pos (by omega), appO_some (by simp only [List.length_cons, List.length_nil]; unfold lim; omega)]
    simp only [Option.bind_some]
    rw [show ([] ++ [0] : List Int) = [0] from rfl, hloop [0] ⟨by simp, fun s hs => by simp at hs; subst hs; omega⟩]
    simp only [Option.bind_some, foundP, if_pos h0]
  · rw [if_neg (by omega)]
    simp only [Option.bind_some]
    rw [hloop [] ⟨by simp, fun s hs => by simp at hs⟩]
    simp only [Option.bind_some, foundP, if_neg h0]
theorem edges_loop (fuel : Nat) (hfu : 1099511627776 ≤ fuel) {F : List Int} (hF : Fnd a F) (hcl : ∀ s ∈ F, ∀ t ∈ succP a s, t ∈ F) {s : Int} {i : Nat} (hi : F[i]? = some s) (ms : List Int) (es : List api_Edge) (hes : es.length ≤ 200000) :
    iterF (fun (k24 : Int × List api_Edge → Option (List Int × List api_Edge)) ((k22, out23) : Int × (List api_Edge)) => (if (k22 < (a.Alphabet.length : Int)) then ((((getO F (i : Int)).bind fun x26 => ((getO a.Alphabet k22).bind fun x28 => ((g_overseerref03_Step a x26 x28).bind fun x31 => (if (x31 ≥ 0) then ((getO a.Alphabet k22).bind fun x33 => ((g_overseerref03_index F x31).bind fun x36 => ((appO out23 [(api_Edge.mk (i : Int) x33 x36)]).bind fun x37 => some x37))) else some out23))))).bind fun (out39 : List api_Edge) => k24 ((IntKind.wrap .i64 (k22 + 1)), out39)) else some (ms, out23))) fuel (0, es) = some (ms, es ++ rowP a F i s) := by
  have hs := h.small.1
  have hst := h.st
  have hal := h.small.2.1
  have hb : a.Alphabet.length < 1000000000000 := hs.1
  have hFl := hF.len
  have hrow : rowP a F i s = (a.Alphabet.filter fun e => decide (0 ≤ stepP a s e)).map fun e => ⟨(i : Int), e, (F.idxOf (stepP a s e) : Int)⟩ := by
    rw [← outP_events h, List.map_map]
    unfold rowP
    exact List.map_congr_left fun x hx => by simp only [Function.comp]; rw [outP_step h hx]
  rw [hrow]
  refine (iterF_inv (len := a.Alphabet.length) (fun n (acc : List api_Edge) => ((n : Int), acc)) (fun n acc => acc.length ≤ 200000 + n) (fun n acc => some (ms, acc ++ ((a.Alphabet.drop n).filter fun e => decide (0 ≤ stepP a s e)).map fun e => ⟨(i : Int), e, (F.idxOf (stepP a s e) : Int)⟩)) ?_ ?_ fuel 0 es (Nat.zero_le _) (by omega) (by omega)).trans (by simp)
  · intro k n acc hn k1 ih
    have hg : getO F (i : Int) = some s := by rw [getO_some]; exact ⟨by omega, by simpa using hi⟩
    dsimp only
    rw [if_pos (by omega), hg, getO_nat hn]
    simp only [Option.bind_some]
    rw [refStep_ok hs, wrap_succ (by omega)]
    simp only [Option.bind_some]
    rw [List.drop_eq_getElem_cons hn, List.filter_cons]
    by_cases hr : 0 ≤ stepP a s a.Alphabet[n]
    · have hm : stepP a s a.Alphabet[n] ∈ F := hcl s (List.mem_of_getElem? hi) _ (by rw [succP_events h]; exact List.mem_map.2 ⟨_, List.mem_filter.2 ⟨List.getElem_mem hn, by simpa using hr⟩, rfl⟩)
      rw [if_pos hr, refIndex_ok (by unfold big; omega), if_pos hm]
      simp only [Option.bind_some]
      rw [appO_some (by simp only [List.length_cons, List.length_nil]; unfold lim; omega)]
      simp only [Option.bind_some]
      rw [ih _ (by simp only [List.length_append, List.length_cons, List.length_nil]; omega)]
      simp only [hr, decide_true, if_true, List.map_cons, List.append_assoc, List.cons_append, List.nil_append]
    · rw [if_neg (by omega)]
      simp only [Option.bind_some]
      rw [ih _ (by omega)]
      simp only [hr, decide_false, Bool.false_eq_true, if_false]
  · intro k acc _
    dsimp only
    rw [if_neg (by omega)]; simp
theorem rowP_len {F : List Int} {i : Nat} {s : Int} : (rowP a F i s).length ≤ 32 := by
  have := h.small.2.1
  have h1 : (rowP a F i s).length = ((outP a s).map (·.Event)).length := by simp [rowP]
  rw [h1, outP_events h]
  exact Nat.le_trans (List.length_filter_le _ _) this
theorem refCanonical_ok : g_overseerref03_Canonical a = some (canonP a) := by
  have hs := h.small.1
  have hst := h.st
  have hal := h.small.2.1
  have hb : a.Alphabet.length < 1000000000000 := hs.1
  obtain ⟨hF, _, hcl⟩ := found_spec h
  have hFl := hF.len
  unfold g_overseerref03_Canonical f_overseerref03_Canonical
  obtain ⟨fuel, hfu, hge⟩ : ∃ f, fuel0 = f ∧ 1099511627776 ≤ f := ⟨_, rfl, Nat.le_refl _⟩
  rw [hfu, refFound_ok h, Option.bind_some, empty_ok (by unfold lim; omega), Option.bind_some]
  unfold canonP
  generalize foundP a = F at hF hcl hFl
  show Option.bind (iterF _ fuel (((0 : Nat) : Int), [], [], [], [], [])) _ = _
  rw [iterF_inv (len := F.length) (R := List Int × List Int × List api_Edge × List Int × List api_Edge) (fun n (acc : List Int × List api_Edge) => ((n : Int), ([] : List Int), ([] : List Int), ([] : List api_Edge), acc.1, acc.2)) (fun n acc => acc.1.length ≤ n ∧ acc.2.length ≤ 32 * n)
    (fun n acc => some (([] : List Int), ([] : List Int), ([] : List api_Edge), acc.1 ++ marksP a.Marked n (F.drop n), acc.2 ++ edgesP a F n (F.drop n))) ?_ ?_ fuel 0 ([], []) (Nat.zero_le _) (by omega) ⟨Nat.zero_le _, Nat.zero_le _⟩]
  · simp
  · rintro k n ⟨ms, es⟩ hn ⟨k1, k2⟩ ih
    replace k1 : ms.length ≤ n := k1
    replace k2 : es.length ≤ 32 * n := k2
    have hg := List.getElem?_eq_getElem hn
    dsimp only
    rw [if_pos (by omega), getO_nat hn]
    simp only [Option.bind_some]
    rw [has_ok hs.2.1]
    simp only [Option.bind_some]
    have hrl := rowP_len h (F := F) (i := n) (s := F[n])
    rw [List.drop_eq_getElem_cons hn]
    simp only [marksP, edgesP]
    by_cases hm : F[n] ∈ a.Marked
    · simp only [hm, decide_true, if_true]
      rw [appO_some (by simp only [List.length_cons, List.length_nil]; unfold lim; omega)]
      simp only [Option.bind_some]
      have := edges_loop h fuel hge hF hcl hg (ms ++ [(n : Int)]) es (by omega)
      rw [getO_nat hn] at this
      simp only [Option.bind_some] at this
      rw [this]
      simp only [Option.bind_some]
      rw [wrap_succ (by omega), ih (ms ++ [(n : Int)], es ++ rowP a F n F[n]) ⟨by simp only [List.length_append, List.length_cons, List.length_nil]; omega, by simp only [List.length_append]; omega⟩]
      simp only [List.append_assoc]
    · simp only [hm, decide_false, Bool.false_eq_true, if_false, Option.bind_some]
      have := edges_loop h fuel hge hF hcl hg ms es (by omega)
      rw [getO_nat hn] at this
      simp only [Option.bind_some] at this
      rw [this]
      simp only [Option.bind_some]
      rw [wrap_succ (by omega), ih (ms, es ++ rowP a F n F[n]) ⟨by simp only; omega, by simp only [List.length_append]; omega⟩]
      simp only [List.append_assoc, List.nil_append]
  · rintro k ⟨ms, es⟩ _
    dsimp only
    rw [if_neg (by omega)]
    simp [marksP, edgesP]
end
end Go.Abs
end
section
namespace Go.Abs
open Go
set_option linter.unusedSimpArgs false
set_option linter.unusedVariables false
structure Evs (l : List Int) : Prop where
  rg : ∀ x ∈ l, 0 ≤ x ∧ x < 5
  so : l.Pairwise (· < ·)
theorem Evs.len {l : List Int} (h : Evs l) : l.length ≤ 5 := by have := sorted_len h.so h.rg; simpa using this
def riseB : List Int → Bool
  | [] => true
  | x :: xs => xs.all (fun y => decide (x < y)) && riseB xs
theorem riseB_iff : ∀ {l : List Int}, riseB l = true → l.Pairwise (· < ·)
  | [], _ => .nil
  | x :: xs, h => by
    simp only [riseB, Bool.and_eq_true, List.all_eq_true, decide_eq_true_eq] at h
    exact List.pairwise_cons.2 ⟨h.1, riseB_iff h.2⟩
def evB (s : Nat) : Bool := match g_overseerlaw03_Set_Events (s : Int) with
  | some l => riseB l && l.all fun x => decide (0 ≤ x) && decide (x < 5)
  | none => false
theorem evB_all : (List.range 256).all evB = true := by kernel_rfl
theorem events_ok {s : Int} (h0 : 0 ≤ s) (h1 : s < 256) : ∃ l, g_overseerlaw03_Set_Events s = some l ∧ Evs l := by
  have := List.all_eq_true.1 evB_all s.toNat (List.mem_range.2 (by omega))
  unfold evB at this
  rw [show ((s.toNat : Nat) : Int) = s from by omega] at this
  split at this
  · rename_i l hl
    simp only [Bool.and_eq_true, List.all_eq_true, decide_eq_true_eq] at this
    exact ⟨l, hl, fun x hx => this.2 x hx, riseB_iff this.1⟩
  · cases this
structure Mks (n : Nat) (ms : List Int) : Prop where
  rg : ∀ x ∈ ms, 0 ≤ x ∧ x < n
  so : ms.Pairwise (· < ·)
structure Eds (al : List Int) (N : Int) (i k : Nat) (es : List api_Edge) : Prop where
  rg : ∀ x ∈ es, 0 ≤ x.From ∧ 0 ≤ x.To ∧ x.To < N ∧ x.Event ∈ al ∧ (x.From < i ∨ x.From = i ∧ ∃ j : Nat, j < k ∧ al[j]? = some x.Event)
  so : es.Pairwise keyLt
  ln : es.length ≤ 5 * i + k
theorem Mks.up {n : Nat} {ms : List Int} (h : Mks n ms) : Mks (n + 1) ms := ⟨fun x hx => by have := h.rg x hx; omega, h.so⟩
theorem Mks.add {n : Nat} {ms : List Int} (h : Mks n ms) : Mks (n + 1) (ms ++ [(n : Int)]) := by
  refine ⟨fun x hx => ?_, ?_⟩
  · rcases List.mem_append.1 hx with hx | hx
    · have := h.rg x hx; omega
    · simp at hx; omega
  · rw [List.pairwise_append]
    exact ⟨h.so, by simp, fun x hx y hy => by simp at hy; have := h.rg x hx; omega⟩
theorem Mks.len {n : Nat} {ms : List Int} (h : Mks n ms) : ms.length ≤ n := by have := sorted_len h.so h.rg; simpa using this
section
variable {al : List Int} (hal : Evs al) {N : Int} {i k : Nat} {es : List api_Edge}
theorem Eds.up (h : Eds al N i k es) : Eds al N i (k + 1) es := ⟨fun x hx => by
  obtain ⟨h1, h2, h3, h4, h5⟩ := h.rg x hx
  refine ⟨h1, h2, h3, h4, ?_⟩
  rcases h5 with h5 | ⟨h5, j, h6, h7⟩
  · exact .inl h5
  · exact .inr ⟨h5, j, by omega, h7⟩, h.so, by have := h.ln; omega⟩
theorem Eds.next (h : Eds al N i k es) (hk : k ≤ 5) : Eds al N (i + 1) 0 es := ⟨fun x hx => by
  obtain ⟨h1, h2, h3, h4, h5⟩ := h.rg x hx
  exact ⟨h1, h2, h3, h4, .inl (by rcases h5 with h5 | ⟨h5, _⟩ <;> omega)⟩, h.so, by have := h.ln; omega⟩
include hal in
theorem Eds.add (h : Eds al N i k es) (hk : k < al.length) {t : Int} (ht : 0 ≤ t ∧ t < N) : Eds al N i (k + 1) (es ++ [⟨(i : Int), al[k], t⟩]) := by
  refine ⟨fun x hx => ?_, ?_, by have := h.ln; simp only [List.length_append, List.length_cons, List.length_nil]; omega⟩
  · rcases List.mem_append.1 hx with hx | hx
    · exact h.up.rg x hx
    · simp at hx; subst hx
      exact ⟨by simp only; omega, ht.1, ht.2, List.getElem_mem hk, .inr ⟨rfl, k, by omega, List.getElem?_eq_getElem hk⟩⟩
  · rw [List.pairwise_append]
    refine ⟨h.so, by simp, fun x hx y hy => ?_⟩
    simp at hy; subst hy
    obtain ⟨_, _, _, _, h5⟩ := h.rg x hx
    rcases h5 with h5 | ⟨h5, j, h6, h7⟩
    · exact .inl h5
    · refine .inr ⟨h5, ?_⟩
      obtain ⟨h8, h9⟩ := List.getElem?_eq_some_iff.1 h7
      rw [← h9]
      exact List.pairwise_iff_getElem.1 hal.so j k h8 hk h6
end
structure GraphW (g : overseerlaw03_Graph) : Prop where
  st : 0 ≤ g.States ∧ g.States < 256
  to : ∀ x ∈ [g.To.1.1, g.To.1.2.1, g.To.1.2.2.1, g.To.1.2.2.2.1, g.To.1.2.2.2.2, g.To.2.1.1, g.To.2.1.2.1, g.To.2.1.2.2.1, g.To.2.1.2.2.2.1, g.To.2.1.2.2.2.2, g.To.2.2.1.1, g.To.2.2.1.2.1, g.To.2.2.1.2.2.1, g.To.2.2.1.2.2.2.1, g.To.2.2.1.2.2.2.2, g.To.2.2.2.1.1, g.To.2.2.2.1.2.1, g.To.2.2.2.1.2.2.1, g.To.2.2.2.1.2.2.2.1, g.To.2.2.2.1.2.2.2.2, g.To.2.2.2.2.1, g.To.2.2.2.2.2.1, g.To.2.2.2.2.2.2.1, g.To.2.2.2.2.2.2.2.1, g.To.2.2.2.2.2.2.2.2], 0 ≤ x ∧ x < 256
theorem make_row {al : List Int} (hal : Evs al) (fuel : Nat) (hfu : 1099511627776 ≤ fuel) {L : List Int} (hL : L.length = 25) (hL2 : ∀ x ∈ L, 0 ≤ x ∧ x < 256) {N : Int} (hN : 1 ≤ N ∧ N ≤ 5) {i : Nat} (hi : (i : Int) < N) {ms : List Int} {es : List api_Edge} (hes : Eds al N i 0 es) :
    ∃ es', Eds al N (i + 1) 0 es' ∧ iterF (fun (k25 : Int × List api_Edge → Option (List Int × List api_Edge)) ((k23, a24) : Int × (List api_Edge)) => (((if (k23 < (al.length : Int)) then some (decide (k23 < 5)) else some false)).bind fun (x27 : Bool) => (if x27 then ((((inO 5 (i : Int)).bind fun _ => ((inO 5 k23).bind fun _ => ((rowO L (Int.toNat (i : Int) * 5 + Int.toNat k23 * 1)).bind fun x31 => ((remO .i64 (IntKind.wrap .i64 x31) (IntKind.wrap .i64 (N + 2))).bind fun s33 => (if (s33 < N) then ((getO al k23).bind fun x36 => ((appO a24 [(api_Edge.mk (i : Int) x36 s33)]).bind fun x38 => some x38)) else some a24)))))).bind fun (a40 : List api_Edge) => k25 ((IntKind.wrap .i64 (k23 + 1)), a40)) else some (ms, a24)))) fuel (0, es) = some (ms, es') := by
  have hl := hal.len
  have := iterF_rule (F := fun (k25 : Int × List api_Edge → Option (List Int × List api_Edge)) ((k23, a24) : Int × (List api_Edge)) => (((if (k23 < (al.length : Int)) then some (decide (k23 < 5)) else some false)).bind fun (x27 : Bool) => (if x27 then ((((inO 5 (i : Int)).bind fun _ => ((inO 5 k23).bind fun _ => ((rowO L (Int.toNat (i : Int) * 5 + Int.toNat k23 * 1)).bind fun x31 => ((remO .i64 (IntKind.wrap .i64 x31) (IntKind.wrap .i64 (N + 2))).bind fun s33 => (if (s33 < N) then ((getO al k23).bind fun x36 => ((appO a24 [(api_Edge.mk (i : Int) x36 s33)]).bind fun x38 => some x38)) else some a24)))))).bind fun (a40 : List api_Edge) => k25 ((IntKind.wrap .i64 (k23 + 1)), a40)) else some (ms, a24))))
    (fun x => ∃ k : Nat, x.1 = (k : Int) ∧ k ≤ al.length ∧ Eds al N i k x.2) (fun x => al.length - x.1.toNat) (fun _ r => ∃ es', r = some (ms, es') ∧ Eds al N (i + 1) 0 es') (by
      rintro kk ⟨k, es⟩ ⟨k, rfl, hk, he⟩ ih
      replace he : Eds al N i k es := he
      replace hk : k ≤ al.length := hk
      dsimp only
      by_cases hlt : k < al.length
      · rw [if_pos (by omega)]
        simp only [Option.bind_some, show decide ((k : Int) < 5) = true from by simp; omega, if_true]
        rw [show inO 5 (i : Int) = some () from by unfold inO; rw [if_pos (by omega)], show inO 5 (k : Int) = some () from by unfold inO; rw [if_pos (by omega)]]
        simp only [Option.bind_some, Int.toNat_natCast]
        have hidx : i * 5 + k * 1 < L.length := by omega
        have hx := hL2 _ (List.getElem_mem hidx)
        rw [show rowO L (i * 5 + k * 1) = some L[i * 5 + k * 1] from by unfold rowO; exact List.getElem?_eq_getElem hidx]
        simp only [Option.bind_some]
        rw [wrap_id (x := L[i * 5 + k * 1]) (by omega) (by omega), wrap_id (x := N + 2) (by omega) (by omega), show remO .i64 L[i * 5 + k * 1] (N + 2) = some (L[i * 5 + k * 1].tmod (N + 2)) from by unfold remO; rw [if_neg (by omega)]]
        simp only [Option.bind_some]
        have hmod : 0 ≤ L[i * 5 + k * 1].tmod (N + 2) := Int.tmod_nonneg _ hx.1
        have hln := he.ln
        by_cases hm : L[i * 5 + k * 1].tmod (N + 2) < N
        · rw [if_pos hm, getO_nat hlt]
          simp only [Option.bind_some]
          rw [appO_some (by simp only [List.length_cons, List.length_nil]; unfold lim; omega)]
          simp only [Option.bind_some]
          rw [wrap_succ (by omega)]
          exact ih _ ⟨k + 1, rfl, hlt, he.add hal hlt ⟨hmod, hm⟩⟩ (by simp only; omega)
        · rw [if_neg hm]
          simp only [Option.bind_some]
          rw [wrap_succ (by omega)]
          exact ih _ ⟨k + 1, rfl, hlt, he.up⟩ (by simp only; omega)
      · rw [if_neg (by omega)]
        exact ⟨es, rfl, he.next (by omega)⟩) fuel (0, es) ⟨0, rfl, Nat.zero_le _, hes⟩ (by simp only; omega)
  obtain ⟨es', h1, h2⟩ := this
  exact ⟨es', h2, h1⟩
theorem empty_right {al : List Int} (hal : Evs al) : Right ⟨al, 0, [], []⟩ :=
  ⟨fun x hx => by have := hal.rg x hx; omega, hal.so, ⟨by simp, by simp⟩, by simp, .nil, by simp, .nil⟩
theorem make_ok {al : List Int} (hal : Evs al) {g : overseerlaw03_Graph} (hg : GraphW g) : ∃ m, Right m ∧ m.Alphabet = al ∧ g_overseerlaw03_Make al g = some (canonP m) ∧ m.States ≤ 5 := by
  have hl := hal.len
  obtain ⟨hst, hto⟩ := hg
  unfold g_overseerlaw03_Make f_overseerlaw03_Make
  obtain ⟨fuel, hfu, hge⟩ : ∃ f, fuel0 = f ∧ 1099511627776 ≤ f := ⟨_, rfl, Nat.le_refl _⟩
  rw [hfu, empty_ok (by unfold lim; omega)]
  simp only [Option.bind_some]
  by_cases h250 : g.States ≥ 250
  · rw [if_pos h250]
    exact ⟨⟨al, 0, [], []⟩, empty_right hal, rfl, rfl, by simp⟩
  rw [if_neg h250]
  have hL : [g.To.1.1, g.To.1.2.1, g.To.1.2.2.1, g.To.1.2.2.2.1, g.To.1.2.2.2.2, g.To.2.1.1, g.To.2.1.2.1, g.To.2.1.2.2.1, g.To.2.1.2.2.2.1, g.To.2.1.2.2.2.2, g.To.2.2.1.1, g.To.2.2.1.2.1, g.To.2.2.1.2.2.1, g.To.2.2.1.2.2.2.1, g.To.2.2.1.2.2.2.2, g.To.2.2.2.1.1, g.To.2.2.2.1.2.1, g.To.2.2.2.1.2.2.1, g.To.2.2.2.1.2.2.2.1, g.To.2.2.2.1.2.2.2.2, g.To.2.2.2.2.1, g.To.2.2.2.2.2.1, g.To.2.2.2.2.2.2.1, g.To.2.2.2.2.2.2.2.1, g.To.2.2.2.2.2.2.2.2].length = 25 := rfl
  generalize [g.To.1.1, g.To.1.2.1, g.To.1.2.2.1, g.To.1.2.2.2.1, g.To.1.2.2.2.2, g.To.2.1.1, g.To.2.1.2.1, g.To.2.1.2.2.1, g.To.2.1.2.2.2.1, g.To.2.1.2.2.2.2, g.To.2.2.1.1, g.To.2.2.1.2.1, g.To.2.2.1.2.2.1, g.To.2.2.1.2.2.2.1, g.To.2.2.1.2.2.2.2, g.To.2.2.2.1.1, g.To.2.2.2.1.2.1, g.To.2.2.2.1.2.2.1, g.To.2.2.2.1.2.2.2.1, g.To.2.2.2.1.2.2.2.2, g.To.2.2.2.2.1, g.To.2.2.2.2.2.1, g.To.2.2.2.2.2.2.1, g.To.2.2.2.2.2.2.2.1, g.To.2.2.2.2.2.2.2.2] = L at hto hL ⊢
  have hmod : 0 ≤ g.States.tmod 5 ∧ g.States.tmod 5 < 5 := ⟨Int.tmod_nonneg _ hst.1, Int.tmod_lt_of_pos _ (by omega)⟩
  have hN : 1 ≤ IntKind.wrap .i64 (1 + (IntKind.wrap .i64 (Int.tmod g.States 5))) ∧ IntKind.wrap .i64 (1 + (IntKind.wrap .i64 (Int.tmod g.States 5))) ≤ 5 := by
    rw [wrap_id (x := g.States.tmod 5) (by omega) (by omega), wrap_id (by omega) (by omega)]; omega
  generalize IntKind.wrap .i64 (1 + (IntKind.wrap .i64 (Int.tmod g.States 5))) = N at hN ⊢
  have hloop := iterF_rule (F := (fun (k15 : Int × List Int × List Int × List api_Edge × Int × List Int × List api_Edge → Option (List Int × List Int × List api_Edge × Int × List Int × List api_Edge)) ((i8, c9, c10, c11, a12, a13, a14) : Int × (List Int) × (List Int) × (List api_Edge) × Int × (List Int) × (List api_Edge)) => (if (i8 < a12) then ((((((shrO .u8 g.Marks i8).bind fun s17 => (if ((andI .u8 s17 1) == 1) then ((appO a13 [i8]).bind fun x20 => some x20) else some a13))).bind fun (a22 : List Int) => iterF (fun k25 ((k23, a24) : Int × (List api_Edge)) => (((if (k23 < (al.length : Int)) then some (decide (k23 < 5)) else some false)).bind fun (x27 : Bool) => (if x27 then ((((inO 5 i8).bind fun _ => ((inO 5 k23).bind fun _ => ((rowO L (Int.toNat i8 * 5 + Int.toNat k23 * 1)).bind fun x31 => ((remO .i64 (IntKind.wrap .i64 x31) (IntKind.wrap .i64 (a12 + 2))).bind fun s33 => (if (s33 < a12) then ((getO al k23).bind fun x36 => ((appO a24 [(api_Edge.mk i8 x36 s33)]).bind fun x38 => some x38)) else some a24)))))).bind fun (a40 : List api_Edge) => k25 ((IntKind.wrap .i64 (k23 + 1)), a40)) else some (a22, a24)))) fuel (0, a14))).bind fun ((a41, a42) : (List Int) × (List api_Edge)) => k15 ((IntKind.wrap .i64 (i8 + 1)), c9, c10, c11, a12, a41, a42)) else some (c9, c10, c11, a12, a13, a14))))
    (fun x => ∃ (i : Nat) (ms : List Int) (es : List api_Edge), x = ((i : Int), [], [], [], N, ms, es) ∧ (i : Int) ≤ N ∧ Mks i ms ∧ Eds al N i 0 es) (fun x => (N - x.1).toNat)
    (fun _ r => ∃ (i : Nat) (ms : List Int) (es : List api_Edge), r = some ([], [], [], N, ms, es) ∧ (i : Int) = N ∧ Mks i ms ∧ Eds al N i 0 es) (by
      rintro k _ ⟨i, ms, es, rfl, hi, hm, he⟩ ih
      dsimp only
      by_cases hlt : (i : Int) < N
      · rw [if_pos hlt, show shrO .u8 g.Marks (i : Int) = some (g.Marks.fdiv (2 ^ (min (Int.toNat (i : Int)) (IntKind.bits .u8)))) from by unfold shrO; rw [if_neg (by omega)]]
        simp only [Option.bind_some]
        have hml := hm.len
        by_cases hb : (andI .u8 (g.Marks.fdiv (2 ^ (min (Int.toNat (i : Int)) (IntKind.bits .u8)))) 1 == 1) = true
        · rw [if_pos hb, appO_some (by simp only [List.length_cons, List.length_nil]; unfold lim; omega)]
          simp only [Option.bind_some]
          obtain ⟨es', h1, h2⟩ := make_row hal fuel hge hL hto hN hlt (ms := ms ++ [(i : Int)]) he
          rw [h2]
          simp only [Option.bind_some]
          rw [wrap_succ (by omega)]
          exact ih _ ⟨i + 1, _, _, rfl, by omega, hm.add, h1⟩ (by simp only; omega)
        · rw [if_neg hb]
          simp only [Option.bind_some]
          obtain ⟨es', h1, h2⟩ := make_row hal fuel hge hL hto hN hlt (ms := ms) he
          rw [h2]
          simp only [Option.bind_some]
          rw [wrap_succ (by omega)]
          exact ih _ ⟨i + 1, _, _, rfl, by omega, hm.up, h1⟩ (by simp only; omega)
      · rw [if_neg hlt]
        exact ⟨i, ms, es, rfl, by omega, hm, he⟩) fuel (0, [], [], [], N, [], []) ⟨0, [], [], rfl, by omega, ⟨by simp, .nil⟩, ⟨by simp, .nil, by simp⟩⟩ (by simp only; omega)
  obtain ⟨i, ms, es, h1, h2, h3, h4⟩ := hloop
  rw [h1]
  simp only [Option.bind_some]
  have hr : Right ⟨al, N, ms, es⟩ := ⟨fun x hx => by have := hal.rg x hx; omega, hal.so, ⟨by simp only; omega, by simp only; omega⟩, fun x hx => by have := h3.rg x hx; simp only; omega, h3.so, fun x hx => by
    obtain ⟨k1, k2, k3, k4, k5⟩ := h4.rg x hx
    refine ⟨k1, ?_, k2, k3, k4⟩
    rcases k5 with k5 | ⟨_, j, k6, _⟩
    · simp only; omega
    · omega, h4.so⟩
  rw [refCanonical_ok hr]
  exact ⟨_, hr, rfl, rfl, by simp only; omega⟩
end Go.Abs
end
section
namespace Go.Proofs
open Go Go.Abs
theorem wf_u8 {x : Int} (h : wfI .u8 x) : 0 ≤ x ∧ x < 256 := by
  unfold wfI at h
  simp [Lit.wf, IntKind.min, IntKind.max, IntKind.bits, IntKind.signed] at h
  omega
theorem graph_wf {g : overseerlaw03_Graph} (h : W_26 g) : GraphW g := by
  unfold W_26 W_24 W_23 W_5 at h
  obtain ⟨h1, h2, ⟨a1, a2, a3, a4, a5⟩, ⟨b1, b2, b3, b4, b5⟩, ⟨c1, c2, c3, c4, c5⟩, ⟨d1, d2, d3, d4, d5⟩, ⟨e1, e2, e3, e4, e5⟩⟩ := h
  refine ⟨wf_u8 h1, fun x hx => ?_⟩
  simp only [List.mem_cons, List.not_mem_nil, or_false] at hx
  rcases hx with rfl | rfl | rfl | rfl | rfl | rfl | rfl | rfl | rfl | rfl | rfl | rfl | rfl | rfl | rfl | rfl | rfl | rfl | rfl | rfl | rfl | rfl | rfl | rfl | rfl <;> exact wf_u8 (by assumption)
end Go.Proofs
end
section
namespace Go.Abs
open Go
set_option linter.unusedSimpArgs false
set_option linter.unusedVariables false
def runP (a : api_Automaton) : Int → Nat → List Int → Int × Int
  | s, n, [] => (s, n)
  | s, n, e :: w => if 0 ≤ stepP a s e then runP a (stepP a s e) (n + 1) w else (s, n)
section
variable {a : api_Automaton} (h : Right a)
include h
theorem refRun_ok {s : Int} {w : List Int} (hw : w.length < big) : g_overseerref03_Run a s w = some (runP a s 0 w) := by
  have hs := h.small.1
  have hb : w.length < 1000000000000 := hw
  unfold g_overseerref03_Run f_overseerref03_Run
  obtain ⟨fuel, hfu, hge⟩ : ∃ f, fuel0 = f ∧ 1099511627776 ≤ f := ⟨_, rfl, Nat.le_refl _⟩
  rw [hfu]
  refine (iterF_inv (len := w.length) (fun n (s : Int) => (s, (n : Int))) (fun n s => True) (fun n s => some (runP a s n (w.drop n))) ?_ ?_ fuel 0 s (Nat.zero_le _) (by omega) trivial).trans (by simp)
  · intro k n s hn _ ih
    dsimp only
    rw [if_pos (by omega), getO_nat hn]
    simp only [Option.bind_some]
    rw [refStep_ok hs]
    simp only [Option.bind_some]
    rw [List.drop_eq_getElem_cons hn, runP]
    by_cases hr : 0 ≤ stepP a s w[n]
    · rw [if_neg (by omega), if_pos hr, wrap_succ (by omega)]
      exact ih _ trivial
    · rw [if_pos (by omega), if_neg hr]
  · intro k s _
    dsimp only
    rw [if_neg (by omega)]; simp [runP]
def genP (a : api_Automaton) (w : List Int) : Bool := decide (0 < a.States) && (runP a 0 0 w).2 == (w.length : Int)
def accP (a : api_Automaton) (w : List Int) : Bool := genP a w && decide ((runP a 0 0 w).1 ∈ a.Marked)
theorem refAccepts_ok {w : List Int} (hw : w.length < big) : g_overseerref03_Accepts a w = some (accP a w) := by
  have hst := h.st
  unfold g_overseerref03_Accepts f_overseerref03_Accepts
  rw [refRun_ok h hw]
  unfold accP genP
  by_cases h0 : a.States > 0
  · have hp : 0 < a.States := h0
    simp only [Option.bind_some, h0, if_true, hp, decide_true, Bool.true_and]
    rw [has_ok h.small.1.2.1]
    by_cases hq : (runP a 0 0 w).2 = (w.length : Int) <;> simp [hq]
  · have hp : ¬ 0 < a.States := h0
    simp [hp]
end
end Go.Abs
end
section
namespace Go.Abs
open Go
set_option linter.unusedSimpArgs false
set_option linter.unusedVariables false
theorem clone_ok {l : List Int} (hl : l.length ≤ lim) : g_slices_Clone_int l = some l := by
  unfold g_slices_Clone_int f_slices_Clone_int
  rw [appO_some (by simpa using hl)]
  cases l <;> simp [nilO]
structure Num (a : api_Automaton) (o num : List Int) : Prop where
  len : num.length = a.States.toNat
  at1 : ∀ s : Nat, s < a.States.toNat → num[s]? = some (if (s : Int) ∈ o then (o.idxOf (s : Int) : Int) else -1)
theorem Num.set {a : api_Automaton} {o num : List Int} (h : Num a o num) {t : Int} (ht : 0 ≤ t ∧ t < a.States) (hn : t ∉ o) : ∃ num', setO num t (o.length : Int) = some num' ∧ Num a (o ++ [t]) num' := by
  refine ⟨num.set t.toNat (o.length : Int), by unfold setO; rw [if_pos ⟨ht.1, by rw [h.len]; omega⟩], by rw [List.length_set]; exact h.len, fun s hs => ?_⟩
  rw [List.getElem?_set]
  by_cases he : t.toNat = s
  · subst he
    rw [if_pos rfl, if_pos (by rw [h.len]; omega), show ((t.toNat : Nat) : Int) = t from by omega, if_pos (by simp), List.idxOf_append, if_neg hn]
    simp
  · rw [if_neg he, h.at1 s hs]
    have hne : (s : Int) ≠ t := by omega
    by_cases hm : (s : Int) ∈ o
    · rw [if_pos hm, if_pos (by simp [hm]), List.idxOf_append, if_pos hm]
    · rw [if_neg hm, if_neg (by simp [hm, hne])]
section
variable {a : api_Automaton} (h : Right a)
include h
end
end Go.Abs
end
section
namespace Go.Abs
open Go
set_option linter.unusedSimpArgs false
set_option linter.unusedVariables false
def kids (a : api_Automaton) (x : automaton_found) : List automaton_found := (outP a x.state_).map fun e => ⟨x.word_ ++ [e.Event], e.To⟩
def wq (a : api_Automaton) (most : Int) : Nat → Nat → List automaton_found → Option (List automaton_found)
  | 0, _, all => some all
  | fuel + 1, i, all => match all[i]? with
    | none => some all
    | some x => if (x.word_.length : Int) = most then some all else if (all ++ kids a x).length > 1024 then none else wq a most fuel (i + 1) (all ++ kids a x)
theorem outP_len {a : api_Automaton} (h : Right a) (s : Int) : (outP a s).length ≤ a.Alphabet.length := by
  have := congrArg List.length (outP_events h s)
  rw [List.length_map] at this
  rw [this]; exact List.length_filter_le _ _
section
variable {a : api_Automaton} (h : Right a)
include h
theorem kids_loop (fuel : Nat) (hfu : 1099511627776 ≤ fuel) {all : List automaton_found} {i : Nat} {x : automaton_found} (hx : all[i]? = some x) (hall : all.length ≤ 2000) (hw : x.word_.length ≤ 2000) :
    iterF (fun k24 ((all22, x23) : (List automaton_found) × Int) => (if (x23 < ((outP a x.state_).length : Int)) then ((getO (outP a x.state_) x23).bind fun x26 => ((getO all22 (i : Int)).bind fun x28 => ((g_slices_Clone_int x28.word_).bind fun x31 => ((appO x31 [x26.Event]).bind fun x32 => ((appO all22 [(automaton_found.mk x32 x26.To)]).bind fun x34 => k24 (x34, (IntKind.wrap .i64 (x23 + 1)))))))) else some all22)) fuel (all, 0) = some (all ++ kids a x) := by
  have hl := outP_len h x.state_
  have hsm := h.small.2.1
  refine (iterF_inv (len := (outP a x.state_).length) (fun n (acc : List automaton_found) => (acc, (n : Int))) (fun n acc => acc = all ++ ((outP a x.state_).take n).map fun e => ⟨x.word_ ++ [e.Event], e.To⟩) (fun n acc => some (all ++ kids a x)) ?_ ?_ fuel 0 all (Nat.zero_le _) (by omega) (by simp))
  · intro k n acc hn hi ih
    subst hi
    dsimp only
    have hg : getO (all ++ ((outP a x.state_).take n).map fun e => (⟨x.word_ ++ [e.Event], e.To⟩ : automaton_found)) (i : Int) = some x := by
      rw [getO_some]
      refine ⟨by omega, ?_⟩
      have := (List.getElem?_eq_some_iff.1 hx).1
      rw [Int.toNat_natCast, List.getElem?_append_left this]; exact hx
    rw [if_pos (by omega), getO_nat hn]
    simp only [Option.bind_some]
    rw [hg]
    simp only [Option.bind_some]
    rw [clone_ok (by unfold lim; omega)]
    simp only [Option.bind_some]
    rw [appO_some (by simp only [List.length_cons, List.length_nil]; unfold lim; omega)]
    simp only [Option.bind_some]
    rw [appO_some (by simp only [List.length_cons, List.length_nil, List.length_append, List.length_map, List.length_take]; unfold lim; omega)]
    simp only [Option.bind_some]
    rw [wrap_succ (by omega)]
    refine ih _ ?_
    rw [List.take_succ_eq_append_getElem hn, List.map_append, List.append_assoc]; rfl
  · intro k acc hi
    subst hi
    dsimp only
    rw [if_neg (by omega), List.take_length]; rfl
theorem kids_word {x y : automaton_found} (hy : y ∈ kids a x) : y.word_.length = x.word_.length + 1 := by
  obtain ⟨e, _, rfl⟩ := List.mem_map.1 hy
  simp
theorem kids_state {x y : automaton_found} (hy : y ∈ kids a x) : 0 ≤ y.state_ ∧ y.state_ < a.States := by
  obtain ⟨e, he, rfl⟩ := List.mem_map.1 hy
  unfold outP at he
  have := h.ed0 e (List.mem_filter.1 he).1
  simp only; omega
structure QOk (a : api_Automaton) (i : Nat) (all : List automaton_found) : Prop where
  le : i ≤ all.length
  ln : all.length ≤ 1024
  wl : ∀ x ∈ all, x.word_.length ≤ i
  sr : ∀ x ∈ all, 0 ≤ x.state_ ∧ x.state_ < a.States
theorem QOk.next {i : Nat} {all : List automaton_found} (q : QOk a i all) {x : automaton_found} (hx : all[i]? = some x) (hl : (all ++ kids a x).length ≤ 1024) : QOk a (i + 1) (all ++ kids a x) := by
  have hi := (List.getElem?_eq_some_iff.1 hx).1
  have hm := List.mem_of_getElem? hx
  refine ⟨by simp only [List.length_append]; omega, hl, fun y hy => ?_, fun y hy => ?_⟩
  · rcases List.mem_append.1 hy with hy | hy
    · have := q.wl y hy; omega
    · have := kids_word h hy; have := q.wl x hm; omega
  · rcases List.mem_append.1 hy with hy | hy
    · exact q.sr y hy
    · exact kids_state h hy
def chosen (a : api_Automaton) (marked : Bool) (all : List automaton_found) : List (List Int) := (all.filter fun x => !marked || decide (x.state_ ∈ a.Marked)).map (·.word_)
theorem choose_loop (fuel : Nat) (hfu : 1099511627776 ≤ fuel) (marked : Bool) {all : List automaton_found} (hall : all.length ≤ 2000) (hw : ∀ x ∈ all, x.word_.length ≤ 2000) :
    ((iterF (fun k41 ((l39, x40) : (List (List Int)) × Int) => (if (x40 < (all.length : Int)) then ((((getO all x40).bind fun x43 => (((if marked then ((g_slices_Contains_int a.Marked x43.state_).bind fun x47 => some x47) else some true)).bind fun (x48 : Bool) => (if x48 then ((appO [] x43.word_).bind fun x50 => ((appO l39 [x50]).bind fun x52 => some (x52, x43.word_, x43.state_))) else some (l39, x43.word_, x43.state_))))).bind fun ((l54, c55, c56) : (List (List Int)) × (List Int) × Int) => k41 (l54, (IntKind.wrap .i64 (x40 + 1)))) else some l39)) fuel ([], 0)).bind fun (l57 : List (List Int)) => some (l57, (0 : Int))) = some (chosen a marked all, 0) := by
  have hsm := h.small.1
  have := select_ok (l := all) (f := fun x => if (!marked || decide (x.state_ ∈ a.Marked)) = true then some x.word_ else none) (fuel := fuel) (F := fun k41 ((l39, x40) : (List (List Int)) × Int) => (if (x40 < (all.length : Int)) then ((((getO all x40).bind fun x43 => (((if marked then ((g_slices_Contains_int a.Marked x43.state_).bind fun x47 => some x47) else some true)).bind fun (x48 : Bool) => (if x48 then ((appO [] x43.word_).bind fun x50 => ((appO l39 [x50]).bind fun x52 => some (x52, x43.word_, x43.state_))) else some (l39, x43.word_, x43.state_))))).bind fun ((l54, c55, c56) : (List (List Int)) × (List Int) × Int) => k41 (l54, (IntKind.wrap .i64 (x40 + 1)))) else some l39)) (by unfold big; omega) (by omega) (by
    intro k acc n hn hacc
    dsimp only
    have hwl := hw _ (List.getElem_mem hn)
    rw [if_pos (by omega), getO_nat hn]
    simp only [Option.bind_some]
    rw [contains_ok hsm.2.1]
    have hb : (if marked = true then (some (decide (all[n].state_ ∈ a.Marked))).bind (fun x47 => some x47) else some true) = some (!marked || decide (all[n].state_ ∈ a.Marked)) := by cases marked <;> rfl
    rw [hb]
    simp only [Option.bind_some]
    by_cases hc : (!marked || decide (all[n].state_ ∈ a.Marked)) = true
    · rw [if_pos hc, if_pos hc, appO_some (by simp only [List.length_nil]; unfold lim; omega)]
      simp only [Option.bind_some, List.nil_append]
      rw [appO_some (by simp only [List.length_cons, List.length_nil]; unfold lim; omega)]; rfl
    · rw [if_neg hc, if_neg hc]; simp) (by
    intro k acc
    dsimp only
    rw [if_neg (by omega)])
  refine (congrArg (fun w => Option.bind w _) this).trans ?_
  rw [Option.bind_some]
  congr 2
  unfold chosen
  generalize all = l
  induction l with
  | nil => rfl
  | cons x l ih =>
    by_cases hc : (!marked || decide (x.state_ ∈ a.Marked)) = true
    · rw [List.filterMap_cons, List.filter_cons, if_pos hc, if_pos hc, ih]; rfl
    · rw [List.filterMap_cons, List.filter_cons, if_neg hc, if_neg hc, ih]
theorem words_loop (marked : Bool) (most : Int) (fuel : Nat) (hfu : 1099511627776 ≤ fuel) (i : Nat) (all : List automaton_found) (q : QOk a i all) (J : List automaton_found → Option (List (List Int) × Int)) (hJ : ∀ all : List automaton_found, all.length ≤ 2000 → (∀ x ∈ all, x.word_.length ≤ 2000) → J all = some (chosen a marked all, 0)) :
    iterF (fun k13 ((all11, i12) : (List automaton_found) × Int) => (if (i12 < (all11.length : Int)) then ((getO all11 i12).bind fun x15 => (if ((x15.word_.length : Int) == most) then J all11 else ((((getO all11 i12).bind fun x18 => ((g_automaton_out a x18.state_).bind fun x21 => iterF (fun k24 ((all22, x23) : (List automaton_found) × Int) => (if (x23 < (x21.length : Int)) then ((getO x21 x23).bind fun x26 => ((getO all22 i12).bind fun x28 => ((g_slices_Clone_int x28.word_).bind fun x31 => ((appO x31 [x26.Event]).bind fun x32 => ((appO all22 [(automaton_found.mk x32 x26.To)]).bind fun x34 => k24 (x34, (IntKind.wrap .i64 (x23 + 1)))))))) else some all22)) fuel (all11, 0)))).bind fun (all36 : List automaton_found) => (if ((all36.length : Int) > 1024) then some ([], 3) else k13 (all36, (IntKind.wrap .i64 (i12 + 1))))))) else J all11)) fuel (all, (i : Int)) =
    some (match wq a most (1025 - i) i all with | none => ([], 3) | some all => (chosen a marked all, 0)) := by
  have hsm := h.small.1
  have hst := h.st
  have key := iterF_rule (F := (fun (k13 : List automaton_found × Int → Option (List (List Int) × Int)) ((all11, i12) : (List automaton_found) × Int) => (if (i12 < (all11.length : Int)) then ((getO all11 i12).bind fun x15 => (if ((x15.word_.length : Int) == most) then J all11 else ((((getO all11 i12).bind fun x18 => ((g_automaton_out a x18.state_).bind fun x21 => iterF (fun k24 ((all22, x23) : (List automaton_found) × Int) => (if (x23 < (x21.length : Int)) then ((getO x21 x23).bind fun x26 => ((getO all22 i12).bind fun x28 => ((g_slices_Clone_int x28.word_).bind fun x31 => ((appO x31 [x26.Event]).bind fun x32 => ((appO all22 [(automaton_found.mk x32 x26.To)]).bind fun x34 => k24 (x34, (IntKind.wrap .i64 (x23 + 1)))))))) else some all22)) fuel (all11, 0)))).bind fun (all36 : List automaton_found) => (if ((all36.length : Int) > 1024) then some ([], 3) else k13 (all36, (IntKind.wrap .i64 (i12 + 1))))))) else J all11)))
    (fun x => ∃ i : Nat, x.2 = (i : Int) ∧ QOk a i x.1) (fun x => 1025 - x.2.toNat) (fun x r => ∀ i : Nat, x.2 = (i : Int) → r = some (match wq a most (1025 - i) i x.1 with | none => ([], 3) | some all => (chosen a marked all, 0))) (by
      rintro k ⟨all, _⟩ ⟨i, rfl, q⟩ ih j hj
      replace q : QOk a i all := q
      obtain rfl : i = j := by have : (i : Int) = j := hj; omega
      have hfin : J all = some (chosen a marked all, 0) := hJ all (by have := q.ln; omega) fun x hx => by have := q.wl x hx; have := q.le; have := q.ln; omega
      have hle := q.le
      have hln := q.ln
      dsimp only
      rw [show 1025 - i = (1024 - i) + 1 from by omega]
      by_cases hlt : i < all.length
      · have hg := List.getElem?_eq_getElem hlt
        have hsr := q.sr _ (List.getElem_mem hlt)
        have hwl := q.wl _ (List.getElem_mem hlt)
        simp only [wq, hg]
        rw [if_pos (by omega), getO_nat hlt]
        simp only [Option.bind_some]
        by_cases hm : (all[i].word_.length : Int) = most
        · rw [if_pos (by simpa using hm), if_pos hm, hfin]
        · rw [if_neg (by simpa using hm), if_neg hm, out_ok h hsm (by omega) (by omega)]
          simp only [Option.bind_some]
          rw [kids_loop h fuel hfu hg (by omega) (by omega)]
          simp only [Option.bind_some]
          by_cases hb : (all ++ kids a all[i]).length > 1024
          · rw [if_pos (by omega), if_pos hb]
          · rw [if_neg (by omega), if_neg hb, wrap_succ (by omega)]
            have := ih (all ++ kids a all[i], ((i + 1 : Nat) : Int)) ⟨i + 1, rfl, q.next h hg (by omega)⟩ (by simp only; omega) (i + 1) rfl
            rw [this, show 1025 - (i + 1) = 1024 - i from by omega]
      · rw [if_neg (by omega), hfin]
        have : all[i]? = none := List.getElem?_eq_none_iff.2 (by omega)
        simp only [wq, this]) fuel (all, (i : Int)) ⟨i, rfl, q⟩ (by simp only; omega)
  exact key i rfl
theorem words_ok (most : Int) (marked : Bool) : g_automaton_Words a most marked = some (if most < 0 ∨ most > 4096 then ([], (2 : Int)) else if a.States = 0 then ([], 0) else match wq a most 1025 0 [⟨[], 0⟩] with | none => ([], 3) | some all => (chosen a marked all, 0)) := by
  have hst := h.st
  unfold g_automaton_Words f_automaton_Words
  obtain ⟨fuel, hfu, hge⟩ : ∃ f, fuel0 = f ∧ 1099511627776 ≤ f := ⟨_, rfl, Nat.le_refl _⟩
  rw [hfu, check_right h, Option.bind_some, if_neg (by simp)]
  by_cases h1 : most < 0 ∨ most > 4096
  · rw [if_pos h1]
    rcases h1 with h1 | h1
    · simp [h1]
    · rw [if_neg (by omega)]; simp [h1]
  · rw [if_neg h1, if_neg (by omega)]
    simp only [Option.bind_some, show decide (most > 4096) = false from by simp; omega, Bool.false_eq_true, if_false]
    by_cases h0 : a.States = 0
    · simp [h0]
    · rw [if_neg (by simpa using h0), if_neg h0]
      unfold letJ
      exact words_loop h marked most fuel hge 0 [⟨[], 0⟩] ⟨by simp, by simp, by simp, by simp; omega⟩ _ fun all h1 h2 => choose_loop h fuel hge marked h1 h2
end
end Go.Abs
end
section
namespace Go.Abs
open Go
theorem known_ok : g_overseerlaw03_known = some true := by kernel_rfl
theorem same_loop {α : Type} [DecidableEq α] {s t : List α} {ne : α → α → Bool} (hne : ∀ x y, ne x y = decide (x ≠ y)) (hl : s.length = t.length) (h : s.length < 1000000000000) :
    iterF (fun k5 (i4 : Int) => (if (i4 < (s.length : Int)) then ((getO s i4).bind fun x7 => ((getO t i4).bind fun x9 => (if ne x7 x9 then some false else k5 (IntKind.wrap .i64 (i4 + 1))))) else some true)) fuel0 0 = some (decide (s = t)) := by
  refine iterF_to (fun i : Int => ∃ n : Nat, i = n ∧ n ≤ s.length ∧ s.take n = t.take n) (fun i => s.length - i.toNat) _ ⟨0, rfl, by omega, by simp⟩ (by unfold fuel0; omega) ?_
  rintro k _ ⟨n, rfl, hn, he⟩ ih
  by_cases hlt : n < s.length
  · rw [if_pos (by omega), getO_nat hlt, getO_nat (by omega : n < t.length)]
    simp only [Option.bind_some, hne]
    by_cases hx : s[n] = t[n]
    · rw [if_neg (by simp [hx]), wrap_succ (by omega)]
      exact ih _ ⟨n + 1, rfl, by omega, take_eq_succ hlt (by omega) he hx⟩ (by omega)
    · rw [if_pos (by simp [hx])]
      have : s ≠ t := fun e => hx (by subst e; rfl)
      simp [this]
  · rw [if_neg (by omega)]
    have e : n = s.length := by omega
    have : s = t := by
      rw [e, List.take_length, hl, List.take_length] at he; exact he
    simp [this]
theorem equal_int {s t : List Int} (h : s.length < 1000000000000) : g_slices_Equal_int s t = some (decide (s = t)) := by
  unfold g_slices_Equal_int f_slices_Equal_int
  by_cases hl : s.length = t.length
  · rw [if_neg (by simp [hl])]
    exact same_loop (ne := fun x y => x != y) (fun x y => by rw [Bool.eq_iff_iff]; simp) hl h
  · rw [if_pos (by simp; omega)]
    have : s ≠ t := fun e => hl (by rw [e])
    simp [this]
theorem sameInts {s t : List Int} (h : s.length < 1000000000000) : g_overseerref03_SameInts s t = some (decide (s = t)) := equal_int h
end Go.Abs
end
section
namespace Go.Abs
open Go
set_option linter.unusedSimpArgs false
set_option linter.unusedVariables false
def wt : Nat → Nat
  | 0 => 781
  | 1 => 156
  | 2 => 31
  | 3 => 6
  | _ => 1
theorem wt_step {l : Nat} (h : l < 4) : wt l = 1 + 5 * wt (l + 1) := by
  match l, h with
  | 0, _ => rfl
  | 1, _ => rfl
  | 2, _ => rfl
  | 3, _ => rfl
theorem wt_pos : ∀ l, 1 ≤ wt l
  | 0 => by decide
  | 1 => by decide
  | 2 => by decide
  | 3 => by decide
  | _ + 4 => Nat.le_refl 1
def wsum (l : List automaton_found) : Nat := (l.map fun x => wt x.word_.length).sum
theorem wsum_ge : ∀ l : List automaton_found, l.length ≤ wsum l
  | [] => Nat.le_refl _
  | x :: l => by
    have := wsum_ge l
    have := wt_pos x.word_.length
    unfold wsum at *
    simp only [List.map_cons, List.sum_cons, List.length_cons]; omega
theorem wsum_append (l m : List automaton_found) : wsum (l ++ m) = wsum l + wsum m := by simp [wsum]
theorem wsum_const {n : Nat} : ∀ l : List automaton_found, (∀ x ∈ l, x.word_.length = n) → wsum l = l.length * wt n
  | [], _ => by simp [wsum]
  | x :: l, h => by
    have ih := wsum_const l fun y hy => h y (by simp [hy])
    unfold wsum at *
    simp only [List.map_cons, List.sum_cons, List.length_cons, h x (by simp), ih, Nat.succ_mul]; omega
theorem runP_snoc {a : api_Automaton} {e : Int} : ∀ (w : List Int) (s t : Int) (n : Nat), runP a s n w = (t, ((n + w.length : Nat) : Int)) → runP a s n (w ++ [e]) = if 0 ≤ stepP a t e then (stepP a t e, ((n + w.length + 1 : Nat) : Int)) else (t, ((n + w.length : Nat) : Int))
  | [], s, t, n, h => by
    simp only [runP, Prod.mk.injEq] at h
    obtain ⟨rfl, _⟩ := h
    simp [runP]
  | x :: w, s, t, n, h => by
    simp only [List.cons_append, runP] at h ⊢
    by_cases h0 : 0 ≤ stepP a s x
    · rw [if_pos h0] at h ⊢
      have := runP_snoc (e := e) w (stepP a s x) t (n + 1) (by rw [h]; simp only [List.length_cons]; congr 2; omega)
      rw [this]
      simp only [List.length_cons]
      rw [show n + 1 + w.length = n + (w.length + 1) from by omega]
    · rw [if_neg h0] at h
      have := (Prod.mk.inj h).2
      simp only [List.length_cons] at this; omega
section
variable {a : api_Automaton} (h : Right a) (h5 : a.Alphabet.length ≤ 5) {most : Nat} (h4 : most ≤ 4)
structure QW (a : api_Automaton) (most i : Nat) (all : List automaton_found) : Prop extends QOk a i all where
  ml : ∀ x ∈ all, x.word_.length ≤ most
  rn : ∀ x ∈ all, runP a 0 0 x.word_ = (x.state_, (x.word_.length : Int))
  ws : i + wsum (all.drop i) ≤ 781
include h h5 h4
theorem QW.next {i : Nat} {all : List automaton_found} (q : QW a most i all) {x : automaton_found} (hx : all[i]? = some x) (hm : x.word_.length ≠ most) : QW a most (i + 1) (all ++ kids a x) ∧ (all ++ kids a x).length ≤ 1024 := by
  obtain ⟨hi, hxi⟩ := List.getElem?_eq_some_iff.1 hx
  have hmem := List.mem_of_getElem? hx
  have hml := q.ml x hmem
  have hkl : (kids a x).length ≤ 5 := by
    have := outP_len h x.state_
    simp only [kids, List.length_map]; omega
  have hws := q.ws
  rw [List.drop_eq_getElem_cons hi, hxi] at hws
  have e1 : wsum (x :: all.drop (i + 1)) = wt x.word_.length + wsum (all.drop (i + 1)) := by simp [wsum]
  rw [e1, wt_step (by omega)] at hws
  have hk := wsum_const (n := x.word_.length + 1) (kids a x) fun y hy => kids_word h hy
  have hd : (all ++ kids a x).drop (i + 1) = all.drop (i + 1) ++ kids a x := by rw [List.drop_append_of_le_length (by omega)]
  have hmul : (kids a x).length * wt (x.word_.length + 1) ≤ 5 * wt (x.word_.length + 1) := Nat.mul_le_mul_right _ hkl
  have hws' : i + 1 + wsum ((all ++ kids a x).drop (i + 1)) ≤ 781 := by rw [hd, wsum_append, hk]; omega
  have hlen : (all ++ kids a x).length ≤ 1024 := by
    have := wsum_ge ((all ++ kids a x).drop (i + 1))
    rw [List.length_drop] at this; omega
  refine ⟨⟨q.toQOk.next h hx hlen, fun y hy => ?_, fun y hy => ?_, hws'⟩, hlen⟩
  · rcases List.mem_append.1 hy with hy | hy
    · exact q.ml y hy
    · have := kids_word h hy; omega
  · rcases List.mem_append.1 hy with hy | hy
    · exact q.rn y hy
    · obtain ⟨e, he, rfl⟩ := List.mem_map.1 hy
      have hr := q.rn x hmem
      have hse := outP_step h he
      have he2 : 0 ≤ e.To := by unfold outP at he; exact (h.ed0 e (List.mem_filter.1 he).1).2.2.1
      have := runP_snoc (a := a) (e := e.Event) x.word_ 0 x.state_ 0 (by rw [hr]; simp)
      rw [hse, if_pos he2] at this
      simp only
      rw [this]; simp
theorem refKids_loop (fuel : Nat) (hfu : 1099511627776 ≤ fuel) {all : List automaton_found} {i : Nat} {x : automaton_found} (hx : all[i]? = some x) (hall : all.length ≤ 2000) (hw : x.word_.length ≤ 2000) (k10 : List (List Int) × Int → Option (List (List Int))) :
    iterF (fun k26 ((out24, k25) : (List (List Int)) × Int) => (if (k25 < (((outP a x.state_).map (·.Event)).length : Int)) then ((getO out24 (i : Int)).bind fun x28 => ((appO [] x28).bind fun x30 => ((getO ((outP a x.state_).map (·.Event)) k25).bind fun x32 => ((appO x30 [x32]).bind fun x34 => ((appO out24 [x34]).bind fun x36 => k26 (x36, (IntKind.wrap .i64 (k25 + 1)))))))) else k10 (out24, (IntKind.wrap .i64 ((i : Int) + 1))))) fuel (all.map (·.word_), 0) = k10 ((all ++ kids a x).map (·.word_), ((i + 1 : Nat) : Int)) := by
  have hl := outP_len h x.state_
  have hi := (List.getElem?_eq_some_iff.1 hx).1
  generalize hL : outP a x.state_ = L at hl
  refine (iterF_inv (len := (L.map (·.Event)).length) (fun n (acc : List (List Int)) => (acc, (n : Int))) (fun n acc => acc = all.map (·.word_) ++ (L.take n).map fun e => x.word_ ++ [e.Event]) (fun n acc => k10 ((all ++ kids a x).map (·.word_), ((i + 1 : Nat) : Int))) ?_ ?_ fuel 0 (all.map (·.word_)) (Nat.zero_le _) (by rw [List.length_map]; omega) (by simp))
  · intro k n acc hn hi' ih
    subst hi'
    dsimp only
    have hn2 : n < L.length := by simpa using hn
    have hg : getO (all.map (·.word_) ++ (L.take n).map fun e => x.word_ ++ [e.Event]) (i : Int) = some x.word_ := by
      rw [getO_some]
      refine ⟨by omega, ?_⟩
      rw [Int.toNat_natCast, List.getElem?_append_left (by simpa using hi), List.getElem?_map, hx]; rfl
    rw [if_pos (by omega), hg]
    simp only [Option.bind_some]
    rw [appO_some (by simp only [List.length_nil]; unfold lim; omega), getO_nat hn]
    simp only [Option.bind_some, List.nil_append]
    rw [appO_some (by simp only [List.length_cons, List.length_nil]; unfold lim; omega)]
    simp only [Option.bind_some]
    rw [appO_some (by simp only [List.length_cons, List.length_nil, List.length_append, List.length_map, List.length_take]; unfold lim; omega)]
    simp only [Option.bind_some]
    rw [wrap_succ (by omega)]
    refine ih _ ?_
    rw [List.take_succ_eq_append_getElem hn2, List.map_append, List.append_assoc]
    simp
  · intro k acc hi'
    subst hi'
    dsimp only
    rw [if_neg (by omega), wrap_succ (by omega)]
    congr 2
    rw [List.length_map, List.take_length, List.map_append]
    simp [kids, hL]
theorem refWords_loop (fuel : Nat) (hfu : 1099511627776 ≤ fuel) (i : Nat) (all : List automaton_found) (q : QW a most i all) :
    ∃ fin, wq a most (1025 - i) i all = some fin ∧ (∃ j, QW a most j fin) ∧
    iterF (fun k10 ((out8, i9) : (List (List Int)) × Int) => (((if (i9 < (out8.length : Int)) then some (decide ((out8.length : Int) ≤ 1024)) else some false)).bind fun (x12 : Bool) => (if x12 then ((getO out8 i9).bind fun x14 => (if ((x14.length : Int) ≥ (most : Int)) then some out8 else ((getO out8 i9).bind fun x17 => ((g_overseerref03_Run a 0 x17).bind fun (r20, r21) => ((g_overseerref03_Enabled a r20).bind fun x23 => iterF (fun k26 ((out24, k25) : (List (List Int)) × Int) => (if (k25 < (x23.length : Int)) then ((getO out24 i9).bind fun x28 => ((appO [] x28).bind fun x30 => ((getO x23 k25).bind fun x32 => ((appO x30 [x32]).bind fun x34 => ((appO out24 [x34]).bind fun x36 => k26 (x36, (IntKind.wrap .i64 (k25 + 1)))))))) else k10 (out24, (IntKind.wrap .i64 (i9 + 1))))) fuel (out8, 0)))))) else some out8))) fuel (all.map (·.word_), (i : Int)) = some (fin.map (·.word_)) := by
  have hst := h.st
  have key := iterF_rule (F := (fun (k10 : List (List Int) × Int → Option (List (List Int))) ((out8, i9) : (List (List Int)) × Int) => (((if (i9 < (out8.length : Int)) then some (decide ((out8.length : Int) ≤ 1024)) else some false)).bind fun (x12 : Bool) => (if x12 then ((getO out8 i9).bind fun x14 => (if ((x14.length : Int) ≥ (most : Int)) then some out8 else ((getO out8 i9).bind fun x17 => ((g_overseerref03_Run a 0 x17).bind fun (r20, r21) => ((g_overseerref03_Enabled a r20).bind fun x23 => iterF (fun k26 ((out24, k25) : (List (List Int)) × Int) => (if (k25 < (x23.length : Int)) then ((getO out24 i9).bind fun x28 => ((appO [] x28).bind fun x30 => ((getO x23 k25).bind fun x32 => ((appO x30 [x32]).bind fun x34 => ((appO out24 [x34]).bind fun x36 => k26 (x36, (IntKind.wrap .i64 (k25 + 1)))))))) else k10 (out24, (IntKind.wrap .i64 (i9 + 1))))) fuel (out8, 0)))))) else some out8))))
    (fun x => ∃ (i : Nat) (all : List automaton_found), x = (all.map (·.word_), (i : Int)) ∧ QW a most i all) (fun x => 1025 - x.2.toNat) (fun x r => ∀ (i : Nat) (all : List automaton_found), x = (all.map (·.word_), (i : Int)) → QW a most i all → ∃ fin, wq a most (1025 - i) i all = some fin ∧ (∃ j, QW a most j fin) ∧ r = some (fin.map (·.word_))) (by
      rintro k _ _ ih i all rfl q
      have hle := q.le
      have hln := q.ln
      dsimp only
      rw [show 1025 - i = (1024 - i) + 1 from by omega]
      by_cases hlt : i < all.length
      · have hg := List.getElem?_eq_getElem hlt
        have hml := q.ml _ (List.getElem_mem hlt)
        have hsr := q.sr _ (List.getElem_mem hlt)
        rw [if_pos (by rw [List.length_map]; omega)]
        simp only [Option.bind_some, show decide (((all.map (·.word_)).length : Int) ≤ 1024) = true from by simp; omega, if_true]
        rw [show getO (all.map (·.word_)) (i : Int) = some all[i].word_ from by rw [getO_some]; exact ⟨by omega, by simp [hg]⟩]
        simp only [Option.bind_some, wq, hg]
        by_cases hm : all[i].word_.length = most
        · rw [if_pos (by omega), if_pos (by omega)]
          exact ⟨all, rfl, ⟨i, q⟩, rfl⟩
        · obtain ⟨q1, q2⟩ := q.next h h5 h4 hg hm
          rw [if_neg (by omega), if_neg (by omega), if_neg (by omega), refRun_ok h (by unfold big; omega), q.rn _ (List.getElem_mem hlt)]
          simp only [Option.bind_some]
          rw [refEnabled_ok h]
          simp only [Option.bind_some]
          rw [refKids_loop h h5 h4 fuel hfu hg (by omega) (by omega)]
          have := ih ((all ++ kids a all[i]).map (·.word_), ((i + 1 : Nat) : Int)) ⟨i + 1, _, rfl, q1⟩ (by simp only; omega) (i + 1) _ rfl q1
          rw [show 1025 - (i + 1) = 1024 - i from by omega] at this
          exact this
      · rw [if_neg (by rw [List.length_map]; omega)]
        have : all[i]? = none := List.getElem?_eq_none_iff.2 (by omega)
        simp only [wq, this]
        exact ⟨all, rfl, ⟨i, q⟩, rfl⟩) fuel (all.map (·.word_), (i : Int)) ⟨i, all, rfl, q⟩ (by simp only; omega)
  exact key i all rfl q
theorem refWords_ok (h0 : 0 < a.States) : ∃ fin, wq a most 1025 0 [⟨[], 0⟩] = some fin ∧ (∃ j, QW a most j fin) ∧ g_overseerref03_Words a most 1024 = some (fin.map (·.word_)) := by
  unfold g_overseerref03_Words f_overseerref03_Words
  obtain ⟨fuel, hfu, hge⟩ : ∃ f, fuel0 = f ∧ 1099511627776 ≤ f := ⟨_, rfl, Nat.le_refl _⟩
  rw [hfu, if_pos h0, appO_some (by simp only [List.length_cons, List.length_nil]; unfold lim; omega)]
  simp only [Option.bind_some]
  obtain ⟨fin, f1, f2, f3⟩ := refWords_loop h h5 h4 fuel hge 0 [⟨[], 0⟩] ⟨⟨by simp, by simp, by simp, by simp; omega⟩, by simp, by simp [runP], by simp [wsum, wt]⟩
  exact ⟨fin, f1, f2, (congrArg (fun w => Option.bind w _) f3).trans rfl⟩
end
theorem sameWords_ok {s t : List (List Int)} (hl : s.length < big) (hw : ∀ x ∈ s, x.length < big) : g_overseerlaw03_SameWords s t = some (decide (s = t)) := by
  have h : s.length < 1000000000000 := hl
  unfold g_overseerlaw03_SameWords f_overseerlaw03_SameWords
  by_cases hlen : s.length = t.length
  · rw [if_neg (by simp [hlen])]
    refine iterF_to (fun i : Int => ∃ n : Nat, i = n ∧ n ≤ s.length ∧ s.take n = t.take n) (fun i => s.length - i.toNat) _ ⟨0, rfl, by omega, by simp⟩ (by unfold fuel0; omega) ?_
    rintro k _ ⟨n, rfl, hn, he⟩ ih
    by_cases hlt : n < s.length
    · rw [if_pos (by omega), getO_nat hlt, getO_nat (by omega : n < t.length)]
      simp only [Option.bind_some]
      rw [sameInts (hw _ (List.getElem_mem hlt))]
      simp only [Option.bind_some]
      by_cases hx : s[n] = t[n]
      · rw [if_pos (by simpa using hx), wrap_succ (by omega)]
        exact ih _ ⟨n + 1, rfl, by omega, take_eq_succ hlt (by omega) he hx⟩ (by omega)
      · rw [if_neg (by simpa using hx)]
        have : s ≠ t := fun e => hx (by subst e; rfl)
        simp [this]
    · rw [if_neg (by omega)]
      have e : n = s.length := by omega
      have : s = t := by
        rw [e, List.take_length, hlen, List.take_length] at he; exact he
      simp [this]
  · rw [if_pos (by simp; omega)]
    have : s ≠ t := fun e => hlen (by rw [e])
    simp [this]
theorem marked_loop {a : api_Automaton} (h : Right a) (h0 : 0 < a.States) (fuel : Nat) (hfu : 1099511627776 ≤ fuel) {all : List automaton_found} (hl : all.length ≤ 2000) (hw : ∀ x ∈ all, x.word_.length ≤ 2000) (hr : ∀ x ∈ all, runP a 0 0 x.word_ = (x.state_, (x.word_.length : Int))) :
    iterF (fun k28 ((marked26, i27) : (List (List Int)) × Int) => (if (i27 < ((all.map (·.word_)).length : Int)) then ((((getO (all.map (·.word_)) i27).bind fun x30 => ((g_overseerref03_Accepts a x30).bind fun x33 => (if x33 then ((getO (all.map (·.word_)) i27).bind fun x35 => ((appO marked26 [x35]).bind fun x37 => some x37)) else some marked26)))).bind fun (marked39 : List (List Int)) => k28 (marked39, (IntKind.wrap .i64 (i27 + 1)))) else some marked26)) fuel ([], 0) = some (chosen a true all) := by
  have key := select_ok (l := all.map (·.word_)) (f := fun w => if accP a w = true then some w else none) (fuel := fuel) (F := fun k28 ((marked26, i27) : (List (List Int)) × Int) => (if (i27 < ((all.map (·.word_)).length : Int)) then ((((getO (all.map (·.word_)) i27).bind fun x30 => ((g_overseerref03_Accepts a x30).bind fun x33 => (if x33 then ((getO (all.map (·.word_)) i27).bind fun x35 => ((appO marked26 [x35]).bind fun x37 => some x37)) else some marked26)))).bind fun (marked39 : List (List Int)) => k28 (marked39, (IntKind.wrap .i64 (i27 + 1)))) else some marked26)) (by rw [List.length_map]; unfold big; omega) (by rw [List.length_map]; omega) (by
    intro k acc n hn hacc
    dsimp only
    have hn2 : n < all.length := by simpa using hn
    rw [if_pos (by omega), getO_nat hn]
    simp only [Option.bind_some]
    have hwl : ((all.map fun x : automaton_found => x.word_)[n]).length < big := by rw [List.getElem_map]; have := hw _ (List.getElem_mem hn2); unfold big; omega
    rw [refAccepts_ok h hwl]
    simp only [Option.bind_some]
    by_cases hc : accP a (all.map fun x : automaton_found => x.word_)[n] = true
    · rw [if_pos hc, if_pos hc, appO_some (by simp only [List.length_cons, List.length_nil]; unfold lim; omega)]; rfl
    · rw [if_neg hc, if_neg hc]; simp) (by
    intro k acc
    dsimp only
    rw [if_neg (by omega)])
  rw [key]
  congr 1
  unfold chosen
  have hacc : ∀ x ∈ all, accP a x.word_ = decide (x.state_ ∈ a.Marked) := fun x hx => by
    unfold accP genP
    rw [hr x hx]; simp [h0]
  clear key hl hw hr
  induction all with
  | nil => rfl
  | cons x l ih =>
    have ih := ih fun y hy => hacc y (by simp [hy])
    have hx := hacc x (by simp)
    rw [List.map_cons, List.filterMap_cons, List.filter_cons, hx]
    by_cases hc : x.state_ ∈ a.Marked
    · simp only [hc, decide_true, if_true, Bool.not_true, Bool.false_or, List.map_cons]
      rw [ih]; simp
    · simp only [hc, decide_false, Bool.false_eq_true, if_false, Bool.not_true, Bool.or_self]
      rw [ih]; simp
theorem automatonWords_ok (s : Int) (g : overseerlaw03_Graph) (most : Int) (hs : 0 ≤ s ∧ s < 256) (hg : GraphW g) : g_overseerlaw03_AutomatonWords s g most = some true := by
  unfold g_overseerlaw03_AutomatonWords f_overseerlaw03_AutomatonWords
  obtain ⟨fuel, hfu, hge⟩ : ∃ f, fuel0 = f ∧ 1099511627776 ≤ f := ⟨_, rfl, Nat.le_refl _⟩
  obtain ⟨al, hE, hal⟩ := events_ok hs.1 hs.2
  obtain ⟨m, hm, hma, hM, _⟩ := make_ok hal hg
  have ha := canonP_right hm
  have h5 : (canonP m).Alphabet.length ≤ 5 := by
    have : (canonP m).Alphabet = m.Alphabet := rfl
    rw [this, hma]; exact hal.len
  rw [hfu, known_ok]
  simp only [Option.bind_some, if_true]
  rw [hE]
  simp only [Option.bind_some]
  rw [show (overseerlaw03_Graph.mk g.States g.Marks ((g.To.1.1, g.To.1.2.1, g.To.1.2.2.1, g.To.1.2.2.2.1, g.To.1.2.2.2.2), (g.To.2.1.1, g.To.2.1.2.1, g.To.2.1.2.2.1, g.To.2.1.2.2.2.1, g.To.2.1.2.2.2.2), (g.To.2.2.1.1, g.To.2.2.1.2.1, g.To.2.2.1.2.2.1, g.To.2.2.1.2.2.2.1, g.To.2.2.1.2.2.2.2), (g.To.2.2.2.1.1, g.To.2.2.2.1.2.1, g.To.2.2.2.1.2.2.1, g.To.2.2.2.1.2.2.2.1, g.To.2.2.2.1.2.2.2.2), (g.To.2.2.2.2.1, g.To.2.2.2.2.2.1, g.To.2.2.2.2.2.2.1, g.To.2.2.2.2.2.2.2.1, g.To.2.2.2.2.2.2.2.2))) = g from rfl, hM]
  simp only [Option.bind_some]
  generalize canonP m = a at ha h5
  have hst := ha.st
  rw [words_ok ha, words_ok ha]
  simp only [Option.bind_some]
  by_cases h1 : most < 0 ∨ most > 4096
  · rw [if_pos h1, if_pos h1]
    rcases h1 with h1 | h1
    · simp [h1]
    · rw [if_neg (by omega)]; simp [h1]
  · rw [if_neg h1, if_neg h1]
    rw [if_neg (by omega)]
    simp only [Option.bind_some, show decide (most > 4096) = false from by simp; omega, Bool.false_eq_true, if_false]
    by_cases h4 : most > 4
    · rw [if_pos h4]
    · rw [if_neg h4]
      obtain ⟨n, rfl⟩ := Int.eq_ofNat_of_zero_le (show 0 ≤ most by omega)
      by_cases h0 : a.States = 0
      · rw [if_pos h0, if_pos h0]
        have hr : g_overseerref03_Words a (n : Int) 1024 = some [] := by
          unfold g_overseerref03_Words f_overseerref03_Words
          obtain ⟨fuel, hfu, hge⟩ : ∃ f, fuel0 = f ∧ 1099511627776 ≤ f := ⟨_, rfl, Nat.le_refl _⟩
          rw [hfu, if_neg (by omega)]
          simp only [Option.bind_some]
          obtain ⟨f, rfl⟩ : ∃ f, fuel = f + 1 := ⟨fuel - 1, by omega⟩
          simp [iterF]
        rw [hr]
        simp only [Option.bind_some]
        obtain ⟨f, rfl⟩ : ∃ f, fuel = f + 1 := ⟨fuel - 1, by omega⟩
        have e1 := sameWords_ok (s := []) (t := []) (by decide) (by simp)
        simp [iterF, e1]
      · rw [if_neg h0, if_neg h0]
        obtain ⟨fin, f1, ⟨j, q⟩, f3⟩ := refWords_ok ha h5 (most := n) (by omega) (by omega)
        rw [f1, f3]
        simp only [Option.bind_some]
        have hfl : fin.length ≤ 2000 := by have := q.ln; omega
        have hfw : ∀ x ∈ fin, x.word_.length ≤ 2000 := fun x hx => by have := q.ml x hx; omega
        rw [marked_loop ha (by omega) fuel hge hfl hfw q.rn]
        simp only [Option.bind_some]
        have e0 : chosen a false fin = fin.map (·.word_) := by unfold chosen; rw [List.filter_eq_self.2 (by simp)]
        have hbw : ∀ b, ∀ x ∈ chosen a b fin, x.length < big := fun b x hx => by
          unfold chosen at hx
          obtain ⟨y, hy, rfl⟩ := List.mem_map.1 hx
          have := hfw y (List.mem_filter.1 hy).1
          unfold big; omega
        have hbl : ∀ b, (chosen a b fin).length < big := fun b => by
          unfold chosen
          have := List.length_filter_le (fun x : automaton_found => !b || decide (x.state_ ∈ a.Marked)) fin
          rw [List.length_map]; unfold big; omega
        rw [sameWords_ok (hbl _) (hbw _), sameWords_ok (hbl _) (hbw _), e0]
        simp
end Go.Abs
end
