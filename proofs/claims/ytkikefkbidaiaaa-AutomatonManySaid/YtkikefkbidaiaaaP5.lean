/-
  Part 5 of the proof: see the last text.
-/
import Derived.Test.YtkikefkbidaiaaaP4
import Derived.Shelf.SlSortCmp.NoneTotal
import Derived.Shelf.SortM.Plain
import Derived.Shelf.SortM.SortNone
import Derived.Shelf.Small.Bits
import Derived.Test.YtkikefkbidaiaaaProg
import Derived.KernelRfl
import Derived.WalkKit
import Derived.Shelf.SlIterI.Sorted
import Derived.RangeFuncBox
import Derived.RangeFuncLeaves
import Derived.Shelf.Abstract
import Derived.OwnWalkIn
import Derived.TacticsInMore
import Derived.RegionIn
import Derived.LoopNIn
import Derived.LoopIn
import Derived.OpenShut
import Derived.ProofKit
import Derived.Carry
import GoSem.Claim
import GoSem.ClaimJoined
import Derived.JoinedTies
set_option linter.unusedVariables false
set_option linter.unusedSimpArgs false
set_option linter.unusedSectionVars false
section
namespace Go.Abs
open Go Go.Sort Go.Shelf Go.RowKit Go.Lib Go.Proofs
set_option linter.unusedVariables false
set_option linter.unusedSectionVars false
section plain
variable {β : Type}
def insB (lt : β → β → Bool) (x : β) : List β → List β
  | [] => [x]
  | y :: ys => if lt y x then y :: insB lt x ys else x :: y :: ys
def isortB (lt : β → β → Bool) : List β → List β
  | [] => []
  | x :: xs => insB lt x (isortB lt xs)
def distB (lt : β → β → Bool) : List β → Bool
  | [] => true
  | x :: xs => xs.all (fun y => lt x y || lt y x) && distB lt xs
def sortO (ok : β → Bool) (lt : β → β → Bool) (l : List β) : Option (List β) := if l.all ok && distB lt l then some (isortB lt l) else none
theorem insB_perm (lt : β → β → Bool) (x : β) : ∀ l, (insB lt x l).Perm (x :: l)
  | [] => .refl _
  | y :: ys => by
    unfold insB; split
    · exact ((insB_perm lt x ys).cons y).trans (.swap x y ys)
    · exact .refl _
theorem isortB_perm (lt : β → β → Bool) : ∀ l, (isortB lt l).Perm l
  | [] => .refl _
  | x :: xs => (insB_perm lt x _).trans ((isortB_perm lt xs).cons x)
theorem isortB_length (lt : β → β → Bool) (l : List β) : (isortB lt l).length = l.length := (isortB_perm lt l).length_eq
theorem insB_sorted {lt : β → β → Bool} (h : SWO lt) (x : β) : ∀ l, l.Pairwise (fun a b => lt b a = false) → (insB lt x l).Pairwise fun a b => lt b a = false
  | [], _ => by simp [insB]
  | y :: ys, hl => by
    obtain ⟨h1, h2⟩ := List.pairwise_cons.1 hl
    unfold insB; split
    · rename_i hc
      refine List.pairwise_cons.2 ⟨fun z hz => ?_, insB_sorted h x ys h2⟩
      rcases List.mem_cons.1 ((insB_perm lt x ys).mem_iff.1 hz) with rfl | hz
      · cases hb : lt z y with
        | false => rfl
        | true => have := h.trans _ _ _ hc hb; rw [h.irrefl] at this; cases this
      · exact h1 z hz
    · rename_i hc
      have hc : lt y x = false := by cases h : lt y x <;> simp_all
      refine List.pairwise_cons.2 ⟨fun z hz => ?_, hl⟩
      rcases List.mem_cons.1 hz with rfl | hz
      · exact hc
      · exact h.ntrans _ _ _ (h1 z hz) hc
theorem isortB_sorted {lt : β → β → Bool} (h : SWO lt) : ∀ l, (isortB lt l).Pairwise fun a b => lt b a = false
  | [] => .nil
  | x :: xs => insB_sorted h x _ (isortB_sorted h xs)
theorem distB_anti {lt : β → β → Bool} : ∀ {l : List β}, distB lt l = true → ∀ a b, a ∈ l → b ∈ l → lt a b = false → lt b a = false → a = b
  | [], _, a, _, ha, _, _, _ => by cases ha
  | x :: xs, h, a, b, ha, hb, h1, h2 => by
    simp only [distB, Bool.and_eq_true, List.all_eq_true] at h
    obtain ⟨k1, k2⟩ := h
    rcases List.mem_cons.1 ha with e1 | ha' <;> rcases List.mem_cons.1 hb with e2 | hb'
    · rw [e1, e2]
    · subst e1; have := k1 b hb'; simp [h1, h2] at this
    · subst e2; have := k1 a ha'; simp [h1, h2] at this
    · exact distB_anti k2 a b ha' hb' h1 h2
theorem isortB_unique {lt : β → β → Bool} (h : SWO lt) {l m : List β} (hd : distB lt l = true) (hp : m.Perm l) (hs : m.Pairwise fun a b => lt b a = false) : m = isortB lt l := by
  refine List.Perm.eq_of_pairwise (le := fun a b => lt b a = false) (fun a b ha hb h1 h2 => ?_) hs (isortB_sorted h l) (hp.trans (isortB_perm lt l).symm)
  exact distB_anti hd a b (hp.mem_iff.1 ha) ((isortB_perm lt l).mem_iff.1 hb) h2 h1
theorem insB_map {α : Type} (f : α → β) (lt : β → β → Bool) (x : α) : ∀ l : List α, insB lt (f x) (l.map f) = (insB (fun a b => lt (f a) (f b)) x l).map f
  | [] => rfl
  | y :: ys => by
    simp only [List.map_cons, insB]; split
    · simp only [List.map_cons, insB_map f lt x ys]
    · rfl
theorem isortB_map {α : Type} (f : α → β) (lt : β → β → Bool) : ∀ l : List α, isortB lt (l.map f) = (isortB (fun a b => lt (f a) (f b)) l).map f
  | [] => rfl
  | x :: xs => by simp only [List.map_cons, isortB, isortB_map f lt xs, insB_map]
theorem distB_map {α : Type} (f : α → β) (lt : β → β → Bool) : ∀ l : List α, distB lt (l.map f) = distB (fun a b => lt (f a) (f b)) l
  | [] => rfl
  | x :: xs => by simp only [List.map_cons, distB, distB_map f lt xs, List.all_map]; rfl
end plain
theorem flatK_get {α : Type} [Inhabited α] {enc : α → List Value} {k : Nat} (hk : ∀ x, (enc x).length = k) (h0 : 0 < k) : ∀ (l : List α) (t : Nat), t < l.length * k → (l.map enc).flatten[t]? = some (enc l[t / k]!)[t % k]!
  | [], t, h => by simp at h
  | x :: xs, t, h => by
    rw [List.map_cons, List.flatten_cons]
    by_cases hl : t < k
    · rw [List.getElem?_append_left (by rw [hk]; exact hl), Nat.div_eq_of_lt hl, Nat.mod_eq_of_lt hl]
      have : t < (enc x).length := by rw [hk]; exact hl
      simp [this]
    · have hge : k ≤ t := by omega
      have h2 : t - k < xs.length * k := by simp only [List.length_cons, Nat.add_mul, Nat.one_mul] at h; omega
      rw [List.getElem?_append_right (by rw [hk]; exact hge), hk, flatK_get hk h0 xs (t - k) h2]
      have e1 : t / k = (t - k) / k + 1 := by rw [← Nat.add_div_right _ h0, Nat.sub_add_cancel hge]
      have e2 : t % k = (t - k) % k := by rw [Nat.mod_eq_sub_mod hge]
      rw [e1, e2]; simp
theorem flatK_row {α : Type} [Inhabited α] {enc : α → List Value} {k : Nat} (hk : ∀ x, (enc x).length = k) (h0 : 0 < k) (l : List α) : flatK enc k l.toArray = (l.map enc).flatten.toArray := by
  have hs : (l.map enc).flatten.length = l.length * k := by
    induction l with
    | nil => simp
    | cons x xs ih => rw [List.map_cons, List.flatten_cons, List.length_append, ih, hk]; simp [Nat.add_mul]; omega
  refine ext_get! (by simp [hs]) fun t ht => ?_
  have ht' : t < l.length * k := by simpa using ht
  rw [get_flatK _ _ _ _ (by simpa using ht')]
  have := flatK_get hk h0 l t ht'
  obtain ⟨h1, h2⟩ := List.getElem?_eq_some_iff.1 this
  rw [getElem!_pos _ t (by simpa using h1)]
  simp only [List.getElem_toArray, h2]
  simp
theorem rowV_flat {α : Type} (e : α → List D) (xs : List α) : rowV e xs = (xs.map fun x => (e x).map D.val).flatten := by
  unfold rowV; rw [List.map_flatten, List.map_map]; rfl
theorem rowFn_sortFunc {P : Program} {ρ : Ren} {α : Type} [Inhabited α] (L : SlLaysF0.n6 P ρ) {k : Nat} (aE : ∀ w, (isAgg (ρ.t 24)).run P w = .ok true w) (zE : ∀ w, (Go.sizeOf (ρ.t 24)).run P w = .ok k w) (e : α → List D) (hk : ∀ x, (e x).length = k) (h0 : 0 < k) (hsc : ∀ x, (e x).all D.scalar = true)
    (cf : α → α → Int) (hO : SWO (ltOf cf)) (g : Nat) (cb : Array Value) (eg : ∀ args w, (callFunc g args).run P w = .ok (.enter g args) w)
    (hcmp : ∀ (x y : α) (W : World), Calls P g (#[.agg ((e x).map D.val).toArray, .agg ((e y).map D.val).toArray] ++ cb) W fun r w' => r = .returned (.int .i64 (cf x y)) ∧ ∃ q os', w' = grow (W.drewN q) os') :
    RowFn P (ρ.f 6) e #[.func (.func g) #[] cb] (fun xs => (pdq (ltOf cf) xs.toArray 0 xs.length (Lib.bitLen xs.length) true true).toList) := by
  intro blk cap xs w hc hblk hsz
  have henc : ∀ x, ((fun x => (e x).map D.val) x).length = k := fun x => by simp [hk]
  have h1 : ∀ x : α, ∀ v ∈ (e x).map D.val, v.oneCell' = true := by
    intro x v hv
    obtain ⟨d, hd, rfl⟩ := List.mem_map.1 hv
    exact val_one (List.all_eq_true.1 (hsc x) d hd)
  have hH : HoldsK (fun x => (e x).map D.val) k w blk 0 xs.toArray := by
    unfold HoldsK
    rw [flatK_row henc h0, ← rowV_flat]
    intro j hj
    have hj' : j < (rowV e xs).length := by simpa using hj
    obtain ⟨k1, k2⟩ := hc j hj'
    rw [Nat.zero_add]
    refine ⟨k1.trans ?_, k2⟩
    rw [List.getElem?_eq_getElem hj', getElem!_pos _ j hj]; rfl
  have hcl : CmpLays P g cb (fun x => (e x).map D.val) k cf blk 0 xs.toArray.size w := fun _ _ _ _ x y => hcmp x y _
  have := AnyQ.slices_SortFunc_eq L k aE zE (fun x => (e x).map D.val) henc h1 cf hO g cb blk 0 cap xs.toArray w eg hcl hH hblk (by simpa using hsz)
  refine this.mono ?_
  rintro r w' ⟨rfl, n, os, rfl⟩
  refine ⟨rfl, n, os, ?_⟩
  unfold sortWorldK putRowK
  have hrow : flatK (fun x => (e x).map D.val) k (pdq (ltOf cf) xs.toArray 0 xs.toArray.size (Lib.bitLen xs.toArray.size) true true) = (rowV e (pdq (ltOf cf) xs.toArray 0 xs.length (Lib.bitLen xs.length) true true).toList).toArray := by
    rw [rowV_flat, ← flatK_row henc h0]; simp
  rw [hrow]
theorem RowFn.from_caller {P : Program} {f g : FuncId} {α : Type} {e : α → List D} {ex ex' : Array Value} {srt : List α → List α} (h : RowFn P g e ex' srt)
    (hcall : ∀ (p : Addr) (n cap : Nat) (w : World) (n' : Nat) (os : Array Obj) (F : Array Value), Calls P g (#[.slice (some p) n cap] ++ ex') w (fun e' w' => e' = .returned (.tuple #[]) ∧ ∃ n os, w' = grow (putRow id (Sort.ahead w n) p.block 0 F) os) →
      Calls P f (#[.slice (some p) n cap] ++ ex) w (fun e' w' => e' = .returned (.tuple #[]) ∧ ∃ n os, w' = grow (putRow id (Sort.ahead w n) p.block 0 F) os)) : RowFn P f e ex srt :=
  fun blk cap xs w hc hblk hsz => hcall ⟨blk, 0, none⟩ xs.length cap w 0 #[] _ (h blk cap xs w hc hblk hsz)
theorem acalls_none {P : Program} {f : FuncId} {ex : Array Value} {exV : List V} {sz nb : Nat} {M : Mem} (hb : HasBody P f = true) (hex : ∀ g w us, RFs g w exV us → us = ex.toList)
    (h : ∀ (p : Option Addr) (cap : Nat) (w : World), Calls P f (#[.slice p 0 cap] ++ ex) w fun e' w' => e' = .returned (.tuple #[]) ∧ w' = w) :
    ACalls P f (.d (.lst sz []) :: exV) M nb (.tup []) M nb := by
  refine ⟨hb, Nat.le_refl _, fun w g us hm hMon hfresh hus hfl hons => ?_⟩
  obtain ⟨u0, us', rfl, hu0, hus'⟩ := hus
  have h1 := hex _ _ _ hus'
  subst h1
  have h2 : ∃ p cap, u0 = .slice p 0 cap := by
    have := RF_d.1 hu0
    obtain ⟨a, cap, rfl, _, _⟩ := this
    exact ⟨a, cap, rfl⟩
  obtain ⟨p, cap, rfl⟩ := h2
  have e1 : (Value.slice p 0 cap :: ex.toList).toArray = #[.slice p 0 cap] ++ ex := by apply Array.ext'; simp
  rw [e1]
  refine (h p cap w).mono ?_
  rintro e' w' ⟨rfl, rfl⟩
  exact ⟨_, g, rfl, hm, ⟨[], rfl, rfl⟩, trivial, hMon, Fr.refl _ _ _⟩
section
variable {α : Type} [Inhabited α]
theorem pdq_list {lt : α → α → Bool} (hO : SWO lt) (xs : List α) (k : Nat) : (pdq lt xs.toArray 0 xs.length k true true).toList.Perm xs ∧ (pdq lt xs.toArray 0 xs.length k true true).toList.Pairwise fun a b => lt b a = false := by
  obtain ⟨⟨h1, _, h2⟩, h3⟩ := pdq_sorts lt hO xs.toArray 0 xs.length k true true (Nat.zero_le _) (by simp) (Or.inl rfl)
  generalize pdq lt xs.toArray 0 xs.length k true true = d at *
  have hs : d.size = xs.length := by simpa using h1
  refine ⟨?_, ?_⟩
  · have e1 : d.extract 0 xs.length = d := by rw [← hs]; exact Array.extract_size
    have e2 : xs.toArray.extract 0 xs.length = xs.toArray := by have : xs.length = xs.toArray.size := by simp
                                                                rw [this]; exact Array.extract_size
    rw [e1, e2] at h2
    simpa using h2
  · rw [List.pairwise_iff_getElem]
    intro i j hi hj hij
    have hi' : i < d.size := by simpa using hi
    have hj' : j < d.size := by simpa using hj
    have := h3 i j (Nat.zero_le _) hij (by omega)
    rw [getElem!_pos d i hi', getElem!_pos d j hj'] at this
    simpa using this
theorem pdq_isort {lt : α → α → Bool} (hO : SWO lt) (xs : List α) (k : Nat) (hd : distB lt xs = true) : (pdq lt xs.toArray 0 xs.length k true true).toList = isortB lt xs :=
  isortB_unique hO hd (pdq_list hO xs k).1 (pdq_list hO xs k).2
end
theorem rowK_sort {β : Type} {P : Program} {c : Nat} {e : β → List D} {sz N : Nat} {ok : β → Bool} {lt : β → β → Bool} [Inhabited {x : β // ok x = true}] {lt' : {x : β // ok x = true} → {x : β // ok x = true} → Bool}
    (hN : N < 4611686018427387904) (hk : ∀ x, (e x).length = sz) (hsc : ∀ x, (e x).all D.scalar = true) (hO : SWO lt') (hlt : ∀ x y, lt' x y = lt x.1 y.1) (hb : HasBody P c = true) {ex : Array Value} {exV : List V} (hex : ∀ g w us, RFs g w exV us → us = ex.toList)
    (hrow : RowFn P c (fun x : {x : β // ok x = true} => e x.1) ex (fun xs => (pdq lt' xs.toArray 0 xs.length (Lib.bitLen xs.length) true true).toList))
    (hnone : ∀ (p : Option Addr) (cap : Nat) (w : World), Calls P c (#[.slice p 0 cap] ++ ex) w fun e' w' => e' = .returned (.tuple #[]) ∧ w' = w) :
    RowK P c e sz exV (fun l => if l.length ≤ N then sortO ok lt l else none) := by
  intro xs ys h
  dsimp only at h
  split at h <;> try (cases h; done)
  rename_i hlN
  unfold sortO at h
  split at h <;> cases h
  rename_i hok
  simp only [Bool.and_eq_true, List.all_eq_true] at hok
  obtain ⟨ho, hd⟩ := hok
  obtain ⟨zs, rfl⟩ : ∃ zs : List {x : β // ok x = true}, xs = zs.map Subtype.val := ⟨xs.pmap Subtype.mk ho, by rw [List.map_pmap]; simp⟩
  have hd' : distB lt' zs = true := by
    rw [distB_map] at hd
    rw [show lt' = fun a b => lt a.1 b.1 from funext fun a => funext fun b => hlt a b]; exact hd
  have e1 : isortB lt (zs.map Subtype.val) = (isortB lt' zs).map Subtype.val := by
    rw [isortB_map, show lt' = fun a b => lt a.1 b.1 from funext fun a => funext fun b => hlt a b]
  refine ⟨isortB_length _ _, fun h0 => ?_, fun hl cap k0 M nb hM => ?_⟩
  · simp only [List.map_eq_nil_iff] at h0
    subst h0
    exact ⟨rfl, fun M nb => acalls_none hb hex hnone⟩
  · have hM' : M k0 = some (.cells (thCells (zs.map fun x => e x.1) ((cap - zs.length) * sz))) := by
      rw [hM, List.map_map, List.length_map]; rfl
    have := acalls_row (fun x => hk x.1) (fun x => hsc x.1) (fun xs => (pdq_list hO xs _).1.length_eq) hex hb hrow zs cap k0 M nb hM' (by rw [List.length_map] at hlN; omega)
    rw [pdq_isort hO zs _ hd'] at this
    rw [e1, List.map_map, List.length_map]
    exact this
end Go.Abs
end
section
namespace Go.Abs
open Go Go.RowKit
set_option linter.unusedVariables false
def F_values (g : Nat) : CFn := ⟨1, 4, [.t 2], .seq (.region [⟨some 1, .box 1, [.t 0], false, none⟩, ⟨some 2, .mov, [.c .und], false, none⟩] 9 []) (.seq (.region [⟨some 3, .func g, [.t 1], false, none⟩, ⟨some 2, .mov, [.t 3], false, none⟩] 9 []) .ret)⟩
theorem valsK_of {P : Program} {c g : Nat} (hcf : compFn P c = some (F_values g)) : ValsK P c g 1 4 := by
  intro x M nb
  by_cases hM : ∀ k, nb ≤ k → M k = none
  case neg => exact acalls_vac (compFn_body hcf) (by omega) hM
  by_cases hon : MOn (There M) M
  case neg => exact ⟨compFn_body hcf, by omega, fun w g us hm h => absurd h hon⟩
  refine fn_tr hcf hM rfl (by omega) fun Γ hP hn ht => ?_
  have hlt : ∀ k, There M k → k < nb := fun k hk => by
    rcases Nat.lt_or_ge k nb with h | h
    · exact h
    · simp [There, hM k h] at hk
  subst hn
  rw [← memOf_nil hM]
  refine Tr.init [(0, .d x)] rfl ?_
  unfold F_values
  refine Tr.seq ?_
  refine Tr.rgn ?_
  refine Rn.box (v := .d x) (cs := [.d x]) trivial rfl rfl rfl rfl rfl ?_
  refine Rn.mov (v := .und) trivial rfl ?_
  refine Rn.nil ?_
  refine toN ?_
  refine Tr.seq ?_
  refine Tr.rgn ?_
  refine Rn.k (v := .clo g [.ptr (Γ.n0 + 1) 0]) trivial rfl rfl rfl ?_
  refine Rn.mov (v := .clo g [.ptr (Γ.n0 + 1) 0]) trivial rfl ?_
  refine Rn.nil ?_
  refine toN ?_
  refine Tr.ret ?_
  rw [memOf_nil hM]
  have hth : There (M.put (Γ.n0 + 1) (.cells [.d x])) (Γ.n0 + 1) := by simp [There, Mem.put]
  refine ⟨.inr rfl, .clo g [.ptr (Γ.n0 + 1) 0], rfl, fun _ _ _ _ h => h, fun k b hk => ?_, ⟨hth, trivial⟩, fun k cs hk => ?_, fun k hk => ?_⟩
  · show memOf Γ.n0 [(1, .cells [.d x])] M k = some b
    have := memOf_put (n0 := Γ.n0) (L := []) (M0 := M) (t := 1) (b := .cells [.d x])
    rw [← this, memOf_nil hM]; exact hk
  · by_cases h : k = Γ.n0 + 1
    · subst h; rw [put_same] at hk; cases hk; exact ⟨trivial, trivial⟩
    · rw [put_other _ _ h] at hk
      exact ons_mono (fun j hj => There.put hj) _ (hon k cs hk)
  · by_cases h : k = Γ.n0 + 1
    · omega
    · have : There M k := by simpa [There, Mem.put, h] using hk
      have := hlt k this
      omega
theorem RDL_ints {imm : Nat → Nat → Prop} {w : World} {b : Nat} : ∀ (xs : List Int) (o : Nat), (∀ j x, xs[j]? = some x → imm b (o + j) ∧ w.cell? ⟨b, o + j, none⟩ = some (.int .i64 x)) → RDL imm w 1 b (List.map (eI .i64) xs) o
  | [], _, _ => by simp [RDL]
  | x :: xs, o, h => by
    simp only [List.map_cons, RDL]
    obtain ⟨h1, h2⟩ := h 0 x rfl
    refine ⟨rfl, ⟨h1, ⟨_, h2, rfl⟩, trivial⟩, RDL_ints xs (o + 1) fun j y hj => ?_⟩
    have := h (j + 1) y (by simpa using hj)
    rwa [show o + (j + 1) = o + 1 + j from by omega] at this
theorem ints_RDL {imm : Nat → Nat → Prop} {w : World} {b : Nat} : ∀ (xs : List Int) (o : Nat), RDL imm w 1 b (List.map (eI .i64) xs) o → ∀ j x, xs[j]? = some x → w.cell? ⟨b, o + j, none⟩ = some (.int .i64 x)
  | [], _, _, j, x, hj => by simp at hj
  | y :: ys, o, h, j, x, hj => by
    simp only [List.map_cons, RDL] at h
    obtain ⟨_, ⟨_, ⟨u, h2, h3⟩, _⟩, h4⟩ := h
    cases j with
    | zero =>
      simp at hj; subst hj
      have : u = .int .i64 y := h3
      rw [← this]; exact h2
    | succ j =>
      have := ints_RDL ys (o + 1) h4 j x (by simpa using hj)
      rwa [show o + 1 + j = o + (j + 1) from by omega] at this
def Ints (n₀ : Nat) (W : World) (sv : Value) (zs : List Int) : Prop :=
  (∃ a cap, sv = .slice a 0 cap ∧ zs = []) ∨ ∃ b off cap, sv = .slice (some ⟨b, off, none⟩) zs.length cap ∧ b < n₀ ∧ ∀ j, j < zs.length → W.cell? ⟨b, off + j, none⟩ = some (.int .i64 (zs[j]?.getD 0))
theorem Ints.below {n₀ : Nat} {A B : World} (h : Below n₀ A B) {sv : Value} {zs : List Int} : Ints n₀ A sv zs → Ints n₀ B sv zs
  | .inl e => .inl e
  | .inr ⟨b, off, cap, e, hb, hc⟩ => .inr ⟨b, off, cap, e, hb, fun j hj => (h.cell (p := ⟨b, off + j, none⟩) hb).trans (hc j hj)⟩
def ltInt' (a b : Int) : Bool := decide (a < b)
def intsO (l : List Int) : Option (List Int) := if l.length ≤ lim then some (isortB ltInt' l) else none
theorem merge_isort (l : List Int) : (l.mergeSort fun x y => decide (x ≤ y)) = isortB ltInt' l := by
  have hO : Go.Sort.SWO ltInt' := ⟨fun x => by simp [ltInt'], fun x y z h1 h2 => by simp [ltInt'] at *; omega, fun x y z h1 h2 => by simp [ltInt'] at *; omega⟩
  refine List.Perm.eq_of_pairwise (le := fun a b => ltInt' b a = false) (fun a b _ _ h1 h2 => by simp [ltInt'] at *; omega) ?_ (isortB_sorted hO l) ((List.mergeSort_perm _ _).trans (isortB_perm _ l).symm)
  have := List.pairwise_mergeSort (le := fun x y : Int => decide (x ≤ y)) (fun a b c h1 h2 => by simp at *; omega) (fun a b => by simp; omega) l
  exact this.imp fun h => by simp [ltInt'] at *; omega
theorem overK_of {P : Program} {c g : Nat} {t : TypeId} (hb : HasBody P c = true)
    (hcall : ∀ (Bs : Nat) (sv : Value) (zs : List Int) (w : World), zs.length * 8 ≤ 140737488351232 → Bs < w.heap.size → w.cell? ⟨Bs, 0, none⟩ = some sv → Ints w.heap.size w sv zs →
      Calls P c #[.func (.func g) #[] #[.pointer (some ⟨Bs, 0, none⟩)]] w fun e W' => ∃ v, e = .returned v ∧ W'.ownsRow w.heap.size t 1 v zs.length ((zs.mergeSort fun x y => decide (x ≤ y)).map (Value.int .i64)) ∧ Below w.heap.size w W') :
    OverK P c g (eI .i64) 1 intsO := by
  intro xs ys hf M nb k hM
  unfold intsO at hf
  split at hf <;> cases hf
  rename_i hlen
  refine ⟨hb, Nat.le_refl _, fun w g0 us hm hMon hfresh hus hfl hons => ?_⟩
  obtain ⟨u0, us', rfl, hu0, rfl⟩ := hus
  obtain ⟨hk0, hown, vals, et, hh, hrv, hone⟩ := hm.box k _ hM
  obtain ⟨vs, rfl, hvs⟩ : ∃ vs : List Value, u0 = .func (.func g) #[] vs.toArray ∧ RVs g0 w [.ptr k 0] .ext 0 vs := by
    have := hu0 .ext; simpa only [RV] using this
  obtain ⟨p, _, rfl, hp, rfl⟩ := hvs
  simp only [RV] at hp
  subst hp
  obtain ⟨sv, _, rfl, hsv, rfl⟩ := hrv
  simp only [RV] at hsv
  obtain ⟨a, cap, rfl, hcap, hcells⟩ := hsv
  have hBs : g0.box k < w.heap.size := (Array.getElem?_eq_some_iff.1 hh).1
  have hI : Ints w.heap.size w (.slice a (List.map (eI .i64) xs).length cap) xs := by
    rcases hcells with h | ⟨b, o, rfl, h⟩
    · have : xs = [] := by simpa using h
      subst this; exact .inl ⟨a, cap, rfl, rfl⟩
    · by_cases h0 : xs = []
      · subst h0; exact .inl ⟨_, cap, rfl, rfl⟩
      · have hc := ints_RDL xs o h
        refine .inr ⟨b, o, cap, by rw [List.length_map], ?_, fun j hj => ?_⟩
        · have h1 : 0 < xs.length := List.length_pos_iff.2 h0
          have := hc 0 xs[0] (List.getElem?_eq_getElem h1)
          simp only [World.cell?] at this
          cases hbk : w.heap[b]? with
          | none => simp [hbk] at this
          | some ob => exact (Array.getElem?_eq_some_iff.1 hbk).1
        · have := hc j xs[j] (List.getElem?_eq_getElem hj)
          rw [this, List.getElem?_eq_getElem hj]; rfl
  have hlen8 : xs.length * 8 ≤ 140737488351232 := by unfold lim at hlen; omega
  refine (hcall (g0.box k) _ xs w hlen8 hBs (by simp [World.cell?, hh]) hI).mono ?_
  rintro e W' ⟨v, rfl, hrow, hbel⟩
  rw [merge_isort] at hrow
  generalize isortB ltInt' xs = ys at hrow ⊢
  obtain ⟨gb, hgb, hv⟩ : ∃ gb, w.heap.size ≤ gb ∧ (ys = [] ∧ v = .slice none 0 0 ∨ ∃ cap, v = .slice (some ⟨gb, 0, none⟩) ys.length cap ∧ ys.length ≤ cap ∧ ∀ j x, ys[j]? = some x → gb < W'.heap.size ∧ W'.cell? ⟨gb, j, none⟩ = some (.int .i64 x)) := by
    obtain ⟨h1, h2⟩ := hrow
    have h1 : ys.length = xs.length := by simpa using h1
    rcases h2 with ⟨rfl, h0⟩ | ⟨gb, cap, cur, rfl, hbase, hgb, r1, r2, r3, r4⟩
    · exact ⟨w.heap.size, Nat.le_refl _, .inl ⟨List.eq_nil_of_length_eq_zero (by omega), rfl⟩⟩
    · refine ⟨gb, hbase, .inr ⟨cap, by rw [h1], by omega, fun j x hj => ⟨(Array.getElem?_eq_some_iff.1 hgb).1, ?_⟩⟩⟩
      have hj2 := (List.getElem?_eq_some_iff.1 hj).1
      have : (cur.toList.take (xs.length * 1))[j]? = some (.int .i64 x) := by rw [r4, List.getElem?_map, hj]; rfl
      rw [List.getElem?_take_of_lt (by omega)] at this
      simp only [World.cell?, hgb]
      simpa using this
  let g' : G := ⟨g0.box, fun b o => g0.imm b o ∨ (b = gb ∧ o < ys.length), fun b => if b = gb then .ext else g0.own b⟩
  have hne : ∀ b, b < w.heap.size → b ≠ gb := fun b h => by omega
  have himm : Imm g0.imm g'.imm w W' := by
    refine ⟨fun _ _ h => .inl h, fun b o h => ?_⟩
    have := (hm.imm b o h).1
    simp only [World.cell?, hbel.block b this]
  have hkept : Kept g0 w g' W' (There M) (fun _ => True) := ⟨himm, fun _ _ => rfl, fun b _ hl => ⟨by simp [g', hne b hl], hbel.block b hl, fun o => by simp [g', hne b hl]⟩⟩
  refine ⟨v, g', rfl, hm.kept hkept hMon (fun _ _ _ => trivial) trivial (fun _ _ => trivial) fun b o h => ?_, ?_, trivial, hMon, ?_⟩
  · rcases h with h | ⟨rfl, h⟩
    · obtain ⟨h1, h2⟩ := hm.imm b o h
      refine ⟨Nat.lt_of_lt_of_le h1 hbel.size, fun k => ?_⟩
      simp only [g', hne b h1, if_false]; exact h2 k
    · refine ⟨?_, fun k => by simp [g']⟩
      rcases hv with ⟨rfl, _⟩ | ⟨cap, _, _, hc⟩
      · simp at h
      · exact (hc o _ (List.getElem?_eq_getElem h)).1
  · simp only [RV]
    rcases hv with ⟨rfl, rfl⟩ | ⟨cap, rfl, hcp, hc⟩
    · simp only [RD]; exact ⟨none, 0, rfl, Nat.le_refl _, .inl rfl⟩
    · simp only [RD, List.length_map]
      refine ⟨_, cap, rfl, hcp, .inr ⟨gb, 0, rfl, RDL_ints ys 0 fun j x hj => ?_⟩⟩
      rw [Nat.zero_add]
      have h2 := (hc j x hj).2
      exact ⟨⟨.inr ⟨rfl, (List.getElem?_eq_some_iff.1 hj).1⟩, by simp [g'], by rw [h2]; rfl⟩, h2⟩
  · exact ⟨hbel.os, hbel.tape, hbel.output, hbel.size, himm, fun _ _ => rfl, fun b hb _ => ⟨by simp [g', hne b hb], hbel.block b hb, fun o => by simp [g', hne b hb]⟩⟩
end Go.Abs
end
section
namespace Go.Abs
def okE (x : api_Edge) : Bool := decide (0 ≤ x.From ∧ x.From < 4611686018427387904 ∧ 0 ≤ x.Event ∧ x.Event < 4611686018427387904)
def ltE (x y : api_Edge) : Bool := decide (x.From < y.From ∨ (x.From = y.From ∧ x.Event < y.Event))
def edgesO (l : List api_Edge) : Option (List api_Edge) := if l.length ≤ 65536 then sortO okE ltE l else none
end Go.Abs
end
section
namespace Go.Abs
open Go Go.Abs
set_option linter.unusedVariables false
set_option maxRecDepth 10000
set_option maxHeartbeats 4000000
def fuel0 : Nat := 1099511627776
def g_overseerlaw03_example := f_overseerlaw03_example
def g_automaton_checkSet := f_automaton_checkSet fuel0
def g_slices_Index_int := f_slices_Index_int fuel0
def g_slices_Contains_int := f_slices_Contains_int g_slices_Index_int
def g_automaton_checkEdges := f_automaton_checkEdges g_slices_Contains_int fuel0
def g_automaton_Check := f_automaton_Check g_automaton_checkSet g_automaton_checkEdges
def g_slices_Clone_int := f_slices_Clone_int
def g_cmp_isNaN_int := f_cmp_isNaN_int
def g_cmp_Less_int := f_cmp_Less_int g_cmp_isNaN_int
def g_slices_isNaN_int := f_slices_isNaN_int
def g_slices_BinarySearch_int := f_slices_BinarySearch_int g_cmp_Less_int g_slices_isNaN_int fuel0
def g_slices_BinarySearchFunc_int := f_slices_BinarySearchFunc_int fuel0
def g_automaton_out_1 := f_automaton_out_1
def g_automaton_out_2 := f_automaton_out_2
def g_automaton_out := f_automaton_out g_slices_BinarySearchFunc_int g_automaton_out_1 g_automaton_out_2
def g_automaton_canonical := f_automaton_canonical g_automaton_out g_slices_Clone_int g_slices_BinarySearch_int fuel0
def g_automaton_Canonical := f_automaton_Canonical g_automaton_Check g_automaton_canonical
def g_automaton_checkState := f_automaton_checkState g_automaton_Check
def g_automaton_Run_1 := f_automaton_Run_1 g_slices_Contains_int
def g_slices_IndexFunc_int := f_slices_IndexFunc_int fuel0
def g_slices_ContainsFunc_int := f_slices_ContainsFunc_int g_slices_IndexFunc_int
def g_automaton_next_1 := f_automaton_next_1
def g_slices_IndexFunc_Edge := f_slices_IndexFunc_Edge fuel0
def g_automaton_next := f_automaton_next g_automaton_out g_slices_IndexFunc_Edge g_automaton_next_1
def g_automaton_follow := f_automaton_follow g_automaton_next fuel0
def g_automaton_Run := f_automaton_Run g_automaton_checkState g_slices_ContainsFunc_int g_automaton_Run_1 g_automaton_follow
def g_automaton_Words := f_automaton_Words g_automaton_Check g_automaton_out g_slices_Clone_int g_slices_Contains_int fuel0
def g_automaton_Relabel := f_automaton_Relabel g_automaton_Check g_slices_Contains_int intsO g_slices_Index_int edgesO g_automaton_canonical fuel0
def g_overseerref03_SameInts := f_overseerref03_SameInts fuel0
def g_overseerref03_Same := f_overseerref03_Same g_overseerref03_SameInts fuel0
def g_overseerlaw03_known := f_overseerlaw03_known g_automaton_Words g_automaton_Relabel g_overseerref03_Same g_automaton_Canonical g_automaton_Run g_overseerref03_SameInts g_overseerlaw03_example
def g_overseerlaw03_AutomatonMany := f_overseerlaw03_AutomatonMany g_overseerlaw03_known g_automaton_Words fuel0
end Go.Abs
end
section
namespace Go.Proofs
open Go.Shelf
def Try.sortE_ren : Go.Shelf.Ren := ⟨fun | 6 => 76 | 15 => 84 | 14 => 85 | 28 => 96 | 29 => 97 | 20 => 98 | 21 => 99 | 22 => 100 | 23 => 101 | 24 => 102 | 25 => 103 | 26 => 104 | 27 => 105 | 46 => 112 | 47 => 108 | 48 => 109 | 49 => 113 | 50 => 114 | 57 => 116 | n => n, fun | 22 => 29 | 24 => 43 | 25 => 97 | 3 => 3 | 39 => 102 | 0 => 0 | 53 => 116 | 55 => 118 | 4 => 4 | 46 => 110 | 45 => 109 | 50 => 88 | 5 => 5 | 9 => 9 | 66 => 124 | 70 => 128 | 76 => 132 | 77 => 59 | n => n, fun | n => n⟩
theorem Try.sortE : Go.Proofs.SlLaysF0.n6 Try.prog Try.sortE_ren := {
  mixed := by kernel_rfl
  f6 := ⟨Try.f76.name, by decide, Try.func76.trans (congrArg some (by kernel_rfl))⟩
  f14 := ⟨Try.f85.name, by decide, Try.func85.trans (congrArg some (by kernel_rfl))⟩
  f15 := Try.func84.trans (congrArg some (by kernel_rfl))
  f20 := ⟨Try.f98.name, by decide, Try.func98.trans (congrArg some (by kernel_rfl))⟩
  f21 := ⟨Try.f99.name, by decide, Try.func99.trans (congrArg some (by kernel_rfl))⟩
  f22 := ⟨Try.f100.name, by decide, Try.func100.trans (congrArg some (by kernel_rfl))⟩
  f23 := ⟨Try.f101.name, by decide, Try.func101.trans (congrArg some (by kernel_rfl))⟩
  f24 := ⟨Try.f102.name, by decide, Try.func102.trans (congrArg some (by kernel_rfl))⟩
  f25 := ⟨Try.f103.name, by decide, Try.func103.trans (congrArg some (by kernel_rfl))⟩
  f26 := ⟨Try.f104.name, by decide, Try.func104.trans (congrArg some (by kernel_rfl))⟩
  f27 := ⟨Try.f105.name, by decide, Try.func105.trans (congrArg some (by kernel_rfl))⟩
  f28 := Try.func96.trans (congrArg some (by kernel_rfl))
  f29 := Try.func97.trans (congrArg some (by kernel_rfl))
  f46 := ⟨Try.f112.name, by decide, Try.func112.trans (congrArg some (by kernel_rfl))⟩
  f47 := Try.func108.trans (congrArg some (by kernel_rfl))
  f48 := Try.func109.trans (congrArg some (by kernel_rfl))
  f49 := ⟨Try.f113.name, by decide, Try.func113.trans (congrArg some (by kernel_rfl))⟩
  f50 := ⟨Try.f114.name, by decide, Try.func114.trans (congrArg some (by kernel_rfl))⟩
  f57 := ⟨Try.f116.name, by decide, Try.func116.trans (congrArg some (by kernel_rfl))⟩
  t0 := Try.underlying0
  a0 := Try.isAgg0
  z0 := Try.sizeOf0
  v0 := Try.zeroValue0
  t3 := Try.underlying3
  a3 := Try.isAgg3
  z3 := Try.sizeOf3
  v3 := Try.zeroValue3
  t4 := Try.underlying4
  a4 := Try.isAgg4
  z4 := Try.sizeOf4
  v4 := Try.zeroValue4
  t5 := Try.underlying5
  a5 := Try.isAgg5
  z5 := Try.sizeOf5
  v5 := Try.zeroValue5
  t9 := Try.underlying9
  a9 := Try.isAgg9
  z9 := Try.sizeOf9
  v9 := Try.zeroValue9
  t22 := Try.underlying29
  a22 := Try.isAgg29
  z22 := Try.sizeOf29
  v22 := Try.zeroValue29
  t25 := Try.underlying97
  a25 := Try.isAgg97
  z25 := Try.sizeOf97
  v25 := Try.zeroValue97
  t39 := Try.underlying102
  a39 := Try.isAgg102
  z39 := Try.sizeOf102
  v39 := Try.zeroValue102
  t45 := Try.underlying109
  a45 := Try.isAgg109
  z45 := Try.sizeOf109
  v45 := Try.zeroValue109
  t46 := Try.underlying110
  a46 := Try.isAgg110
  z46 := Try.sizeOf110
  v46 := Try.zeroValue110
  t50 := Try.underlying88
  a50 := Try.isAgg88
  z50 := Try.sizeOf88
  v50 := Try.zeroValue88
  t53 := Try.underlying116
  a53 := Try.isAgg116
  z53 := Try.sizeOf116
  v53 := Try.zeroValue116
  t55 := Try.underlying118
  a55 := Try.isAgg118
  z55 := Try.sizeOf118
  v55 := Try.zeroValue118
  t66 := Try.underlying124
  a66 := Try.isAgg124
  z66 := Try.sizeOf124
  v66 := Try.zeroValue124
  t70 := Try.underlying128
  a70 := Try.isAgg128
  z70 := Try.sizeOf128
  v70 := Try.zeroValue128
  t76 := Try.underlying132
  a76 := Try.isAgg132
  z76 := Try.sizeOf132
  v76 := Try.zeroValue132
  t77 := Try.underlying59
  a77 := Try.isAgg59
  z77 := Try.sizeOf59
  v77 := Try.zeroValue59 }
def Try.sortI_ren : Go.Shelf.Ren := ⟨fun | 5 => 74 | 8 => 84 | 7 => 83 | 19 => 96 | 20 => 97 | 10 => 88 | 11 => 89 | 12 => 90 | 13 => 91 | 14 => 92 | 15 => 93 | 16 => 86 | 17 => 94 | 18 => 95 | 30 => 107 | 31 => 108 | 32 => 109 | 33 => 110 | 34 => 111 | 35 => 106 | 40 => 115 | n => n, fun | 23 => 28 | 25 => 3 | 3 => 3 | 32 => 102 | 22 => 28 | 0 => 0 | 44 => 116 | 46 => 118 | 4 => 4 | 36 => 110 | 35 => 109 | 41 => 88 | 5 => 5 | 9 => 9 | 53 => 124 | 57 => 128 | 63 => 132 | 64 => 59 | n => n, fun | n => n⟩
theorem Try.sortI : Go.Proofs.SlLaysM.n5 Try.prog Try.sortI_ren := {
  mixed := by kernel_rfl
  f5 := ⟨Try.f74.name, by decide, Try.func74.trans (congrArg some (by kernel_rfl))⟩
  f7 := ⟨Try.f83.name, by decide, Try.func83.trans (congrArg some (by kernel_rfl))⟩
  f8 := Try.func84.trans (congrArg some (by kernel_rfl))
  f10 := ⟨Try.f88.name, by decide, Try.func88.trans (congrArg some (by kernel_rfl))⟩
  f11 := ⟨Try.f89.name, by decide, Try.func89.trans (congrArg some (by kernel_rfl))⟩
  f12 := ⟨Try.f90.name, by decide, Try.func90.trans (congrArg some (by kernel_rfl))⟩
  f13 := ⟨Try.f91.name, by decide, Try.func91.trans (congrArg some (by kernel_rfl))⟩
  f14 := ⟨Try.f92.name, by decide, Try.func92.trans (congrArg some (by kernel_rfl))⟩
  f15 := ⟨Try.f93.name, by decide, Try.func93.trans (congrArg some (by kernel_rfl))⟩
  f16 := ⟨Try.f86.name, by decide, Try.func86.trans (congrArg some (by kernel_rfl))⟩
  f17 := ⟨Try.f94.name, by decide, Try.func94.trans (congrArg some (by kernel_rfl))⟩
  f18 := ⟨Try.f95.name, by decide, Try.func95.trans (congrArg some (by kernel_rfl))⟩
  f19 := Try.func96.trans (congrArg some (by kernel_rfl))
  f20 := Try.func97.trans (congrArg some (by kernel_rfl))
  f30 := ⟨Try.f107.name, by decide, Try.func107.trans (congrArg some (by kernel_rfl))⟩
  f31 := Try.func108.trans (congrArg some (by kernel_rfl))
  f32 := Try.func109.trans (congrArg some (by kernel_rfl))
  f33 := ⟨Try.f110.name, by decide, Try.func110.trans (congrArg some (by kernel_rfl))⟩
  f34 := ⟨Try.f111.name, by decide, Try.func111.trans (congrArg some (by kernel_rfl))⟩
  f35 := ⟨Try.f106.name, by decide, Try.func106.trans (congrArg some (by kernel_rfl))⟩
  f40 := ⟨Try.f115.name, by decide, Try.func115.trans (congrArg some (by kernel_rfl))⟩
  t0 := Try.underlying0
  a0 := Try.isAgg0
  z0 := Try.sizeOf0
  v0 := Try.zeroValue0
  t3 := Try.underlying3
  a3 := Try.isAgg3
  z3 := Try.sizeOf3
  v3 := Try.zeroValue3
  t4 := Try.underlying4
  a4 := Try.isAgg4
  z4 := Try.sizeOf4
  v4 := Try.zeroValue4
  t5 := Try.underlying5
  a5 := Try.isAgg5
  z5 := Try.sizeOf5
  v5 := Try.zeroValue5
  t9 := Try.underlying9
  a9 := Try.isAgg9
  z9 := Try.sizeOf9
  v9 := Try.zeroValue9
  t22 := Try.underlying28
  a22 := Try.isAgg28
  z22 := Try.sizeOf28
  v22 := Try.zeroValue28
  t23 := Try.underlying28
  a23 := Try.isAgg28
  z23 := Try.sizeOf28
  v23 := Try.zeroValue28
  t25 := Try.underlying3
  a25 := Try.isAgg3
  z25 := Try.sizeOf3
  v25 := Try.zeroValue3
  t32 := Try.underlying102
  a32 := Try.isAgg102
  z32 := Try.sizeOf102
  v32 := Try.zeroValue102
  t35 := Try.underlying109
  a35 := Try.isAgg109
  z35 := Try.sizeOf109
  v35 := Try.zeroValue109
  t36 := Try.underlying110
  a36 := Try.isAgg110
  z36 := Try.sizeOf110
  v36 := Try.zeroValue110
  t41 := Try.underlying88
  a41 := Try.isAgg88
  z41 := Try.sizeOf88
  v41 := Try.zeroValue88
  t44 := Try.underlying116
  a44 := Try.isAgg116
  z44 := Try.sizeOf116
  v44 := Try.zeroValue116
  t46 := Try.underlying118
  a46 := Try.isAgg118
  z46 := Try.sizeOf118
  v46 := Try.zeroValue118
  t53 := Try.underlying124
  a53 := Try.isAgg124
  z53 := Try.sizeOf124
  v53 := Try.zeroValue124
  t57 := Try.underlying128
  a57 := Try.isAgg128
  z57 := Try.sizeOf128
  v57 := Try.zeroValue128
  t63 := Try.underlying132
  a63 := Try.isAgg132
  z63 := Try.sizeOf132
  v63 := Try.zeroValue132
  t64 := Try.underlying59
  a64 := Try.isAgg59
  z64 := Try.sizeOf59
  v64 := Try.zeroValue59 }
end Go.Proofs
end
section
namespace Go.Proofs
open Go.Shelf Go.RowKit Go.Lib Go.Sort Go.Abs
abbrev EdgeOk := {x : api_Edge // okE x = true}
instance : Inhabited EdgeOk := ⟨⟨⟨0, 0, 0⟩, rfl⟩⟩
def cfE (x y : EdgeOk) : Int := if x.1.From = y.1.From then x.1.Event - y.1.Event else x.1.From - y.1.From
theorem ltOf_cfE (x y : EdgeOk) : ltOf cfE x y = ltE x.1 y.1 := by
  unfold ltOf cfE ltE
  apply decide_eq_decide.2
  split <;> omega
theorem swoE : SWO (ltOf cfE) := {
  irrefl x := by rw [ltOf_cfE]; simp [ltE]
  trans x y z h1 h2 := by rw [ltOf_cfE] at *; simp only [ltE, decide_eq_true_eq] at *; omega
  ntrans x y z h1 h2 := by rw [ltOf_cfE] at *; simp only [ltE, decide_eq_false_iff_not] at *; omega }
set_option maxHeartbeats 1000000 in
theorem Try.edges77 (x y : EdgeOk) (W : World) : Calls Try.prog 77 #[.agg ((e_api_Edge x.1).map D.val).toArray, .agg ((e_api_Edge y.1).map D.val).toArray] W fun e w' => e = .returned (.int .i64 (cfE x y)) ∧ ∃ q os', w' = grow (W.drewN q) os' := by
  obtain ⟨⟨a, b, c⟩, hx0⟩ := x
  obtain ⟨⟨a', b', c'⟩, hy0⟩ := y
  have hx := hx0
  have hy := hy0
  simp only [okE, decide_eq_true_eq] at hx hy
  have w1 : IntKind.i64.wrap (a - a') = a - a' := by simp [IntKind.wrap, IntKind.bits, IntKind.signed]; omega
  have w2 : IntKind.i64.wrap (b - b') = b - b' := by simp [IntKind.wrap, IntKind.bits, IntKind.signed]; omega
  have hr : cfE ⟨⟨a, b, c⟩, hx0⟩ ⟨⟨a', b', c'⟩, hy0⟩ = if a = a' then b - b' else a - a' := rfl
  generalize cfE ⟨⟨a, b, c⟩, hx0⟩ ⟨⟨a', b', c'⟩, hy0⟩ = r at hr ⊢
  simp only [e_api_Edge, List.map_cons, List.map_nil, D.val]
  go_enter Try.func77, Try.ntmps77
  go_wp2
  · rename_i h
    have h : a ≠ a' := by simpa using h
    go_ret
    exact ⟨by rw [hr, if_neg h]; rfl, 0, _, by rw [alloc_eq_grow, alloc_eq_grow, grow_grow]; rfl⟩
  · rename_i h
    have h : a = a' := by simpa using h
    go_ret
    exact ⟨by rw [hr, if_pos h]; rfl, 0, _, by rw [alloc_eq_grow, alloc_eq_grow, grow_grow]; rfl⟩
set_option maxHeartbeats 1000000 in
theorem Try.row76 : RowFn Try.prog 76 (fun x : EdgeOk => e_api_Edge x.1) #[.func (.func 77) #[] #[]] (fun xs => (pdq (ltOf cfE) xs.toArray 0 xs.length (Lib.bitLen xs.length) true true).toList) :=
  rowFn_sortFunc Try.sortE Try.isAgg43 Try.sizeOf43 (fun x : EdgeOk => e_api_Edge x.1) (fun _ => rfl) (by decide) (fun _ => rfl) cfE swoE 77 #[] (enters_of Try.func77 (by kernel_rfl) rfl) (fun x y W => Try.edges77 x y W)
set_option maxHeartbeats 1000000 in
theorem Try.row55 : RowFn Try.prog 55 (fun x : EdgeOk => e_api_Edge x.1) #[] (fun xs => (pdq (ltOf cfE) xs.toArray 0 xs.length (Lib.bitLen xs.length) true true).toList) := by
  refine RowFn.from_caller Try.row76 fun p n cap w _ _ F hcon => ?_
  go_enter Try.func55, Try.ntmps55
  go_wp2_with (go_at_call 76; refine hcon.mono ?_; rintro e w' ⟨rfl, n, os, rfl⟩)
  go_end0
  exact ⟨rfl, n, os, rfl⟩
set_option maxHeartbeats 1000000 in
theorem Try.none55 (p : Option Addr) (cap : Nat) (w : World) : Calls Try.prog 55 (#[.slice p 0 cap] ++ #[]) w fun e' w' => e' = .returned (.tuple #[]) ∧ w' = w := by
  have hcon := fun w => AnyF.slices_SortFunc_none Try.sortE p cap (.func (.func 77) #[] #[]) w
  change ∀ w, Calls Try.prog 76 _ _ _ at hcon
  go_enter Try.func55, Try.ntmps55
  go_wp2_with (go_at_call 76; refine (hcon _).mono ?_; rintro e w' ⟨rfl, rfl⟩)
  go_end0
  exact ⟨rfl, rfl⟩
theorem Try.rowK55 : Go.Abs.RowK Try.prog 55 e_api_Edge 3 [] edgesO :=
  rowK_sort (e := e_api_Edge) (sz := 3) (N := 65536) (by decide) (fun _ => rfl) (fun _ => rfl) swoE ltOf_cfE (by kernel_rfl) (ex := #[]) (exV := []) (fun _ _ us h => h) Try.row55 Try.none55
end Go.Proofs
end
section
namespace Go.Proofs
open Go.RowKit Go.Maps Go.Sort Go.Shelf
attribute [local go_sem] Oper.semAt_some
def Try.upto {α : Type} (f : Nat → α) (k : Nat) : List α := (List.range k).map f
theorem Try.upto_succ {α : Type} (f : Nat → α) (k : Nat) : Try.upto f (k + 1) = Try.upto f k ++ [f k] := by simp [Try.upto, List.range_succ]
theorem Try.upto_length {α : Type} (f : Nat → α) (k : Nat) : (Try.upto f k).length = k := by simp [Try.upto]
theorem Try.upto_all (zs : List Int) : Try.upto (fun j => zs[j]?.getD 0) zs.length = zs := by
  apply List.ext_getElem
  · simp [Try.upto]
  · intro i h1 h2
    simp [Try.upto, h2]
theorem Try.upto_take (zs : List Int) {k : Nat} (hk : k ≤ zs.length) : Try.upto (fun j => zs[j]?.getD 0) k = zs.take k := by
  apply List.ext_getElem
  · simp [Try.upto, hk]
  · intro i h1 h2
    have : i < zs.length := by simp [Try.upto] at h1; omega
    simp [Try.upto, this]
set_option maxRecDepth 100000 in
set_option maxHeartbeats 2000000 in
theorem Try.values1_in (F : Fence) (n : Nat) (h7 : F.fn 75) (hro : F.round = none) (hn : 1 ≤ n) (l Bs n₀ b off len cap : Nat) (zs : List Int) (hreach : len * 8 ≤ 140737488351232) (hb : b < n₀) (J Jx : List Int → World → Prop)
    (hY : ∀ pre x W, J pre W → pre.length < len → YieldAt F (n - 1) Try.prog l #[.int .i64 x] W fun e W' =>
      (e = .returned (.bool true) ∧ J (pre ++ [x]) W' ∧ Below n₀ W W') ∨ (e = .returned (.bool false) ∧ Jx (pre ++ [x]) W'))
    (W : World) (hBs : W.cell? ⟨Bs, 0, none⟩ = some (.slice (some ⟨b, off, none⟩) len cap)) (hc : ∀ j, j < len → W.cell? ⟨b, off + j, none⟩ = some (.int .i64 (zs[j]?.getD 0))) (h0 : J [] W) :
    CallsIn F n Try.prog 75 #[.func (.yield l) #[] #[], .pointer (some ⟨Bs, 0, none⟩)] W fun e W' => (∃ v, e = .returned v) ∧
      ((∃ ys, ys = Try.upto (fun j => zs[j]?.getD 0) len ∧ J ys W') ∨ (∃ pre, (∃ k, k ≤ len ∧ pre = Try.upto (fun j => zs[j]?.getD 0) k) ∧ Jx pre W')) := by
  refine callsIn_of_wp Try.func75 rfl h7 ?_ hro
  simp only [Try.ntmps75, List.size_toArray, List.length_cons, List.length_nil, Nat.reduceAdd, Nat.reduceSub, Array.replicate_succ, Array.replicate_zero, List.push_toArray, List.append_toArray, List.nil_append, List.cons_append]
  gi_wp2
  gi_loopw [7] (fun i wr => ∃ k : Nat, k ≤ len ∧ i = .int .i64 k ∧ J (Try.upto (fun j => zs[j]?.getD 0) k) wr ∧ Below n₀ W wr)
    (fun i _ => len - (intOf i).toNat)
  case atStart => exact ⟨0, Nat.zero_le _, rfl, h0, Below.refl _ _⟩
  case round =>
    obtain ⟨k, hk, rfl, hJs, hnx⟩ := hrel
    have hcx : k < len → wr.cell? ⟨b, off + k, none⟩ = some (.int .i64 (zs[k]?.getD 0)) := fun h => (hnx.cell (p := ⟨b, off + k, none⟩) hb).trans (hc k h)
    by_cases hlt : k < len
    · obtain ⟨fn, tmps, assign, body, hy, hR⟩ := hY _ (zs[k]?.getD 0) wr hJs (by rw [Try.upto_length]; exact hlt)
      have hcx' := hcx hlt
      gi_wp2
      refine hR.mono ?_
      rintro e W3 (⟨rfl, hJ3, hk3⟩ | ⟨rfl, hJx3⟩)
      · gi_wp2
        go_roundw
        case rel => exact ⟨k + 1, by omega, by simp, by rw [Try.upto_succ]; exact hJ3, hnx.trans hk3⟩
        case measure => simp [intOf]; omega
      · gi_wp2
        refine bodyPost_ret (results_none rfl _ _ _) rfl ?_
        exact ⟨⟨_, rfl⟩, .inr ⟨_, ⟨k + 1, by omega, (Try.upto_succ _ _).symm⟩, hJx3⟩⟩
    · obtain rfl : k = len := by omega
      gi_wp2
      go_end0
      exact ⟨⟨_, rfl⟩, .inl ⟨_, rfl, hJs⟩⟩
set_option maxRecDepth 100000 in
set_option maxHeartbeats 1000000 in
theorem Try.values1_nil_in (F : Fence) (n : Nat) (h7 : F.fn 75) (hro : F.round = none) (l Bs : Nat) (a : Option Addr) (cap : Nat) (J : List Int → World → Prop) (W : World) (hBs : W.cell? ⟨Bs, 0, none⟩ = some (.slice a 0 cap)) (h0 : J [] W) :
    CallsIn F n Try.prog 75 #[.func (.yield l) #[] #[], .pointer (some ⟨Bs, 0, none⟩)] W fun e W' => (∃ v, e = .returned v) ∧ J [] W' := by
  refine callsIn_of_wp Try.func75 rfl h7 ?_ hro
  simp only [Try.ntmps75, List.size_toArray, List.length_cons, List.length_nil, Nat.reduceAdd, Nat.reduceSub, Array.replicate_succ, Array.replicate_zero, List.push_toArray, List.append_toArray, List.nil_append, List.cons_append]
  gi_wp2
  gi_loopw [7] (fun i wr => i = .int .i64 0 ∧ J [] wr) (fun _ _ => 0)
  case atStart => exact ⟨rfl, h0⟩
  case round =>
    obtain ⟨rfl, hJs⟩ := hrel
    gi_wp2
    go_end0
    exact ⟨⟨_, rfl⟩, hJs⟩
theorem Try.values_stops (F : Fence) (n : Nat) (h7 : F.fn 75) (hro : F.round = none) (hn : 1 ≤ n) (Bs n₀ : Nat) (sv : Value) (zs : List Int) (hreach : zs.length * 8 ≤ 140737488351232) (w : World) (hBs : Bs < w.heap.size) (hn₀ : n₀ ≤ w.heap.size)
    (hc : w.cell? ⟨Bs, 0, none⟩ = some sv) (hI : Go.Abs.Ints n₀ w sv zs) :
    SeqStopsK F n Try.prog 75 #[.pointer (some ⟨Bs, 0, none⟩)] (fun x : Int => #[Value.int .i64 x]) (Below n₀) (fun ys => ys = zs) (fun pre => pre <+: zs) zs.length w := fun l J Jx W hW _ _ hY h0 => by
  have hc' := (hW.cell (p := ⟨Bs, 0, none⟩) hBs).trans hc
  rcases hI.below (hW.mono hn₀) with ⟨a, cap, rfl, rfl⟩ | ⟨b, off, cap, rfl, hb, hcs⟩
  · exact (Try.values1_nil_in F n h7 hro l Bs a cap J W hc' h0).mono fun e W' ⟨he, hj⟩ => ⟨he, .inl ⟨_, rfl, hj⟩⟩
  · refine (Try.values1_in F n h7 hro hn l Bs n₀ b off zs.length cap zs hreach hb J Jx hY W hc' hcs h0).mono ?_
    rintro e W' ⟨he, ⟨ys, rfl, hj⟩ | ⟨pre, ⟨k, hk, rfl⟩, hj⟩⟩
    · exact ⟨he, .inl ⟨_, Try.upto_all zs, hj⟩⟩
    · exact ⟨he, .inr ⟨_, by rw [Try.upto_take zs hk]; exact List.take_prefix _ _, hj⟩⟩
theorem Try.info3 : (Try.prog.info? 3).map (fun i => (i.zero, i.size, i.bytes)) = some (some (.int .i64 0), 1, 8) := by kernel_rfl
set_option maxRecDepth 100000 in
set_option maxHeartbeats 2000000 in
theorem Try.appendSeq_in (F : Fence) (n : Nat) (h82 : F.fn 82) (h75 : F.fn 75) (hro : F.round = none) (hn : 3 ≤ n) (Bs : Nat) (sv : Value) (zs : List Int) (hlen : zs.length * 8 ≤ 140737488351232) (w : World) (hBs : Bs < w.heap.size) (hc0 : w.cell? ⟨Bs, 0, none⟩ = some sv) (hI : Go.Abs.Ints w.heap.size w sv zs) :
    CallsIn F n Try.prog 82 #[.slice none 0 0, .func (.func 75) #[] #[.pointer (some ⟨Bs, 0, none⟩)]] w fun e W' => ∃ v, e = .returned v ∧ W'.ownsRow w.heap.size 3 1 v zs.length (zs.map (Value.int .i64)) ∧ (v = .slice none 0 0 ↔ zs = []) ∧ Below w.heap.size w W' := by
  have h1 : 1 ≤ n := by omega
  obtain ⟨i0, hi, hz0, hz1, hz2⟩ := info_parts Try.info3
  refine callsIn_of_wp_marks Try.func82 rfl h82 ?_ hro
  simp only [Try.ntmps82, List.size_toArray, List.length_cons, List.length_nil, Nat.reduceAdd, Nat.reduceSub, Array.replicate_succ, Array.replicate_zero, List.push_toArray, List.append_toArray, List.nil_append, List.cons_append]
  gi_wp2
  have bO := Boxed.new w 28 (.slice none 0 0)
  have hB0 : Below w.heap.size w (w.alloc (.cells #[.slice none 0 0] 28)) := (Below.refl _ w).alloc (Nat.le_refl _) _
  refine wpIn_rangeFunc_ownG hro h1 (gf := 75) (lb := #[.pointer (some ⟨Bs, 0, none⟩)]) rfl h75 (enters_of Try.func75 (by kernel_rfl) rfl)
    (Try.values_stops F (n - 1) h75 hro (by omega) Bs w.heap.size sv zs hlen _ (by simp; omega) (by simp) ((hB0.cell (p := ⟨Bs, 0, none⟩) hBs).trans hc0) (hI.below hB0)) belowK_t (belowK_b (by simp)) (Below.refl _ _) (fun _ => rfl)
    (fun pre W => (∃ v, Boxed W w.heap.size 28 v ∧ W.ownsRow w.heap.size 3 1 v pre.length (pre.map (Value.int .i64)) ∧ (v = .slice none 0 0 ↔ pre = [])) ∧ Below w.heap.size w W)
    (fun _ _ _ => False)
    (OwnFrom.and (Own.from (holdsRow_own w.heap.size w.heap.size 28 3 1 (fun pre => pre.length) (fun pre => pre.map (Value.int .i64)) (fun pre v => v = .slice none 0 0 ↔ pre = [])) _) (ownFrom_below (Nat.le_refl _) (by simp)))
    (fun _ _ _ _ _ hs _ _ => hs)
    ⟨⟨_, bO, World.ownsRow_nil _ _ _ _, by simp⟩, hB0⟩
    (fun x => { tmps := #[.slice none 0 0, .func (.func 75) #[] #[.pointer (some ⟨Bs, 0, none⟩)], .pointer (some ⟨w.heap.size, 0, none⟩), undef, .slice none 0 0, .int .i64 x, .func (.func 75) #[] #[.pointer (some ⟨Bs, 0, none⟩)], .int .i64 x, undef, undef, undef, undef, undef], defers := [] }) ?assign ?body ?done ?stop
  case assign =>
    intro l x W K hK
    gi_wp2
    exact hK
  case body =>
    rintro l pre x W ⟨⟨v, hv, hrow, hnil⟩, hB⟩ hlt
    have hc := hv.cell
    gi_wp2_with (gi_at_builtin; refine wpListIn_append_own _ rfl _ _ 28 rfl w.heap.size 3 i0 (.int .i64 0) 1 8 Try.underlying28 hi hz0 hz1 hz2 rfl (by decide) _ _ _ rfl (hrow.alloc _) ⟨W.heap.size, 0, none⟩ 1 1 [.int .i64 x] rfl rfl (cell_one_new _ _ _) (by simp [Value.oneCell']) (by have : maxLen = 9223372036854775807 := rfl; omega) (by omega) (by have := hB.size; simp; omega) ?_; intro v' w1 hown' hgrow _; obtain ⟨g', cap', rfl⟩ := ownsRow_succ hown'; obtain ⟨hv1, hv2, hr2, hk2, hb2⟩ := hv.appended (by decide) hrow hB.size (Nat.le_refl _) hown' hgrow; have hc1 := hv1.cell; have hf1 := hv1.frozen)
    exact ⟨hk2.from _, hb2, ⟨_, hv2, by simpa using hr2, by simp⟩, hB.trans hb2⟩
  case done =>
    rintro D ys W hD rfl ⟨⟨v, hv, hrow, hnil⟩, hB⟩ hK
    have hc := hv.cell
    gi_wp2
    refine ⟨by simp, .inl ⟨_, _, rfl, run_takeDeferred hK, ?_⟩⟩
    exact ⟨_, results_tmp rfl _ _ _, v, rfl, ownsRow_putObj hrow _ hK rfl, hnil, hB.trans (belowK_b (w := w) (Nat.le_refl _) W D _ _ (by simp at hD; omega) hK rfl rfl)⟩
  case stop =>
    rintro D c pre W _ _ h _
    exact h.elim
set_option maxHeartbeats 1000000 in
theorem Try.collect_in (F : Fence) (n : Nat) (h73 : F.fn 73) (h82 : F.fn 82) (h75 : F.fn 75) (hro : F.round = none) (hn : 4 ≤ n) (Bs : Nat) (sv : Value) (zs : List Int) (hlen : zs.length * 8 ≤ 140737488351232) (w : World) (hBs : Bs < w.heap.size) (hc0 : w.cell? ⟨Bs, 0, none⟩ = some sv) (hI : Go.Abs.Ints w.heap.size w sv zs) :
    CallsIn F n Try.prog 73 #[.func (.func 75) #[] #[.pointer (some ⟨Bs, 0, none⟩)]] w fun e W' => ∃ v, e = .returned v ∧ W'.ownsRow w.heap.size 3 1 v zs.length (zs.map (Value.int .i64)) ∧ (v = .slice none 0 0 ↔ zs = []) ∧ Below w.heap.size w W' := by
  have h1 : 1 ≤ n := by omega
  refine callsIn_of_wp Try.func73 rfl h73 ?_ hro
  simp only [Try.ntmps73, List.size_toArray, List.length_cons, List.length_nil, Nat.reduceAdd, Nat.reduceSub, Array.replicate_succ, Array.replicate_zero, List.push_toArray, List.append_toArray, List.nil_append, List.cons_append]
  gi_wp2_with (gi_at_call 82; refine (Try.appendSeq_in F (n - 1) h82 h75 hro (by omega) Bs sv zs hlen _ hBs hc0 hI).mono ?_; rintro e w' ⟨v, rfl, hrow, hnil, hb⟩)
  go_ret
  exact ⟨v, rfl, hrow, hnil, hb⟩
set_option maxRecDepth 100000 in
set_option maxHeartbeats 2000000 in
theorem Try.sorted_in (F : Fence) (n : Nat) (h52 : F.fn 52) (h73 : F.fn 73) (h82 : F.fn 82) (h75 : F.fn 75) (h74 : F.fn 74) (hro : F.round = none) (hn : 5 ≤ n)
    (hs1 : ∀ (blk off cap : Nat) (ss : List Int) (W : World), Holds encZ W blk off ss.toArray → blk < W.heap.size → ss.length < 4611686018427387904 →
      CallsIn F (n - 1) Try.prog 74 #[.slice (some ⟨blk, off, none⟩) ss.length cap] W fun e w' => e = .returned (.tuple #[]) ∧ ∃ k os, w' = grow (putRow encZ (Sort.ahead W k) blk off (ss.mergeSort fun x y => decide (x ≤ y)).toArray) os)
    (hs2 : ∀ (p : Option Addr) (cap : Nat) (W : World), CallsIn F (n - 1) Try.prog 74 #[.slice p 0 cap] W fun e w' => e = .returned (.tuple #[]) ∧ w' = W)
    (Bs : Nat) (sv : Value) (zs : List Int) (hlen : zs.length * 8 ≤ 140737488351232) (w : World) (hBs : Bs < w.heap.size) (hc0 : w.cell? ⟨Bs, 0, none⟩ = some sv) (hI : Go.Abs.Ints w.heap.size w sv zs) :
    CallsIn F n Try.prog 52 #[.func (.func 75) #[] #[.pointer (some ⟨Bs, 0, none⟩)]] w fun e W' => ∃ v, e = .returned v ∧ W'.ownsRow w.heap.size 3 1 v zs.length ((zs.mergeSort fun x y => decide (x ≤ y)).map encZ) ∧ Below w.heap.size w W' := by
  have h1 : 1 ≤ n := by omega
  refine callsIn_of_wp Try.func52 rfl h52 ?_ hro
  simp only [Try.ntmps52, List.size_toArray, List.length_cons, List.length_nil, Nat.reduceAdd, Nat.reduceSub, Array.replicate_succ, Array.replicate_zero, List.push_toArray, List.append_toArray, List.nil_append, List.cons_append]
  gi_wp2_with (gi_at_call 73; refine (Try.collect_in F (n - 1) h73 h82 h75 hro (by omega) Bs sv zs hlen _ hBs hc0 hI).mono ?_; rintro e W ⟨v, rfl, hrow, hnil, hb⟩)
  rcases hrow.2 with ⟨rfl, hz⟩ | ⟨gb, cap, cur, rfl, hbase, hgb, r1, r2, r3, r4⟩
  · have hss : zs = [] := List.eq_nil_of_length_eq_zero hz
    subst hss
    gi_wp2_with (gi_at_call 74; refine (hs2 none 0 W).mono ?_; rintro e w' ⟨rfl, rfl⟩)
    go_ret
    exact ⟨_, rfl, by simpa using hrow, hb⟩
  · have hH : Holds encZ W gb 0 zs.toArray := holds_of_block_i hgb (by simpa using r4)
    have hgl : gb < W.heap.size := (Array.getElem?_eq_some_iff.1 hgb).1
    have cS := hs1 gb 0 cap zs W hH hgl (by omega)
    gi_wp2_with (gi_at_call 74; refine cS.mono ?_; rintro e w' ⟨rfl, nn, os, rfl⟩)
    go_ret
    exact ⟨_, rfl, ownsRow_sorted_i (by simp) hbase hgb r1 r2 r3, hb.grown (grownBy_sorted_i _) hb.size (fun j hj => by cases hj; exact hbase)⟩
theorem Try.sorted52 (Bs : Nat) (sv : Value) (zs : List Int) (hlen : zs.length * 8 ≤ 140737488351232) (w : World) (hBs : Bs < w.heap.size) (hc0 : w.cell? ⟨Bs, 0, none⟩ = some sv) (hI : Go.Abs.Ints w.heap.size w sv zs) :
    Calls Try.prog 52 #[.func (.func 75) #[] #[.pointer (some ⟨Bs, 0, none⟩)]] w fun e W' => ∃ v, e = .returned v ∧ W'.ownsRow w.heap.size 3 1 v zs.length ((zs.mergeSort fun x y => decide (x ≤ y)).map encZ) ∧ Below w.heap.size w W' :=
  (callsIn_wide (n := 5)).1 (Try.sorted_in Fence.wide 5 trivial trivial trivial trivial trivial rfl (by omega) (fun blk off cap ss W hH hblk hsz => callsIn_wide.2 (AnyM.slices_Sort_int Try.sortI blk off cap ss W hH hblk hsz)) (fun p cap W => callsIn_wide.2 (AnyM.slices_Sort_int_none Try.sortI p cap W)) Bs sv zs hlen w hBs hc0 hI)
end Go.Proofs
end
section
namespace Go.Proofs
open Go.Abs
theorem Try.valuesK : ValsK Try.prog 53 75 1 4 := valsK_of (by kernel_rfl)
theorem Try.overK : OverK Try.prog 52 75 (eI .i64) 1 intsO :=
  overK_of (by kernel_rfl) fun Bs sv zs w h1 h2 h3 h4 => Try.sorted52 Bs sv zs h1 w h2 h3 h4
end Go.Proofs
end
section
namespace Go.Proofs
open Go Go.Abs
set_option linter.unusedVariables false
set_option maxRecDepth 10000
set_option maxHeartbeats 4000000
theorem ok_overseerlaw03_example : K_overseerlaw03_example Try.prog 46 g_overseerlaw03_example := overseerlaw03_example_walk C_overseerlaw03_example
theorem ok_automaton_checkSet : K_automaton_checkSet Try.prog 68 g_automaton_checkSet := automaton_checkSet_walk C_automaton_checkSet fuel0
theorem ok_slices_Index_int : K_slices_Index_int Try.prog 54 g_slices_Index_int := slices_Index_int_walk C_slices_Index_int fuel0
theorem ok_slices_Contains_int : K_slices_Contains_int Try.prog 50 g_slices_Contains_int := slices_Contains_int_walk ok_slices_Index_int C_slices_Contains_int
theorem ok_automaton_checkEdges : K_automaton_checkEdges Try.prog 69 g_automaton_checkEdges := automaton_checkEdges_walk ok_slices_Contains_int C_automaton_checkEdges fuel0
theorem ok_automaton_Check : K_automaton_Check Try.prog 45 g_automaton_Check := automaton_Check_walk ok_automaton_checkSet ok_automaton_checkEdges C_automaton_Check
theorem ok_slices_Clone_int : K_slices_Clone_int Try.prog 49 g_slices_Clone_int := slices_Clone_int_walk C_slices_Clone_int
theorem ok_cmp_isNaN_int : K_cmp_isNaN_int Try.prog 106 g_cmp_isNaN_int := cmp_isNaN_int_walk C_cmp_isNaN_int
theorem ok_cmp_Less_int : K_cmp_Less_int Try.prog 86 g_cmp_Less_int := cmp_Less_int_walk ok_cmp_isNaN_int C_cmp_Less_int
theorem ok_slices_isNaN_int : K_slices_isNaN_int Try.prog 87 g_slices_isNaN_int := slices_isNaN_int_walk C_slices_isNaN_int
theorem ok_slices_BinarySearch_int : K_slices_BinarySearch_int Try.prog 78 g_slices_BinarySearch_int := slices_BinarySearch_int_walk ok_cmp_Less_int ok_slices_isNaN_int C_slices_BinarySearch_int fuel0
theorem ok_slices_BinarySearchFunc_int : K_slices_BinarySearchFunc_int Try.prog 70 g_slices_BinarySearchFunc_int := slices_BinarySearchFunc_int_walk C_slices_BinarySearchFunc_int fuel0
theorem ok_automaton_out_1 : K_automaton_out_1 Try.prog 71 g_automaton_out_1 := automaton_out_1_walk C_automaton_out_1
theorem ok_automaton_out_2 : K_automaton_out_2 Try.prog 72 g_automaton_out_2 := automaton_out_2_walk C_automaton_out_2
theorem ok_automaton_out : K_automaton_out Try.prog 48 g_automaton_out := automaton_out_walk ok_slices_BinarySearchFunc_int ok_automaton_out_1 ok_automaton_out_2 C_automaton_out
theorem ok_automaton_canonical : K_automaton_canonical Try.prog 56 g_automaton_canonical := automaton_canonical_walk ok_automaton_out ok_slices_Clone_int ok_slices_BinarySearch_int C_automaton_canonical fuel0
theorem ok_automaton_Canonical : K_automaton_Canonical Try.prog 29 g_automaton_Canonical := automaton_Canonical_walk ok_automaton_Check ok_automaton_canonical C_automaton_Canonical
theorem ok_automaton_checkState : K_automaton_checkState Try.prog 63 g_automaton_checkState := automaton_checkState_walk ok_automaton_Check C_automaton_checkState
theorem ok_automaton_Run_1 : K_automaton_Run_1 Try.prog 65 g_automaton_Run_1 := automaton_Run_1_walk ok_slices_Contains_int C_automaton_Run_1
theorem ok_slices_IndexFunc_int : K_slices_IndexFunc_int Try.prog 79 g_slices_IndexFunc_int := slices_IndexFunc_int_walk C_slices_IndexFunc_int fuel0
theorem ok_slices_ContainsFunc_int : K_slices_ContainsFunc_int Try.prog 64 g_slices_ContainsFunc_int := slices_ContainsFunc_int_walk ok_slices_IndexFunc_int C_slices_ContainsFunc_int
theorem ok_automaton_next_1 : K_automaton_next_1 Try.prog 81 g_automaton_next_1 := automaton_next_1_walk C_automaton_next_1
theorem ok_slices_IndexFunc_Edge : K_slices_IndexFunc_Edge Try.prog 80 g_slices_IndexFunc_Edge := slices_IndexFunc_Edge_walk C_slices_IndexFunc_Edge fuel0
theorem ok_automaton_next : K_automaton_next Try.prog 67 g_automaton_next := automaton_next_walk ok_automaton_out ok_slices_IndexFunc_Edge ok_automaton_next_1 C_automaton_next
theorem ok_automaton_follow : K_automaton_follow Try.prog 66 g_automaton_follow := automaton_follow_walk ok_automaton_next C_automaton_follow fuel0
theorem ok_automaton_Run : K_automaton_Run Try.prog 34 g_automaton_Run := automaton_Run_walk ok_automaton_checkState ok_slices_ContainsFunc_int ok_automaton_Run_1 ok_automaton_follow C_automaton_Run
theorem ok_automaton_Words : K_automaton_Words Try.prog 16 g_automaton_Words := automaton_Words_walk ok_automaton_Check ok_automaton_out ok_slices_Clone_int ok_slices_Contains_int C_automaton_Words fuel0
theorem ok_automaton_Relabel : K_automaton_Relabel Try.prog 20 g_automaton_Relabel := automaton_Relabel_walk ok_automaton_Check ok_slices_Contains_int Try.overK Try.valuesK ok_slices_Index_int Try.rowK55 ok_automaton_canonical C_automaton_Relabel fuel0
theorem ok_overseerref03_SameInts : K_overseerref03_SameInts Try.prog 38 g_overseerref03_SameInts := overseerref03_SameInts_walk C_overseerref03_SameInts fuel0
theorem ok_overseerref03_Same : K_overseerref03_Same Try.prog 23 g_overseerref03_Same := overseerref03_Same_walk ok_overseerref03_SameInts C_overseerref03_Same fuel0
theorem ok_overseerlaw03_known : K_overseerlaw03_known Try.prog 13 g_overseerlaw03_known := overseerlaw03_known_walk ok_automaton_Words ok_automaton_Relabel ok_overseerref03_Same ok_automaton_Canonical ok_automaton_Run ok_overseerref03_SameInts ok_overseerlaw03_example C_overseerlaw03_known
theorem ok_overseerlaw03_AutomatonMany : K_overseerlaw03_AutomatonMany Try.prog 4 g_overseerlaw03_AutomatonMany := overseerlaw03_AutomatonMany_walk ok_overseerlaw03_known ok_automaton_Words C_overseerlaw03_AutomatonMany fuel0
end Go.Proofs
end
section
namespace Go.Abs
open Go Go.ChangeShapes Go.WideShapes Go.ChangeAt Go.RowKit
set_option linter.unusedVariables false
set_option linter.unusedSimpArgs false
def live (w : World) : Nat → Nat → Prop := fun b o => (w.cell? ⟨b, o, none⟩).isSome = true
def RDs (w : World) : List D → List Value → Prop
  | [], vs => vs = []
  | x :: xs, vs => ∃ u us, vs = u :: us ∧ RD (live w) w x u ∧ RDs w xs us
theorem RDs_append {w : World} : ∀ {xs ys : List D} {us vs : List Value}, RDs w xs us → RDs w ys vs → RDs w (xs ++ ys) (us ++ vs)
  | [], ys, us, vs, h, k => by simp only [RDs] at h; subst h; simpa using k
  | x :: xs, ys, us, vs, ⟨u, us', e, r, h⟩, k => by subst e; exact ⟨u, us' ++ vs, by simp, r, RDs_append h k⟩
def RDat (w : World) (cs : List Value) (off : Nat) (xs : List D) : Prop := RDs w xs ((cs.drop off).take xs.length)
theorem RDat.app {w : World} {cs : List Value} {off : Nat} {xs ys : List D} (h : RDat w cs off xs) {n : Nat} (hn : n = off + xs.length) (k : RDat w cs n ys) : RDat w cs off (xs ++ ys) := by
  subst hn
  have := RDs_append h k
  unfold RDat
  rw [List.length_append, List.take_add, List.drop_drop]
  exact this
theorem RDat.nil {w : World} {cs : List Value} {off : Nat} : RDat w cs off [] := by simp [RDat, RDs]
theorem RDat.all {w : World} {cs : List Value} {xs : List D} (h : RDat w cs 0 xs) (hl : cs.length = xs.length) : RDs w xs cs := by
  unfold RDat at h
  rw [List.drop_zero, ← hl, List.take_length] at h
  exact h
def Reads {α : Type} (P : Program) (t : TypeId) (e : α → List D) (wf : α → Prop) : Prop :=
  ∀ {H : Type} {enc : TypeId × Value → H} {w : World} {base : Nat} {spare : Nat → Bool} {held : Bool} {fuel : Nat} {cs : List Value} {x : DataW H × List MemPlace},
    DataW.trod enc P w base spare held fuel t cs = some x → ∃ a, wf a ∧ RDs w (e a) cs
def wfI (k : IntKind) (n : Int) : Prop := (Lit.int k n).wf = true
variable {P : Program} {t : TypeId}
theorem reads_int {k : IntKind} (ht : P.underlying t = some (.int k)) : Reads P t (fun n : Int => [.int k n]) (wfI k) := by
  intro H enc w base spare held fuel cs x h
  obtain ⟨n, rfl, _, hw⟩ := DataW.trod_int ht h
  exact ⟨n, hw, _, _, rfl, by simp [RD], rfl⟩
theorem reads_bool (ht : P.underlying t = some .bool) : Reads P t (fun b : Bool => [.bool b]) (fun _ => True) := by
  intro H enc w base spare held fuel cs x h
  cases fuel with
  | zero => simp [DataW.trod] at h
  | succ n =>
    unfold DataW.trod at h
    rw [ht] at h
    split at h <;> (first | (rename_i he _; cases he; done) | skip) <;> try (cases h; done)
    all_goals (rename_i b he; cases he)
    exact ⟨b, trivial, _, _, rfl, by simp [RD], rfl⟩
def ArgReads {α : Type} (P : Program) (t : TypeId) (v : α → V) (wf : α → Prop) : Prop :=
  ∀ {H : Type} {enc : TypeId × Value → H} {w : World} {base b0 : Nat} {spare : Nat → Bool} {held : Bool} {u : Value} {d : DataW H} {ps : List MemPlace},
    Value.okWide P w .any b0 t u → DataW.Trod enc P w base spare held t u d ps → ∃ a, wf a ∧ RF ⟨fun _ => 0, live w, fun _ => .ext⟩ w (v a) u
theorem arg_one {α : Type} {e : α → D} {wf : α → Prop} (he : Reads P t (fun a => [e a]) wf) (hone : ∀ w b0 u, Value.okWide P w .any b0 t u → u.cells = #[u]) : ArgReads P t (fun a => .d (e a)) wf := by
  intro H enc w base b0 spare held u d ps hok hd
  obtain ⟨fuel, hf⟩ := hd
  rw [hone _ _ _ hok] at hf
  obtain ⟨a, h1, u', us, h2, h3, h4⟩ := he hf
  simp only [RDs] at h4; subst h4
  simp at h2; subst h2
  exact ⟨a, h1, fun ℓ => by simpa [RV] using h3⟩
theorem one_int {k : IntKind} (ht : P.underlying t = some (.int k)) : ∀ w b0 u, Value.okWide P w .any b0 t u → u.cells = #[u] := by
  intro w b0 u h
  simp only [Value.okWide, ht] at h
  cases u <;> first | rfl | (simp [Cell.okWide, Cell.ok, ht] at h)
theorem one_bool (ht : P.underlying t = some .bool) : ∀ w b0 u, Value.okWide P w .any b0 t u → u.cells = #[u] := by
  intro w b0 u h
  simp only [Value.okWide, ht] at h
  cases u <;> first | rfl | (simp [Cell.okWide, Cell.ok, ht] at h)
def LawOK (P : Program) (f : FuncId) (ts : List TypeId) : Prop :=
  ∀ {H : Type} {enc : TypeId × Value → H} {w : World} {b0 : Nat} {us : List Value} {ds : List (DataW H)} {ps : List MemPlace},
    (∀ (j : Nat) t u, ts[j]? = some t → us[j]? = some u → Value.okWide P w .any b0 t u) → DataW.TrodAll enc P w 0 (fun _ => true) true ts us ds ps →
    ∃ vs, RFs ⟨fun _ => 0, live w, fun _ => .ext⟩ w vs us ∧ (∀ x ∈ vs, Flat x) ∧ V.lt.go 0 vs = true ∧ ∀ M nb, ACalls P f vs M nb (.d (.bool true)) M nb
theorem trodAll_stays (hl : laidOutB P = true) {W W' : World} {sp : Nat → Bool} {H : Type} {enc : TypeId × Value → H} : ∀ {ts : List TypeId} {us : List Value} {ds : List (DataW H)} {ps : List MemPlace},
    (∀ t ∈ ts, P.readableRec t = true ∧ t < P.types.size) → DataW.TrodAll enc P W 0 (fun _ => true) true ts us ds ps → (∀ p ∈ ps, W.sameAt W' p) → (∀ p ∈ ps, sp p.block = true) → DataW.TrodAll enc P W' 0 sp true ts us ds ps
  | [], [], [], ps, _, h, _, _ => h
  | t :: ts, u :: us, d :: ds, ps, hr, ⟨p, q, h1, h2, e⟩, hs, hp => by
    subst e
    obtain ⟨r1, r2⟩ := hr t (by simp)
    exact ⟨p, q, WideElems.Trod_stays hl r1 r2 h1 (fun x hx => hs x (by simp [hx])) (fun x hx => hp x (by simp [hx])), trodAll_stays hl (fun t ht => hr t (by simp [ht])) h2 (fun x hx => hs x (by simp [hx])) (fun x hx => hp x (by simp [hx])), rfl⟩
  | [], [], _ :: _, _, _, h, _, _ => h.elim
  | [], _ :: _, _, _, _, h, _, _ => h.elim
  | _ :: _, [], _, _, _, h, _, _ => h.elim
  | _ :: _, _ :: _, [], _, _, h, _, _ => h.elim
theorem trodAll_len {W : World} {sp : Nat → Bool} {held : Bool} {base : Nat} {H : Type} {enc : TypeId × Value → H} : ∀ {ts : List TypeId} {us : List Value} {ds : List (DataW H)} {ps : List MemPlace},
    DataW.TrodAll enc P W base sp held ts us ds ps → ds.length = ts.length ∧ us.length = ts.length
  | [], [], [], ps, h => ⟨rfl, rfl⟩
  | t :: ts, u :: us, d :: ds, ps, ⟨p, q, h1, h2, e⟩ => by have := trodAll_len h2; simp [this.1, this.2]
  | [], [], _ :: _, _, h => h.elim
  | [], _ :: _, _, _, h => h.elim
  | _ :: _, [], _, _, h => h.elim
  | _ :: _, _ :: _, [], _, h => h.elim
theorem law_returns {C : Checked} {f : FuncId} {fn : Func} {s : ChangeSpec} {conds : List PathCond} {bt : TypeId} {os : Os} {H : Type} {enc : TypeId × Value → H}
    (own : ownKnob C.prog.godebug = none) (started : os.Started) (noInit : C.prog.inits.idxOf? f = none) (hfn : C.prog.funcs[f]? = some fn)
    (witness : ∃ (w : World) (tape : Tape) (i : Input), w.os = os ∧ (w.forCall tape i).Shaped C.prog ∧ i.vars = [] ∧ Input.okWide C.prog (w.forCall tape i) .any w.heap.size f i ∧
      s.pre6 enc C.prog fn conds false (w.forCall tape i).memory i.args ∧ ({} : Assume).holds C.prog (lone (Frame.enter C.prog f i.args .normal) [] (w.forCall tape i)))
    (hvars : s.vars = []) (hres : fn.resultTypes = #[bt]) (hbt : C.prog.underlying bt = some .bool)
    (hl : laidOutB C.prog = true) (hread : ∀ t ∈ fn.params.toList, C.prog.readableRec t = true ∧ t < C.prog.types.size)
    (hspec : ∀ ds : List (DataW H), ds.length = fn.params.size → s.fn H ds = { results := [.lit (.bool true)], args := ds })
    (law : LawOK C.prog f fn.params.toList) :
    ReturnsInHanded {} C os f .any (s.pre6 enc C.prog fn conds false) (s.post enc C.prog fn false true false false) := by
  refine returnsInHanded_of_change own started noInit hfn witness ?_
  intro W base args ds gs before hval hW hcnd _
  have hW' := hW
  obtain ⟨p, q, hA, hV, hps, hfz, hnd⟩ := hW
  rw [hvars] at hV
  obtain ⟨rfl, rfl⟩ : gs = [] ∧ q = [] := by
    cases gs with
    | nil => exact ⟨rfl, hV⟩
    | cons _ _ => exact hV.elim
  obtain ⟨vs, h1, h2, h3, h4⟩ := law (fun j t u ht hu => hval j t u (by simpa using ht) (by simpa using hu)) hA
  obtain ⟨hb, _, h5⟩ := h4 (fun _ => none) 0
  have hlv : ∀ b o, live W b o → b < W.heap.size := by
    intro b o h
    simp only [live] at h
    obtain ⟨v, hv⟩ := Option.isSome_iff_exists.1 h
    unfold World.cell? at hv
    split at hv
    · rename_i hh; exact (Array.getElem?_eq_some_iff.1 hh).1
    · cases hv
  have hmr : MR ⟨fun _ => 0, live W, fun _ => .ext⟩ W (fun _ => none) 0 := ⟨fun k b h => (by cases h), fun b o h => ⟨hlv b o h, fun k h => by cases h⟩⟩
  have h6 := h5 W ⟨fun _ => 0, live W, fun _ => .ext⟩ args.toList hmr (fun k cs h => by cases h) (fun b => ⟨fun t p h => (by cases h), fun p h => (by cases h)⟩) h1 h2 (ons_mono (fun k hk => absurd hk (Nat.not_lt_zero k)) _ (ons_lt vs h3))
  refine Calls.mono h6 fun e W' ⟨v, g', he, _, hr, _, _, hf⟩ => ?_
  subst he
  have hv : v = .bool true := by simpa [RV, RD] using hr
  subst hv
  have hbelow : Below W.heap.size W W' := ⟨hf.os, hf.tape, hf.output, hf.size, fun k hk => (hf.old k hk trivial).2.1⟩
  have hrl : (Value.bool true).resultList fn.resultTypes.size = [.bool true] := by rw [hres]; rfl
  have hsp : s.fn H (ds ++ []) = { results := [.lit (.bool true)], args := ds } := by
    rw [List.append_nil]
    exact hspec ds (by have := (trodAll_len hA).1; simpa using this)
  have hlt : ∀ p ∈ before, p.block < W.heap.size := fun x hx => hW'.lt x hx
  have hst : ∀ sp : Nat → Bool, (∀ p ∈ before, sp p.block = true) → DataW.TrodAll enc C.prog W' 0 sp true fn.params.toList args.toList ds before := by
    intro sp hsp'
    have e : p = before := by rw [hps, List.append_nil]
    subst e
    exact trodAll_stays hl hread hA (fun x hx => hbelow.same (hlt x hx)) hsp'
  refine ⟨_, rfl, ds, [], before, [], before, [], hW', ?_, ?_, ?_, World.keptBut_mono (fun p hp => ⟨hp, .inr (.inl hp)⟩) (hbelow.frame (· ∈ before)), fun h => by cases h⟩
  · rw [hsp, hrl, hres]
    exact ⟨[], [], ⟨1, by simp [DataW.trod, Value.cells, hbt]⟩, rfl, rfl⟩
  · rw [hsp]
    exact hst _ fun p hp => by simpa using hlt p hp
  · rw [hsp, hvars]; rfl
section
variable {α β γ δ : Type} {f : FuncId} {ta tb tc td : TypeId} {va : α → V} {vb : β → V} {vc : γ → V} {vd : δ → V} {wa : α → Prop} {wb : β → Prop} {wc : γ → Prop} {wd : δ → Prop}
theorem trodAll_two {H : Type} {enc : TypeId × Value → H} {w : World} {base : Nat} {sp : Nat → Bool} {held : Bool} {t : TypeId} {ts : List TypeId} {us : List Value} {ds : List (DataW H)} {ps : List MemPlace} (h : DataW.TrodAll enc P w base sp held (t :: ts) us ds ps) :
    ∃ u us' d ds' p q, us = u :: us' ∧ ds = d :: ds' ∧ DataW.Trod enc P w base sp held t u d p ∧ DataW.TrodAll enc P w base sp held ts us' ds' q := by
  match us, ds, h with
  | u :: us', d :: ds', ⟨p, q, h1, h2, _⟩ => exact ⟨u, us', d, ds', p, q, rfl, rfl, h1, h2⟩
  | [], [], h => exact h.elim
  | [], _ :: _, h => exact h.elim
  | _ :: _, [], h => exact h.elim
theorem trodAll_end {H : Type} {enc : TypeId × Value → H} {w : World} {base : Nat} {sp : Nat → Bool} {held : Bool} {us : List Value} {ds : List (DataW H)} {ps : List MemPlace} (h : DataW.TrodAll enc P w base sp held [] us ds ps) : us = [] := by
  match us, ds, h with
  | [], [], _ => rfl
  | [], _ :: _, h => exact h.elim
  | _ :: _, [], h => exact h.elim
  | _ :: _, _ :: _, h => exact h.elim
theorem lawOK2 (ra : ArgReads P ta va wa) (fa : ∀ a, (va a).dem = va a) (la : ∀ a, (va a).lt 0 = true) (rb : ArgReads P tb vb wb) (fb : ∀ a, (vb a).dem = vb a) (lb : ∀ a, (vb a).lt 0 = true)
    (law : ∀ a b, wa a → wb b → ∀ M nb, ACalls P f [va a, vb b] M nb (.d (.bool true)) M nb) : LawOK P f [ta, tb] := by
  intro H enc w b0 us ds ps hok hT
  obtain ⟨u, us', d, ds', p, q, rfl, rfl, h1, hT⟩ := trodAll_two hT
  obtain ⟨u2, us', d2, ds', p2, q2, rfl, rfl, h2, hT⟩ := trodAll_two hT
  obtain rfl := trodAll_end hT
  obtain ⟨a, ha, hra⟩ := ra (hok 0 _ _ rfl rfl) h1
  obtain ⟨b, hb, hrb⟩ := rb (hok 1 _ _ rfl rfl) h2
  refine ⟨[va a, vb b], ⟨u, _, rfl, hra, u2, _, rfl, hrb, rfl⟩, ?_, by simp [V.lt.go, la, lb], law a b ha hb⟩
  intro x hx
  simp only [List.mem_cons, List.not_mem_nil, or_false] at hx
  rcases hx with rfl | rfl
  · exact fa a
  · exact fb b
end
end Go.Abs
end
section
namespace Go.Proofs
open Go Go.Abs
set_option linter.unusedVariables false
set_option maxRecDepth 100000
def W_5 (x : Int) : Prop := wfI .u8 x
theorem R_5 : Reads Try.prog 5 (eI .u8) W_5 := reads_int Try.underlying5
theorem A_5 : ArgReads Try.prog 5 (fun (a : Int) => .d (.int .u8 a)) W_5 := arg_one R_5 (one_int Try.underlying5)
def W_4 (x : Bool) : Prop := True
theorem R_4 : Reads Try.prog 4 eB W_4 := reads_bool Try.underlying4
theorem A_4 : ArgReads Try.prog 4 (fun (a : Bool) => .d (.bool a)) W_4 := arg_one R_4 (one_bool Try.underlying4)
end Go.Proofs
end
section
namespace Go.Abs
open Go
theorem iterF_rule {X R : Type} {F : (X → Option R) → X → Option R} (I : X → Prop) (m : X → Nat) (Q : X → Option R → Prop)
    (step : ∀ (k : X → Option R) (x : X), I x → (∀ y, I y → m y < m x → Q y (k y)) → Q x (F k x)) : ∀ (fuel : Nat) (x : X), I x → m x < fuel → Q x (iterF F fuel x)
  | 0, x, _, h => absurd h (Nat.not_lt_zero _)
  | fuel + 1, x, hi, h => step _ x hi fun y hy hm => iterF_rule I m Q step fuel y hy (by omega)
theorem wrap_id {x : Int} (h1 : -9223372036854775808 ≤ x) (h2 : x ≤ 9223372036854775807) : IntKind.wrap .i64 x = x := by
  simp [IntKind.wrap, IntKind.bits, IntKind.signed]; omega
theorem wrap_succ {n : Nat} (h : n < 9223372036854775807) : IntKind.wrap .i64 ((n : Int) + 1) = ((n + 1 : Nat) : Int) := by
  rw [wrap_id (by omega) (by omega)]; omega
theorem getO_nat {α : Type} {l : List α} {n : Nat} (h : n < l.length) : getO l (n : Int) = some l[n] := by
  simp [getO, h]
theorem getO_some {α : Type} {l : List α} {i : Int} {x : α} : getO l i = some x ↔ 0 ≤ i ∧ l[i.toNat]? = some x := by
  unfold getO; split
  · rename_i h; simp [h]
  · rename_i h; simp only [reduceCtorEq, false_iff, not_and]; exact fun h' => absurd h' h
theorem appO_some {α : Type} {l m : List α} (h : l.length + m.length ≤ lim) : appO l m = some (l ++ m) := by
  unfold appO; rw [if_pos h]
theorem iterF_idx {R : Type} {F : (Int → Option R) → Int → Option R} {len fuel : Nat} (G : Nat → Option R) (hf : len < fuel)
    (step : ∀ (k : Int → Option R) (n : Nat), n < len → k ((n + 1 : Nat) : Int) = G (n + 1) → F k (n : Int) = G n) (last : ∀ k : Int → Option R, F k (len : Int) = G len) : iterF F fuel 0 = G 0 := by
  have := iterF_rule (F := F) (fun x => ∃ n : Nat, x = (n : Int) ∧ n ≤ len) (fun x => len - x.toNat) (fun x r => ∀ n : Nat, x = (n : Int) → r = G n) (fun k x hx ih => by
    obtain ⟨n, rfl, hn⟩ := hx
    intro m hm
    obtain rfl : n = m := by omega
    by_cases h : n < len
    · exact step k n h (ih _ ⟨n + 1, rfl, by omega⟩ (by omega) (n + 1) rfl)
    · obtain rfl : n = len := by omega
      exact last k) fuel 0 ⟨0, rfl, by omega⟩ (by simpa using hf)
  exact this 0 rfl
theorem wrap_pred {n : Nat} (h0 : 0 < n) (h : n < 9223372036854775807) : IntKind.wrap .i64 ((n : Int) - 1) = ((n - 1 : Nat) : Int) := by
  rw [wrap_id (by omega) (by omega)]; omega
theorem iterF_at {X S R : Type} {F : (X → Option R) → X → Option R} {len : Nat} (mk : Nat → S → X) (G : Nat → S → Option R)
    (step : ∀ (k : X → Option R) (n : Nat) (s : S), n < len → (∀ s', k (mk (n + 1) s') = G (n + 1) s') → F k (mk n s) = G n s) (last : ∀ (k : X → Option R) (s : S), F k (mk len s) = G len s) :
    ∀ (fuel n : Nat) (s : S), n ≤ len → len - n < fuel → iterF F fuel (mk n s) = G n s
  | 0, n, s, _, h => by omega
  | fuel + 1, n, s, hn, h => by
    show F (iterF F fuel) (mk n s) = _
    by_cases hlt : n < len
    · exact step _ n s hlt fun s' => iterF_at mk G step last fuel (n + 1) s' (by omega) (by omega)
    · obtain rfl : n = len := by omega
      exact last _ s
theorem mid_ok {i j : Nat} (hi : i < 1000000000000) (hj : j < 1000000000000) : IntKind.wrap .i64 (Int.fdiv (IntKind.wrap .u64 (IntKind.wrap .i64 ((i : Int) + j))) (2 ^ (min (Int.toNat 1) (IntKind.bits .u64)))) = (((i + j) / 2 : Nat) : Int) := by
  have h1 : IntKind.wrap .i64 ((i : Int) + j) = ((i + j : Nat) : Int) := by rw [wrap_id (by omega) (by omega)]; omega
  have h2 : IntKind.wrap .u64 ((i + j : Nat) : Int) = ((i + j : Nat) : Int) := by
    simp [IntKind.wrap, IntKind.bits, IntKind.signed]; omega
  have h3 : (2 : Int) ^ (min (Int.toNat 1) (IntKind.bits .u64)) = 2 := by decide
  rw [h1, h2, h3, Int.fdiv_eq_ediv_of_nonneg _ (by omega), show ((i + j : Nat) : Int) / 2 = (((i + j) / 2 : Nat) : Int) from by omega, wrap_id (by omega) (by omega)]
theorem slcO_nat {α : Type} {l : List α} {i j : Nat} (h : i ≤ j) (hj : j ≤ l.length) : slcO l (i : Int) (j : Int) = some ((l.take j).drop i) := by
  simp [slcO, h, hj]
theorem sorted_ext : ∀ {l m : List Int}, l.Pairwise (· < ·) → m.Pairwise (· < ·) → (∀ x, x ∈ l ↔ x ∈ m) → l = m
  | l, m, h1, h2, h => by
    have n1 : l.Nodup := h1.imp fun h => by omega
    have n2 : m.Nodup := h2.imp fun h => by omega
    have hp : l.Perm m := (List.perm_ext_iff_of_nodup n1 n2).2 h
    exact List.Perm.eq_of_pairwise (le := (· < ·)) (fun a b _ _ h1 h2 => by omega) h1 h2 hp
section
variable {α : Type} {p : α → Bool}
theorem count_mono : ∀ {l : List α}, l.Pairwise (fun a b => p b = true → p a = true) → ∀ (n : Nat) (h : n < l.length), p l[n] = true ↔ n < (l.filter p).length
  | [], _, n, h => by simp at h
  | x :: xs, hs, n, h => by
    obtain ⟨h1, h2⟩ := List.pairwise_cons.1 hs
    cases n with
    | zero =>
      cases hx : p x with
      | true => simp [hx]
      | false =>
        have : xs.filter p = [] := List.filter_eq_nil_iff.2 fun y hy hp => by have := h1 y hy hp; rw [hx] at this; cases this
        simp [hx, this]
    | succ n =>
      have ih := count_mono h2 n (by simpa using h)
      cases hx : p x with
      | true => simp [hx, ih]
      | false =>
        have : xs.filter p = [] := List.filter_eq_nil_iff.2 fun y hy hp => by have := h1 y hy hp; rw [hx] at this; cases this
        rw [this] at ih
        simp [hx, this] at ih ⊢
        exact ih
end
theorem iterF_inv {X S R : Type} {F : (X → Option R) → X → Option R} {len : Nat} (mk : Nat → S → X) (I : Nat → S → Prop) (G : Nat → S → Option R)
    (step : ∀ (k : X → Option R) (n : Nat) (s : S), n < len → I n s → (∀ s', I (n + 1) s' → k (mk (n + 1) s') = G (n + 1) s') → F k (mk n s) = G n s) (last : ∀ (k : X → Option R) (s : S), I len s → F k (mk len s) = G len s) :
    ∀ (fuel n : Nat) (s : S), n ≤ len → len - n < fuel → I n s → iterF F fuel (mk n s) = G n s
  | 0, n, s, _, h, _ => by omega
  | fuel + 1, n, s, hn, h, hi => by
    show F (iterF F fuel) (mk n s) = _
    by_cases hlt : n < len
    · exact step _ n s hlt hi fun s' hi' => iterF_inv mk I G step last fuel (n + 1) s' (by omega) (by omega) hi'
    · obtain rfl : n = len := by omega
      exact last _ s hi
theorem sorted_len : ∀ {l : List Int} {a b : Int}, l.Pairwise (· < ·) → (∀ x ∈ l, a ≤ x ∧ x < b) → l.length ≤ (b - a).toNat
  | [], _, _, _, _ => by simp
  | x :: xs, a, b, h, hr => by
    obtain ⟨h1, h2⟩ := List.pairwise_cons.1 h
    have := sorted_len (a := x + 1) (b := b) h2 fun y hy => ⟨by have := h1 y hy; omega, (hr y (by simp [hy])).2⟩
    have := hr x (by simp)
    simp only [List.length_cons]
    omega
end Go.Abs
end
section
namespace Go.Abs
abbrev big : Nat := 1000000000000
def small (a : api_Automaton) : Prop := a.Alphabet.length < big ∧ a.Marked.length < big ∧ a.Edges.length < big
end Go.Abs
end
section
namespace Go.Abs
open Go
set_option linter.unusedSimpArgs false
def listErr (n : Int) : Option Int → List Int → Int
  | _, [] => 0
  | p, x :: xs => if x < 0 ∨ x ≥ n then 2 else if ∃ y, p = some y ∧ x ≤ y then 5 else listErr n (some x) xs
def edgesErr (al : List Int) (st : Int) : Option api_Edge → List api_Edge → Int
  | _, [] => 0
  | p, x :: xs => if x.From < 0 ∨ x.From ≥ st ∨ x.To < 0 ∨ x.To ≥ st then 2 else if x.Event ∉ al then 9 else if ∃ y, p = some y ∧ (x.From < y.From ∨ x.From = y.From ∧ x.Event ≤ y.Event) then 5 else edgesErr al st (some x) xs
def checkErr (a : api_Automaton) : Int :=
  if listErr 32 none a.Alphabet ≠ 0 then listErr 32 none a.Alphabet else if a.States < 0 then 2 else if a.States > 4096 then 3 else
  if listErr a.States none a.Marked ≠ 0 then listErr a.States none a.Marked else edgesErr a.Alphabet a.States none a.Edges
def ahead {α : Type} (l : List α) (n : Nat) : Option α := if n = 0 then none else l[n - 1]?
theorem ahead_zero {α : Type} (l : List α) : ahead l 0 = none := rfl
theorem ahead_succ {α : Type} (l : List α) {n : Nat} (h : n < l.length) : ahead l (n + 1) = some l[n] := by simp [ahead, h]
theorem ahead_pos {α : Type} (l : List α) {n : Nat} (h0 : 0 < n) (h : n ≤ l.length) : ahead l n = some (l[n - 1]'(by omega)) := by
  simp [ahead, show n ≠ 0 from by omega, show n - 1 < l.length from by omega]
theorem listErr_step {n : Int} {l : List Int} {k : Nat} (h : k < l.length) : listErr n (ahead l k) (l.drop k) = if l[k] < 0 ∨ l[k] ≥ n then 2 else if ∃ y, ahead l k = some y ∧ l[k] ≤ y then 5 else listErr n (ahead l (k + 1)) (l.drop (k + 1)) := by
  rw [List.drop_eq_getElem_cons h, listErr, ahead_succ l h]
theorem edgesErr_step {al : List Int} {n : Int} {l : List api_Edge} {k : Nat} (h : k < l.length) : edgesErr al n (ahead l k) (l.drop k) = if l[k].From < 0 ∨ l[k].From ≥ n ∨ l[k].To < 0 ∨ l[k].To ≥ n then 2 else if l[k].Event ∉ al then 9 else if ∃ y, ahead l k = some y ∧ (l[k].From < y.From ∨ l[k].From = y.From ∧ l[k].Event ≤ y.Event) then 5 else edgesErr al n (ahead l (k + 1)) (l.drop (k + 1)) := by
  rw [List.drop_eq_getElem_cons h, edgesErr, ahead_succ l h]
theorem checkSet_ok {l : List Int} {n : Int} (hl : l.length < big) : g_automaton_checkSet l n = some (listErr n none l) := by
  unfold g_automaton_checkSet f_automaton_checkSet
  refine (iterF_idx (len := l.length) (fun k => some (listErr n (ahead l k) (l.drop k))) (by unfold fuel0; unfold big at hl; omega) ?_ ?_).trans (by simp [ahead_zero])
  · intro k i hi ih
    have hb : i < 1000000000000 := by unfold big at hl; omega
    rw [listErr_step hi]
    try dsimp only
    rw [if_pos (by omega), getO_nat hi, wrap_succ (by omega), ih]
    simp only [Option.bind_some]
    by_cases h1 : l[i] < 0
    · simp [h1]
    · by_cases h2 : l[i] ≥ n
      · simp [h1, h2]
      · by_cases h0 : 0 < i
        · rw [wrap_pred h0 (by omega), getO_nat (by omega : i - 1 < l.length), ahead_pos l h0 (by omega)]
          by_cases h3 : l[i] ≤ l[i - 1] <;> simp [h1, h2, h3, h0]
        · obtain rfl : i = 0 := by omega
          simp [h1, h2, ahead_zero]
  · intro k; simp [listErr]
theorem index_ok {l : List Int} {v : Int} (hl : l.length < big) : g_slices_Index_int l v = some (if v ∈ l then (l.idxOf v : Int) else -1) := by
  unfold g_slices_Index_int f_slices_Index_int
  refine (iterF_idx (len := l.length) (fun k => some (if v ∈ l.drop k then ((k + (l.drop k).idxOf v : Nat) : Int) else -1)) (by unfold fuel0; unfold big at hl; omega) ?_ ?_).trans (by simp)
  · intro k i hi ih
    have hb : i < 1000000000000 := by unfold big at hl; omega
    try dsimp only
    rw [if_pos (by omega), getO_nat hi, wrap_succ (by omega), ih, List.drop_eq_getElem_cons hi]
    simp only [Option.bind_some, List.mem_cons, List.idxOf_cons]
    by_cases h : v = l[i]
    · simp [← h]
    · have : ¬ l[i] = v := fun e => h e.symm
      have hbq : (l[i] == v) = false := by simp [this]
      by_cases h2 : v ∈ l.drop (i + 1) <;> simp [h, h2, hbq]
      omega
  · intro k; simp
theorem contains_ok {l : List Int} {v : Int} (hl : l.length < big) : g_slices_Contains_int l v = some (decide (v ∈ l)) := by
  unfold g_slices_Contains_int f_slices_Contains_int
  rw [index_ok hl]
  simp only [Option.bind_some, Option.some.injEq]
  by_cases h : v ∈ l <;> simp [h]
theorem checkEdges_ok {a : api_Automaton} (h : small a) : g_automaton_checkEdges a = some (edgesErr a.Alphabet a.States none a.Edges) := by
  obtain ⟨hal, _, hl⟩ := h
  unfold g_automaton_checkEdges f_automaton_checkEdges
  refine (iterF_idx (len := a.Edges.length) (fun k => some (edgesErr a.Alphabet a.States (ahead a.Edges k) (a.Edges.drop k))) (by unfold fuel0; unfold big at hl; omega) ?_ ?_).trans (by simp [ahead_zero])
  · intro k i hi ih
    have hb : i < 1000000000000 := by unfold big at hl; omega
    rw [edgesErr_step hi]
    unfold letJ
    try dsimp only
    rw [if_pos (by omega), getO_nat hi, wrap_succ (by omega), ih]
    simp only [Option.bind_some, contains_ok hal]
    generalize a.Edges[i] = x
    by_cases h1 : x.From < 0
    · simp [h1]
    by_cases h2 : x.From ≥ a.States
    · simp [h1, h2]
    by_cases h3 : x.To < 0
    · simp [h1, h2, h3]
    by_cases h4 : x.To ≥ a.States
    · simp [h1, h2, h3, h4]
    by_cases h5 : x.Event ∈ a.Alphabet
    · by_cases h0 : 0 < i
      · rw [wrap_pred h0 (by omega), getO_nat (by omega : i - 1 < a.Edges.length), ahead_pos a.Edges h0 (by omega)]
        generalize a.Edges[i - 1] = y
        have hi0 : i ≠ 0 := by omega
        by_cases h6 : x.From < y.From
        · simp [h1, h2, h3, h4, h5, h6, hi0]
        by_cases h7 : y.From = x.From
        · by_cases h8 : x.Event ≤ y.Event <;> simp [h1, h2, h3, h4, h5, h6, h7, h8, hi0]
        · have h7' : ¬ x.From = y.From := fun e => h7 e.symm
          simp [h1, h2, h3, h4, h5, h6, h7, hi0, h7']
      · obtain rfl : i = 0 := by omega
        simp [h1, h2, h3, h4, h5, ahead_zero]
    · simp [h1, h2, h3, h4, h5]
  · intro k; unfold letJ; simp [edgesErr]
theorem check_ok {a : api_Automaton} (h : small a) : g_automaton_Check a = some (checkErr a) := by
  unfold g_automaton_Check f_automaton_Check checkErr
  rw [checkSet_ok h.1, checkSet_ok h.2.1, checkEdges_ok h]
  simp only [Option.bind_some]
  by_cases h1 : listErr 32 none a.Alphabet = 0
  · by_cases h2 : a.States < 0
    · simp [h1, h2]
    by_cases h3 : a.States > 4096
    · simp [h1, h2, h3]
    by_cases h4 : listErr a.States none a.Marked = 0 <;> simp [h1, h2, h3, h4]
  · simp [h1]
end Go.Abs
end
section
namespace Go.Abs
open Go
set_option linter.unusedSimpArgs false
set_option linter.unusedVariables false
def keyLt (x y : api_Edge) : Prop := x.From < y.From ∨ x.From = y.From ∧ x.Event < y.Event
instance (x y : api_Edge) : Decidable (keyLt x y) := by unfold keyLt; infer_instance
structure Right (a : api_Automaton) : Prop where
  al0 : ∀ x ∈ a.Alphabet, 0 ≤ x ∧ x < 32
  al : a.Alphabet.Pairwise (· < ·)
  st : 0 ≤ a.States ∧ a.States ≤ 4096
  ma0 : ∀ x ∈ a.Marked, 0 ≤ x ∧ x < a.States
  ma : a.Marked.Pairwise (· < ·)
  ed0 : ∀ x ∈ a.Edges, 0 ≤ x.From ∧ x.From < a.States ∧ 0 ≤ x.To ∧ x.To < a.States ∧ x.Event ∈ a.Alphabet
  ed : a.Edges.Pairwise keyLt
theorem listErr_zero {n : Int} : ∀ {l : List Int} {p : Option Int}, listErr n p l = 0 ↔ (∀ x ∈ l, 0 ≤ x ∧ x < n) ∧ l.Pairwise (· < ·) ∧ ∀ y, p = some y → ∀ x ∈ l, y < x
  | [], p => by simp [listErr]
  | x :: xs, p => by
    rw [listErr]
    split
    · rename_i h
      refine ⟨fun h => by omega, fun hh => ?_⟩
      have := hh.1 x (by simp); omega
    · rename_i h
      split
      · rename_i h2
        obtain ⟨y, hy, hxy⟩ := h2
        refine ⟨fun h => by omega, fun hh => ?_⟩
        have := hh.2.2 y hy x (by simp); omega
      · rename_i h2
        rw [listErr_zero]
        constructor
        · rintro ⟨k1, k2, k3⟩
          refine ⟨fun z hz => ?_, List.pairwise_cons.2 ⟨fun z hz => k3 x rfl z hz, k2⟩, fun y hy z hz => ?_⟩
          · rcases List.mem_cons.1 hz with rfl | hz
            · omega
            · exact k1 z hz
          · have hyx : y < x := by
              rcases Int.lt_or_le y x with h | h
              · exact h
              · exact absurd ⟨y, hy, h⟩ h2
            rcases List.mem_cons.1 hz with rfl | hz
            · exact hyx
            · have := k3 x rfl z hz; omega
        · rintro ⟨k1, k2, k3⟩
          obtain ⟨k4, k5⟩ := List.pairwise_cons.1 k2
          exact ⟨fun z hz => k1 z (by simp [hz]), k5, fun y hy z hz => by cases hy; exact k4 z hz⟩
theorem edgesErr_zero {al : List Int} {n : Int} : ∀ {l : List api_Edge} {p : Option api_Edge}, edgesErr al n p l = 0 ↔ (∀ x ∈ l, 0 ≤ x.From ∧ x.From < n ∧ 0 ≤ x.To ∧ x.To < n ∧ x.Event ∈ al) ∧ l.Pairwise keyLt ∧ ∀ y, p = some y → ∀ x ∈ l, keyLt y x
  | [], p => by simp [edgesErr]
  | x :: xs, p => by
    have tr : ∀ a b c : api_Edge, keyLt a b → keyLt b c → keyLt a c := fun a b c h k => by unfold keyLt at *; omega
    rw [edgesErr]
    split
    · rename_i h
      refine ⟨fun h => by omega, fun hh => ?_⟩
      have := hh.1 x (by simp); omega
    · rename_i h
      split
      · rename_i h2
        refine ⟨fun h => by omega, fun hh => ?_⟩
        exact absurd (hh.1 x (by simp)).2.2.2.2 h2
      · rename_i hal
        split
        · rename_i h2
          obtain ⟨y, hy, hxy⟩ := h2
          refine ⟨fun h => by omega, fun hh => ?_⟩
          have := hh.2.2 y hy x (by simp)
          unfold keyLt at this; omega
        · rename_i h2
          rw [edgesErr_zero]
          constructor
          · rintro ⟨k1, k2, k3⟩
            refine ⟨fun z hz => ?_, List.pairwise_cons.2 ⟨fun z hz => k3 x rfl z hz, k2⟩, fun y hy z hz => ?_⟩
            · rcases List.mem_cons.1 hz with rfl | hz
              · exact ⟨by omega, by omega, by omega, by omega, Decidable.not_not.1 hal⟩
              · exact k1 z hz
            · have hyx : keyLt y x := by
                apply Decidable.byContradiction
                intro h
                exact h2 ⟨y, hy, by unfold keyLt at h; omega⟩
              rcases List.mem_cons.1 hz with rfl | hz
              · exact hyx
              · exact tr _ _ _ hyx (k3 x rfl z hz)
          · rintro ⟨k1, k2, k3⟩
            obtain ⟨k4, k5⟩ := List.pairwise_cons.1 k2
            exact ⟨fun z hz => k1 z (by simp [hz]), k5, fun y hy z hz => by cases hy; exact k4 z hz⟩
theorem right_iff {a : api_Automaton} : checkErr a = 0 ↔ Right a := by
  unfold checkErr
  constructor
  · intro h
    split at h
    · rename_i h1; exact absurd h h1
    rename_i h1
    split at h
    · omega
    split at h
    · omega
    split at h
    · rename_i h4; exact absurd h h4
    rename_i h4
    have q1 := listErr_zero.1 (Decidable.not_not.1 h1)
    have q2 := listErr_zero.1 (Decidable.not_not.1 h4)
    have q3 := edgesErr_zero.1 h
    exact ⟨q1.1, q1.2.1, ⟨by omega, by omega⟩, q2.1, q2.2.1, q3.1, q3.2.1⟩
  · intro h
    have q1 : listErr 32 none a.Alphabet = 0 := listErr_zero.2 ⟨h.al0, h.al, fun y hy => by cases hy⟩
    have q2 : listErr a.States none a.Marked = 0 := listErr_zero.2 ⟨h.ma0, h.ma, fun y hy => by cases hy⟩
    have q3 : edgesErr a.Alphabet a.States none a.Edges = 0 := edgesErr_zero.2 ⟨h.ed0, h.ed, fun y hy => by cases hy⟩
    have := h.st
    rw [if_neg (by simp [q1]), if_neg (by omega), if_neg (by omega), if_neg (by simp [q2]), q3]
def outP (a : api_Automaton) (s : Int) : List api_Edge := a.Edges.filter fun x => x.From == s
def stepP (a : api_Automaton) (s e : Int) : Int := match a.Edges.find? fun x => x.From == s && x.Event == e with
  | some x => x.To
  | none => -1
theorem From_mono {l : List api_Edge} (h : l.Pairwise keyLt) (s : Int) : l.Pairwise fun a b => decide (b.From < s) = true → decide (a.From < s) = true :=
  h.imp fun h => by unfold keyLt at h; simp; omega
theorem bsf_ok {l : List api_Edge} {s : Int} {cmp : api_Edge → Int → Option Int} (hcmp : ∀ x ∈ l, cmp x s = some (x.From - s)) (hs : l.Pairwise keyLt) (hl : l.length < big) :
    ∃ b, g_slices_BinarySearchFunc_int l s cmp = some (((l.filter fun x => decide (x.From < s)).length : Int), b) := by
  have hc := fun n h => count_mono (p := fun x : api_Edge => decide (x.From < s)) (From_mono hs s) n h
  have hcl : (l.filter fun x => decide (x.From < s)).length ≤ l.length := List.length_filter_le _ _
  generalize (l.filter fun x => decide (x.From < s)).length = c at hc hcl
  have hb : l.length < 1000000000000 := hl
  unfold g_slices_BinarySearchFunc_int f_slices_BinarySearchFunc_int
  have hloop := iterF_rule (F := fun (k13 : Int × Int → Option Int) ((i11, j12) : Int × Int) => (if (i11 < j12) then ((getO l (IntKind.wrap .i64 (Int.fdiv (IntKind.wrap .u64 (IntKind.wrap .i64 (i11 + j12))) (2 ^ (min (Int.toNat 1) (IntKind.bits .u64)))))).bind fun x15 => ((cmp x15 s).bind fun x18 => (if (x18 < 0) then k13 ((IntKind.wrap .i64 ((IntKind.wrap .i64 (Int.fdiv (IntKind.wrap .u64 (IntKind.wrap .i64 (i11 + j12))) (2 ^ (min (Int.toNat 1) (IntKind.bits .u64))))) + 1)), j12) else k13 (i11, (IntKind.wrap .i64 (Int.fdiv (IntKind.wrap .u64 (IntKind.wrap .i64 (i11 + j12))) (2 ^ (min (Int.toNat 1) (IntKind.bits .u64))))))))) else some i11))
    (fun x => ∃ i j : Nat, x = ((i : Int), (j : Int)) ∧ i ≤ c ∧ c ≤ j ∧ j ≤ l.length) (fun x => (x.2 - x.1).toNat) (fun _ r => r = some (c : Int)) (by
      rintro k _ ⟨i, j, rfl, h1, h2, h3⟩ ih
      dsimp only
      by_cases hij : i < j
      · rw [if_pos (by omega), mid_ok (by omega) (by omega)]
        have hm : (i + j) / 2 < l.length := by omega
        rw [getO_nat hm]
        simp only [Option.bind_some]
        rw [hcmp _ (List.getElem_mem hm)]
        simp only [Option.bind_some]
        have hcm := hc ((i + j) / 2) hm
        by_cases hlt : l[(i + j) / 2].From < s
        · rw [if_pos (by omega), wrap_succ (by omega)]
          have : (i + j) / 2 < c := hcm.1 (by simpa using hlt)
          exact ih _ ⟨_, _, rfl, by omega, h2, h3⟩ (by simp only; omega)
        · rw [if_neg (by omega)]
          have : ¬ (i + j) / 2 < c := fun h => hlt (by simpa using hcm.2 h)
          exact ih _ ⟨_, _, rfl, h1, by omega, by omega⟩ (by simp only; omega)
      · rw [if_neg (by omega)]
        have : i = c := by omega
        rw [this]) fuel0 (0, (l.length : Int)) ⟨0, l.length, rfl, by omega, hcl, Nat.le_refl _⟩ (by unfold fuel0; simp only; omega)
  rw [hloop]
  simp only [Option.bind_some]
  by_cases hlt : c < l.length
  · rw [if_pos (by omega), getO_nat hlt]
    simp only [Option.bind_some]
    rw [hcmp _ (List.getElem_mem hlt)]
    exact ⟨_, rfl⟩
  · rw [if_neg (by omega)]
    exact ⟨_, rfl⟩
theorem out_parts : ∀ {l : List api_Edge} (s : Int), l.Pairwise keyLt → (l.take (l.filter fun x => decide (x.From < s + 1)).length).drop (l.filter fun x => decide (x.From < s)).length = l.filter fun x => x.From == s
  | [], s, _ => by simp
  | x :: xs, s, h => by
    obtain ⟨h1, h2⟩ := List.pairwise_cons.1 h
    have ih := out_parts s h2
    have hge : ∀ y ∈ xs, x.From ≤ y.From := fun y hy => by have := h1 y hy; unfold keyLt at this; omega
    by_cases hx : x.From < s
    · have e1 : decide (x.From < s) = true := by simpa using hx
      have e2 : decide (x.From < s + 1) = true := by simp; omega
      have e3 : (x.From == s) = false := by simp; omega
      simp only [List.filter_cons, e1, e2, e3, if_true, List.length_cons, List.take_succ_cons, List.drop_succ_cons, Bool.false_eq_true, if_false]
      exact ih
    · have hz : xs.filter (fun x => decide (x.From < s)) = [] := List.filter_eq_nil_iff.2 fun y hy => by have := hge y hy; simp; omega
      have e1 : decide (x.From < s) = false := by simpa using hx
      by_cases hq : x.From = s
      · have e2 : decide (x.From < s + 1) = true := by simp; omega
        have e3 : (x.From == s) = true := by simp [hq]
        simp only [List.filter_cons, e1, e2, e3, if_true, List.length_cons, List.take_succ_cons, Bool.false_eq_true, if_false, hz, List.length_nil, List.drop_zero]
        rw [hz, List.length_nil, List.drop_zero] at ih
        rw [ih]
      · have e2 : decide (x.From < s + 1) = false := by simp; omega
        have e3 : (x.From == s) = false := by simp [hq]
        have hz1 : xs.filter (fun x => decide (x.From < s + 1)) = [] := List.filter_eq_nil_iff.2 fun y hy => by have := hge y hy; simp; omega
        have hz2 : xs.filter (fun x => x.From == s) = [] := List.filter_eq_nil_iff.2 fun y hy => by have := hge y hy; simp; omega
        simp only [List.filter_cons, e1, e2, e3, Bool.false_eq_true, if_false, hz, hz1, hz2, List.length_nil, List.take_zero, List.drop_zero]
section
variable {a : api_Automaton} (h : Right a) (hs : small a)
include h hs
theorem out_ok {s : Int} (h0 : -1000000000000 < s) (h1 : s < 1000000000000) : g_automaton_out a s = some (outP a s) := by
  unfold g_automaton_out f_automaton_out
  have hst := h.st
  have hw : ∀ t : Int, -1000000000002 < t → t < 1000000000002 → ∀ x ∈ a.Edges, IntKind.wrap .i64 (x.From - t) = x.From - t := fun t k1 k2 x hx => by
    have := h.ed0 x hx; exact wrap_id (by omega) (by omega)
  have e1 : IntKind.wrap .i64 (s + 1) = s + 1 := wrap_id (by omega) (by omega)
  obtain ⟨b1, k1⟩ := bsf_ok (s := s) (cmp := g_automaton_out_1) (fun x hx => by unfold g_automaton_out_1 f_automaton_out_1; rw [hw s (by omega) (by omega) x hx]) h.ed hs.2.2
  obtain ⟨b2, k2⟩ := bsf_ok (s := s + 1) (cmp := g_automaton_out_2) (fun x hx => by unfold g_automaton_out_2 f_automaton_out_2; rw [hw (s + 1) (by omega) (by omega) x hx]) h.ed hs.2.2
  rw [k1, e1]
  simp only [Option.bind_some]
  rw [k2]
  simp only [Option.bind_some]
  have hle : (a.Edges.filter fun x => decide (x.From < s)).length ≤ (a.Edges.filter fun x => decide (x.From < s + 1)).length :=
    by rw [← List.countP_eq_length_filter, ← List.countP_eq_length_filter]; exact List.countP_mono_left fun x _ hx => by simp at hx ⊢; omega
  rw [slcO_nat hle (List.length_filter_le _ _), out_parts s h.ed]
  rfl
end
theorem stepP_nonneg {a : api_Automaton} (h : Right a) {s e : Int} : 0 ≤ stepP a s e ↔ ∃ x ∈ outP a s, x.Event = e := by
  unfold stepP outP
  split
  · rename_i x hx
    have hm := List.mem_of_find?_eq_some hx
    have hp := List.find?_some hx
    simp at hp
    refine ⟨fun _ => ⟨x, by simp [hm, hp.1], hp.2⟩, fun _ => (h.ed0 x hm).2.2.1⟩
  · rename_i hx
    have := List.find?_eq_none.1 hx
    refine ⟨fun h => by omega, ?_⟩
    rintro ⟨x, h1, h2⟩
    simp at h1
    exact absurd (by simp [h1.2, h2]) (this x h1.1)
theorem outP_events {a : api_Automaton} (h : Right a) (s : Int) : (outP a s).map (·.Event) = a.Alphabet.filter fun e => decide (0 ≤ stepP a s e) := by
  refine sorted_ext ?_ (h.al.filter _) fun e => ?_
  · rw [List.pairwise_map]
    have h1 : (outP a s).Pairwise keyLt := h.ed.filter _
    have h2 : ∀ x ∈ outP a s, x.From = s := fun x hx => by unfold outP at hx; simp at hx; exact hx.2
    exact List.Pairwise.imp_of_mem (fun {x y} hx hy hk => by have := h2 x hx; have := h2 y hy; unfold keyLt at hk; omega) h1
  · simp only [List.mem_map, List.mem_filter, decide_eq_true_eq, stepP_nonneg h]
    constructor
    · rintro ⟨x, hx, rfl⟩
      refine ⟨?_, x, hx, rfl⟩
      unfold outP at hx; simp at hx; exact (h.ed0 x hx.1).2.2.2.2
    · rintro ⟨_, x, hx, rfl⟩; exact ⟨x, hx, rfl⟩
end Go.Abs
end
section
namespace Go.Abs
open Go
set_option linter.unusedSimpArgs false
set_option linter.unusedVariables false
theorem Right.small {a : api_Automaton} (h : Right a) : small a ∧ a.Alphabet.length ≤ 32 ∧ a.Marked.length ≤ 4096 ∧ a.Edges.length ≤ 131072 := by
  have h1 := sorted_len h.al h.al0
  have h2 := sorted_len h.ma h.ma0
  have h3 : (a.Edges.map fun x => x.From * 32 + x.Event).Pairwise (· < ·) := by
    rw [List.pairwise_map]
    refine List.Pairwise.imp_of_mem (fun {x y} hx hy hk => ?_) h.ed
    have := h.al0 _ (h.ed0 x hx).2.2.2.2
    have := h.al0 _ (h.ed0 y hy).2.2.2.2
    unfold keyLt at hk; omega
  have h4 := sorted_len (a := 0) (b := 131072) h3 (by
    intro z hz
    obtain ⟨x, hx, rfl⟩ := List.mem_map.1 hz
    have := h.al0 _ (h.ed0 x hx).2.2.2.2
    have := h.ed0 x hx
    have := h.st
    omega)
  rw [List.length_map] at h4
  have := h.st
  refine ⟨⟨?_, ?_, ?_⟩, ?_, ?_, ?_⟩ <;> (try unfold big) <;> omega
theorem check_right {a : api_Automaton} (h : Right a) : g_automaton_Check a = some 0 := by rw [check_ok h.small.1, right_iff.2 h]
theorem select_ok {α β : Type} {l : List α} {f : α → Option β} {fuel : Nat} (hl : l.length < big) (hf : l.length < fuel) {F : (List β × Int → Option (List β)) → List β × Int → Option (List β)}
    (hF : ∀ (k : List β × Int → Option (List β)) (acc : List β) (n : Nat) (h : n < l.length), acc.length ≤ n → F k (acc, (n : Int)) = k (acc ++ (f l[n]).toList, IntKind.wrap .i64 ((n : Int) + 1)))
    (hlast : ∀ (k : List β × Int → Option (List β)) (acc : List β), F k (acc, (l.length : Int)) = some acc) : iterF F fuel ([], 0) = some (l.filterMap f) := by
  have hb : l.length < 1000000000000 := hl
  refine (iterF_inv (len := l.length) (fun n (acc : List β) => (acc, (n : Int))) (fun n acc => acc.length ≤ n) (fun n acc => some (acc ++ (l.drop n).filterMap f)) ?_ ?_ fuel 0 [] (Nat.zero_le _) (by omega) (Nat.le_refl _)).trans (by simp)
  · intro k n acc hn hi ih
    have hlen : (f l[n]).toList.length ≤ 1 := by cases f l[n] <;> simp
    rw [hF k acc n hn hi, wrap_succ (by omega), ih _ (by simp only [List.length_append]; omega), List.drop_eq_getElem_cons hn]
    rw [List.filterMap_cons]
    cases f l[n] <;> simp only [Option.toList_none, Option.toList_some, List.append_nil, List.append_assoc, List.cons_append, List.nil_append]
  · intro k acc _; rw [hlast]; simp
end Go.Abs
end
section
namespace Go.Abs
open Go
set_option linter.unusedSimpArgs false
set_option linter.unusedVariables false
def ins (o : List Int) (t : Int) : List Int := if t ∈ o then o else o ++ [t]
def succP (a : api_Automaton) (s : Int) : List Int := (outP a s).map (·.To)
def bfs (a : api_Automaton) : Nat → Nat → List Int → List Int
  | 0, _, o => o
  | fuel + 1, i, o => match o[i]? with
    | some s => bfs a fuel (i + 1) ((succP a s).foldl ins o)
    | none => o
def foundP (a : api_Automaton) : List Int := bfs a (a.States.toNat + 1) 0 (if 0 < a.States then [0] else [])
structure Fnd (a : api_Automaton) (o : List Int) : Prop where
  nd : o.Nodup
  rg : ∀ s ∈ o, 0 ≤ s ∧ s < a.States
theorem Fnd.len {a : api_Automaton} {o : List Int} (h : Fnd a o) : o.length ≤ a.States.toNat := by
  have hO : Go.Sort.SWO ltInt' := ⟨fun x => by simp [ltInt'], fun x y z h1 h2 => by simp [ltInt'] at *; omega, fun x y z h1 h2 => by simp [ltInt'] at *; omega⟩
  have hp := isortB_perm ltInt' o
  have hs := isortB_sorted hO o
  have hn : (isortB ltInt' o).Nodup := (hp.nodup_iff).2 h.nd
  have hlt : (isortB ltInt' o).Pairwise (· < ·) := by
    have : (isortB ltInt' o).Pairwise fun x y => ltInt' y x = false ∧ x ≠ y := hs.and hn
    exact this.imp fun ⟨h1, h2⟩ => by simp [ltInt'] at h1; omega
  have := sorted_len hlt (a := 0) (b := a.States) fun x hx => h.rg x (hp.mem_iff.1 hx)
  rw [isortB_length] at this
  simpa using this
end Go.Abs
end
section
namespace Go.Abs
open Go
set_option linter.unusedSimpArgs false
set_option linter.unusedVariables false
section
variable {a : api_Automaton} (h : Right a)
include h
end
end Go.Abs
end
section
namespace Go.Abs
open Go
set_option linter.unusedSimpArgs false
set_option linter.unusedVariables false
structure Evs (l : List Int) : Prop where
  rg : ∀ x ∈ l, 0 ≤ x ∧ x < 5
  so : l.Pairwise (· < ·)
theorem Evs.len {l : List Int} (h : Evs l) : l.length ≤ 5 := by have := sorted_len h.so h.rg; simpa using this
structure Mks (n : Nat) (ms : List Int) : Prop where
  rg : ∀ x ∈ ms, 0 ≤ x ∧ x < n
  so : ms.Pairwise (· < ·)
structure Eds (al : List Int) (N : Int) (i k : Nat) (es : List api_Edge) : Prop where
  rg : ∀ x ∈ es, 0 ≤ x.From ∧ 0 ≤ x.To ∧ x.To < N ∧ x.Event ∈ al ∧ (x.From < i ∨ x.From = i ∧ ∃ j : Nat, j < k ∧ al[j]? = some x.Event)
  so : es.Pairwise keyLt
  ln : es.length ≤ 5 * i + k
theorem Mks.up {n : Nat} {ms : List Int} (h : Mks n ms) : Mks (n + 1) ms := ⟨fun x hx => by have := h.rg x hx; omega, h.so⟩
theorem Mks.add {n : Nat} {ms : List Int} (h : Mks n ms) : Mks (n + 1) (ms ++ [(n : Int)]) := by
  refine ⟨fun x hx => ?_, ?_⟩
  · rcases List.mem_append.1 hx with hx | hx
    · have := h.rg x hx; omega
    · simp at hx; omega
  · rw [List.pairwise_append]
    exact ⟨h.so, by simp, fun x hx y hy => by simp at hy; have := h.rg x hx; omega⟩
theorem Mks.len {n : Nat} {ms : List Int} (h : Mks n ms) : ms.length ≤ n := by have := sorted_len h.so h.rg; simpa using this
section
variable {al : List Int} (hal : Evs al) {N : Int} {i k : Nat} {es : List api_Edge}
theorem Eds.up (h : Eds al N i k es) : Eds al N i (k + 1) es := ⟨fun x hx => by
  obtain ⟨h1, h2, h3, h4, h5⟩ := h.rg x hx
  refine ⟨h1, h2, h3, h4, ?_⟩
  rcases h5 with h5 | ⟨h5, j, h6, h7⟩
  · exact .inl h5
  · exact .inr ⟨h5, j, by omega, h7⟩, h.so, by have := h.ln; omega⟩
theorem Eds.next (h : Eds al N i k es) (hk : k ≤ 5) : Eds al N (i + 1) 0 es := ⟨fun x hx => by
  obtain ⟨h1, h2, h3, h4, h5⟩ := h.rg x hx
  exact ⟨h1, h2, h3, h4, .inl (by rcases h5 with h5 | ⟨h5, _⟩ <;> omega)⟩, h.so, by have := h.ln; omega⟩
include hal in
theorem Eds.add (h : Eds al N i k es) (hk : k < al.length) {t : Int} (ht : 0 ≤ t ∧ t < N) : Eds al N i (k + 1) (es ++ [⟨(i : Int), al[k], t⟩]) := by
  refine ⟨fun x hx => ?_, ?_, by have := h.ln; simp only [List.length_append, List.length_cons, List.length_nil]; omega⟩
  · rcases List.mem_append.1 hx with hx | hx
    · exact h.up.rg x hx
    · simp at hx; subst hx
      exact ⟨by simp only; omega, ht.1, ht.2, List.getElem_mem hk, .inr ⟨rfl, k, by omega, List.getElem?_eq_getElem hk⟩⟩
  · rw [List.pairwise_append]
    refine ⟨h.so, by simp, fun x hx y hy => ?_⟩
    simp at hy; subst hy
    obtain ⟨_, _, _, _, h5⟩ := h.rg x hx
    rcases h5 with h5 | ⟨h5, j, h6, h7⟩
    · exact .inl h5
    · refine .inr ⟨h5, ?_⟩
      obtain ⟨h8, h9⟩ := List.getElem?_eq_some_iff.1 h7
      rw [← h9]
      exact List.pairwise_iff_getElem.1 hal.so j k h8 hk h6
end
end Go.Abs
end
section
namespace Go.Proofs
open Go Go.Abs
theorem wf_u8 {x : Int} (h : wfI .u8 x) : 0 ≤ x ∧ x < 256 := by
  unfold wfI at h
  simp [Lit.wf, IntKind.min, IntKind.max, IntKind.bits, IntKind.signed] at h
  omega
end Go.Proofs
end
section
namespace Go.Abs
open Go
set_option linter.unusedSimpArgs false
set_option linter.unusedVariables false
section
variable {a : api_Automaton} (h : Right a)
include h
end
end Go.Abs
end
section
namespace Go.Abs
open Go
set_option linter.unusedSimpArgs false
set_option linter.unusedVariables false
theorem clone_ok {l : List Int} (hl : l.length ≤ lim) : g_slices_Clone_int l = some l := by
  unfold g_slices_Clone_int f_slices_Clone_int
  rw [appO_some (by simpa using hl)]
  cases l <;> simp [nilO]
structure Num (a : api_Automaton) (o num : List Int) : Prop where
  len : num.length = a.States.toNat
  at1 : ∀ s : Nat, s < a.States.toNat → num[s]? = some (if (s : Int) ∈ o then (o.idxOf (s : Int) : Int) else -1)
theorem Num.set {a : api_Automaton} {o num : List Int} (h : Num a o num) {t : Int} (ht : 0 ≤ t ∧ t < a.States) (hn : t ∉ o) : ∃ num', setO num t (o.length : Int) = some num' ∧ Num a (o ++ [t]) num' := by
  refine ⟨num.set t.toNat (o.length : Int), by unfold setO; rw [if_pos ⟨ht.1, by rw [h.len]; omega⟩], by rw [List.length_set]; exact h.len, fun s hs => ?_⟩
  rw [List.getElem?_set]
  by_cases he : t.toNat = s
  · subst he
    rw [if_pos rfl, if_pos (by rw [h.len]; omega), show ((t.toNat : Nat) : Int) = t from by omega, if_pos (by simp), List.idxOf_append, if_neg hn]
    simp
  · rw [if_neg he, h.at1 s hs]
    have hne : (s : Int) ≠ t := by omega
    by_cases hm : (s : Int) ∈ o
    · rw [if_pos hm, if_pos (by simp [hm]), List.idxOf_append, if_pos hm]
    · rw [if_neg hm, if_neg (by simp [hm, hne])]
section
variable {a : api_Automaton} (h : Right a)
include h
end
end Go.Abs
end
section
namespace Go.Abs
open Go
set_option linter.unusedSimpArgs false
set_option linter.unusedVariables false
def kids (a : api_Automaton) (x : automaton_found) : List automaton_found := (outP a x.state_).map fun e => ⟨x.word_ ++ [e.Event], e.To⟩
def wq (a : api_Automaton) (most : Int) : Nat → Nat → List automaton_found → Option (List automaton_found)
  | 0, _, all => some all
  | fuel + 1, i, all => match all[i]? with
    | none => some all
    | some x => if (x.word_.length : Int) = most then some all else if (all ++ kids a x).length > 1024 then none else wq a most fuel (i + 1) (all ++ kids a x)
theorem outP_len {a : api_Automaton} (h : Right a) (s : Int) : (outP a s).length ≤ a.Alphabet.length := by
  have := congrArg List.length (outP_events h s)
  rw [List.length_map] at this
  rw [this]; exact List.length_filter_le _ _
section
variable {a : api_Automaton} (h : Right a)
include h
theorem kids_loop (fuel : Nat) (hfu : 1099511627776 ≤ fuel) {all : List automaton_found} {i : Nat} {x : automaton_found} (hx : all[i]? = some x) (hall : all.length ≤ 2000) (hw : x.word_.length ≤ 2000) :
    iterF (fun k24 ((all22, x23) : (List automaton_found) × Int) => (if (x23 < ((outP a x.state_).length : Int)) then ((getO (outP a x.state_) x23).bind fun x26 => ((getO all22 (i : Int)).bind fun x28 => ((g_slices_Clone_int x28.word_).bind fun x31 => ((appO x31 [x26.Event]).bind fun x32 => ((appO all22 [(automaton_found.mk x32 x26.To)]).bind fun x34 => k24 (x34, (IntKind.wrap .i64 (x23 + 1)))))))) else some all22)) fuel (all, 0) = some (all ++ kids a x) := by
  have hl := outP_len h x.state_
  have hsm := h.small.2.1
  refine (iterF_inv (len := (outP a x.state_).length) (fun n (acc : List automaton_found) => (acc, (n : Int))) (fun n acc => acc = all ++ ((outP a x.state_).take n).map fun e => ⟨x.word_ ++ [e.Event], e.To⟩) (fun n acc => some (all ++ kids a x)) ?_ ?_ fuel 0 all (Nat.zero_le _) (by omega) (by simp))
  · intro k n acc hn hi ih
    subst hi
    dsimp only
    have hg : getO (all ++ ((outP a x.state_).take n).map fun e => (⟨x.word_ ++ [e.Event], e.To⟩ : automaton_found)) (i : Int) = some x := by
      rw [getO_some]
      refine ⟨by omega, ?_⟩
      have := (List.getElem?_eq_some_iff.1 hx).1
      rw [Int.toNat_natCast, List.getElem?_append_left this]; exact hx
    rw [if_pos (by omega), getO_nat hn]
    simp only [Option.bind_some]
    rw [hg]
    simp only [Option.bind_some]
    rw [clone_ok (by unfold lim; omega)]
    simp only [Option.bind_some]
    rw [appO_some (by simp only [List.length_cons, List.length_nil]; unfold lim; omega)]
    simp only [Option.bind_some]
    rw [appO_some (by simp only [List.length_cons, List.length_nil, List.length_append, List.length_map, List.length_take]; unfold lim; omega)]
    simp only [Option.bind_some]
    rw [wrap_succ (by omega)]
    refine ih _ ?_
    rw [List.take_succ_eq_append_getElem hn, List.map_append, List.append_assoc]; rfl
  · intro k acc hi
    subst hi
    dsimp only
    rw [if_neg (by omega), List.take_length]; rfl
theorem kids_word {x y : automaton_found} (hy : y ∈ kids a x) : y.word_.length = x.word_.length + 1 := by
  obtain ⟨e, _, rfl⟩ := List.mem_map.1 hy
  simp
theorem kids_state {x y : automaton_found} (hy : y ∈ kids a x) : 0 ≤ y.state_ ∧ y.state_ < a.States := by
  obtain ⟨e, he, rfl⟩ := List.mem_map.1 hy
  unfold outP at he
  have := h.ed0 e (List.mem_filter.1 he).1
  simp only; omega
structure QOk (a : api_Automaton) (i : Nat) (all : List automaton_found) : Prop where
  le : i ≤ all.length
  ln : all.length ≤ 1024
  wl : ∀ x ∈ all, x.word_.length ≤ i
  sr : ∀ x ∈ all, 0 ≤ x.state_ ∧ x.state_ < a.States
theorem QOk.next {i : Nat} {all : List automaton_found} (q : QOk a i all) {x : automaton_found} (hx : all[i]? = some x) (hl : (all ++ kids a x).length ≤ 1024) : QOk a (i + 1) (all ++ kids a x) := by
  have hi := (List.getElem?_eq_some_iff.1 hx).1
  have hm := List.mem_of_getElem? hx
  refine ⟨by simp only [List.length_append]; omega, hl, fun y hy => ?_, fun y hy => ?_⟩
  · rcases List.mem_append.1 hy with hy | hy
    · have := q.wl y hy; omega
    · have := kids_word h hy; have := q.wl x hm; omega
  · rcases List.mem_append.1 hy with hy | hy
    · exact q.sr y hy
    · exact kids_state h hy
def chosen (a : api_Automaton) (marked : Bool) (all : List automaton_found) : List (List Int) := (all.filter fun x => !marked || decide (x.state_ ∈ a.Marked)).map (·.word_)
theorem choose_loop (fuel : Nat) (hfu : 1099511627776 ≤ fuel) (marked : Bool) {all : List automaton_found} (hall : all.length ≤ 2000) (hw : ∀ x ∈ all, x.word_.length ≤ 2000) :
    ((iterF (fun k41 ((l39, x40) : (List (List Int)) × Int) => (if (x40 < (all.length : Int)) then ((((getO all x40).bind fun x43 => (((if marked then ((g_slices_Contains_int a.Marked x43.state_).bind fun x47 => some x47) else some true)).bind fun (x48 : Bool) => (if x48 then ((appO [] x43.word_).bind fun x50 => ((appO l39 [x50]).bind fun x52 => some (x52, x43.word_, x43.state_))) else some (l39, x43.word_, x43.state_))))).bind fun ((l54, c55, c56) : (List (List Int)) × (List Int) × Int) => k41 (l54, (IntKind.wrap .i64 (x40 + 1)))) else some l39)) fuel ([], 0)).bind fun (l57 : List (List Int)) => some (l57, (0 : Int))) = some (chosen a marked all, 0) := by
  have hsm := h.small.1
  have := select_ok (l := all) (f := fun x => if (!marked || decide (x.state_ ∈ a.Marked)) = true then some x.word_ else none) (fuel := fuel) (F := fun k41 ((l39, x40) : (List (List Int)) × Int) => (if (x40 < (all.length : Int)) then ((((getO all x40).bind fun x43 => (((if marked then ((g_slices_Contains_int a.Marked x43.state_).bind fun x47 => some x47) else some true)).bind fun (x48 : Bool) => (if x48 then ((appO [] x43.word_).bind fun x50 => ((appO l39 [x50]).bind fun x52 => some (x52, x43.word_, x43.state_))) else some (l39, x43.word_, x43.state_))))).bind fun ((l54, c55, c56) : (List (List Int)) × (List Int) × Int) => k41 (l54, (IntKind.wrap .i64 (x40 + 1)))) else some l39)) (by unfold big; omega) (by omega) (by
    intro k acc n hn hacc
    dsimp only
    have hwl := hw _ (List.getElem_mem hn)
    rw [if_pos (by omega), getO_nat hn]
    simp only [Option.bind_some]
    rw [contains_ok hsm.2.1]
    have hb : (if marked = true then (some (decide (all[n].state_ ∈ a.Marked))).bind (fun x47 => some x47) else some true) = some (!marked || decide (all[n].state_ ∈ a.Marked)) := by cases marked <;> rfl
    rw [hb]
    simp only [Option.bind_some]
    by_cases hc : (!marked || decide (all[n].state_ ∈ a.Marked)) = true
    · rw [if_pos hc, if_pos hc, appO_some (by simp only [List.length_nil]; unfold lim; omega)]
      simp only [Option.bind_some, List.nil_append]
      rw [appO_some (by simp only [List.length_cons, List.length_nil]; unfold lim; omega)]; rfl
    · rw [if_neg hc, if_neg hc]; simp) (by
    intro k acc
    dsimp only
    rw [if_neg (by omega)])
  refine (congrArg (fun w => Option.bind w _) this).trans ?_
  rw [Option.bind_some]
  congr 2
  unfold chosen
  generalize all = l
  induction l with
  | nil => rfl
  | cons x l ih =>
    by_cases hc : (!marked || decide (x.state_ ∈ a.Marked)) = true
    · rw [List.filterMap_cons, List.filter_cons, if_pos hc, if_pos hc, ih]; rfl
    · rw [List.filterMap_cons, List.filter_cons, if_neg hc, if_neg hc, ih]
theorem words_loop (marked : Bool) (most : Int) (fuel : Nat) (hfu : 1099511627776 ≤ fuel) (i : Nat) (all : List automaton_found) (q : QOk a i all) (J : List automaton_found → Option (List (List Int) × Int)) (hJ : ∀ all : List automaton_found, all.length ≤ 2000 → (∀ x ∈ all, x.word_.length ≤ 2000) → J all = some (chosen a marked all, 0)) :
    iterF (fun k13 ((all11, i12) : (List automaton_found) × Int) => (if (i12 < (all11.length : Int)) then ((getO all11 i12).bind fun x15 => (if ((x15.word_.length : Int) == most) then J all11 else ((((getO all11 i12).bind fun x18 => ((g_automaton_out a x18.state_).bind fun x21 => iterF (fun k24 ((all22, x23) : (List automaton_found) × Int) => (if (x23 < (x21.length : Int)) then ((getO x21 x23).bind fun x26 => ((getO all22 i12).bind fun x28 => ((g_slices_Clone_int x28.word_).bind fun x31 => ((appO x31 [x26.Event]).bind fun x32 => ((appO all22 [(automaton_found.mk x32 x26.To)]).bind fun x34 => k24 (x34, (IntKind.wrap .i64 (x23 + 1)))))))) else some all22)) fuel (all11, 0)))).bind fun (all36 : List automaton_found) => (if ((all36.length : Int) > 1024) then some ([], 3) else k13 (all36, (IntKind.wrap .i64 (i12 + 1))))))) else J all11)) fuel (all, (i : Int)) =
    some (match wq a most (1025 - i) i all with | none => ([], 3) | some all => (chosen a marked all, 0)) := by
  have hsm := h.small.1
  have hst := h.st
  have key := iterF_rule (F := (fun (k13 : List automaton_found × Int → Option (List (List Int) × Int)) ((all11, i12) : (List automaton_found) × Int) => (if (i12 < (all11.length : Int)) then ((getO all11 i12).bind fun x15 => (if ((x15.word_.length : Int) == most) then J all11 else ((((getO all11 i12).bind fun x18 => ((g_automaton_out a x18.state_).bind fun x21 => iterF (fun k24 ((all22, x23) : (List automaton_found) × Int) => (if (x23 < (x21.length : Int)) then ((getO x21 x23).bind fun x26 => ((getO all22 i12).bind fun x28 => ((g_slices_Clone_int x28.word_).bind fun x31 => ((appO x31 [x26.Event]).bind fun x32 => ((appO all22 [(automaton_found.mk x32 x26.To)]).bind fun x34 => k24 (x34, (IntKind.wrap .i64 (x23 + 1)))))))) else some all22)) fuel (all11, 0)))).bind fun (all36 : List automaton_found) => (if ((all36.length : Int) > 1024) then some ([], 3) else k13 (all36, (IntKind.wrap .i64 (i12 + 1))))))) else J all11)))
    (fun x => ∃ i : Nat, x.2 = (i : Int) ∧ QOk a i x.1) (fun x => 1025 - x.2.toNat) (fun x r => ∀ i : Nat, x.2 = (i : Int) → r = some (match wq a most (1025 - i) i x.1 with | none => ([], 3) | some all => (chosen a marked all, 0))) (by
      rintro k ⟨all, _⟩ ⟨i, rfl, q⟩ ih j hj
      replace q : QOk a i all := q
      obtain rfl : i = j := by have : (i : Int) = j := hj; omega
      have hfin : J all = some (chosen a marked all, 0) := hJ all (by have := q.ln; omega) fun x hx => by have := q.wl x hx; have := q.le; have := q.ln; omega
      have hle := q.le
      have hln := q.ln
      dsimp only
      rw [show 1025 - i = (1024 - i) + 1 from by omega]
      by_cases hlt : i < all.length
      · have hg := List.getElem?_eq_getElem hlt
        have hsr := q.sr _ (List.getElem_mem hlt)
        have hwl := q.wl _ (List.getElem_mem hlt)
        simp only [wq, hg]
        rw [if_pos (by omega), getO_nat hlt]
        simp only [Option.bind_some]
        by_cases hm : (all[i].word_.length : Int) = most
        · rw [if_pos (by simpa using hm), if_pos hm, hfin]
        · rw [if_neg (by simpa using hm), if_neg hm, out_ok h hsm (by omega) (by omega)]
          simp only [Option.bind_some]
          rw [kids_loop h fuel hfu hg (by omega) (by omega)]
          simp only [Option.bind_some]
          by_cases hb : (all ++ kids a all[i]).length > 1024
          · rw [if_pos (by omega), if_pos hb]
          · rw [if_neg (by omega), if_neg hb, wrap_succ (by omega)]
            have := ih (all ++ kids a all[i], ((i + 1 : Nat) : Int)) ⟨i + 1, rfl, q.next h hg (by omega)⟩ (by simp only; omega) (i + 1) rfl
            rw [this, show 1025 - (i + 1) = 1024 - i from by omega]
      · rw [if_neg (by omega), hfin]
        have : all[i]? = none := List.getElem?_eq_none_iff.2 (by omega)
        simp only [wq, this]) fuel (all, (i : Int)) ⟨i, rfl, q⟩ (by simp only; omega)
  exact key i rfl
theorem words_ok (most : Int) (marked : Bool) : g_automaton_Words a most marked = some (if most < 0 ∨ most > 4096 then ([], (2 : Int)) else if a.States = 0 then ([], 0) else match wq a most 1025 0 [⟨[], 0⟩] with | none => ([], 3) | some all => (chosen a marked all, 0)) := by
  have hst := h.st
  unfold g_automaton_Words f_automaton_Words
  obtain ⟨fuel, hfu, hge⟩ : ∃ f, fuel0 = f ∧ 1099511627776 ≤ f := ⟨_, rfl, Nat.le_refl _⟩
  rw [hfu, check_right h, Option.bind_some, if_neg (by simp)]
  by_cases h1 : most < 0 ∨ most > 4096
  · rw [if_pos h1]
    rcases h1 with h1 | h1
    · simp [h1]
    · rw [if_neg (by omega)]; simp [h1]
  · rw [if_neg h1, if_neg (by omega)]
    simp only [Option.bind_some, show decide (most > 4096) = false from by simp; omega, Bool.false_eq_true, if_false]
    by_cases h0 : a.States = 0
    · simp [h0]
    · rw [if_neg (by simpa using h0), if_neg h0]
      unfold letJ
      exact words_loop h marked most fuel hge 0 [⟨[], 0⟩] ⟨by simp, by simp, by simp, by simp; omega⟩ _ fun all h1 h2 => choose_loop h fuel hge marked h1 h2
end
end Go.Abs
end
section
namespace Go.Abs
open Go
set_option linter.unusedSimpArgs false
set_option linter.unusedVariables false
structure Like (a b : api_Automaton) (φ : Int → Int) : Prop where
  al : b.Alphabet = a.Alphabet
  st : 0 < b.States ↔ 0 < a.States
  zero : 0 < a.States → φ 0 = 0
  inj : ∀ s ∈ foundP a, ∀ t ∈ foundP a, φ s = φ t → s = t
  out : ∀ s ∈ foundP a, outP b (φ s) = (outP a s).map fun x => ⟨φ s, x.Event, φ x.To⟩
  ma : ∀ s ∈ foundP a, (φ s ∈ b.Marked ↔ s ∈ a.Marked)
section
variable {F : List Int} {φ : Int → Int} (inj : ∀ s ∈ F, ∀ t ∈ F, φ s = φ t → s = t)
include inj
end
section
variable {a b : api_Automaton} {φ : Int → Int} (ha : Right a) (hb : Right b) (h : Like a b φ)
include ha h
include hb
end
section
variable {a b : api_Automaton} {φ : Int → Int} (ha : Right a) (hb : Right b) (h : Like a b φ)
include ha h
end
end Go.Abs
end
section
namespace Go.Abs
open Go
set_option linter.unusedSimpArgs false
set_option linter.unusedVariables false
section
variable {a b : api_Automaton} {φ : Int → Int} (ha : Right a) (hb : Right b) (h : Like a b φ)
include ha hb h
end
end Go.Abs
end
section
namespace Go.Abs
open Go
set_option linter.unusedSimpArgs false
set_option linter.unusedVariables false
def compRow (a : api_Automaton) (s : Int) : List api_Edge := a.Alphabet.map fun e => ⟨s, e, if 0 ≤ stepP a s e then stepP a s e else a.States⟩
def compE (a : api_Automaton) : Nat → List api_Edge
  | 0 => []
  | n + 1 => compE a n ++ compRow a (n : Int)
theorem compE_len {a : api_Automaton} : ∀ n, (compE a n).length = n * a.Alphabet.length
  | 0 => by simp [compE]
  | n + 1 => by simp [compE, compE_len n, compRow, Nat.succ_mul]
theorem mem_compRow {a : api_Automaton} {s : Int} {x : api_Edge} : x ∈ compRow a s ↔ x.From = s ∧ x.Event ∈ a.Alphabet ∧ x.To = if 0 ≤ stepP a s x.Event then stepP a s x.Event else a.States := by
  unfold compRow
  simp only [List.mem_map]
  constructor
  · rintro ⟨e, he, rfl⟩; exact ⟨rfl, he, rfl⟩
  · rintro ⟨h1, h2, h3⟩; exact ⟨x.Event, h2, by cases x; simp_all⟩
section
variable {a : api_Automaton} (h : Right a)
include h
end
def countP (n : Nat) : List Int := (List.range n).map fun i : Nat => (i : Int)
theorem countP_succ (n : Nat) : countP (n + 1) = countP n ++ [(n : Int)] := by simp [countP, List.range_succ]
theorem countP_len (n : Nat) : (countP n).length = n := by simp [countP]
theorem mem_countP {n : Nat} {x : Int} : x ∈ countP n ↔ 0 ≤ x ∧ x < n := by
  unfold countP
  simp only [List.mem_map, List.mem_range]
  constructor
  · rintro ⟨i, h, rfl⟩; omega
  · rintro ⟨h1, h2⟩; exact ⟨x.toNat, by omega, by omega⟩
theorem countP_sorted : ∀ n, (countP n).Pairwise (· < ·)
  | 0 => .nil
  | n + 1 => by
    rw [countP_succ, List.pairwise_append]
    refine ⟨countP_sorted n, by simp, fun x hx y hy => ?_⟩
    have := mem_countP.1 hx
    simp at hy; omega
end Go.Abs
end
section
namespace Go.Abs
open Go
theorem known_ok : g_overseerlaw03_known = some true := by kernel_rfl
end Go.Abs
end
section
namespace Go.Abs
open Go
set_option linter.unusedSimpArgs false
set_option linter.unusedVariables false
def loopE (k : Nat) : List api_Edge := (countP k).map fun i => ⟨0, i, 0⟩
def manyP (k : Nat) : api_Automaton := ⟨countP k, 1, [], loopE k⟩
theorem manyP_right {k : Nat} (hk : k ≤ 32) : Right (manyP k) := by
  refine ⟨fun x hx => ?_, countP_sorted k, ⟨by simp [manyP], by simp [manyP]⟩, by simp [manyP], by simp [manyP], fun x hx => ?_, ?_⟩
  · have := mem_countP.1 hx; omega
  · obtain ⟨i, hi, rfl⟩ := List.mem_map.1 hx
    simp only [manyP]
    exact ⟨by omega, by omega, by omega, by omega, hi⟩
  · simp only [manyP, loopE]
    rw [List.pairwise_map]
    exact (countP_sorted k).imp fun h => .inr ⟨rfl, h⟩
theorem kids_many {k : Nat} {x : automaton_found} (hx : x.state_ = 0) : (kids (manyP k) x).length = k ∧ ∀ y ∈ kids (manyP k) x, y.state_ = 0 ∧ y.word_.length = x.word_.length + 1 := by
  have ho : outP (manyP k) x.state_ = loopE k := by
    unfold outP manyP
    rw [hx]
    exact List.filter_eq_self.2 fun y hy => by obtain ⟨i, _, rfl⟩ := List.mem_map.1 hy; rfl
  unfold kids
  rw [ho]
  refine ⟨by simp [loopE, countP_len], fun y hy => ?_⟩
  obtain ⟨e, he, rfl⟩ := List.mem_map.1 hy
  obtain ⟨i, _, rfl⟩ := List.mem_map.1 he
  simp
def lenAt (k j : Nat) : Nat := if j = 0 then 0 else if j ≤ k then 1 else 2
structure QM (k i : Nat) (all : List automaton_found) : Prop where
  ln : all.length = 1 + i * k
  at1 : ∀ j x, all[j]? = some x → x.state_ = 0 ∧ x.word_.length = lenAt k j
theorem QM.next {k i : Nat} {all : List automaton_found} (q : QM k i all) (hi : i ≤ k) {x : automaton_found} (hx : all[i]? = some x) : QM k (i + 1) (all ++ kids (manyP k) x) := by
  obtain ⟨x1, x2⟩ := q.at1 i x hx
  obtain ⟨k1, k2⟩ := kids_many (k := k) x1
  refine ⟨by rw [List.length_append, q.ln, k1, Nat.succ_mul]; omega, fun j y hy => ?_⟩
  by_cases hj : j < all.length
  · rw [List.getElem?_append_left hj] at hy
    exact q.at1 j y hy
  · have hjl := (List.getElem?_eq_some_iff.1 hy).1
    rw [List.length_append, k1] at hjl
    rw [List.getElem?_append_right (by omega)] at hy
    obtain ⟨y1, y2⟩ := k2 y (List.mem_of_getElem? hy)
    refine ⟨y1, ?_⟩
    rw [y2, x2]
    have hln := q.ln
    unfold lenAt
    by_cases h0 : i = 0
    · subst h0
      rw [Nat.zero_mul] at hln
      rw [if_pos rfl, if_neg (by omega), if_pos (by omega)]
    · have hik : 1 * k ≤ i * k := Nat.mul_le_mul_right k (by omega)
      rw [if_neg h0, if_pos hi, if_neg (by omega), if_neg (by omega)]
theorem wq_many {k : Nat} (hk : k ≤ 32) : ∀ (fuel i : Nat) (all : List automaton_found), QM k i all → i ≤ k + 1 → all.length ≤ 1024 → k + 2 ≤ fuel + i →
    (k ≤ 31 → ∃ fin, wq (manyP k) 2 fuel i all = some fin ∧ fin.length = 1 + k + k * k) ∧ (k = 32 → wq (manyP k) 2 fuel i all = none)
  | 0, i, all, q, hi, hl, hf => by omega
  | fuel + 1, i, all, q, hi, hl, hf => by
    have hln := q.ln
    unfold wq
    by_cases hlt : i < all.length
    · have hg := List.getElem?_eq_getElem hlt
      rw [hg]
      dsimp only
      obtain ⟨x1, x2⟩ := q.at1 i _ hg
      by_cases hik : i ≤ k
      · have hne : ¬ (all[i].word_.length : Int) = 2 := by
          rw [x2]; unfold lenAt; rw [if_pos hik]; split <;> simp
        have q' := q.next hik hg
        rw [if_neg hne]
        have hln' := q'.ln
        by_cases hb : (all ++ kids (manyP k) all[i]).length > 1024
        · rw [if_pos hb]
          refine ⟨fun h31 => ?_, fun _ => rfl⟩
          have : (i + 1) * k ≤ 32 * 31 := Nat.mul_le_mul (by omega) h31
          omega
        · rw [if_neg hb]
          by_cases hi2 : i + 1 ≤ k + 1
          · exact wq_many hk fuel (i + 1) _ q' hi2 (by omega) (by omega)
          · omega
      · obtain rfl : i = k + 1 := by omega
        have h2 : (all[k + 1].word_.length : Int) = 2 := by
          rw [x2]; unfold lenAt; rw [if_neg (by omega), if_neg (by omega)]; rfl
        rw [if_pos h2]
        refine ⟨fun _ => ⟨all, rfl, by rw [hln, Nat.succ_mul]; omega⟩, fun h32 => ?_⟩
        subst h32; omega
    · have hg : all[i]? = none := List.getElem?_eq_none_iff.2 (by omega)
      rw [hg]
      dsimp only
      by_cases hk0 : k = 0
      · subst hk0
        refine ⟨fun _ => ⟨all, rfl, by omega⟩, fun h => by omega⟩
      · have : i * 1 ≤ i * k := Nat.mul_le_mul_left i (by omega)
        omega
theorem many_start {k : Nat} : QM k 0 [⟨[], 0⟩] := ⟨by simp, fun j x hx => by
  cases j with
  | zero => simp at hx; subst hx; simp [lenAt]
  | succ j => simp at hx⟩
theorem automatonMany_ok (n : Int) (marked : Bool) (hn : 0 ≤ n ∧ n < 256) : g_overseerlaw03_AutomatonMany n marked = some true := by
  unfold g_overseerlaw03_AutomatonMany f_overseerlaw03_AutomatonMany
  obtain ⟨fuel, hfu, hge⟩ : ∃ f, fuel0 = f ∧ 1099511627776 ≤ f := ⟨_, rfl, Nat.le_refl _⟩
  have hm0 : 0 ≤ n.tmod 33 := Int.tmod_nonneg _ hn.1
  have hm1 : n.tmod 33 < 33 := Int.tmod_lt_of_pos _ (by omega)
  rw [hfu, known_ok]
  simp only [Option.bind_some, if_true]
  rw [wrap_id (x := n.tmod 33) (by omega) (by omega)]
  obtain ⟨k, hk⟩ := Int.eq_ofNat_of_zero_le hm0
  rw [hk] at hm1 ⊢
  have hk32 : k ≤ 32 := by omega
  have hloop := iterF_inv (len := k) (F := (fun (k10 : Int × List Int × List Int × List api_Edge → Option (Int × List Int × List Int × List api_Edge)) ((i6, a7, a8, a9) : Int × (List Int) × (List Int) × (List api_Edge)) => (if (i6 < (k : Int)) then ((appO a7 [i6]).bind fun x12 => ((appO a9 [(api_Edge.mk 0 i6 0)]).bind fun x14 => k10 ((IntKind.wrap .i64 (i6 + 1)), x12, a8, x14))) else some ((k : Int), a7, a8, a9))))
    (fun i (acc : List Int × List api_Edge) => ((i : Int), acc.1, ([] : List Int), acc.2)) (fun i acc => acc = (countP i, loopE i)) (fun _ _ => some ((k : Int), countP k, [], loopE k)) (by
      intro kk i acc hi hI ih
      subst hI
      dsimp only
      rw [if_pos (by omega), appO_some (by simp only [List.length_cons, List.length_nil, countP_len]; unfold lim; omega)]
      simp only [Option.bind_some]
      rw [appO_some (by simp only [List.length_cons, List.length_nil, loopE, List.length_map, countP_len]; unfold lim; omega)]
      simp only [Option.bind_some]
      rw [wrap_succ (by omega)]
      exact ih (countP i ++ [(i : Int)], loopE i ++ [⟨0, (i : Int), 0⟩]) (by simp [countP_succ, loopE])) (by
      intro kk acc hI
      subst hI
      dsimp only
      rw [if_neg (by omega)]) fuel 0 ([], []) (Nat.zero_le _) (by omega) (by simp [countP, loopE])
  refine (congrArg (fun w => Option.bind w _) hloop).trans ?_
  rw [Option.bind_some]
  dsimp only
  show Option.bind (g_automaton_Words (manyP k) 2 marked) _ = _
  rw [words_ok (manyP_right hk32), if_neg (by omega), if_neg (by simp [manyP])]
  obtain ⟨q1, q2⟩ := wq_many hk32 1025 0 _ many_start (by omega) (by simp) (by omega)
  have hkk : (k : Int) * k = ((k * k : Nat) : Int) := by simp
  have hkl : k * k ≤ 32 * 32 := Nat.mul_le_mul hk32 hk32
  rw [hkk, wrap_id (x := 1 + (k : Int)) (by omega) (by omega), wrap_id (x := ((k * k : Nat) : Int)) (by omega) (by omega), wrap_id (by omega) (by omega)]
  simp only [Option.bind_some]
  by_cases h32 : k = 32
  · subst h32
    rw [q2 rfl]; rfl
  · obtain ⟨fin, f1, f2⟩ := q1 (by omega)
    have hk31 : k * k ≤ 31 * 31 := Nat.mul_le_mul (by omega) (by omega)
    rw [f1]
    dsimp only
    rw [if_neg (by omega)]
    cases marked with
    | true =>
      have : chosen (manyP k) true fin = [] := by
        unfold chosen
        rw [List.filter_eq_nil_iff.2 (by simp [manyP])]; rfl
      simp only [this]; rfl
    | false =>
      have : (chosen (manyP k) false fin).length = 1 + k + k * k := by
        unfold chosen
        rw [List.filter_eq_self.2 (by simp), List.length_map, f2]
      simp only [Bool.false_eq_true, if_false]
      rw [if_pos (by simp only [beq_iff_eq, this]; omega)]; rfl
end Go.Abs
end
