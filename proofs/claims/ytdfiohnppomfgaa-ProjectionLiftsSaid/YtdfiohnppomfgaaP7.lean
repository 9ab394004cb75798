/-
  Part 7 of the proof: see the last text.
-/
import Derived.Test.YtdfiohnppomfgaaP6
import Derived.KernelRfl
set_option linter.unusedVariables false
set_option linter.unusedSimpArgs false
set_option linter.unusedSectionVars false
section
namespace Go.Abs
open Go
theorem Qm2 {X R : Type} {F : (X → Option R) → X → Option R} (I : X → Prop) (m : X → Nat) (Q : X → Option R → Prop)
  (step : ∀ (k : X → Option R) (x : X),I x → (∀ y,I y → m y < m x → Q y (k y)) → Q x (F k x)) : ∀ (fuel : Nat) (x : X),I x → m x < fuel → Q x (Qcp F fuel x)
 | 0,x,_,h=>absurd h (Nat.not_lt_zero _)
 | fuel + 1,x,hi,h=>step _ x hi fun y hy hm=>Qm2 I m Q step fuel y hy (by omega)
theorem Q6b {X R : Type} {F : (X → Option R) → X → Option R} {fuel : Nat} {x : X} (I : X → Prop) (m : X → Nat) (q : Option R) (hi : I x) (hm : m x < fuel)
  (step : ∀ (k : X → Option R) (x : X),I x → (∀ y,I y → m y < m x → k y = q) → F k x = q) : Qcp F fuel x = q :=
 Qm2 I m (fun _ r=>r = q) step fuel x hi hm
theorem Q0f {x : Int} (h1 : -9223372036854775808 ≤ x) (h2 : x ≤ 9223372036854775807) : IntKind.wrap .i64 x = x:=by
 simp [IntKind.wrap,IntKind.bits,IntKind.signed]; omega
theorem Qb2 {n : Nat} (h : n < 9223372036854775807) : IntKind.wrap .i64 ((n : Int) + 1) = ((n + 1 : Nat) : Int):=by
 rw [Q0f (by omega) (by omega)]; omega
theorem Qcw {α : Type} {l : List α} {n : Nat} (h : n < l.length) : getO l (n : Int) = some l[n]:=by
 simp [getO,h]
theorem Qon {α : Type} {l : List α} {i : Int} {x : α} : getO l i = some x ↔ 0 ≤ i ∧ l[i.toNat]? = some x:=by
 unfold getO; split
 ·rename_i h; simp [h]
 ·rename_i h; simp only [reduceCtorEq,false_iff,not_and]; exact fun h'=>absurd h' h
theorem Qdj {α : Type} {l m : List α} (h : l.length + m.length ≤ lim) : appO l m = some (l ++ m):=by
 unfold appO; rw [if_pos h]
theorem Qba4 {α : Type} {s t : List α} {k : Nat} (hs : k < s.length) (ht : k < t.length) (h : s.take k = t.take k) (he : s[k] = t[k]) : s.take (k + 1) = t.take (k + 1):=by
 rw [List.take_add_one,List.take_add_one,h,List.getElem?_eq_getElem hs,List.getElem?_eq_getElem ht,he]
theorem Qoo {R : Type} {F : (Int → Option R) → Int → Option R} {len fuel : Nat} (G : Nat → Option R) (hf : len < fuel)
  (step : ∀ (k : Int → Option R) (n : Nat),n < len → k ((n + 1 : Nat) : Int) = G (n + 1) → F k (n : Int) = G n) (last : ∀ k : Int → Option R,F k (len : Int) = G len) : Qcp F fuel 0 = G 0:=by
 have:=Qm2 (F:=F) (fun x=>∃ n : Nat,x = (n : Int) ∧ n ≤ len) (fun x=>len - x.toNat) (fun x r=>∀ n : Nat,x = (n : Int) → r = G n) (fun k x hx ih=>by
  obtain ⟨n,rfl,hn⟩:=hx
  intro m hm
  obtain rfl : n = m:=by omega
  by_cases h : n < len
  ·exact step k n h (ih _ ⟨n + 1,rfl,by omega⟩ (by omega) (n + 1) rfl)
  ·obtain rfl : n = len:=by omega
   exact last k) fuel 0 ⟨0,rfl,by omega⟩ (by simpa using hf)
 exact this 0 rfl
theorem Qba5 {n : Nat} (h0 : 0 < n) (h : n < 9223372036854775807) : IntKind.wrap .i64 ((n : Int) - 1) = ((n - 1 : Nat) : Int):=by
 rw [Q0f (by omega) (by omega)]; omega
theorem Qbhd {X S R : Type} {F : (X → Option R) → X → Option R} {len : Nat} (mk : Nat → S → X) (G : Nat → S → Option R)
  (step : ∀ (k : X → Option R) (n : Nat) (s : S),n < len → (∀ s',k (mk (n + 1) s') = G (n + 1) s') → F k (mk n s) = G n s) (last : ∀ (k : X → Option R) (s : S),F k (mk len s) = G len s) :
  ∀ (fuel n : Nat) (s : S),n ≤ len → len - n < fuel → Qcp F fuel (mk n s) = G n s
 | 0,n,s,_,h=>by omega
 | fuel + 1,n,s,hn,h=>by
  show F (Qcp F fuel) (mk n s) = _
  by_cases hlt : n < len
  ·exact step _ n s hlt fun s'=>Qbhd mk G step last fuel (n + 1) s' (by omega) (by omega)
  ·obtain rfl : n = len:=by omega
   exact last _ s
theorem Qbdw : ∀ {l m : List Int},l.Pairwise (· < ·) → m.Pairwise (· < ·) → (∀ x,x ∈ l ↔ x ∈ m) → l = m
 | l,m,h1,h2,h=>by
  have n1 : l.Nodup:=h1.imp fun h=>by omega
  have n2 : m.Nodup:=h2.imp fun h=>by omega
  have hp : l.Perm m:=(List.perm_ext_iff_of_nodup n1 n2).2 h
  exact List.Perm.eq_of_pairwise (le:=(· < ·)) (fun a b _ _ h1 h2=>by omega) h1 h2 hp
section
variable {α : Type} {p : α → Bool}
end
theorem Qk3 {X S R : Type} {F : (X → Option R) → X → Option R} {len : Nat} (mk : Nat → S → X) (I : Nat → S → Prop) (G : Nat → S → Option R)
  (step : ∀ (k : X → Option R) (n : Nat) (s : S),n < len → I n s → (∀ s',I (n + 1) s' → k (mk (n + 1) s') = G (n + 1) s') → F k (mk n s) = G n s) (last : ∀ (k : X → Option R) (s : S),I len s → F k (mk len s) = G len s) :
  ∀ (fuel n : Nat) (s : S),n ≤ len → len - n < fuel → I n s → Qcp F fuel (mk n s) = G n s
 | 0,n,s,_,h,_=>by omega
 | fuel + 1,n,s,hn,h,hi=>by
  show F (Qcp F fuel) (mk n s) = _
  by_cases hlt : n < len
  ·exact step _ n s hlt hi fun s' hi'=>Qk3 mk I G step last fuel (n + 1) s' (by omega) (by omega) hi'
  ·obtain rfl : n = len:=by omega
   exact last _ s hi
theorem Qf3 : ∀ {l : List Int} {a b : Int},l.Pairwise (· < ·) → (∀ x ∈ l,a ≤ x ∧ x < b) → l.length ≤ (b - a).toNat
 | [],_,_,_,_=>by simp
 | x :: xs,a,b,h,hr=>by
  obtain ⟨h1,h2⟩:=List.pairwise_cons.1 h
  have:=Qf3 (a:=x + 1) (b:=b) h2 fun y hy=>⟨by have:=h1 y hy; omega,(hr y (by simp [hy])).2⟩
  have:=hr x (by simp)
  simp only [List.length_cons]
  omega
end Go.Abs
end
section
namespace Go.Abs
abbrev big : Nat:=1000000000000
def small (a : Qb) : Prop:=a.Alphabet.length < big ∧ a.Marked.length < big ∧ a.Edges.length < big
end Go.Abs
end
section
namespace Go.Abs
open Go
set_option linter.unusedSimpArgs false
def Qev (n : Int) : Option Int → List Int → Int
 | _,[]=>0
 | p,x :: xs=>if x < 0 ∨ x ≥ n then 2 else if ∃ y,p = some y ∧ x ≤ y then 5 else Qev n (some x) xs
def Qhu (al : List Int) (st : Int) : Option Qe → List Qe → Int
 | _,[]=>0
 | p,x :: xs=>if x.From < 0 ∨ x.From ≥ st ∨ x.To < 0 ∨ x.To ≥ st then 2 else if x.Event ∉ al then 9 else if ∃ y,p = some y ∧ (x.From < y.From ∨ x.From = y.From ∧ x.Event ≤ y.Event) then 5 else Qhu al st (some x) xs
def Qvd (a : Qb) : Int :=
 if Qev 32 none a.Alphabet ≠ 0 then Qev 32 none a.Alphabet else if a.States < 0 then 2 else if a.States > 4096 then 3 else
 if Qev a.States none a.Marked ≠ 0 then Qev a.States none a.Marked else Qhu a.Alphabet a.States none a.Edges
def ahead {α : Type} (l : List α) (n : Nat) : Option α:=if n = 0 then none else l[n - 1]?
theorem Q0r {α : Type} (l : List α) : ahead l 0 = none:=rfl
theorem Q81 {α : Type} (l : List α) {n : Nat} (h : n < l.length) : ahead l (n + 1) = some l[n]:=by simp [ahead,h]
theorem Qba6 {α : Type} (l : List α) {n : Nat} (h0 : 0 < n) (h : n ≤ l.length) : ahead l n = some (l[n - 1]'(by omega)):=by
 simp [ahead,show n ≠ 0 from by omega,show n - 1 < l.length from by omega]
theorem Qba7 {n : Int} {l : List Int} {k : Nat} (h : k < l.length) : Qev n (ahead l k) (l.drop k) = if l[k] < 0 ∨ l[k] ≥ n then 2 else if ∃ y,ahead l k = some y ∧ l[k] ≤ y then 5 else Qev n (ahead l (k + 1)) (l.drop (k + 1)):=by
 rw [List.drop_eq_getElem_cons h,Qev,Q81 l h]
theorem Q9y {al : List Int} {n : Int} {l : List Qe} {k : Nat} (h : k < l.length) : Qhu al n (ahead l k) (l.drop k) = if l[k].From < 0 ∨ l[k].From ≥ n ∨ l[k].To < 0 ∨ l[k].To ≥ n then 2 else if l[k].Event ∉ al then 9 else if ∃ y,ahead l k = some y ∧ (l[k].From < y.From ∨ l[k].From = y.From ∧ l[k].Event ≤ y.Event) then 5 else Qhu al n (ahead l (k + 1)) (l.drop (k + 1)):=by
 rw [List.drop_eq_getElem_cons h,Qhu,Q81 l h]
theorem Q3s {l : List Int} {n : Int} (hl : l.length < big) : Qfe l n = some (Qev n none l):=by
 unfold Qfe Qbt
 refine (Qoo (len:=l.length) (fun k=>some (Qev n (ahead l k) (l.drop k))) (by unfold Qbs; unfold big at hl; omega) ?_ ?_).trans (by simp [Q0r])
 ·intro k i hi ih
  have hb : i < 1000000000000:=by unfold big at hl; omega
  rw [Qba7 hi]
  try dsimp only
  rw [if_pos (by omega),Qcw hi,Qb2 (by omega),ih]
  simp only [Option.bind_some]
  by_cases h1 : l[i] < 0
  ·simp [h1]
  ·by_cases h2 : l[i] ≥ n
   ·simp [h1,h2]
   ·by_cases h0 : 0 < i
    ·rw [Qba5 h0 (by omega),Qcw (by omega : i - 1 < l.length),Qba6 l h0 (by omega)]
     by_cases h3 : l[i] ≤ l[i - 1] <;> simp [h1,h2,h3,h0]
    ·obtain rfl : i = 0:=by omega
     simp [h1,h2,Q0r]
 ·intro k; simp [Qev]
theorem Qbhe {l : List Int} {v : Int} (hl : l.length < big) : Qgg l v = some (if v ∈ l then (l.idxOf v : Int) else -1):=by
 unfold Qgg Qck
 refine (Qoo (len:=l.length) (fun k=>some (if v ∈ l.drop k then ((k + (l.drop k).idxOf v : Nat) : Int) else -1)) (by unfold Qbs; unfold big at hl; omega) ?_ ?_).trans (by simp)
 ·intro k i hi ih
  have hb : i < 1000000000000:=by unfold big at hl; omega
  try dsimp only
  rw [if_pos (by omega),Qcw hi,Qb2 (by omega),ih,List.drop_eq_getElem_cons hi]
  simp only [Option.bind_some,List.mem_cons,List.idxOf_cons]
  by_cases h : v = l[i]
  ·simp [← h]
  ·have : ¬ l[i] = v:=fun e=>h e.symm
   have hbq : (l[i] == v) = false:=by simp [this]
   by_cases h2 : v ∈ l.drop (i + 1) <;> simp [h,h2,hbq]
   omega
 ·intro k; simp
theorem Qkb {l : List Int} {v : Int} (hl : l.length < big) : Qbi l v = some (decide (v ∈ l)):=by
 unfold Qbi Qh
 rw [Qbhe hl]
 simp only [Option.bind_some,Option.some.injEq]
 by_cases h : v ∈ l <;> simp [h]
theorem Qbc9 {l : List Int} {v : Int} (hl : l.length < big) : Qct l v = some (decide (v ∈ l)):=by
 unfold Qct Q9
 refine (Qoo (len:=l.length) (fun k=>some (decide (v ∈ l.drop k))) (by unfold Qbs; unfold big at hl; omega) ?_ ?_).trans (by simp)
 ·intro k i hi ih
  have hb : i < 1000000000000:=by unfold big at hl; omega
  try dsimp only
  rw [if_pos (by omega),Qcw hi,Qb2 (by omega),ih,List.drop_eq_getElem_cons hi]
  simp only [Option.bind_some,List.mem_cons]
  by_cases h : l[i] = v
  ·simp [h]
  ·have : ¬ v = l[i]:=fun e=>h e.symm
   simp [h,this]
 ·intro k; simp
theorem Q9z {a : Qb} (h : small a) : Qeo a = some (Qhu a.Alphabet a.States none a.Edges):=by
 obtain ⟨hal,_,hl⟩:=h
 unfold Qeo Qbq
 refine (Qoo (len:=a.Edges.length) (fun k=>some (Qhu a.Alphabet a.States (ahead a.Edges k) (a.Edges.drop k))) (by unfold Qbs; unfold big at hl; omega) ?_ ?_).trans (by simp [Q0r])
 ·intro k i hi ih
  have hb : i < 1000000000000:=by unfold big at hl; omega
  rw [Q9y hi]
  unfold letJ
  try dsimp only
  rw [if_pos (by omega),Qcw hi,Qb2 (by omega),ih]
  simp only [Option.bind_some,Qkb hal]
  generalize a.Edges[i] = x
  by_cases h1 : x.From < 0
  ·simp [h1]
  by_cases h2 : x.From ≥ a.States
  ·simp [h1,h2]
  by_cases h3 : x.To < 0
  ·simp [h1,h2,h3]
  by_cases h4 : x.To ≥ a.States
  ·simp [h1,h2,h3,h4]
  by_cases h5 : x.Event ∈ a.Alphabet
  ·by_cases h0 : 0 < i
   ·rw [Qba5 h0 (by omega),Qcw (by omega : i - 1 < a.Edges.length),Qba6 a.Edges h0 (by omega)]
    generalize a.Edges[i - 1] = y
    have hi0 : i ≠ 0:=by omega
    by_cases h6 : x.From < y.From
    ·simp [h1,h2,h3,h4,h5,h6,hi0]
    by_cases h7 : y.From = x.From
    ·by_cases h8 : x.Event ≤ y.Event <;> simp [h1,h2,h3,h4,h5,h6,h7,h8,hi0]
    ·have h7' : ¬ x.From = y.From:=fun e=>h7 e.symm
     simp [h1,h2,h3,h4,h5,h6,h7,hi0,h7']
   ·obtain rfl : i = 0:=by omega
    simp [h1,h2,h3,h4,h5,Q0r]
  ·simp [h1,h2,h3,h4,h5]
 ·intro k; unfold letJ; simp [Qhu]
theorem Qbhf {a : Qb} (h : small a) : Qfm a = some (Qvd a):=by
 unfold Qfm Qbk Qvd
 rw [Q3s h.1,Q3s h.2.1,Q9z h]
 simp only [Option.bind_some]
 by_cases h1 : Qev 32 none a.Alphabet = 0
 ·by_cases h2 : a.States < 0
  ·simp [h1,h2]
  by_cases h3 : a.States > 4096
  ·simp [h1,h2,h3]
  by_cases h4 : Qev a.States none a.Marked = 0 <;> simp [h1,h2,h3,h4]
 ·simp [h1]
end Go.Abs
end
section
namespace Go.Abs
open Go
set_option linter.unusedSimpArgs false
set_option linter.unusedVariables false
def Qop (x y : Qe) : Prop:=x.From < y.From ∨ x.From = y.From ∧ x.Event < y.Event
instance (x y : Qe) : Decidable (Qop x y):=by unfold Qop; infer_instance
structure Right (a : Qb) : Prop where
 al0 : ∀ x ∈ a.Alphabet,0 ≤ x ∧ x < 32
 al : a.Alphabet.Pairwise (· < ·)
 st : 0 ≤ a.States ∧ a.States ≤ 4096
 ma0 : ∀ x ∈ a.Marked,0 ≤ x ∧ x < a.States
 ma : a.Marked.Pairwise (· < ·)
 ed0 : ∀ x ∈ a.Edges,0 ≤ x.From ∧ x.From < a.States ∧ 0 ≤ x.To ∧ x.To < a.States ∧ x.Event ∈ a.Alphabet
 ed : a.Edges.Pairwise Qop
theorem Qib {n : Int} : ∀ {l : List Int} {p : Option Int},Qev n p l = 0 ↔ (∀ x ∈ l,0 ≤ x ∧ x < n) ∧ l.Pairwise (· < ·) ∧ ∀ y,p = some y → ∀ x ∈ l,y < x
 | [],p=>by simp [Qev]
 | x :: xs,p=>by
  rw [Qev]
  split
  ·rename_i h
   refine ⟨fun h=>by omega,fun hh=>?_⟩
   have:=hh.1 x (by simp); omega
  ·rename_i h
   split
   ·rename_i h2
    obtain ⟨y,hy,hxy⟩:=h2
    refine ⟨fun h=>by omega,fun hh=>?_⟩
    have:=hh.2.2 y hy x (by simp); omega
   ·rename_i h2
    rw [Qib]
    constructor
    ·rintro ⟨k1,k2,k3⟩
     refine ⟨fun z hz=>?_,List.pairwise_cons.2 ⟨fun z hz=>k3 x rfl z hz,k2⟩,fun y hy z hz=>?_⟩
     ·rcases List.mem_cons.1 hz with rfl | hz
      ·omega
      ·exact k1 z hz
     ·have hyx : y < x:=by
       rcases Int.lt_or_le y x with h | h
       ·exact h
       ·exact absurd ⟨y,hy,h⟩ h2
      rcases List.mem_cons.1 hz with rfl | hz
      ·exact hyx
      ·have:=k3 x rfl z hz; omega
    ·rintro ⟨k1,k2,k3⟩
     obtain ⟨k4,k5⟩:=List.pairwise_cons.1 k2
     exact ⟨fun z hz=>k1 z (by simp [hz]),k5,fun y hy z hz=>by cases hy; exact k4 z hz⟩
theorem Qve {al : List Int} {n : Int} : ∀ {l : List Qe} {p : Option Qe},Qhu al n p l = 0 ↔ (∀ x ∈ l,0 ≤ x.From ∧ x.From < n ∧ 0 ≤ x.To ∧ x.To < n ∧ x.Event ∈ al) ∧ l.Pairwise Qop ∧ ∀ y,p = some y → ∀ x ∈ l,Qop y x
 | [],p=>by simp [Qhu]
 | x :: xs,p=>by
  have tr : ∀ a b c : Qe,Qop a b → Qop b c → Qop a c:=fun a b c h k=>by unfold Qop at *; omega
  rw [Qhu]
  split
  ·rename_i h
   refine ⟨fun h=>by omega,fun hh=>?_⟩
   have:=hh.1 x (by simp); omega
  ·rename_i h
   split
   ·rename_i h2
    refine ⟨fun h=>by omega,fun hh=>?_⟩
    exact absurd (hh.1 x (by simp)).2.2.2.2 h2
   ·rename_i hal
    split
    ·rename_i h2
     obtain ⟨y,hy,hxy⟩:=h2
     refine ⟨fun h=>by omega,fun hh=>?_⟩
     have:=hh.2.2 y hy x (by simp)
     unfold Qop at this; omega
    ·rename_i h2
     rw [Qve]
     constructor
     ·rintro ⟨k1,k2,k3⟩
      refine ⟨fun z hz=>?_,List.pairwise_cons.2 ⟨fun z hz=>k3 x rfl z hz,k2⟩,fun y hy z hz=>?_⟩
      ·rcases List.mem_cons.1 hz with rfl | hz
       ·exact ⟨by omega,by omega,by omega,by omega,Decidable.not_not.1 hal⟩
       ·exact k1 z hz
      ·have hyx : Qop y x:=by
        apply Decidable.byContradiction
        intro h
        exact h2 ⟨y,hy,by unfold Qop at h; omega⟩
       rcases List.mem_cons.1 hz with rfl | hz
       ·exact hyx
       ·exact tr _ _ _ hyx (k3 x rfl z hz)
     ·rintro ⟨k1,k2,k3⟩
      obtain ⟨k4,k5⟩:=List.pairwise_cons.1 k2
      exact ⟨fun z hz=>k1 z (by simp [hz]),k5,fun y hy z hz=>by cases hy; exact k4 z hz⟩
theorem Qbf9 {a : Qb} : Qvd a = 0 ↔ Right a:=by
 unfold Qvd
 constructor
 ·intro h
  split at h
  ·rename_i h1; exact absurd h h1
  rename_i h1
  split at h
  ·omega
  split at h
  ·omega
  split at h
  ·rename_i h4; exact absurd h h4
  rename_i h4
  have q1:=Qib.1 (Decidable.not_not.1 h1)
  have q2:=Qib.1 (Decidable.not_not.1 h4)
  have q3:=Qve.1 h
  exact ⟨q1.1,q1.2.1,⟨by omega,by omega⟩,q2.1,q2.2.1,q3.1,q3.2.1⟩
 ·intro h
  have q1 : Qev 32 none a.Alphabet = 0:=Qib.2 ⟨h.al0,h.al,fun y hy=>by cases hy⟩
  have q2 : Qev a.States none a.Marked = 0:=Qib.2 ⟨h.ma0,h.ma,fun y hy=>by cases hy⟩
  have q3 : Qhu a.Alphabet a.States none a.Edges = 0:=Qve.2 ⟨h.ed0,h.ed,fun y hy=>by cases hy⟩
  have:=h.st
  rw [if_neg (by simp [q1]),if_neg (by omega),if_neg (by omega),if_neg (by simp [q2]),q3]
def outP (a : Qb) (s : Int) : List Qe:=a.Edges.filter fun x=>x.From == s
def Qgd (a : Qb) (s e : Int) : Int:=match a.Edges.find? fun x=>x.From == s && x.Event == e with
 | some x=>x.To
 | none=>-1
section
variable {a : Qb} (h : Right a) (hs : small a)
include h hs
omit h in
theorem Q5j {s e : Int} : Qbv a s e = some (Qgd a s e):=by
 have hb : a.Edges.length < 1000000000000:=hs.2.2
 unfold Qbv Qv
 refine (Qoo (len:=a.Edges.length) (fun k=>some (match (a.Edges.drop k).find? (fun x=>x.From == s && x.Event == e) with | some x=>x.To | none=>-1)) (by unfold Qbs; omega) ?_ ?_).trans (by simp [Qgd])
 ·intro k i hi ih
  rw [if_pos (by omega),Qcw hi,Qb2 (by omega),ih,List.drop_eq_getElem_cons hi]
  simp only [Option.bind_some,List.find?_cons]
  cases h1 : a.Edges[i].From == s <;> cases h2 : a.Edges[i].Event == e <;> simp [h1,h2]
 ·intro k; simp
end
theorem Q7m {a : Qb} (h : Right a) (s e : Int) : Qgd a s e = -1 ∨ 0 ≤ Qgd a s e ∧ Qgd a s e < a.States ∧ 0 ≤ s ∧ s < a.States ∧ e ∈ a.Alphabet:=by
 unfold Qgd
 split
 ·rename_i x hx
  have hm:=List.mem_of_find?_eq_some hx
  have hp:=List.find?_some hx
  obtain ⟨k1,k2,k3,k4,k5⟩:=h.ed0 x hm
  simp at hp
  exact .inr ⟨k3,k4,by omega,by omega,hp.2 ▸ k5⟩
 ·exact .inl rfl
theorem Qba8 {a : Qb} (h : Right a) {s e : Int} : 0 ≤ Qgd a s e ↔ ∃ x ∈ outP a s,x.Event = e:=by
 unfold Qgd outP
 split
 ·rename_i x hx
  have hm:=List.mem_of_find?_eq_some hx
  have hp:=List.find?_some hx
  simp at hp
  refine ⟨fun _=>⟨x,by simp [hm,hp.1],hp.2⟩,fun _=>(h.ed0 x hm).2.2.1⟩
 ·rename_i hx
  have:=List.find?_eq_none.1 hx
  refine ⟨fun h=>by omega,?_⟩
  rintro ⟨x,h1,h2⟩
  simp at h1
  exact absurd (by simp [h1.2,h2]) (this x h1.1)
theorem Qvf {a : Qb} (h : Right a) (s : Int) : (outP a s).map (·.Event) = a.Alphabet.filter fun e=>decide (0 ≤ Qgd a s e):=by
 refine Qbdw ?_ (h.al.filter _) fun e=>?_
 ·rw [List.pairwise_map]
  have h1 : (outP a s).Pairwise Qop:=h.ed.filter _
  have h2 : ∀ x ∈ outP a s,x.From = s:=fun x hx=>by unfold outP at hx; simp at hx; exact hx.2
  exact List.Pairwise.imp_of_mem (fun {x y} hx hy hk=>by have:=h2 x hx; have:=h2 y hy; unfold Qop at hk; omega) h1
 ·simp only [List.mem_map,List.mem_filter,decide_eq_true_eq,Qba8 h]
  constructor
  ·rintro ⟨x,hx,rfl⟩
   refine ⟨?_,x,hx,rfl⟩
   unfold outP at hx; simp at hx; exact (h.ed0 x hx.1).2.2.2.2
  ·rintro ⟨_,x,hx,rfl⟩; exact ⟨x,hx,rfl⟩
theorem Q7n {a : Qb} (h : Right a) {s : Int} {x : Qe} (hx : x ∈ outP a s) : Qgd a s x.Event = x.To:=by
 unfold outP at hx
 simp at hx
 unfold Qgd
 split
 ·rename_i y hy
  have hm:=List.mem_of_find?_eq_some hy
  have hp:=List.find?_some hy
  simp at hp
  have : x = y:=by
   rcases Classical.em (x = y) with e | hne
   ·exact e
   ·exfalso
    have hk : Qop x y ∨ Qop y x:=by
     have:=List.pairwise_iff_getElem.1 h.ed
     obtain ⟨i,hi,rfl⟩:=List.getElem_of_mem hx.1
     obtain ⟨j,hj,rfl⟩:=List.getElem_of_mem hm
     rcases Nat.lt_trichotomy i j with hij | hij | hij
     ·exact .inl (this i j hi hj hij)
     ·subst hij; exact absurd rfl hne
     ·exact .inr (this j i hj hi hij)
    unfold Qop at hk; omega
  rw [this]
 ·rename_i hn
  exact absurd (by simp [hx.2]) (List.find?_eq_none.1 hn x hx.1)
end Go.Abs
end
section
namespace Go.Abs
open Go
set_option linter.unusedSimpArgs false
set_option linter.unusedVariables false
theorem Right.small {a : Qb} (h : Right a) : small a ∧ a.Alphabet.length ≤ 32 ∧ a.Marked.length ≤ 4096 ∧ a.Edges.length ≤ 131072:=by
 have h1:=Qf3 h.al h.al0
 have h2:=Qf3 h.ma h.ma0
 have h3 : (a.Edges.map fun x=>x.From * 32 + x.Event).Pairwise (· < ·):=by
  rw [List.pairwise_map]
  refine List.Pairwise.imp_of_mem (fun {x y} hx hy hk=>?_) h.ed
  have:=h.al0 _ (h.ed0 x hx).2.2.2.2
  have:=h.al0 _ (h.ed0 y hy).2.2.2.2
  unfold Qop at hk; omega
 have h4:=Qf3 (a:=0) (b:=131072) h3 (by
  intro z hz
  obtain ⟨x,hx,rfl⟩:=List.mem_map.1 hz
  have:=h.al0 _ (h.ed0 x hx).2.2.2.2
  have:=h.ed0 x hx
  have:=h.st
  omega)
 rw [List.length_map] at h4
 have:=h.st
 refine ⟨⟨?_,?_,?_⟩,?_,?_,?_⟩ <;> (try unfold big) <;> omega
theorem Qbh3 {l : List Int} {v : Int} (hl : l.length < big) : Qh7 l v = some (decide (v ∈ l)):=Qbc9 hl
end Go.Abs
end
section
namespace Go.Abs
open Go
set_option linter.unusedSimpArgs false
set_option linter.unusedVariables false
def ins (o : List Int) (t : Int) : List Int:=if t ∈ o then o else o ++ [t]
def Q52 (a : Qb) (s : Int) : List Int:=(outP a s).map (·.To)
def bfs (a : Qb) : Nat → Nat → List Int → List Int
 | 0,_,o=>o
 | fuel + 1,i,o=>match o[i]? with
  | some s=>bfs a fuel (i + 1) ((Q52 a s).foldl ins o)
  | none=>o
def Qk4 (a : Qb) : List Int:=bfs a (a.States.toNat + 1) 0 (if 0 < a.States then [0] else [])
structure Fnd (a : Qb) (o : List Int) : Prop where
 nd : o.Nodup
 rg : ∀ s ∈ o,0 ≤ s ∧ s < a.States
theorem Fnd.len {a : Qb} {o : List Int} (h : Fnd a o) : o.length ≤ a.States.toNat:=by
 have hO : Go.Sort.SWO Qez:=⟨fun x=>by simp [Qez],fun x y z h1 h2=>by simp [Qez] at *; omega,fun x y z h1 h2=>by simp [Qez] at *; omega⟩
 have hp:=Qh6 Qez o
 have hs:=Qi9 hO o
 have hn : (Qhr Qez o).Nodup:=(hp.nodup_iff).2 h.nd
 have hlt : (Qhr Qez o).Pairwise (· < ·):=by
  have : (Qhr Qez o).Pairwise fun x y=>Qez y x = false ∧ x ≠ y:=hs.and hn
  exact this.imp fun ⟨h1,h2⟩=>by simp [Qez] at h1; omega
 have:=Qf3 hlt (a:=0) (b:=a.States) fun x hx=>h.rg x (hp.mem_iff.1 hx)
 rw [Qi8] at this
 simpa using this
theorem Qbca {o : List Int} {t x : Int} : x ∈ ins o t ↔ x ∈ o ∨ x = t:=by
 unfold ins; split
 ·rename_i h; constructor
  ·exact .inl
  ·rintro (h' | rfl)
   ·exact h'
   ·exact h
 ·simp
theorem Qbiz (o : List Int) (t : Int) : o <+: ins o t:=by
 unfold ins; split
 ·exact List.prefix_refl o
 ·exact List.prefix_append o [t]
theorem Fnd.ins {a : Qb} {o : List Int} (h : Fnd a o) {t : Int} (ht : 0 ≤ t ∧ t < a.States) : Fnd a (ins o t):=by
 refine ⟨?_,fun s hs=>?_⟩
 ·unfold Go.Abs.ins; split
  ·exact h.nd
  ·rename_i hn
   rw [List.nodup_append]
   exact ⟨h.nd,by simp,fun x hx y hy=>by simp at hy; subst hy; exact fun e=>hn (e ▸ hx)⟩
 ·rcases Qbca.1 hs with hs | rfl
  ·exact h.rg s hs
  ·exact ht
theorem Q7o {a : Qb} : ∀ {ts o : List Int},Fnd a o → (∀ t ∈ ts,0 ≤ t ∧ t < a.States) → Fnd a (ts.foldl ins o) ∧ o <+: ts.foldl ins o ∧ (∀ t ∈ ts,t ∈ ts.foldl ins o) ∧ ∀ x ∈ ts.foldl ins o,x ∈ o ∨ x ∈ ts
 | [],o,h,_=>⟨h,List.prefix_refl o,by simp,fun x hx=>.inl hx⟩
 | t :: ts,o,h,ht=>by
  obtain ⟨h1,h2,h3,h4⟩:=Q7o (ts:=ts) (h.ins (ht t (by simp))) fun t ht'=>ht t (by simp [ht'])
  refine ⟨h1,(Qbiz o t).trans h2,fun x hx=>?_,fun x hx=>?_⟩
  ·rcases List.mem_cons.1 hx with rfl | hx
   ·exact h2.subset (Qbca.2 (.inr rfl))
   ·exact h3 x hx
  ·rcases h4 x hx with h5 | h5
   ·rcases Qbca.1 h5 with h6 | rfl
    ·exact .inl h6
    ·exact .inr (by simp)
   ·exact .inr (by simp [h5])
theorem Q7p {a : Qb} (h : Right a) (s : Int) : ∀ t ∈ Q52 a s,0 ≤ t ∧ t < a.States:=by
 intro t ht
 unfold Q52 outP at ht
 obtain ⟨x,hx,rfl⟩:=List.mem_map.1 ht
 have:=h.ed0 x ((List.mem_filter.1 hx).1)
 omega
theorem Qm3 {α : Type} {l m : List α} (h : l <+: m) {i : Nat} {x : α} (hx : l[i]? = some x) : m[i]? = some x:=by
 obtain ⟨t,rfl⟩:=h
 have:=(List.getElem?_eq_some_iff.1 hx).1
 rw [List.getElem?_append_left this]; exact hx
theorem Qbda {a : Qb} (h : Right a) : ∀ (fuel i : Nat) (o : List Int),Fnd a o → i ≤ o.length → a.States.toNat + 1 ≤ fuel + i → (∀ j s,j < i → o[j]? = some s → ∀ t ∈ Q52 a s,t ∈ o) →
  Fnd a (bfs a fuel i o) ∧ o <+: bfs a fuel i o ∧ ∀ s ∈ bfs a fuel i o,∀ t ∈ Q52 a s,t ∈ bfs a fuel i o
 | 0,i,o,hf,hi,hfu,_=>by have:=hf.len; omega
 | fuel + 1,i,o,hf,hi,hfu,hc=>by
  unfold bfs
  cases hg : o[i]? with
  | none =>
   dsimp only
   refine ⟨hf,List.prefix_refl o,fun s hs t ht=>?_⟩
   obtain ⟨j,hj⟩:=List.getElem?_of_mem hs
   have hlt:=(List.getElem?_eq_some_iff.1 hj).1
   exact hc j s (by have:=List.getElem?_eq_none_iff.1 hg; omega) hj t ht
  | some s =>
   dsimp only
   obtain ⟨h1,h2,h3,_⟩:=Q7o hf (Q7p h s)
   have hlen : i < o.length:=(List.getElem?_eq_some_iff.1 hg).1
   have hle:=h2.length_le
   obtain ⟨k1,k2,k3⟩:=Qbda h fuel (i + 1) ((Q52 a s).foldl ins o) h1 (by omega) (by omega) (fun j s' hj hs' t ht=>by
    by_cases hji : j < i
    ·have hjl : j < o.length:=by omega
     have : o[j]? = some s':=by
      have:=Qm3 h2 (List.getElem?_eq_getElem hjl)
      rw [hs'] at this; rw [List.getElem?_eq_getElem hjl]; exact this.symm
     exact h2.subset (hc j s' hji this t ht)
    ·obtain rfl : j = i:=by omega
     have:=Qm3 h2 hg
     rw [hs'] at this; cases this
     exact h3 t ht)
   exact ⟨k1,h2.trans k2,k3⟩
theorem Q82 {a : Qb} (h : Right a) : Fnd a (Qk4 a) ∧ (if 0 < a.States then [0] else []) <+: Qk4 a ∧ ∀ s ∈ Qk4 a,∀ t ∈ Q52 a s,t ∈ Qk4 a :=
 Qbda h _ 0 _ ⟨by split <;> simp,fun s hs=>by split at hs <;> simp at hs; subst hs; omega⟩ (Nat.zero_le _) (by omega) fun j s hj=>by omega
def Q2l (m : List Int) : Nat → List Int → List Int
 | _,[]=>[]
 | i,s :: t=>(if s ∈ m then [(i : Int)] else []) ++ Q2l m (i + 1) t
def rowP (a : Qb) (F : List Int) (i : Nat) (s : Int) : List Qe:=(outP a s).map fun x=>⟨(i : Int),x.Event,(F.idxOf x.To : Int)⟩
def Q2m (a : Qb) (F : List Int) : Nat → List Int → List Qe
 | _,[]=>[]
 | i,s :: t=>rowP a F i s ++ Q2m a F (i + 1) t
def Q4q (a : Qb) : Qb:=⟨a.Alphabet,((Qk4 a).length : Int),Q2l a.Marked 0 (Qk4 a),Q2m a (Qk4 a) 0 (Qk4 a)⟩
theorem Q0g {m : List Int} : ∀ {l : List Int} {i : Nat},∀ x ∈ Q2l m i l,(i : Int) ≤ x ∧ x < (i + l.length : Nat)
 | [],i,x,hx=>by simp [Q2l] at hx
 | s :: t,i,x,hx=>by
  simp only [Q2l,List.mem_append] at hx
  rcases hx with hx | hx
  ·split at hx <;> simp at hx
   subst hx; simp only [List.length_cons]; omega
  ·have:=Q0g x hx; simp only [List.length_cons]; omega
theorem Q4r {m : List Int} : ∀ {l : List Int} {i : Nat},(Q2l m i l).Pairwise (· < ·)
 | [],i=>.nil
 | s :: t,i=>by
  simp only [Q2l]
  rw [List.pairwise_append]
  refine ⟨by split <;> simp,Q4r,fun x hx y hy=>?_⟩
  have:=Q0g y hy
  split at hx <;> simp at hx
  omega
theorem Q3t {a : Qb} {F : List Int} : ∀ {l : List Int} {i : Nat},∀ x ∈ Q2m a F i l,(i : Int) ≤ x.From ∧ x.From < (i + l.length : Nat) ∧ ∃ s ∈ l,∃ y ∈ outP a s,x.Event = y.Event ∧ x.To = (F.idxOf y.To : Int)
 | [],i,x,hx=>by simp [Q2m] at hx
 | s :: t,i,x,hx=>by
  simp only [Q2m,List.mem_append] at hx
  rcases hx with hx | hx
  ·obtain ⟨y,hy,rfl⟩:=List.mem_map.1 hx
   simp only [List.length_cons]
   exact ⟨by omega,by omega,s,by simp,y,hy,rfl,rfl⟩
  ·obtain ⟨h1,h2,s',h3,h4⟩:=Q3t x hx
   simp only [List.length_cons]
   exact ⟨by omega,by omega,s',by simp [h3],h4⟩
theorem Q4s {a : Qb} (h : Right a) {F : List Int} : ∀ {l : List Int} {i : Nat},(Q2m a F i l).Pairwise Qop
 | [],i=>.nil
 | s :: t,i=>by
  simp only [Q2m]
  rw [List.pairwise_append]
  refine ⟨?_,Q4s h,fun x hx y hy=>?_⟩
  ·unfold rowP
   rw [List.pairwise_map]
   have h1 : (outP a s).Pairwise Qop:=h.ed.filter _
   have h2 : ∀ x ∈ outP a s,x.From = s:=fun x hx=>by unfold outP at hx; simp at hx; exact hx.2
   exact List.Pairwise.imp_of_mem (fun {x y} hx hy hk=>by have:=h2 x hx; have:=h2 y hy; unfold Qop at hk; exact .inr ⟨rfl,by show x.Event < y.Event; omega⟩) h1
  ·obtain ⟨z,_,rfl⟩:=List.mem_map.1 hx
   have:=(Q3t y hy).1
   unfold Qop; simp only; omega
theorem Qba9 {a : Qb} (h : Right a) : Right (Q4q a):=by
 obtain ⟨h1,h2,h3⟩:=Q82 h
 have hl:=h1.len
 have hst:=h.st
 refine ⟨h.al0,h.al,⟨by simp only [Q4q]; omega,by simp only [Q4q]; omega⟩,fun x hx=>?_,Q4r,fun x hx=>?_,Q4s h⟩
 ·have:=Q0g x hx; simp only [Q4q]; omega
 ·obtain ⟨k1,k2,s,hs,y,hy,k3,k4⟩:=Q3t x hx
  have hy' : y.To ∈ Qk4 a:=h3 s hs y.To (List.mem_map.2 ⟨y,hy,rfl⟩)
  have:=List.idxOf_lt_length_iff.2 hy'
  simp only [Q4q]
  refine ⟨by omega,by omega,by omega,by omega,?_⟩
  rw [k3]
  unfold outP at hy
  exact (h.ed0 y ((List.mem_filter.1 hy).1)).2.2.2.2
end Go.Abs
end
section
namespace Go.Abs
open Go
set_option linter.unusedSimpArgs false
set_option linter.unusedVariables false
theorem Qbdb {l : List Int} (hl : l.length ≤ lim) : Qdv l = some ⟨l,0,[],[]⟩:=by
 unfold Qdv Q0
 rw [Qdj (by simpa using hl)]; rfl
theorem Qbcb {l : List Int} {v : Int} (hl : l.length < big) : Qdw l v = some (if v ∈ l then (l.idxOf v : Int) else -1):=by
 have hb : l.length < 1000000000000:=hl
 unfold Qdw Qb0
 refine (Qoo (len:=l.length) (fun k=>some (if v ∈ l.drop k then ((k + (l.drop k).idxOf v : Nat) : Int) else -1)) (by unfold Qbs; omega) ?_ ?_).trans (by simp)
 ·intro k i hi ih
  rw [if_pos (by omega),Qcw hi,Qb2 (by omega),ih,List.drop_eq_getElem_cons hi]
  simp only [Option.bind_some,List.mem_cons,List.idxOf_cons]
  by_cases h : v = l[i]
  ·simp [← h]
  ·have h' : ¬ l[i] = v:=fun e=>h e.symm
   have hbq : (l[i] == v) = false:=by simp [h']
   by_cases h2 : v ∈ l.drop (i + 1) <;> simp [h,h2,hbq]
   omega
 ·intro k; simp
theorem Q5v {a : Qb} (h : Right a) (s : Int) : Q52 a s = (a.Alphabet.filter fun e=>decide (0 ≤ Qgd a s e)).map (Qgd a s):=by
 rw [← Qvf h,List.map_map]
 unfold Q52
 exact List.map_congr_left fun x hx=>(Q7n h hx).symm
theorem Q83 {a : Qb} (s : Int) : ∀ (al o : List Int),al.foldl (fun o e=>if 0 ≤ Qgd a s e then ins o (Qgd a s e) else o) o = ((al.filter fun e=>decide (0 ≤ Qgd a s e)).map (Qgd a s)).foldl ins o
 | [],o=>rfl
 | e :: al,o=>by
  by_cases hx : 0 ≤ Qgd a s e <;> simp [List.filter_cons,hx,Q83 s al]
theorem Qbhg {a : Qb} {fuel i : Nat} {o : List Int} (hi : i < o.length) : bfs a (fuel + 1) i o = bfs a fuel (i + 1) ((Q52 a o[i]).foldl ins o):=by
 conv=>lhs; unfold bfs
 rw [List.getElem?_eq_getElem hi]
theorem Qbi0 {a : Qb} {fuel : Nat} {o : List Int} : bfs a fuel o.length o = o:=by
 cases fuel with
 | zero=>rfl
 | succ n=>unfold bfs; simp
section
variable {a : Qb} (h : Right a)
include h
theorem Qbdx (fuel : Nat) (hfu : 1099511627776 ≤ fuel) {s : Int} {o : List Int} {i : Nat} (hf : Fnd a o) (hi : o[i]? = some s) :
  Qcp (fun k12 ((out10,k11) : (List Int) × Int)=>(if (k11 < (a.Alphabet.length : Int)) then ((((getO out10 (i : Int)).bind fun x14=>((getO a.Alphabet k11).bind fun x16=>((Qbv a x14 x16).bind fun x19=>(((if (x19 ≥ 0) then ((Qct out10 x19).bind fun x22=>some (!x22)) else some false)).bind fun (x23 : Bool)=>(if x23 then ((appO out10 [x19]).bind fun x25=>some x25) else some out10)))))).bind fun (out27 : List Int)=>k12 (out27,(IntKind.wrap .i64 (k11 + 1)))) else some out10)) fuel (o,0) = some ((Q52 a s).foldl ins o):=by
 have hs:=h.small.1
 have hst:=h.st
 have hb : a.Alphabet.length < 1000000000000:=hs.1
 rw [Q5v h,← Q83]
 refine (Qk3 (len:=a.Alphabet.length) (fun n (acc : List Int)=>(acc,(n : Int))) (fun n acc=>Fnd a acc ∧ acc[i]? = some s) (fun n acc=>some ((a.Alphabet.drop n).foldl (fun o e=>if 0 ≤ Qgd a s e then ins o (Qgd a s e) else o) acc)) ?_ ?_ fuel 0 o (Nat.zero_le _) (by omega) ⟨hf,hi⟩).trans (by simp)
 ·intro k n acc hn ⟨k1,k2⟩ ih
  have hlen:=k1.len
  have hg : getO acc (i : Int) = some s:=by rw [Qon]; exact ⟨by omega,by simpa using k2⟩
  dsimp only
  rw [if_pos (by omega),hg,Qcw hn]
  simp only [Option.bind_some]
  rw [Q5j hs,Qb2 (by omega)]
  simp only [Option.bind_some]
  rw [Qbc9 (by unfold big; omega),List.drop_eq_getElem_cons hn,List.foldl_cons]
  rcases Q7m h s a.Alphabet[n] with hr | hr
  ·rw [hr]; simp only [show ¬ ((-1 : Int) ≥ 0) from by omega,show ¬ ((0 : Int) ≤ -1) from by omega,if_false,Option.bind_some,Bool.false_eq_true]
   exact ih _ ⟨k1,k2⟩
  ·have hge : Qgd a s a.Alphabet[n] ≥ 0:=hr.1
   by_cases hm : Qgd a s a.Alphabet[n] ∈ acc
   ·simp only [hge,hm,decide_true,Bool.not_true,if_true,Option.bind_some,Bool.false_eq_true,if_false,hr.1,ins]
    exact ih _ ⟨k1,k2⟩
   ·simp only [hge,hm,decide_false,Bool.not_false,if_true,Option.bind_some,hr.1,ins,if_false]
    rw [Qdj (by simp only [List.length_cons,List.length_nil]; unfold lim; omega)]
    simp only [Option.bind_some]
    have hi':=k1.ins (t:=Qgd a s a.Alphabet[n]) ⟨hr.1,hr.2.1⟩
    unfold ins at hi'
    rw [if_neg hm] at hi'
    exact ih _ ⟨hi',Qm3 (List.prefix_append acc _) k2⟩
 ·intro k acc _
  dsimp only
  rw [if_neg (by omega)]; simp
theorem Qbcc : Qe0 a = some (Qk4 a):=by
 have hs:=h.small.1
 have hst:=h.st
 unfold Qe0 Qbz
 obtain ⟨fuel,hfu,hge⟩ : ∃ f,Qbs = f ∧ 1099511627776 ≤ f:=⟨_,rfl,Nat.le_refl _⟩
 rw [hfu]
 have hloop : ∀ o : List Int,Fnd a o → Qcp (fun (k8 : List Int × Int → Option (List Int)) ((out6,i7) : (List Int) × Int)=>(if (i7 < (out6.length : Int)) then ((Qcp (fun k12 ((out10,k11) : (List Int) × Int)=>(if (k11 < (a.Alphabet.length : Int)) then ((((getO out10 i7).bind fun x14=>((getO a.Alphabet k11).bind fun x16=>((Qbv a x14 x16).bind fun x19=>(((if (x19 ≥ 0) then ((Qct out10 x19).bind fun x22=>some (!x22)) else some false)).bind fun (x23 : Bool)=>(if x23 then ((appO out10 [x19]).bind fun x25=>some x25) else some out10)))))).bind fun (out27 : List Int)=>k12 (out27,(IntKind.wrap .i64 (k11 + 1)))) else some out10)) fuel (out6,0)).bind fun (out28 : List Int)=>k8 (out28,(IntKind.wrap .i64 (i7 + 1)))) else some out6)) fuel (o,0) = some (bfs a (a.States.toNat + 1) 0 o):=by
  intro o ho
  have:=Qm2 (F:=fun (k8 : List Int × Int → Option (List Int)) ((out6,i7) : (List Int) × Int)=>(if (i7 < (out6.length : Int)) then ((Qcp (fun k12 ((out10,k11) : (List Int) × Int)=>(if (k11 < (a.Alphabet.length : Int)) then ((((getO out10 i7).bind fun x14=>((getO a.Alphabet k11).bind fun x16=>((Qbv a x14 x16).bind fun x19=>(((if (x19 ≥ 0) then ((Qct out10 x19).bind fun x22=>some (!x22)) else some false)).bind fun (x23 : Bool)=>(if x23 then ((appO out10 [x19]).bind fun x25=>some x25) else some out10)))))).bind fun (out27 : List Int)=>k12 (out27,(IntKind.wrap .i64 (k11 + 1)))) else some out10)) fuel (out6,0)).bind fun (out28 : List Int)=>k8 (out28,(IntKind.wrap .i64 (i7 + 1)))) else some out6))
   (fun x=>∃ i : Nat,x.2 = (i : Int) ∧ i ≤ x.1.length ∧ Fnd a x.1) (fun x=>a.States.toNat + 1 - x.2.toNat) (fun x r=>r = some (bfs a (a.States.toNat + 1 - x.2.toNat) x.2.toNat x.1)) (by
    rintro k ⟨o,i⟩ ⟨i,rfl,hi,hf⟩ ih
    replace hi : i ≤ o.length:=hi
    replace hf : Fnd a o:=hf
    have hl:=hf.len
    dsimp only
    by_cases hlt : i < o.length
    ·rw [if_pos (by omega),Qbdx h fuel hge hf (List.getElem?_eq_getElem hlt),Option.bind_some,Qb2 (by omega)]
     obtain ⟨q1,q2,_,_⟩:=Q7o hf (Q7p h o[i])
     have hle:=q2.length_le
     rw [ih _ ⟨i + 1,rfl,by simp only; omega,q1⟩ (by simp only; omega)]
     simp only [Int.toNat_natCast]
     rw [show a.States.toNat + 1 - i = (a.States.toNat + 1 - (i + 1)) + 1 from by omega,Qbhg hlt]
    ·rw [if_neg (by omega)]
     obtain rfl : i = o.length:=by omega
     simp only [Int.toNat_natCast,Qbi0]) fuel (o,0) ⟨0,rfl,Nat.zero_le _,ho⟩ (by simp only; omega)
  simpa using this
 by_cases h0 : 0 < a.States
 ·rw [if_pos (by omega),Qdj (by simp only [List.length_cons,List.length_nil]; unfold lim; omega)]
  simp only [Option.bind_some]
  rw [show ([] ++ [0] : List Int) = [0] from rfl,hloop [0] ⟨by simp,fun s hs=>by simp at hs; subst hs; omega⟩]
  simp only [Option.bind_some,Qk4,if_pos h0]
 ·rw [if_neg (by omega)]
  simp only [Option.bind_some]
  rw [hloop [] ⟨by simp,fun s hs=>by simp at hs⟩]
  simp only [Option.bind_some,Qk4,if_neg h0]
theorem Q84 (fuel : Nat) (hfu : 1099511627776 ≤ fuel) {F : List Int} (hF : Fnd a F) (hcl : ∀ s ∈ F,∀ t ∈ Q52 a s,t ∈ F) {s : Int} {i : Nat} (hi : F[i]? = some s) (ms : List Int) (es : List Qe) (hes : es.length ≤ 200000) :
  Qcp (fun (k24 : Int × List Qe → Option (List Int × List Qe)) ((k22,out23) : Int × (List Qe))=>(if (k22 < (a.Alphabet.length : Int)) then ((((getO F (i : Int)).bind fun x26=>((getO a.Alphabet k22).bind fun x28=>((Qbv a x26 x28).bind fun x31=>(if (x31 ≥ 0) then ((getO a.Alphabet k22).bind fun x33=>((Qdw F x31).bind fun x36=>((appO out23 [(Qe.mk (i : Int) x33 x36)]).bind fun x37=>some x37))) else some out23))))).bind fun (out39 : List Qe)=>k24 ((IntKind.wrap .i64 (k22 + 1)),out39)) else some (ms,out23))) fuel (0,es) = some (ms,es ++ rowP a F i s):=by
 have hs:=h.small.1
 have hst:=h.st
 have hal:=h.small.2.1
 have hb : a.Alphabet.length < 1000000000000:=hs.1
 have hFl:=hF.len
 have hrow : rowP a F i s = (a.Alphabet.filter fun e=>decide (0 ≤ Qgd a s e)).map fun e=>⟨(i : Int),e,(F.idxOf (Qgd a s e) : Int)⟩:=by
  rw [← Qvf h,List.map_map]
  unfold rowP
  exact List.map_congr_left fun x hx=>by simp only [Function.comp]; rw [Q7n h hx]
 rw [hrow]
 refine (Qk3 (len:=a.Alphabet.length) (fun n (acc : List Qe)=>((n : Int),acc)) (fun n acc=>acc.length ≤ 200000 + n) (fun n acc=>some (ms,acc ++ ((a.Alphabet.drop n).filter fun e=>decide (0 ≤ Qgd a s e)).map fun e=>⟨(i : Int),e,(F.idxOf (Qgd a s e) : Int)⟩)) ?_ ?_ fuel 0 es (Nat.zero_le _) (by omega) (by omega)).trans (by simp)
 ·intro k n acc hn k1 ih
  have hg : getO F (i : Int) = some s:=by rw [Qon]; exact ⟨by omega,by simpa using hi⟩
  dsimp only
  rw [if_pos (by omega),hg,Qcw hn]
  simp only [Option.bind_some]
  rw [Q5j hs,Qb2 (by omega)]
  simp only [Option.bind_some]
  rw [List.drop_eq_getElem_cons hn,List.filter_cons]
  by_cases hr : 0 ≤ Qgd a s a.Alphabet[n]
  ·have hm : Qgd a s a.Alphabet[n] ∈ F:=hcl s (List.mem_of_getElem? hi) _ (by rw [Q5v h]; exact List.mem_map.2 ⟨_,List.mem_filter.2 ⟨List.getElem_mem hn,by simpa using hr⟩,rfl⟩)
   rw [if_pos hr,Qbcb (by unfold big; omega),if_pos hm]
   simp only [Option.bind_some]
   rw [Qdj (by simp only [List.length_cons,List.length_nil]; unfold lim; omega)]
   simp only [Option.bind_some]
   rw [ih _ (by simp only [List.length_append,List.length_cons,List.length_nil]; omega)]
   simp only [hr,decide_true,if_true,List.map_cons,List.append_assoc,List.cons_append,List.nil_append]
  ·rw [if_neg (by omega)]
   simp only [Option.bind_some]
   rw [ih _ (by omega)]
   simp only [hr,decide_false,Bool.false_eq_true,if_false]
 ·intro k acc _
  dsimp only
  rw [if_neg (by omega)]; simp
theorem Qbhh {F : List Int} {i : Nat} {s : Int} : (rowP a F i s).length ≤ 32:=by
 have:=h.small.2.1
 have h1 : (rowP a F i s).length = ((outP a s).map (·.Event)).length:=by simp [rowP]
 rw [h1,Qvf h]
 exact Nat.le_trans (List.length_filter_le _ _) this
theorem Q7q : Qdo a = some (Q4q a):=by
 have hs:=h.small.1
 have hst:=h.st
 have hal:=h.small.2.1
 have hb : a.Alphabet.length < 1000000000000:=hs.1
 obtain ⟨hF,_,hcl⟩:=Q82 h
 have hFl:=hF.len
 unfold Qdo Qbf
 obtain ⟨fuel,hfu,hge⟩ : ∃ f,Qbs = f ∧ 1099511627776 ≤ f:=⟨_,rfl,Nat.le_refl _⟩
 rw [hfu,Qbcc h,Option.bind_some,Qbdb (by unfold lim; omega),Option.bind_some]
 unfold Q4q
 generalize Qk4 a = F at hF hcl hFl
 show Option.bind (Qcp _ fuel (((0 : Nat) : Int),[],[],[],[],[])) _ = _
 rw [Qk3 (len:=F.length) (R:=List Int × List Int × List Qe × List Int × List Qe) (fun n (acc : List Int × List Qe)=>((n : Int),([] : List Int),([] : List Int),([] : List Qe),acc.1,acc.2)) (fun n acc=>acc.1.length ≤ n ∧ acc.2.length ≤ 32 * n)
  (fun n acc=>some (([] : List Int),([] : List Int),([] : List Qe),acc.1 ++ Q2l a.Marked n (F.drop n),acc.2 ++ Q2m a F n (F.drop n))) ?_ ?_ fuel 0 ([],[]) (Nat.zero_le _) (by omega) ⟨Nat.zero_le _,Nat.zero_le _⟩]
 ·simp
 ·rintro k n ⟨ms,es⟩ hn ⟨k1,k2⟩ ih
  replace k1 : ms.length ≤ n:=k1
  replace k2 : es.length ≤ 32 * n:=k2
  have hg:=List.getElem?_eq_getElem hn
  dsimp only
  rw [if_pos (by omega),Qcw hn]
  simp only [Option.bind_some]
  rw [Qbc9 hs.2.1]
  simp only [Option.bind_some]
  have hrl:=Qbhh h (F:=F) (i:=n) (s:=F[n])
  rw [List.drop_eq_getElem_cons hn]
  simp only [Q2l,Q2m]
  by_cases hm : F[n] ∈ a.Marked
  ·simp only [hm,decide_true,if_true]
   rw [Qdj (by simp only [List.length_cons,List.length_nil]; unfold lim; omega)]
   simp only [Option.bind_some]
   have:=Q84 h fuel hge hF hcl hg (ms ++ [(n : Int)]) es (by omega)
   rw [Qcw hn] at this
   simp only [Option.bind_some] at this
   rw [this]
   simp only [Option.bind_some]
   rw [Qb2 (by omega),ih (ms ++ [(n : Int)],es ++ rowP a F n F[n]) ⟨by simp only [List.length_append,List.length_cons,List.length_nil]; omega,by simp only [List.length_append]; omega⟩]
   simp only [List.append_assoc]
  ·simp only [hm,decide_false,Bool.false_eq_true,if_false,Option.bind_some]
   have:=Q84 h fuel hge hF hcl hg ms es (by omega)
   rw [Qcw hn] at this
   simp only [Option.bind_some] at this
   rw [this]
   simp only [Option.bind_some]
   rw [Qb2 (by omega),ih (ms,es ++ rowP a F n F[n]) ⟨by simp only; omega,by simp only [List.length_append]; omega⟩]
   simp only [List.append_assoc,List.nil_append]
 ·rintro k ⟨ms,es⟩ _
  dsimp only
  rw [if_neg (by omega)]
  simp [Q2l,Q2m]
end
end Go.Abs
end
section
namespace Go.Abs
open Go
set_option linter.unusedSimpArgs false
set_option linter.unusedVariables false
structure Evs (l : List Int) : Prop where
 rg : ∀ x ∈ l,0 ≤ x ∧ x < 5
 so : l.Pairwise (· < ·)
theorem Evs.len {l : List Int} (h : Evs l) : l.length ≤ 5:=by have:=Qf3 h.so h.rg; simpa using this
def Qbhi : List Int → Bool
 | []=>true
 | x :: xs=>xs.all (fun y=>decide (x < y)) && Qbhi xs
theorem Qbba : ∀ {l : List Int},Qbhi l = true → l.Pairwise (· < ·)
 | [],_=>.nil
 | x :: xs,h=>by
  simp only [Qbhi,Bool.and_eq_true,List.all_eq_true,decide_eq_true_eq] at h
  exact List.pairwise_cons.2 ⟨h.1,Qbba h.2⟩
def evB (s : Nat) : Bool:=match Qdh (s : Int) with
 | some l=>Qbhi l && l.all fun x=>decide (0 ≤ x) && decide (x < 5)
 | none=>false
theorem Qbi1 : (List.range 256).all evB = true:=by kernel_rfl
theorem Qbbb {s : Int} (h0 : 0 ≤ s) (h1 : s < 256) : ∃ l,Qdh s = some l ∧ Evs l:=by
 have:=List.all_eq_true.1 Qbi1 s.toNat (List.mem_range.2 (by omega))
 unfold evB at this
 rw [show ((s.toNat : Nat) : Int) = s from by omega] at this
 split at this
 ·rename_i l hl
  simp only [Bool.and_eq_true,List.all_eq_true,decide_eq_true_eq] at this
  exact ⟨l,hl,fun x hx=>this.2 x hx,Qbba this.1⟩
 ·cases this
structure Mks (n : Nat) (ms : List Int) : Prop where
 rg : ∀ x ∈ ms,0 ≤ x ∧ x < n
 so : ms.Pairwise (· < ·)
structure Eds (al : List Int) (N : Int) (i k : Nat) (es : List Qe) : Prop where
 rg : ∀ x ∈ es,0 ≤ x.From ∧ 0 ≤ x.To ∧ x.To < N ∧ x.Event ∈ al ∧ (x.From < i ∨ x.From = i ∧ ∃ j : Nat,j < k ∧ al[j]? = some x.Event)
 so : es.Pairwise Qop
 ln : es.length ≤ 5 * i + k
theorem Mks.up {n : Nat} {ms : List Int} (h : Mks n ms) : Mks (n + 1) ms:=⟨fun x hx=>by have:=h.rg x hx; omega,h.so⟩
theorem Mks.add {n : Nat} {ms : List Int} (h : Mks n ms) : Mks (n + 1) (ms ++ [(n : Int)]):=by
 refine ⟨fun x hx=>?_,?_⟩
 ·rcases List.mem_append.1 hx with hx | hx
  ·have:=h.rg x hx; omega
  ·simp at hx; omega
 ·rw [List.pairwise_append]
  exact ⟨h.so,by simp,fun x hx y hy=>by simp at hy; have:=h.rg x hx; omega⟩
theorem Mks.len {n : Nat} {ms : List Int} (h : Mks n ms) : ms.length ≤ n:=by have:=Qf3 h.so h.rg; simpa using this
section
variable {al : List Int} (hal : Evs al) {N : Int} {i k : Nat} {es : List Qe}
theorem Eds.up (h : Eds al N i k es) : Eds al N i (k + 1) es:=⟨fun x hx=>by
 obtain ⟨h1,h2,h3,h4,h5⟩:=h.rg x hx
 refine ⟨h1,h2,h3,h4,?_⟩
 rcases h5 with h5 | ⟨h5,j,h6,h7⟩
 ·exact .inl h5
 ·exact .inr ⟨h5,j,by omega,h7⟩,h.so,by have:=h.ln; omega⟩
theorem Eds.next (h : Eds al N i k es) (hk : k ≤ 5) : Eds al N (i + 1) 0 es:=⟨fun x hx=>by
 obtain ⟨h1,h2,h3,h4,h5⟩:=h.rg x hx
 exact ⟨h1,h2,h3,h4,.inl (by rcases h5 with h5 | ⟨h5,_⟩ <;> omega)⟩,h.so,by have:=h.ln; omega⟩
include hal in
theorem Eds.add (h : Eds al N i k es) (hk : k < al.length) {t : Int} (ht : 0 ≤ t ∧ t < N) : Eds al N i (k + 1) (es ++ [⟨(i : Int),al[k],t⟩]):=by
 refine ⟨fun x hx=>?_,?_,by have:=h.ln; simp only [List.length_append,List.length_cons,List.length_nil]; omega⟩
 ·rcases List.mem_append.1 hx with hx | hx
  ·exact h.up.rg x hx
  ·simp at hx; subst hx
   exact ⟨by simp only; omega,ht.1,ht.2,List.getElem_mem hk,.inr ⟨rfl,k,by omega,List.getElem?_eq_getElem hk⟩⟩
 ·rw [List.pairwise_append]
  refine ⟨h.so,by simp,fun x hx y hy=>?_⟩
  simp at hy; subst hy
  obtain ⟨_,_,_,_,h5⟩:=h.rg x hx
  rcases h5 with h5 | ⟨h5,j,h6,h7⟩
  ·exact .inl h5
  ·refine .inr ⟨h5,?_⟩
   obtain ⟨h8,h9⟩:=List.getElem?_eq_some_iff.1 h7
   rw [← h9]
   exact List.pairwise_iff_getElem.1 hal.so j k h8 hk h6
end
structure Qbga (g : Q1) : Prop where
 st : 0 ≤ g.States ∧ g.States < 256
 to : ∀ x ∈ [g.To.1.1,g.To.1.2.1,g.To.1.2.2.1,g.To.1.2.2.2.1,g.To.1.2.2.2.2,g.To.2.1.1,g.To.2.1.2.1,g.To.2.1.2.2.1,g.To.2.1.2.2.2.1,g.To.2.1.2.2.2.2,g.To.2.2.1.1,g.To.2.2.1.2.1,g.To.2.2.1.2.2.1,g.To.2.2.1.2.2.2.1,g.To.2.2.1.2.2.2.2,g.To.2.2.2.1.1,g.To.2.2.2.1.2.1,g.To.2.2.2.1.2.2.1,g.To.2.2.2.1.2.2.2.1,g.To.2.2.2.1.2.2.2.2,g.To.2.2.2.2.1,g.To.2.2.2.2.2.1,g.To.2.2.2.2.2.2.1,g.To.2.2.2.2.2.2.2.1,g.To.2.2.2.2.2.2.2.2],0 ≤ x ∧ x < 256
theorem Qbdc {al : List Int} (hal : Evs al) (fuel : Nat) (hfu : 1099511627776 ≤ fuel) {L : List Int} (hL : L.length = 25) (hL2 : ∀ x ∈ L,0 ≤ x ∧ x < 256) {N : Int} (hN : 1 ≤ N ∧ N ≤ 5) {i : Nat} (hi : (i : Int) < N) {ms : List Int} {es : List Qe} (hes : Eds al N i 0 es) :
  ∃ es',Eds al N (i + 1) 0 es' ∧ Qcp (fun (k25 : Int × List Qe → Option (List Int × List Qe)) ((k23,a24) : Int × (List Qe))=>(((if (k23 < (al.length : Int)) then some (decide (k23 < 5)) else some false)).bind fun (x27 : Bool)=>(if x27 then ((((inO 5 (i : Int)).bind fun _=>((inO 5 k23).bind fun _=>((rowO L (Int.toNat (i : Int) * 5 + Int.toNat k23 * 1)).bind fun x31=>((remO .i64 (IntKind.wrap .i64 x31) (IntKind.wrap .i64 (N + 2))).bind fun s33=>(if (s33 < N) then ((getO al k23).bind fun x36=>((appO a24 [(Qe.mk (i : Int) x36 s33)]).bind fun x38=>some x38)) else some a24)))))).bind fun (a40 : List Qe)=>k25 ((IntKind.wrap .i64 (k23 + 1)),a40)) else some (ms,a24)))) fuel (0,es) = some (ms,es'):=by
 have hl:=hal.len
 have:=Qm2 (F:=fun (k25 : Int × List Qe → Option (List Int × List Qe)) ((k23,a24) : Int × (List Qe))=>(((if (k23 < (al.length : Int)) then some (decide (k23 < 5)) else some false)).bind fun (x27 : Bool)=>(if x27 then ((((inO 5 (i : Int)).bind fun _=>((inO 5 k23).bind fun _=>((rowO L (Int.toNat (i : Int) * 5 + Int.toNat k23 * 1)).bind fun x31=>((remO .i64 (IntKind.wrap .i64 x31) (IntKind.wrap .i64 (N + 2))).bind fun s33=>(if (s33 < N) then ((getO al k23).bind fun x36=>((appO a24 [(Qe.mk (i : Int) x36 s33)]).bind fun x38=>some x38)) else some a24)))))).bind fun (a40 : List Qe)=>k25 ((IntKind.wrap .i64 (k23 + 1)),a40)) else some (ms,a24))))
  (fun x=>∃ k : Nat,x.1 = (k : Int) ∧ k ≤ al.length ∧ Eds al N i k x.2) (fun x=>al.length - x.1.toNat) (fun _ r=>∃ es',r = some (ms,es') ∧ Eds al N (i + 1) 0 es') (by
   rintro kk ⟨k,es⟩ ⟨k,rfl,hk,he⟩ ih
   replace he : Eds al N i k es:=he
   replace hk : k ≤ al.length:=hk
   dsimp only
   by_cases hlt : k < al.length
   ·rw [if_pos (by omega)]
    simp only [Option.bind_some,show decide ((k : Int) < 5) = true from by simp; omega,if_true]
    rw [show inO 5 (i : Int) = some () from by unfold inO; rw [if_pos (by omega)],show inO 5 (k : Int) = some () from by unfold inO; rw [if_pos (by omega)]]
    simp only [Option.bind_some,Int.toNat_natCast]
    have hidx : i * 5 + k * 1 < L.length:=by omega
    have hx:=hL2 _ (List.getElem_mem hidx)
    rw [show rowO L (i * 5 + k * 1) = some L[i * 5 + k * 1] from by unfold rowO; exact List.getElem?_eq_getElem hidx]
    simp only [Option.bind_some]
    rw [Q0f (x:=L[i * 5 + k * 1]) (by omega) (by omega),Q0f (x:=N + 2) (by omega) (by omega),show remO .i64 L[i * 5 + k * 1] (N + 2) = some (L[i * 5 + k * 1].tmod (N + 2)) from by unfold remO; rw [if_neg (by omega)]]
    simp only [Option.bind_some]
    have hmod : 0 ≤ L[i * 5 + k * 1].tmod (N + 2):=Int.tmod_nonneg _ hx.1
    have hln:=he.ln
    by_cases hm : L[i * 5 + k * 1].tmod (N + 2) < N
    ·rw [if_pos hm,Qcw hlt]
     simp only [Option.bind_some]
     rw [Qdj (by simp only [List.length_cons,List.length_nil]; unfold lim; omega)]
     simp only [Option.bind_some]
     rw [Qb2 (by omega)]
     exact ih _ ⟨k + 1,rfl,hlt,he.add hal hlt ⟨hmod,hm⟩⟩ (by simp only; omega)
    ·rw [if_neg hm]
     simp only [Option.bind_some]
     rw [Qb2 (by omega)]
     exact ih _ ⟨k + 1,rfl,hlt,he.up⟩ (by simp only; omega)
   ·rw [if_neg (by omega)]
    exact ⟨es,rfl,he.next (by omega)⟩) fuel (0,es) ⟨0,rfl,Nat.zero_le _,hes⟩ (by simp only; omega)
 obtain ⟨es',h1,h2⟩:=this
 exact ⟨es',h2,h1⟩
theorem Qbcd {al : List Int} (hal : Evs al) : Right ⟨al,0,[],[]⟩ :=
 ⟨fun x hx=>by have:=hal.rg x hx; omega,hal.so,⟨by simp,by simp⟩,by simp,.nil,by simp,.nil⟩
theorem Qbi2 {al : List Int} (hal : Evs al) {g : Q1} (hg : Qbga g) : ∃ m,Right m ∧ m.Alphabet = al ∧ Qff al g = some (Q4q m) ∧ m.States ≤ 5:=by
 have hl:=hal.len
 obtain ⟨hst,hto⟩:=hg
 unfold Qff Qb3
 obtain ⟨fuel,hfu,hge⟩ : ∃ f,Qbs = f ∧ 1099511627776 ≤ f:=⟨_,rfl,Nat.le_refl _⟩
 rw [hfu,Qbdb (by unfold lim; omega)]
 simp only [Option.bind_some]
 by_cases h250 : g.States ≥ 250
 ·rw [if_pos h250]
  exact ⟨⟨al,0,[],[]⟩,Qbcd hal,rfl,rfl,by simp⟩
 rw [if_neg h250]
 have hL : [g.To.1.1,g.To.1.2.1,g.To.1.2.2.1,g.To.1.2.2.2.1,g.To.1.2.2.2.2,g.To.2.1.1,g.To.2.1.2.1,g.To.2.1.2.2.1,g.To.2.1.2.2.2.1,g.To.2.1.2.2.2.2,g.To.2.2.1.1,g.To.2.2.1.2.1,g.To.2.2.1.2.2.1,g.To.2.2.1.2.2.2.1,g.To.2.2.1.2.2.2.2,g.To.2.2.2.1.1,g.To.2.2.2.1.2.1,g.To.2.2.2.1.2.2.1,g.To.2.2.2.1.2.2.2.1,g.To.2.2.2.1.2.2.2.2,g.To.2.2.2.2.1,g.To.2.2.2.2.2.1,g.To.2.2.2.2.2.2.1,g.To.2.2.2.2.2.2.2.1,g.To.2.2.2.2.2.2.2.2].length = 25:=rfl
 generalize [g.To.1.1,g.To.1.2.1,g.To.1.2.2.1,g.To.1.2.2.2.1,g.To.1.2.2.2.2,g.To.2.1.1,g.To.2.1.2.1,g.To.2.1.2.2.1,g.To.2.1.2.2.2.1,g.To.2.1.2.2.2.2,g.To.2.2.1.1,g.To.2.2.1.2.1,g.To.2.2.1.2.2.1,g.To.2.2.1.2.2.2.1,g.To.2.2.1.2.2.2.2,g.To.2.2.2.1.1,g.To.2.2.2.1.2.1,g.To.2.2.2.1.2.2.1,g.To.2.2.2.1.2.2.2.1,g.To.2.2.2.1.2.2.2.2,g.To.2.2.2.2.1,g.To.2.2.2.2.2.1,g.To.2.2.2.2.2.2.1,g.To.2.2.2.2.2.2.2.1,g.To.2.2.2.2.2.2.2.2] = L at hto hL ⊢
 have hmod : 0 ≤ g.States.tmod 5 ∧ g.States.tmod 5 < 5:=⟨Int.tmod_nonneg _ hst.1,Int.tmod_lt_of_pos _ (by omega)⟩
 have hN : 1 ≤ IntKind.wrap .i64 (1 + (IntKind.wrap .i64 (Int.tmod g.States 5))) ∧ IntKind.wrap .i64 (1 + (IntKind.wrap .i64 (Int.tmod g.States 5))) ≤ 5:=by
  rw [Q0f (x:=g.States.tmod 5) (by omega) (by omega),Q0f (by omega) (by omega)]; omega
 generalize IntKind.wrap .i64 (1 + (IntKind.wrap .i64 (Int.tmod g.States 5))) = N at hN ⊢
 have hloop:=Qm2 (F:=(fun (k15 : Int × List Int × List Int × List Qe × Int × List Int × List Qe → Option (List Int × List Int × List Qe × Int × List Int × List Qe)) ((i8,c9,c10,c11,a12,a13,a14) : Int × (List Int) × (List Int) × (List Qe) × Int × (List Int) × (List Qe))=>(if (i8 < a12) then ((((((shrO .u8 g.Marks i8).bind fun s17=>(if ((andI .u8 s17 1) == 1) then ((appO a13 [i8]).bind fun x20=>some x20) else some a13))).bind fun (a22 : List Int)=>Qcp (fun k25 ((k23,a24) : Int × (List Qe))=>(((if (k23 < (al.length : Int)) then some (decide (k23 < 5)) else some false)).bind fun (x27 : Bool)=>(if x27 then ((((inO 5 i8).bind fun _=>((inO 5 k23).bind fun _=>((rowO L (Int.toNat i8 * 5 + Int.toNat k23 * 1)).bind fun x31=>((remO .i64 (IntKind.wrap .i64 x31) (IntKind.wrap .i64 (a12 + 2))).bind fun s33=>(if (s33 < a12) then ((getO al k23).bind fun x36=>((appO a24 [(Qe.mk i8 x36 s33)]).bind fun x38=>some x38)) else some a24)))))).bind fun (a40 : List Qe)=>k25 ((IntKind.wrap .i64 (k23 + 1)),a40)) else some (a22,a24)))) fuel (0,a14))).bind fun ((a41,a42) : (List Int) × (List Qe))=>k15 ((IntKind.wrap .i64 (i8 + 1)),c9,c10,c11,a12,a41,a42)) else some (c9,c10,c11,a12,a13,a14))))
  (fun x=>∃ (i : Nat) (ms : List Int) (es : List Qe),x = ((i : Int),[],[],[],N,ms,es) ∧ (i : Int) ≤ N ∧ Mks i ms ∧ Eds al N i 0 es) (fun x=>(N - x.1).toNat)
  (fun _ r=>∃ (i : Nat) (ms : List Int) (es : List Qe),r = some ([],[],[],N,ms,es) ∧ (i : Int) = N ∧ Mks i ms ∧ Eds al N i 0 es) (by
   rintro k _ ⟨i,ms,es,rfl,hi,hm,he⟩ ih
   dsimp only
   by_cases hlt : (i : Int) < N
   ·rw [if_pos hlt,show shrO .u8 g.Marks (i : Int) = some (g.Marks.fdiv (2 ^ (min (Int.toNat (i : Int)) (IntKind.bits .u8)))) from by unfold shrO; rw [if_neg (by omega)]]
    simp only [Option.bind_some]
    have hml:=hm.len
    by_cases hb : (andI .u8 (g.Marks.fdiv (2 ^ (min (Int.toNat (i : Int)) (IntKind.bits .u8)))) 1 == 1) = true
    ·rw [if_pos hb,Qdj (by simp only [List.length_cons,List.length_nil]; unfold lim; omega)]
     simp only [Option.bind_some]
     obtain ⟨es',h1,h2⟩:=Qbdc hal fuel hge hL hto hN hlt (ms:=ms ++ [(i : Int)]) he
     rw [h2]
     simp only [Option.bind_some]
     rw [Qb2 (by omega)]
     exact ih _ ⟨i + 1,_,_,rfl,by omega,hm.add,h1⟩ (by simp only; omega)
    ·rw [if_neg hb]
     simp only [Option.bind_some]
     obtain ⟨es',h1,h2⟩:=Qbdc hal fuel hge hL hto hN hlt (ms:=ms) he
     rw [h2]
     simp only [Option.bind_some]
     rw [Qb2 (by omega)]
     exact ih _ ⟨i + 1,_,_,rfl,by omega,hm.up,h1⟩ (by simp only; omega)
   ·rw [if_neg hlt]
    exact ⟨i,ms,es,rfl,by omega,hm,he⟩) fuel (0,[],[],[],N,[],[]) ⟨0,[],[],rfl,by omega,⟨by simp,.nil⟩,⟨by simp,.nil,by simp⟩⟩ (by simp only; omega)
 obtain ⟨i,ms,es,h1,h2,h3,h4⟩:=hloop
 rw [h1]
 simp only [Option.bind_some]
 have hr : Right ⟨al,N,ms,es⟩:=⟨fun x hx=>by have:=hal.rg x hx; omega,hal.so,⟨by simp only; omega,by simp only; omega⟩,fun x hx=>by have:=h3.rg x hx; simp only; omega,h3.so,fun x hx=>by
  obtain ⟨k1,k2,k3,k4,k5⟩:=h4.rg x hx
  refine ⟨k1,?_,k2,k3,k4⟩
  rcases k5 with k5 | ⟨_,j,k6,_⟩
  ·simp only; omega
  ·omega,h4.so⟩
 rw [Q7q hr]
 exact ⟨_,hr,rfl,rfl,by simp only; omega⟩
end Go.Abs
end
section
namespace Go.Proofs
open Go Go.Abs
theorem Qbjs {x : Int} (h : wfI .u8 x) : 0 ≤ x ∧ x < 256:=by
 unfold wfI at h
 simp [Lit.wf,IntKind.min,IntKind.max,IntKind.bits,IntKind.signed] at h
 omega
theorem Qbjw {g : Q1} (h : W_26 g) : Qbga g:=by
 unfold W_26 W_24 W_23 W_5 at h
 obtain ⟨h1,h2,⟨a1,a2,a3,a4,a5⟩,⟨b1,b2,b3,b4,b5⟩,⟨c1,c2,c3,c4,c5⟩,⟨d1,d2,d3,d4,d5⟩,⟨e1,e2,e3,e4,e5⟩⟩:=h
 refine ⟨Qbjs h1,fun x hx=>?_⟩
 simp only [List.mem_cons,List.not_mem_nil,or_false] at hx
 rcases hx with rfl | rfl | rfl | rfl | rfl | rfl | rfl | rfl | rfl | rfl | rfl | rfl | rfl | rfl | rfl | rfl | rfl | rfl | rfl | rfl | rfl | rfl | rfl | rfl | rfl <;> exact Qbjs (by assumption)
end Go.Proofs
end
section
namespace Go.Abs
open Go
theorem Qbgb {α : Type} [DecidableEq α] {s t : List α} {ne : α → α → Bool} (hne : ∀ x y,ne x y = decide (x ≠ y)) (hl : s.length = t.length) (h : s.length < 1000000000000) :
  Qcp (fun k5 (i4 : Int)=>(if (i4 < (s.length : Int)) then ((getO s i4).bind fun x7=>((getO t i4).bind fun x9=>(if ne x7 x9 then some false else k5 (IntKind.wrap .i64 (i4 + 1))))) else some true)) Qbs 0 = some (decide (s = t)):=by
 refine Q6b (fun i : Int=>∃ n : Nat,i = n ∧ n ≤ s.length ∧ s.take n = t.take n) (fun i=>s.length - i.toNat) _ ⟨0,rfl,by omega,by simp⟩ (by unfold Qbs; omega) ?_
 rintro k _ ⟨n,rfl,hn,he⟩ ih
 by_cases hlt : n < s.length
 ·rw [if_pos (by omega),Qcw hlt,Qcw (by omega : n < t.length)]
  simp only [Option.bind_some,hne]
  by_cases hx : s[n] = t[n]
  ·rw [if_neg (by simp [hx]),Qb2 (by omega)]
   exact ih _ ⟨n + 1,rfl,by omega,Qba4 hlt (by omega) he hx⟩ (by omega)
  ·rw [if_pos (by simp [hx])]
   have : s ≠ t:=fun e=>hx (by subst e; rfl)
   simp [this]
 ·rw [if_neg (by omega)]
  have e : n = s.length:=by omega
  have : s = t:=by
   rw [e,List.take_length,hl,List.take_length] at he; exact he
  simp [this]
end Go.Abs
end
section
namespace Go.Abs
open Go
theorem Qbgc : Qgz = some true:=by kernel_rfl
theorem Qbhj {s t : List Int} (h : s.length < 1000000000000) : Qb6 s t = some (decide (s = t)):=by
 unfold Qb6 Qr
 by_cases hl : s.length = t.length
 ·rw [if_neg (by simp [hl])]
  exact Qbgb (ne:=fun x y=>x != y) (fun x y=>by rw [Bool.eq_iff_iff]; simp) hl h
 ·rw [if_pos (by simp; omega)]
  have : s ≠ t:=fun e=>hl (by rw [e])
  simp [this]
end Go.Abs
end
section
namespace Go.Abs
open Go
set_option linter.unusedSimpArgs false
set_option linter.unusedVariables false
structure Num (a : Qb) (o num : List Int) : Prop where
 len : num.length = a.States.toNat
 at1 : ∀ s : Nat,s < a.States.toNat → num[s]? = some (if (s : Int) ∈ o then (o.idxOf (s : Int) : Int) else -1)
theorem Num.get {a : Qb} {o num : List Int} (h : Num a o num) {t : Int} (ht : 0 ≤ t ∧ t < a.States) : getO num t = some (if t ∈ o then (o.idxOf t : Int) else -1):=by
 rw [Qon]
 refine ⟨ht.1,?_⟩
 have:=h.at1 t.toNat (by omega)
 rwa [show ((t.toNat : Nat) : Int) = t from by omega] at this
theorem Num.set {a : Qb} {o num : List Int} (h : Num a o num) {t : Int} (ht : 0 ≤ t ∧ t < a.States) (hn : t ∉ o) : ∃ num',setO num t (o.length : Int) = some num' ∧ Num a (o ++ [t]) num':=by
 refine ⟨num.set t.toNat (o.length : Int),by unfold setO; rw [if_pos ⟨ht.1,by rw [h.len]; omega⟩],by rw [List.length_set]; exact h.len,fun s hs=>?_⟩
 rw [List.getElem?_set]
 by_cases he : t.toNat = s
 ·subst he
  rw [if_pos rfl,if_pos (by rw [h.len]; omega),show ((t.toNat : Nat) : Int) = t from by omega,if_pos (by simp),List.idxOf_append,if_neg hn]
  simp
 ·rw [if_neg he,h.at1 s hs]
  have hne : (s : Int) ≠ t:=by omega
  by_cases hm : (s : Int) ∈ o
  ·rw [if_pos hm,if_pos (by simp [hm]),List.idxOf_append,if_pos hm]
  ·rw [if_neg hm,if_neg (by simp [hm,hne])]
section
variable {a : Qb} (h : Right a)
include h
end
end Go.Abs
end
section
namespace Go.Abs
open Go
set_option linter.unusedSimpArgs false
set_option linter.unusedVariables false
section
variable {a : Qb} (h : Right a)
include h
omit h in
theorem Q7r {w : List Int} {p : Int → Bool} {f : Int → Option Bool} (hf : ∀ x,f x = some (p x)) (hw : w.length < big) : Qc1 w f = some (w.any p):=by
 have hb : w.length < 1000000000000:=hw
 unfold Qc1 Qx Qgc Qbr
 obtain ⟨fuel,hfu,hge⟩ : ∃ f,Qbs = f ∧ 1099511627776 ≤ f:=⟨_,rfl,Nat.le_refl _⟩
 rw [hfu]
 have:=Qoo (F:=fun (k10 : Int → Option Int) (x9 : Int)=>(if (x9 < (w.length : Int)) then ((getO w x9).bind fun x12=>((f x12).bind fun x15=>(if x15 then some x9 else k10 (IntKind.wrap .i64 (x9 + 1))))) else some (-1))) (len:=w.length) (fuel:=fuel)
  (fun n=>some (if (w.drop n).any p then ((n + (w.drop n).findIdx p : Nat) : Int) else -1)) (by omega) (by
   intro k n hn ih
   rw [if_pos (by omega),Qcw hn,Qb2 (by omega),ih]
   simp only [Option.bind_some,hf]
   rw [List.drop_eq_getElem_cons hn]
   cases hp : p w[n] with
   | true=>simp only [List.any_cons,hp,Bool.true_or,if_true,List.findIdx_cons,cond_true,Nat.add_zero]
   | false =>
    simp only [List.any_cons,hp,Bool.false_or,List.findIdx_cons,cond_false,Bool.false_eq_true,if_false]
    rw [show n + 1 + (w.drop (n + 1)).findIdx p = n + ((w.drop (n + 1)).findIdx p + 1) from by omega]) (by intro k; simp)
 rw [this]
 simp only [Option.bind_some,List.drop_zero,Nat.zero_add]
 cases w.any p <;> simp
end
end Go.Abs
end
section
namespace Go.Abs
open Go
set_option linter.unusedSimpArgs false
set_option linter.unusedVariables false
structure Like (a b : Qb) (φ : Int → Int) : Prop where
 al : b.Alphabet = a.Alphabet
 st : 0 < b.States ↔ 0 < a.States
 zero : 0 < a.States → φ 0 = 0
 inj : ∀ s ∈ Qk4 a,∀ t ∈ Qk4 a,φ s = φ t → s = t
 out : ∀ s ∈ Qk4 a,outP b (φ s) = (outP a s).map fun x=>⟨φ s,x.Event,φ x.To⟩
 ma : ∀ s ∈ Qk4 a,(φ s ∈ b.Marked ↔ s ∈ a.Marked)
section
variable {F : List Int} {φ : Int → Int} (inj : ∀ s ∈ F,∀ t ∈ F,φ s = φ t → s = t)
include inj
end
section
variable {a b : Qb} {φ : Int → Int} (ha : Right a) (hb : Right b) (h : Like a b φ)
include ha h
include hb
end
section
variable {a b : Qb} {φ : Int → Int} (ha : Right a) (hb : Right b) (h : Like a b φ)
include ha h
end
end Go.Abs
end
section
namespace Go.Abs
open Go
set_option linter.unusedSimpArgs false
set_option linter.unusedVariables false
theorem Q7s {α β : Type} {o : Option α} {x : α} {K : α → Option β} {r : Option β} (h : o = some x) (h2 : K x = r) : o.bind K = r:=by rw [h]; exact h2
theorem Qbdy {X S R α : Type} {F : (X → Option R) → X → Option R} {l : List α} {fuel : Nat} (mk : Nat → S → X) (f : S → α → S) (fin : S → Option R) (I : Nat → S → Prop)
  (step : ∀ (k : X → Option R) (n : Nat) (h : n < l.length) (s : S),I n s → I (n + 1) (f s l[n]) ∧ F k (mk n s) = k (mk (n + 1) (f s l[n]))) (last : ∀ (k : X → Option R) (s : S),I l.length s → F k (mk l.length s) = fin s)
  (hf : l.length < fuel) (s0 : S) (h0 : I 0 s0) : Qcp F fuel (mk 0 s0) = fin (l.foldl f s0):=by
 have:=Qk3 (F:=F) (len:=l.length) mk I (fun n s=>fin ((l.drop n).foldl f s)) (fun k n s hn hi ih=>by
  obtain ⟨h1,h2⟩:=step k n hn s hi
  rw [h2,ih _ h1,List.drop_eq_getElem_cons hn,List.foldl_cons]) (fun k s hi=>by rw [last k s hi]; simp) fuel 0 s0 (Nat.zero_le _) (by omega) h0
 simpa using this
theorem swoI : Go.Sort.SWO Qez:=⟨fun x=>by simp [Qez],fun x y z h1 h2=>by simp [Qez] at *; omega,fun x y z h1 h2=>by simp [Qez] at *; omega⟩
theorem Qbgd {l : List Int} (h : l.Nodup) : (Qhr Qez l).Pairwise (· < ·) ∧ ∀ x,x ∈ Qhr Qez l ↔ x ∈ l:=by
 have hp:=Qh6 Qez l
 refine ⟨?_,fun x=>hp.mem_iff⟩
 have hs:=Qi9 swoI l
 have hn:=(hp.nodup_iff).2 h
 exact (hs.and hn).imp fun ⟨h1,h2⟩=>by simp [Qez] at h1; omega
inductive Rch (a : Qb) (ev fr : List Int) : Int → Prop where
 | base {s : Int} : s ∈ fr → Rch a ev fr s
 | step {x : Qe} : Rch a ev fr x.From → x ∈ a.Edges → x.Event ∈ ev → Rch a ev fr x.To
def upto (n : Int) : List Int:=(List.range n.toNat).map fun (i : Nat)=>(i : Int)
theorem Qbhk {n x : Int} : x ∈ upto n ↔ 0 ≤ x ∧ x < n:=by
 simp only [upto,List.mem_map,List.mem_range]
 constructor
 ·rintro ⟨i,hi,rfl⟩; omega
 ·rintro ⟨h1,h2⟩; exact ⟨x.toNat,by omega,by omega⟩
theorem Qbge (n : Int) : (upto n).Pairwise (· < ·):=by
 unfold upto
 rw [List.pairwise_map]
 exact List.pairwise_lt_range.imp fun h=>by omega
theorem Qbhl (n : Int) : (upto n).length = n.toNat:=by simp [upto]
open Classical in
noncomputable def Qbbc (a : Qb) (fr ev : List Int) : List Int:=(upto a.States).filter fun s=>decide (Rch a ev fr s)
theorem Qbce (a : Qb) (fr ev : List Int) : (Qbbc a fr ev).Pairwise (· < ·):=(Qbge _).filter _
theorem Qbdz {a : Qb} {fr ev : List Int} {s : Int} : s ∈ Qbbc a fr ev ↔ (0 ≤ s ∧ s < a.States) ∧ Rch a ev fr s:=by
 classical
 simp only [Qbbc,List.mem_filter,Qbhk,decide_eq_true_eq]
theorem Rch.range {a : Qb} (h : Right a) {ev fr : List Int} (hf : ∀ s ∈ fr,0 ≤ s ∧ s < a.States) {s : Int} (hr : Rch a ev fr s) : 0 ≤ s ∧ s < a.States:=by
 induction hr with
 | base hs=>exact hf _ hs
 | step _ hx _ _=>have:=h.ed0 _ hx; exact ⟨this.2.2.1,this.2.2.2.1⟩
theorem Rch.mono {a : Qb} {ev fr fr' : List Int} (hf : ∀ s ∈ fr,Rch a ev fr' s) {s : Int} (hr : Rch a ev fr s) : Rch a ev fr' s:=by
 induction hr with
 | base hs=>exact hf _ hs
 | step _ hx he ih=>exact .step ih hx he
end Go.Abs
end
section
namespace Go.Abs
open Go
set_option linter.unusedSimpArgs false
set_option linter.unusedVariables false
def Qoq (a : Qb) (onto : List Int) : List Int:=a.Alphabet.filter fun x=>decide (x ∈ onto)
def Qbcf (a : Qb) (onto : List Int) : List Int:=a.Alphabet.filter fun x=>!decide (x ∈ onto)
def Qbbd (a : Qb) : List (List Qe):=(upto a.States).map (outP a)
def obsP (a : Qb) (onto : List Int) : Qk:=⟨Qbbd a,Qoq a onto,Qbcf a onto,a.Marked⟩
theorem Qbbe (a : Qb) : (Qbbd a).length = a.States.toNat:=by simp [Qbbd,Qbhl]
theorem Qbbf (a : Qb) {s : Nat} (h : s < a.States.toNat) : (Qbbd a)[s]? = some (outP a (s : Int)):=by
 simp only [Qbbd,upto,List.getElem?_map,List.getElem?_range h,Option.map_some]
theorem Qbhm {a : Qb} {s : Int} (h : 0 ≤ s ∧ s < a.States) : getO (Qbbd a) s = some (outP a s):=by
 rw [Qon]
 refine ⟨h.1,?_⟩
 rw [Qbbf a (by omega)]
 congr 2; omega
theorem Q5k (onto : List Int) : ∀ (l k e : List Int),l.foldl (fun (s : List Int × List Int) x=>if x ∈ onto then (s.1 ++ [x],s.2) else (s.1,s.2 ++ [x])) (k,e) = (k ++ l.filter (fun x=>decide (x ∈ onto)),e ++ l.filter fun x=>!decide (x ∈ onto))
 | [],k,e=>by simp
 | x :: l,k,e=>by
  rw [List.foldl_cons]
  by_cases hx : x ∈ onto
  ·rw [if_pos hx,Q5k onto l]; simp [hx]
  ·rw [if_neg hx,Q5k onto l]; simp [hx]
theorem Q5l {a : Qb} (h : Right a) {onto : List Int} (ho : onto.length < big) : Qeb a onto = some (obsP a onto):=by
 have hs:=h.small
 have hst:=h.st
 unfold Qeb Q6
 refine Q7s (x:=List.replicate a.States.toNat []) (by unfold mkO; rw [if_pos ⟨hst.1,by unfold lim; omega⟩]) ?_
 refine Q7s (x:=Qbbd a) ?_ ?_
 ·refine (Qk3 (len:=a.Edges.length) (fun n (c : List (List Qe))=>((n : Int),c)) (fun n c=>c.length = a.States.toNat ∧ ∀ s : Nat,s < a.States.toNat → c[s]? = some ((a.Edges.take n).filter fun x=>x.From == (s : Int))) (fun n c=>some (Qbbd a)) ?_ ?_ Qbs 0 _ (Nat.zero_le _) (by unfold Qbs; omega) ⟨by simp,fun s hs=>by simp [hs]⟩)
  ·intro k n c hn ⟨i1,i2⟩ ih
   have he:=h.ed0 _ (List.getElem_mem hn)
   dsimp only
   rw [if_pos (by omega),Qcw hn]
   simp only [Option.bind_some]
   have hin : inO (Int.toNat a.States) a.Edges[n].From = some ():=by unfold inO; rw [if_pos ⟨he.1,by omega⟩]
   have hto : ((a.Edges[n].From.toNat : Nat) : Int) = a.Edges[n].From:=by omega
   have hg : getO c a.Edges[n].From = some ((a.Edges.take n).filter fun x=>x.From == a.Edges[n].From):=by
    rw [Qon]; refine ⟨he.1,?_⟩
    rw [i2 _ (by omega),hto]
   have hfl : ((a.Edges.take n).filter fun x=>x.From == a.Edges[n].From).length ≤ a.Edges.length:=Nat.le_trans (List.length_filter_le _ _) (by rw [List.length_take]; omega)
   rw [hin,hg]
   simp only [Option.bind_some]
   rw [Qdj (by simp only [List.length_cons,List.length_nil]; unfold lim; omega)]
   simp only [Option.bind_some]
   unfold setO
   rw [if_pos ⟨he.1,by omega⟩,Qb2 (by omega)]
   simp only [Option.bind_some]
   refine ih _ ⟨by simp [i1],fun s hs=>?_⟩
   rw [List.getElem?_set,List.take_succ_eq_append_getElem hn,List.filter_append]
   split
   ·rename_i hss
    subst hss
    rw [if_pos (by omega),hto]
    simp
   ·rename_i hss
    have : ¬ a.Edges[n].From = (s : Int):=by omega
    rw [i2 s hs]
    simp [this]
  ·intro k c ⟨i1,i2⟩
   dsimp only
   rw [if_neg (by omega)]
   congr 1
   refine List.ext_getElem? fun s=>?_
   by_cases hs : s < a.States.toNat
   ·rw [i2 s hs,Qbbf a hs,List.take_length]; rfl
   ·rw [List.getElem?_eq_none (by omega),List.getElem?_eq_none (by rw [Qbbe]; omega)]
 ·refine Q7s (x:=([],[],[],[],Qoq a onto,Qbcf a onto)) ?_ ?_
  ·refine (Qbdy (l:=a.Alphabet) (fun n (s : List Int × List Int)=>((n : Int),[],[],[],[],s.1,s.2)) (fun (s : List Int × List Int) x=>if x ∈ onto then (s.1 ++ [x],s.2) else (s.1,s.2 ++ [x])) (fun s=>some ([],[],[],[],s.1,s.2)) (fun n s=>s.1.length ≤ n ∧ s.2.length ≤ n) ?_ ?_ (by unfold Qbs; omega) ([],[]) ⟨by simp,by simp⟩).trans ?_
   ·intro k n hn s ⟨i1,i2⟩
    by_cases hx : a.Alphabet[n] ∈ onto
    ·rw [if_pos hx]
     refine ⟨⟨by simp; omega,by simp; omega⟩,?_⟩
     dsimp only
     rw [if_pos (by omega),Qcw hn]
     simp only [Option.bind_some]
     rw [Qkb ho]
     simp only [Option.bind_some,hx,decide_true,if_true]
     rw [Qdj (by simp only [List.length_cons,List.length_nil]; unfold lim; omega),Qb2 (by omega)]
     rfl
    ·rw [if_neg hx]
     refine ⟨⟨by simp; omega,by simp; omega⟩,?_⟩
     dsimp only
     rw [if_pos (by omega),Qcw hn]
     simp only [Option.bind_some]
     rw [Qkb ho]
     simp only [Option.bind_some,hx,decide_false,Bool.false_eq_true,if_false]
     rw [Qdj (by simp only [List.length_cons,List.length_nil]; unfold lim; omega),Qb2 (by omega)]
     rfl
   ·intro k s _
    dsimp only
    rw [if_neg (by omega)]
   ·rw [Q5k]; rfl
  ·dsimp only
   unfold lenO
   rw [if_pos (by rw [Qbbe])]
   rfl
end Go.Abs
end
section
namespace Go.Abs
open Go
set_option linter.unusedSimpArgs false
set_option linter.unusedVariables false
def Qbjt (a : Qb) (est : List Int) (e : Int) : List Int:=est.flatMap fun s=>((outP a s).filter fun x=>x.Event == e).map (·.To)
noncomputable def Qbhn (a : Qb) (onto est : List Int) (e : Int) : List Int:=Qbbc a (Qbjt a est e) (Qbcf a onto)
structure Sts (a : Qb) (l : List Int) : Prop where
 rg : ∀ s ∈ l,0 ≤ s ∧ s < a.States
 so : l.Pairwise (· < ·)
theorem Sts.len {a : Qb} {l : List Int} (h : Sts a l) : l.length ≤ a.States.toNat:=by
 have:=Qf3 (a:=0) (b:=a.States) h.so h.rg; omega
theorem Qbd0 (a : Qb) (fr ev : List Int) : Sts a (Qbbc a fr ev):=⟨fun s hs=>(Qbdz.1 hs).1,Qbce _ _ _⟩
theorem Qbgf (a : Qb) (onto est : List Int) (e : Int) : Sts a (Qbhn a onto est e):=Qbd0 _ _ _
theorem Q90 {a : Qb} (h : Right a) (onto : List Int) : (Qoq a onto).length ≤ 32:=by
 have:=h.small.2.1
 have : (Qoq a onto).length ≤ a.Alphabet.length:=List.length_filter_le _ _
 omega
theorem Q91 {a : Qb} (h : Right a) {onto obs : List Int} (hl : obs.length < big) : Qdd (obsP a onto) obs = some (obs.all fun x=>decide (x ∈ Qoq a onto)):=by
 have hk:=Q90 h onto
 unfold Qdd Q8
 rw [Q7r (p:=fun x=>!decide (x ∈ Qoq a onto)) (fun x=>by
  unfold Qd8 Q4
  rw [show (obsP a onto).kept_ = Qoq a onto from rfl,Qkb (by unfold big; omega)]; rfl) hl]
 simp only [Option.bind_some]
 congr 1
 rw [List.not_any_eq_all_not]
 simp
theorem Qbbg {l : List Int} {n : Int} (hl : l.length < big) : Qgx l n = some (Qev n none l):=Q3s hl
theorem Qbgg {a : Qb} (h : small a) {ev : List Int} (hl : ev.length < big) : Qdc a ev = some (if Qvd a = 0 then Qev 32 none ev else Qvd a):=by
 unfold Qdc Qy
 rw [Qbhf h]
 simp only [Option.bind_some]
 by_cases h0 : Qvd a = 0
 ·rw [if_neg (by simp [h0]),if_pos h0,Qbbg hl]; rfl
 ·rw [if_pos (by simp [h0]),if_neg h0]
theorem Q0h {a : Qb} (h : Right a) {ev : List Int} (hl : ev.length < big) : Qdc a ev = some (Qev 32 none ev):=by
 rw [Qbgg h.small.1 hl,if_pos (Qbf9.2 h)]
structure EvSet (l : List Int) : Prop where
 rg : ∀ x ∈ l,0 ≤ x ∧ x < 32
 so : l.Pairwise (· < ·)
theorem EvSet.err {l : List Int} (h : EvSet l) : Qev 32 none l = 0:=Qib.2 ⟨h.rg,h.so,fun y hy=>by cases hy⟩
theorem EvSet.len {l : List Int} (h : EvSet l) : l.length ≤ 32:=by have:=Qf3 (a:=0) (b:=32) h.so h.rg; omega
theorem Evs.set {l : List Int} (h : Evs l) : EvSet l:=⟨fun x hx=>by have:=h.rg x hx; omega,h.so⟩
end Go.Abs
end
section
namespace Go.Abs
open Go
set_option linter.unusedSimpArgs false
set_option linter.unusedVariables false
theorem Qor {X R S : Type} {F : (X → Option R) → X → Option R} (I : S → X → Prop) (m : S → Nat) (Q : S → Option R → Prop)
  (step : ∀ (k : X → Option R) (s : S) (x : X),I s x → (∀ s' y,I s' y → m s' < m s → Q s' (k y)) → Q s (F k x)) : ∀ (fuel : Nat) (s : S) (x : X),I s x → m s < fuel → Q s (Qcp F fuel x)
 | 0,_,_,_,h=>absurd h (Nat.not_lt_zero _)
 | fuel + 1,s,x,hi,h=>step _ s x hi fun s' y hy hm=>Qor I m Q step fuel s' y hy (by omega)
theorem Q7t {κ β : Type} [DecidableEq κ] {v : β} {k k' : κ} : ∀ {m : List (κ × β)},hasM (setM m k v) k' = (decide (k' = k) || hasM m k')
 | []=>by simp only [setM,hasM,List.any_cons,List.any_nil]; rw [Bool.eq_iff_iff]; simp
 | (q,w) :: m=>by
  have ih:=Q7t (v:=v) (k:=k) (k':=k') (m:=m)
  simp only [setM]
  by_cases h : k = q
  ·subst h
   simp only [beq_self_eq_true,if_true,Qyq]
   rw [Bool.eq_iff_iff]; simp
  ·have : (k == q) = false:=by simp [h]
   simp only [this,Bool.false_eq_true,if_false,Qyq]
   rw [ih]
   cases (k' == q) <;> cases decide (k' = k) <;> rfl
theorem Q7u {κ β : Type} [DecidableEq κ] {z v : β} {k k' : κ} : ∀ {m : List (κ × β)},getM (setM m k v) k' z = if k' = k then v else getM m k' z
 | []=>by
  simp only [setM,getM]
  by_cases h : k' = k
  ·subst h; simp
  ·have : (k' == k) = false:=by simp [h]
   simp [this,h]
 | (q,w) :: m=>by
  have ih:=Q7u (z:=z) (v:=v) (k:=k) (k':=k') (m:=m)
  simp only [setM]
  by_cases h : k = q
  ·subst h
   simp only [beq_self_eq_true,if_true,getM]
   by_cases h2 : k' = k
   ·subst h2; simp
   ·have : (k' == k) = false:=by simp [h2]
    simp [this,h2]
  ·have e : (k == q) = false:=by simp [h]
   simp only [e,Bool.false_eq_true,if_false,getM]
   by_cases h2 : k' = q
   ·subst h2
    have : ¬ k' = k:=fun e=>h e.symm
    simp [this]
   ·have : (k' == q) = false:=by simp [h2]
    simp only [this,Bool.false_eq_true,if_false,ih]
def Qcz (z : Qn) : Qg:=⟨z.state_,z.done_⟩
def Q7v (onto obs : List Int) (done e : Int) : Option Int:=if e ∈ onto then (if done = obs.length ∨ getO obs done ≠ some e then none else some (done + 1)) else some done
def addN (onto obs : List Int) (x : Qn) (L : List Qn) (y : Qe) : List Qn :=
 match Q7v onto obs x.done_ y.Event with
 | none=>L
 | some d=>if (L.any fun z=>decide (Qcz z = ⟨y.To,d⟩)) then L else L ++ [⟨y.To,d,x.word_ ++ [y.Event]⟩]
def Qbcg (a : Qb) (obs : List Int) (marked : Bool) (x : Qn) : Bool:=decide (x.done_ = obs.length) && (!marked || decide (x.state_ ∈ a.Marked))
def Qvg (a : Qb) (onto obs : List Int) (marked : Bool) : Nat → Nat → List Qn → List Int × Bool
 | 0,_,_=>([],false)
 | f + 1,i,L=>match L[i]? with
  | none=>([],false)
  | some x=>if Qbcg a obs marked x then (x.word_,true) else Qvg a onto obs marked f (i + 1) ((outP a x.state_).foldl (addN onto obs x) L)
structure Nodes (a : Qb) (n : Nat) (L : List Qn) : Prop where
 rg : ∀ z ∈ L,(0 ≤ z.state_ ∧ z.state_ < a.States) ∧ 0 ≤ z.done_ ∧ z.done_ ≤ n
 nd : (L.map Qcz).Nodup
 wl : ∀ (j : Nat) z,L[j]? = some z → z.word_.length ≤ j
theorem Qbgh {l : List Int} {N : Nat} (hn : l.Nodup) (hr : ∀ x ∈ l,0 ≤ x ∧ x < N) : l.length ≤ N:=by
 obtain ⟨h1,h2⟩:=Qbgd hn
 have:=Qf3 (a:=0) (b:=N) h1 fun x hx=>hr x ((h2 x).1 hx)
 rw [Qi8] at this; omega
theorem Nodes.len {a : Qb} {n : Nat} {L : List Qn} (h : Nodes a n L) : L.length ≤ a.States.toNat * (n + 1):=by
 have h1 : ((L.map Qcz).map fun p=>p.state_ * ((n : Int) + 1) + p.done_).Nodup:=by
  refine List.Pairwise.map _ (S:=fun a b=>a ≠ b) (fun p q h=>h) ?_
  refine List.Pairwise.imp_of_mem (fun {p q} hp hq hne=>?_) h.nd
  obtain ⟨z,hz,rfl⟩:=List.mem_map.1 hp
  obtain ⟨y,hy,rfl⟩:=List.mem_map.1 hq
  have hz:=h.rg z hz; have hy:=h.rg y hy
  intro e
  refine hne ?_
  simp only [Qcz] at e ⊢
  have e1 : z.state_ = y.state_:=by
   rcases Int.lt_trichotomy z.state_ y.state_ with hlt | heq | hgt
   ·exfalso
    have : (z.state_ + 1) * ((n : Int) + 1) ≤ y.state_ * ((n : Int) + 1):=Int.mul_le_mul_of_nonneg_right (by omega) (by omega)
    rw [Int.add_mul] at this; omega
   ·exact heq
   ·exfalso
    have : (y.state_ + 1) * ((n : Int) + 1) ≤ z.state_ * ((n : Int) + 1):=Int.mul_le_mul_of_nonneg_right (by omega) (by omega)
    rw [Int.add_mul] at this; omega
  rw [e1] at e ⊢
  have : z.done_ = y.done_:=by omega
  rw [this]
 have:=Qbgh (N:=a.States.toNat * (n + 1)) h1 fun x hx=>by
  obtain ⟨p,hp,rfl⟩:=List.mem_map.1 hx
  obtain ⟨z,hz,rfl⟩:=List.mem_map.1 hp
  have hz:=h.rg z hz
  simp only [Qcz]
  have h0 : 0 ≤ z.state_ * ((n : Int) + 1):=Int.mul_nonneg hz.1.1 (by omega)
  have h2 : (z.state_ + 1) * ((n : Int) + 1) ≤ a.States * ((n : Int) + 1):=Int.mul_le_mul_of_nonneg_right (by omega) (by omega)
  rw [Int.add_mul] at h2
  have e : ((a.States.toNat * (n + 1) : Nat) : Int) = a.States * ((n : Int) + 1):=by
   rw [Int.natCast_mul,Int.natCast_add,Int.natCast_one,Int.toNat_of_nonneg (by omega)]
  rw [e]; omega
 simpa using this
structure KW (L : List Qn) (c : List (Qg × List Int)) : Prop where
 has : ∀ p,hasM c p = L.any fun z=>decide (Qcz z = p)
 get : ∀ z ∈ L,getM c (Qcz z) [] = z.word_
theorem KW.add {a : Qb} {n : Nat} {L : List Qn} {c : List (Qg × List Int)} (h : KW L c) (z : Qn) (hz : (L.any fun y=>decide (Qcz y = Qcz z)) = false) : KW (L ++ [z]) (setM c (Qcz z) z.word_):=by
 refine ⟨fun p=>?_,fun y hy=>?_⟩
 ·rw [Q7t,h.has,List.any_append]
  simp only [List.any_cons,List.any_nil,Bool.or_false]
  rw [Bool.or_comm]
  congr 1
  exact decide_eq_decide.2 ⟨fun e=>e.symm,fun e=>e.symm⟩
 ·rw [Q7u]
  rw [List.mem_append,List.mem_singleton] at hy
  rcases hy with hy | rfl
  ·have : ¬ Qcz y = Qcz z:=fun e=>by
    have:=List.any_eq_false.1 hz y hy
    simp [e] at this
   rw [if_neg this,h.get y hy]
  ·rw [if_pos rfl]
theorem Nodes.add {a : Qb} {n : Nat} {L : List Qn} (h : Nodes a n L) {onto obs : List Int} (ho : obs.length = n) {x : Qn} {i : Nat} (hx : L[i]? = some x) {y : Qe} (hy : 0 ≤ y.To ∧ y.To < a.States) : Nodes a n (addN onto obs x L y) ∧ L <+: addN onto obs x L y:=by
 unfold addN
 cases hd : Q7v onto obs x.done_ y.Event with
 | none=>exact ⟨h,List.prefix_refl L⟩
 | some d =>
  dsimp only
  split
  ·exact ⟨h,List.prefix_refl L⟩
  ·rename_i hn
   have hn : (L.any fun z=>decide (Qcz z = ⟨y.To,d⟩)) = false:=by simpa using hn
   have hxm:=h.rg x (List.mem_of_getElem? hx)
   have hdr : 0 ≤ d ∧ d ≤ n:=by
    unfold Q7v at hd
    split at hd
    ·split at hd
     ·cases hd
     ·rename_i hc; cases hd
      have : ¬ x.done_ = obs.length:=fun e=>hc (.inl e)
      omega
    ·cases hd; exact hxm.2
   refine ⟨⟨fun z hz=>?_,?_,fun j z hz=>?_⟩,List.prefix_append L _⟩
   ·rcases List.mem_append.1 hz with hz | hz
    ·exact h.rg z hz
    ·simp at hz; subst hz; exact ⟨hy,hdr⟩
   ·rw [List.map_append,List.nodup_append]
    refine ⟨h.nd,by simp,fun p hp q hq e=>?_⟩
    simp at hq; subst hq; subst e
    obtain ⟨z,hz,hpz⟩:=List.mem_map.1 hp
    have:=List.any_eq_false.1 hn z hz
    rw [hpz] at this
    simp [Qcz] at this
   ·rw [List.getElem?_append] at hz
    split at hz
    ·exact h.wl j z hz
    ·rename_i hlt
     have hi:=(List.getElem?_eq_some_iff.1 hx).1
     have hwl:=h.wl i x hx
     have : j - L.length = 0:=by
      have:=(List.getElem?_eq_some_iff.1 hz).1; simp at this; omega
     rw [this] at hz; simp at hz; subst hz
     simp only [List.length_append,List.length_cons,List.length_nil]; omega
theorem Nodes.fold {a : Qb} {n : Nat} {onto obs : List Int} (ho : obs.length = n) {x : Qn} {i : Nat} : ∀ {l : List Qe} {L : List Qn},Nodes a n L → L[i]? = some x → (∀ y ∈ l,0 ≤ y.To ∧ y.To < a.States) → Nodes a n (l.foldl (addN onto obs x) L) ∧ L <+: l.foldl (addN onto obs x) L
 | [],L,h,_,_=>⟨h,List.prefix_refl L⟩
 | y :: l,L,h,hx,hl=>by
  obtain ⟨h1,h2⟩:=h.add (onto:=onto) ho hx (hl y (by simp))
  obtain ⟨k1,k2⟩:=Nodes.fold (onto:=onto) (l:=l) ho h1 (Qm3 h2 hx) fun z hz=>hl z (by simp [hz])
  exact ⟨k1,h2.trans k2⟩
theorem Qbgi {l : List Int} (hl : l.length ≤ lim) : Qd0 l = some l:=by
 unfold Qd0 Qbe
 cases l with
 | nil=>rfl
 | cons x l =>
  simp only [nilO,Bool.false_eq_true,if_false]
  rw [Qdj (by simpa using hl)]
  rfl
end Go.Abs
end
section
namespace Go.Abs
open Go
set_option linter.unusedSimpArgs false
set_option linter.unusedVariables false
theorem Qbd1 {a : Qb} {onto : List Int} {e : Int} (he : e ∈ a.Alphabet) : decide (e ∈ Qoq a onto) = decide (e ∈ onto):=by
 apply decide_eq_decide.2
 unfold Qoq
 rw [List.mem_filter]
 simp [he]
def Qdx (a : Qb) (obs : List Int) : Nat:=a.States.toNat * (obs.length + 1)
theorem Q7w {a : Qb} (h : Right a) {obs : List Int} (ho : obs.length ≤ 1000) : Qdx a obs ≤ 4100096:=by
 unfold Qdx
 have:=h.st
 calc a.States.toNat * (obs.length + 1) ≤ 4096 * 1001:=Nat.mul_le_mul (by omega) (by omega)
  _ ≤ 4100096:=by omega
theorem Qbho {α : Type} {l : List α} {i : Int} (h : 0 ≤ i ∧ i < l.length) : ∃ x,getO l i = some x:=by
 refine ⟨l[i.toNat]'(by omega),?_⟩
 rw [Qon]; exact ⟨h.1,List.getElem?_eq_getElem (by omega)⟩
theorem Q85 {obs : List Int} {d e : Int} (hd : 0 ≤ d ∧ d ≤ obs.length) : (if (d == (obs.length : Int)) then some true else ((getO obs d).bind fun x41=>some (x41 != e))) = some (decide (d = obs.length ∨ getO obs d ≠ some e)):=by
 by_cases h : d = obs.length
 ·simp [h]
 ·obtain ⟨x,hx⟩:=Qbho (l:=obs) (i:=d) ⟨hd.1,by omega⟩
  rw [if_neg (by simpa using h),hx]
  simp only [Option.bind_some]
  congr 1
  rw [Bool.eq_iff_iff]; simp [h]
theorem Qbi3 {a : Qb} (h : Right a) {onto obs : List Int} (hon : EvSet onto) (ho : obs.length ≤ 1000) (marked : Bool) (h0 : 0 < a.States) (hk : (obs.all fun x=>decide (x ∈ Qoq a onto)) = true) :
  Qcd a onto obs marked = some ((Qvg a onto obs marked (Qdx a obs + 1) 0 [⟨0,0,[]⟩]).1,(Qvg a onto obs marked (Qdx a obs + 1) 0 [⟨0,0,[]⟩]).2,0):=by
 have hsm:=h.small
 have hNl:=Q7w h ho
 have hkl:=Q90 h onto
 have hob : onto.length < big:=by have:=hon.len; unfold big; omega
 have hmb : a.Marked.length < big:=by unfold big; omega
 unfold Qcd Qbb
 rw [Q0h h hob,hon.err]
 simp only [Option.bind_some]
 rw [if_neg (by decide),Q5l h hob]
 simp only [Option.bind_some]
 rw [Q91 h (by unfold big; omega),hk]
 simp only [Option.bind_some,if_true]
 rw [if_neg (by simp; omega)]
 refine Qor (S:=Nat × List Qn) (fun s x=>Nodes a obs.length s.2 ∧ s.1 ≤ s.2.length ∧ x.1 = (s.2.drop s.1).map Qcz ∧ KW s.2 x.2) (fun s=>Qdx a obs + 1 - s.1)
  (fun s r=>r = some ((Qvg a onto obs marked (Qdx a obs + 1 - s.1) s.1 s.2).1,(Qvg a onto obs marked (Qdx a obs + 1 - s.1) s.1 s.2).2,0)) ?_ Qbs (0,[⟨0,0,[]⟩]) _ ?_ ?_
 ·rintro k ⟨i,L⟩ ⟨q,c⟩ ⟨hN,hi,rfl,hK⟩ ih
  have hNlen : L.length ≤ Qdx a obs:=hN.len
  dsimp only at hi hK ⊢
  by_cases hlt : i < L.length
  ·have hd : L.drop i = L[i] :: L.drop (i + 1):=List.drop_eq_getElem_cons hlt
   have hxg : L[i]? = some L[i]:=List.getElem?_eq_getElem hlt
   generalize L[i] = x at hd hxg
   have hxm:=hN.rg x (List.mem_of_getElem? hxg)
   have hwl:=hN.wl i x hxg
   have hq : ((L.drop i).map Qcz).length = L.length - i:=by rw [List.length_map,List.length_drop]
   rw [if_pos (by rw [hq]; omega)]
   have hg0 : getO ((L.drop i).map Qcz) 0 = some (Qcz x):=by rw [hd]; rfl
   rw [hg0]
   simp only [Option.bind_some]
   rw [show Qdx a obs + 1 - i = (Qdx a obs - i) + 1 from by omega]
   simp only [Qvg,hxg]
   have hgoal : (if ((Qcz x).done_ == (obs.length : Int)) then (if marked then ((Qbi a.Marked (Qcz x).state_).bind fun x23=>some x23) else some true) else some false) = some (Qbcg a obs marked x):=by
    simp only [Qcz,Qbcg]
    rw [Qkb hmb]
    by_cases e1 : x.done_ = (obs.length : Int) <;> cases marked <;> simp [e1]
   rw [hgoal]
   simp only [Option.bind_some]
   by_cases hgp : Qbcg a obs marked x = true
   ·rw [if_pos hgp,if_pos hgp,hK.get x (List.mem_of_getElem? hxg)]
   ·rw [if_neg hgp,if_neg hgp,show getO (obsP a onto).out_ (Qcz x).state_ = some (outP a x.state_) from Qbhm hxm.1]
    simp only [Option.bind_some]
    have hto : ∀ y ∈ outP a x.state_,(0 ≤ y.To ∧ y.To < a.States) ∧ y.Event ∈ a.Alphabet:=fun y hy=>by
     have:=h.ed0 y (List.mem_filter.1 hy).1; exact ⟨this.2.2.1 |> fun h=>⟨h,this.2.2.2.1⟩,this.2.2.2.2⟩
    have hol : (outP a x.state_).length ≤ 131072:=Nat.le_trans (List.length_filter_le _ _) hsm.2.2.2
    refine Qor (S:=Nat × List Qn) (fun s y=>Nodes a obs.length s.2 ∧ L <+: s.2 ∧ s.1 ≤ (outP a x.state_).length ∧ KW s.2 y.2.2 ∧ y.1 = (s.2.drop i).map Qcz ∧ y.2.1 = (s.1 : Int) ∧ ((outP a x.state_).drop s.1).foldl (addN onto obs x) s.2 = (outP a x.state_).foldl (addN onto obs x) L) (fun s=>(outP a x.state_).length - s.1)
     (fun s r=>r = some ((Qvg a onto obs marked (Qdx a obs - i) (i + 1) ((outP a x.state_).foldl (addN onto obs x) L)).1,(Qvg a onto obs marked (Qdx a obs - i) (i + 1) ((outP a x.state_).foldl (addN onto obs x) L)).2,0)) ?_ Qbs (0,L) _ ⟨hN,List.prefix_refl L,Nat.zero_le _,hK,rfl,rfl,rfl⟩ (by simp only; unfold Qbs; omega)
    ·rintro k2 ⟨n,M⟩ ⟨q,_,c⟩ ⟨hM,hLM,hn,hKM,rfl,rfl,hfold⟩ ih2
     have hMlen : M.length ≤ Qdx a obs:=hM.len
     have hxM:=Qm3 hLM hxg
     have hiM : i < M.length:=(List.getElem?_eq_some_iff.1 hxM).1
     dsimp only at hn hKM hfold ⊢
     by_cases hln : n < (outP a x.state_).length
     ·rw [if_pos (by omega),Qcw hln]
      simp only [Option.bind_some]
      rw [List.drop_eq_getElem_cons hln,List.foldl_cons] at hfold
      have hy:=hto _ (List.getElem_mem hln)
      generalize (outP a x.state_)[n] = y at hy hfold ⊢
      rw [Qkb (by unfold big; rw [show (obsP a onto).kept_ = Qoq a onto from rfl]; omega),show (obsP a onto).kept_ = Qoq a onto from rfl,Qbd1 hy.2]
      simp only [Option.bind_some]
      rw [Qb2 (by omega)]
      -- what is done with the next place
      have hJ : ∀ d,Q7v onto obs x.done_ y.Event = some d →
        ((if (hasM c (Qg.mk y.To d)) then some ((M.drop i).map Qcz,c,y.From,y.Event,y.To,y.To,d) else ((Qd0 (getM c (Qcz x) [])).bind fun x46=>((appO x46 [y.Event]).bind fun x47=>((appO ((M.drop i).map Qcz) [(Qg.mk y.To d)]).bind fun x49=>some (x49,(setM c (Qg.mk y.To d) x47),y.From,y.Event,y.To,y.To,d))))).bind fun ((l52,c53,c54,c55,c56,q57,q58) : (List Qg) × (List (Qg × (List Int))) × Int × Int × Int × Int × Int)=>k2 (l52,((n + 1 : Nat) : Int),c53)) =
        some ((Qvg a onto obs marked (Qdx a obs - i) (i + 1) ((outP a x.state_).foldl (addN onto obs x) L)).1,(Qvg a onto obs marked (Qdx a obs - i) (i + 1) ((outP a x.state_).foldl (addN onto obs x) L)).2,0):=by
       intro d hdd
       obtain ⟨hA1,hA2⟩:=hM.add (onto:=onto) rfl hxM hy.1
       have hadd : addN onto obs x M y = if (M.any fun z=>decide (Qcz z = ⟨y.To,d⟩)) then M else M ++ [⟨y.To,d,x.word_ ++ [y.Event]⟩]:=by
        unfold addN; rw [hdd]
       rw [hKM.has]
       by_cases hany : (M.any fun z=>decide (Qcz z = ⟨y.To,d⟩)) = true
       ·rw [if_pos hany] at hadd
        rw [if_pos hany]
        simp only [Option.bind_some]
        rw [hadd] at hfold
        exact ih2 (n + 1,M) _ ⟨hM,hLM,by simp only; omega,hKM,rfl,rfl,hfold⟩ (by simp only; omega)
       ·rw [if_neg hany] at hadd
        rw [if_neg hany,hKM.get x (List.mem_of_getElem? hxM),Qbgi (by unfold lim; omega)]
        simp only [Option.bind_some]
        rw [Qdj (by simp only [List.length_cons,List.length_nil]; unfold lim; omega)]
        simp only [Option.bind_some]
        rw [Qdj (by rw [List.length_map,List.length_drop]; simp only [List.length_cons,List.length_nil]; unfold lim; omega)]
        simp only [Option.bind_some]
        rw [hadd] at hA1 hA2 hfold
        have hKA:=hKM.add (a:=a) (n:=obs.length) ⟨y.To,d,x.word_ ++ [y.Event]⟩ (by simpa [Qcz] using hany)
        refine ih2 (n + 1,M ++ [⟨y.To,d,x.word_ ++ [y.Event]⟩]) _ ⟨hA1,hLM.trans hA2,by simp only; omega,hKA,?_,rfl,hfold⟩ (by simp only; omega)
        simp only [List.drop_append_of_le_length (Nat.le_of_lt hiM),List.map_append,List.map_cons,List.map_nil]
        rfl
      unfold letJ
      by_cases hev : y.Event ∈ onto
      ·simp only [hev,decide_true,if_true]
       have htest:=Q85 (obs:=obs) (d:=x.done_) (e:=y.Event) ⟨hxm.2.1,hxm.2.2⟩
       rw [show (Qcz x).done_ = x.done_ from rfl,htest]
       simp only [Option.bind_some]
       by_cases hc : x.done_ = obs.length ∨ getO obs x.done_ ≠ some y.Event
       ·rw [if_pos (by simpa using hc)]
        simp only [Option.bind_some]
        have hadd : addN onto obs x M y = M:=by
         unfold addN Q7v; rw [if_pos hev,if_pos hc]
        rw [hadd] at hfold
        exact ih2 (n + 1,M) _ ⟨hM,hLM,by simp only; omega,hKM,rfl,rfl,hfold⟩ (by simp only; omega)
       ·rw [if_neg (by simpa using hc),Q0f (by omega) (by omega)]
        exact hJ (x.done_ + 1) (by unfold Q7v; rw [if_pos hev,if_neg hc])
      ·simp only [hev,decide_false,Bool.false_eq_true,if_false]
       exact hJ x.done_ (by unfold Q7v; rw [if_neg hev])
     ·rw [if_neg (by omega)]
      have hdn : (outP a x.state_).drop n = []:=List.drop_eq_nil_of_le (by omega)
      rw [hdn] at hfold
      have hfold : M = (outP a x.state_).foldl (addN onto obs x) L:=hfold
      subst hfold
      have hdd : ((((outP a x.state_).foldl (addN onto obs x) L).drop i).map Qcz) = Qcz x :: (((outP a x.state_).foldl (addN onto obs x) L).drop (i + 1)).map Qcz:=by
       rw [List.drop_eq_getElem_cons hiM]
       have : ((outP a x.state_).foldl (addN onto obs x) L)[i] = x:=by
        rw [List.getElem?_eq_getElem hiM] at hxM; exact Option.some.inj hxM
       rw [List.map_cons,this]
      rw [hdd]
      unfold slcO
      rw [if_pos ⟨by decide,by simp only [List.length_cons]; omega,Int.le_refl _⟩]
      simp only [Option.bind_some]
      rw [show Qdx a obs - i = Qdx a obs + 1 - (i + 1) from by omega]
      refine ih (i + 1,_) _ ⟨hM,by simp only; omega,?_,hKM⟩ (by simp only; omega)
      simp only [Int.toNat_natCast,List.take_length]
      rfl
  ·rw [if_neg (by rw [List.length_map,List.length_drop]; omega)]
   have : i = L.length:=by omega
   rw [show Qdx a obs + 1 - i = (Qdx a obs - i) + 1 from by omega]
   simp only [Qvg]
   rw [List.getElem?_eq_none (by omega)]
 ·refine ⟨⟨fun z hz=>?_,by simp,fun j z hz=>?_⟩,Nat.zero_le _,rfl,?_⟩
  ·simp at hz; subst hz; simp only; omega
  ·have hj:=(List.getElem?_eq_some_iff.1 hz).1
   simp at hj; subst hj; simp at hz; subst hz; simp
  ·refine ⟨fun p=>?_,fun z hz=>?_⟩
   ·rw [Q7t]
    have e : hasM ([] : List (Qg × List Int)) p = false:=rfl
    rw [e,Bool.or_false]
    simp only [List.any_cons,List.any_nil,Bool.or_false]
    exact decide_eq_decide.2 ⟨fun e=>e.symm,fun e=>e.symm⟩
   ·simp at hz; subst hz
    rw [Q7u]; simp [Qcz]
 ·simp only; unfold Qbs; omega
end Go.Abs
end
section
namespace Go.Abs
open Go
set_option linter.unusedSimpArgs false
set_option linter.unusedVariables false
theorem bytes_beq (a b : ByteArray) : (a == b) = decide (a = b):=by
 cases a; cases b
 rw [Bool.eq_iff_iff]
 simp only [decide_eq_true_eq,ByteArray.mk.injEq]
 exact beq_iff_eq (α:=Array UInt8)
theorem Qvj {x y : Int} (hx : 0 ≤ x ∧ x < 256) (hy : 0 ≤ y ∧ y < 256) (h : x.toNat.toUInt8 = y.toNat.toUInt8) : x = y:=by
 have:=congrArg UInt8.toNat h
 simp only [Nat.toUInt8,UInt8.toNat_ofNat'] at this
 omega
theorem Q5w {r : Int} (h0 : 1 ≤ r) (h1 : r ≤ 50000) :
  (r ≤ 127 ∧ Lib.encodeRuneZ r = [r]) ∨ (128 ≤ r ∧ r ≤ 2047 ∧ Lib.encodeRuneZ r = [192 + r / 64,128 + r % 64]) ∨ (2048 ≤ r ∧ Lib.encodeRuneZ r = [224 + r / 4096,128 + r / 64 % 64,128 + r % 64]):=by
 by_cases h2 : r ≤ 127
 ·exact .inl ⟨h2,Lib.encodeRuneZ_one (by omega) h2⟩
 ·by_cases h3 : r ≤ 2047
  ·exact .inr (.inl ⟨by omega,h3,Lib.encodeRuneZ_two (by omega) h3⟩)
  ·exact .inr (.inr ⟨by omega,Lib.encodeRuneZ_three (.inl ⟨by omega,by omega⟩)⟩)
theorem Qbd2 {r q : Int} (hr : 1 ≤ r ∧ r ≤ 50000) (hq : 1 ≤ q ∧ q ≤ 50000) {s t : List UInt8} (h : Lib.encodeRune r ++ s = Lib.encodeRune q ++ t) : r = q ∧ s = t:=by
 unfold Lib.encodeRune at h
 rcases Q5w hr.1 hr.2 with ⟨a1,a2⟩ | ⟨a0,a1,a2⟩ | ⟨a1,a2⟩ <;> rcases Q5w hq.1 hq.2 with ⟨b1,b2⟩ | ⟨b0,b1,b2⟩ | ⟨b1,b2⟩ <;> rw [a2,b2] at h <;>
  simp only [List.map_cons,List.map_nil,List.cons_append,List.nil_append,List.cons.injEq] at h
 ·exact ⟨Qvj (by omega) (by omega) h.1,h.2⟩
 ·have:=Qvj (by omega) (by omega) h.1; omega
 ·have:=Qvj (by omega) (by omega) h.1; omega
 ·have:=Qvj (by omega) (by omega) h.1; omega
 ·have e1:=Qvj (by omega) (by omega) h.1
  have e2:=Qvj (by omega) (by omega) h.2.1
  exact ⟨by omega,h.2.2⟩
 ·have:=Qvj (by omega) (by omega) h.1; omega
 ·have:=Qvj (by omega) (by omega) h.1; omega
 ·have:=Qvj (by omega) (by omega) h.1; omega
 ·have e1:=Qvj (by omega) (by omega) h.1
  have e2:=Qvj (by omega) (by omega) h.2.1
  have e3:=Qvj (by omega) (by omega) h.2.2.1
  exact ⟨by omega,h.2.2.2⟩
theorem Qbbh (r : Int) : Lib.encodeRune r ≠ []:=by
 unfold Lib.encodeRune Lib.encodeRuneZ
 split
 ·simp
 ·split
  ·simp
  ·split
   ·simp
   ·split <;> simp
theorem Qbdd : ∀ {l m : List Int},(∀ x ∈ l,0 ≤ x ∧ x < 50000) → (∀ x ∈ m,0 ≤ x ∧ x < 50000) → (l.flatMap fun x=>Lib.encodeRune (x + 1)) = (m.flatMap fun x=>Lib.encodeRune (x + 1)) → l = m
 | [],[],_,_,_=>rfl
 | [],y :: m,_,_,h=>by
  simp only [List.flatMap_nil,List.flatMap_cons] at h
  exact absurd (List.append_eq_nil_iff.1 h.symm).1 (Qbbh _)
 | x :: l,[],_,_,h=>by
  simp only [List.flatMap_nil,List.flatMap_cons] at h
  exact absurd (List.append_eq_nil_iff.1 h).1 (Qbbh _)
 | x :: l,y :: m,hl,hm,h=>by
  simp only [List.flatMap_cons] at h
  have hx:=hl x (by simp); have hy:=hm y (by simp)
  obtain ⟨h1,h2⟩:=Qbd2 ⟨by omega,by omega⟩ ⟨by omega,by omega⟩ h
  rw [Qbdd (fun z hz=>hl z (by simp [hz])) (fun z hz=>hm z (by simp [hz])) h2,show x = y from by omega]
theorem Qbde {l m : List Int} (hl : ∀ x ∈ l,0 ≤ x ∧ x < 50000) (hm : ∀ x ∈ m,0 ≤ x ∧ x < 50000) (h : keyB l = keyB m) : l = m:=by
 unfold keyB at h
 have h:=congrArg (fun b : ByteArray=>b.data.toList) h
 simp only [List.toList_toArray] at h
 exact Qbdd hl hm h
structure KM (S : List (List Int)) (c : List (ByteArray × Int)) : Prop where
 has : ∀ n,(∀ x ∈ n,0 ≤ x ∧ x < 50000) → hasM c (keyB n) = decide (n ∈ S)
 get : ∀ n ∈ S,getM c (keyB n) 0 = (S.idxOf n : Int)
 rg : ∀ n ∈ S,∀ x ∈ n,0 ≤ x ∧ x < 50000
theorem Qbbi {β : Type} {v : β} {k k' : ByteArray} : ∀ {m : List (ByteArray × β)},hasM (setM m k v) k' = (decide (k' = k) || hasM m k')
 | []=>by simp [setM,hasM,bytes_beq]
 | (q,w) :: m=>by
  have ih:=Qbbi (v:=v) (k:=k) (k':=k') (m:=m)
  simp only [setM]
  by_cases h : k = q
  ·subst h
   simp only [bytes_beq,decide_true,if_true,Qyq]
   by_cases h2 : k' = k <;> simp [h2,bytes_beq]
  ·simp only [bytes_beq,h,decide_false,Bool.false_eq_true,if_false,Qyq]
   rw [ih]
   cases decide (k' = q) <;> cases decide (k' = k) <;> rfl
theorem Qbbj {β : Type} {z v : β} {k k' : ByteArray} : ∀ {m : List (ByteArray × β)},getM (setM m k v) k' z = if k' = k then v else getM m k' z
 | []=>by simp [setM,getM,bytes_beq]
 | (q,w) :: m=>by
  have ih:=Qbbj (z:=z) (v:=v) (k:=k) (k':=k') (m:=m)
  simp only [setM]
  by_cases h : k = q
  ·subst h
   simp only [bytes_beq,decide_true,if_true,getM]
   by_cases h2 : k' = k
   ·subst h2; simp
   ·simp [h2]
  ·simp only [bytes_beq,h,decide_false,Bool.false_eq_true,if_false,getM]
   by_cases h2 : k' = q
   ·subst h2
    have : ¬ k' = k:=fun e=>h e.symm
    simp [this]
   ·simp only [h2,decide_false,Bool.false_eq_true,if_false,ih]
theorem KM.add {S : List (List Int)} {c : List (ByteArray × Int)} (h : KM S c) {n : List Int} (hn : ∀ x ∈ n,0 ≤ x ∧ x < 50000) (hm : n ∉ S) : KM (S ++ [n]) (setM c (keyB n) (S.length : Int)):=by
 refine ⟨fun m hm'=>?_,fun m hm'=>?_,fun m hm'=>?_⟩
 ·rw [Qbbi,h.has m hm',← Bool.decide_or]
  apply decide_eq_decide.2
  rw [List.mem_append,List.mem_singleton]
  constructor
  ·rintro (e | e)
   ·exact .inr (Qbde hm' hn e)
   ·exact .inl e
  ·rintro (e | e)
   ·exact .inr e
   ·exact .inl (by rw [e])
 ·rw [Qbbj]
  rw [List.mem_append,List.mem_singleton] at hm'
  rcases hm' with hm' | rfl
  ·rw [if_neg (fun e=>hm (by rw [← Qbde (h.rg m hm') hn e]; exact hm')),h.get m hm',List.idxOf_append,if_pos hm']
  ·rw [if_pos rfl,List.idxOf_append,if_neg hm]; simp
 ·rw [List.mem_append,List.mem_singleton] at hm'
  rcases hm' with hm' | rfl
  ·exact h.rg m hm'
  ·exact hn
end Go.Abs
end
section
namespace Go.Abs
open Go
set_option linter.unusedSimpArgs false
set_option linter.unusedVariables false
def insL (o : List (List Int)) (t : List Int) : List (List Int) := if t ∈ o then o else o ++ [t]
noncomputable def Qbi4 (a : Qb) (onto est : List Int) (l : List Int) : List (Int × List Int) := l.filterMap fun x => if Qbhn a onto est x = [] then none else some (x, Qbhn a onto est x)
def Qbgj (S : List (List Int)) (row : List (Int × List Int)) : List (List Int) := row.foldl (fun o p => insL o p.2) S
theorem Qbhp {o : List (List Int)} {t x : List Int} : x ∈ insL o t ↔ x ∈ o ∨ x = t := by
  unfold insL; split
  · rename_i h
    exact ⟨.inl, fun e => e.elim id fun e => by rw [e]; exact h⟩
  · simp
theorem Qbd3 {o : List (List Int)} (h : o.Nodup) (t : List Int) : (insL o t).Nodup := by
  unfold insL; split
  · exact h
  · rename_i hn
    rw [List.nodup_append]
    exact ⟨h, by simp, fun x hx y hy e => by simp at hy; subst hy; subst e; exact hn hx⟩
theorem Q7x : ∀ (row : List (Int × List Int)) {S : List (List Int)}, S.Nodup → (Qbgj S row).Nodup
  | [], S, h => h
  | p :: row, S, h => Q7x row (Qbd3 h p.2)
theorem Qbbk : ∀ (row : List (Int × List Int)) (S : List (List Int)) (x : List Int), x ∈ Qbgj S row ↔ x ∈ S ∨ ∃ p ∈ row, p.2 = x
  | [], S, x => by simp [Qbgj]
  | p :: row, S, x => by
    show x ∈ Qbgj (insL S p.2) row ↔ _
    rw [Qbbk row, Qbhp]
    simp only [List.mem_cons, exists_eq_or_imp]
    constructor
    · rintro ((h | h) | h)
      · exact .inl h
      · exact .inr (.inl h.symm)
      · exact .inr (.inr h)
    · rintro (h | h | h)
      · exact .inl (.inl h)
      · exact .inl (.inr h.symm)
      · exact .inr h
theorem Qbgk {a : Qb} {onto est l : List Int} {p : Int × List Int} : p ∈ Qbi4 a onto est l ↔ p.1 ∈ l ∧ p.2 = Qbhn a onto est p.1 ∧ p.2 ≠ [] := by
  obtain ⟨x, n⟩ := p
  simp only [Qbi4, List.mem_filterMap]
  constructor
  · rintro ⟨y, hy, h⟩
    split at h
    · cases h
    · rename_i hne
      cases h; exact ⟨hy, rfl, hne⟩
  · rintro ⟨h1, h2, h3⟩
    refine ⟨x, h1, ?_⟩
    subst h2
    rw [if_neg h3]
structure Ests (a : Qb) (S : List (List Int)) : Prop where
  nd : S.Nodup
  ok : ∀ s ∈ S, Sts a s ∧ s ≠ []
theorem Ests.grow {a : Qb} {S : List (List Int)} (h : Ests a S) (onto est l : List Int) : Ests a (Qbgj S (Qbi4 a onto est l)) := by
  refine ⟨Q7x _ h.nd, fun s hs => ?_⟩
  rcases (Qbbk _ _ _).1 hs with hs | ⟨p, hp, rfl⟩
  · exact h.ok s hs
  · obtain ⟨_, h2, h3⟩ := Qbgk.1 hp
    exact ⟨by rw [h2]; exact Qbgf _ _ _ _, h3⟩
theorem Sts.lt {a : Qb} (h : Right a) {l : List Int} (hl : Sts a l) : ∀ x ∈ l, 0 ≤ x ∧ x < 50000 := fun x hx => by
  have := hl.rg x hx; have := h.st; omega
end Go.Abs
end
section
namespace Go.Abs
open Go
set_option linter.unusedSimpArgs false
set_option linter.unusedVariables false
end Go.Abs
end
section
namespace Go.Abs
open Go
set_option linter.unusedSimpArgs false
set_option linter.unusedVariables false
section
variable {a b : Qb} {φ : Int → Int} (ha : Right a) (hb : Right b) (h : Like a b φ)
include ha hb h
end
end Go.Abs
end
section
namespace Go.Abs
open Go
set_option linter.unusedSimpArgs false
set_option linter.unusedVariables false
def Qbju (b : Qb) (onto : List Int) : Prop:=∀ x ∈ b.Edges,x.Event ∉ onto → x.To = x.From
section
variable {b : Qb} (hb : Right b) {onto : List Int} (hs : Qbju b onto)
include hb hs
end
end Go.Abs
end
section
namespace Go.Abs
open Go
set_option linter.unusedSimpArgs false
set_option linter.unusedVariables false
theorem Qbjv {a : Qb} (h : Right a) (s : Int) : outP a s = (a.Alphabet.filter fun e=>decide (0 ≤ Qgd a s e)).map fun e=>⟨s,e,Qgd a s e⟩:=by
 rw [← Qvf h s,List.map_map]
 conv=>lhs; rw [← List.map_id (outP a s)]
 refine List.map_congr_left fun x hx=>?_
 have hf : x.From = s:=by unfold outP at hx; simp at hx; exact hx.2
 have hst:=Q7n h hx
 simp only [Function.comp,hst]
 rw [← hf]; rfl
section
variable {b : Qb} (hb : Right b) {onto : List Int} (hs : Qbju b onto)
include hb hs
end
end Go.Abs
end
section
namespace Go.Abs
open Go
set_option linter.unusedSimpArgs false
set_option linter.unusedVariables false
theorem has7 {l : List Int} {v : Int} (hl : l.length < big) : Qem l v = some (decide (v ∈ l)):=Qbc9 hl
def addE (a : Qb) (onto obs : List Int) (x : Qn) (L : List Qn) (e : Int) : List Qn :=
 if 0 ≤ Qgd a x.state_ e then addN onto obs x L ⟨x.state_,e,Qgd a x.state_ e⟩ else L
theorem Qbbl (a : Qb) (onto obs : List Int) (x : Qn) : ∀ (l : List Int) (L : List Qn),l.foldl (addE a onto obs x) L = ((l.filter fun e=>decide (0 ≤ Qgd a x.state_ e)).map fun e=>(⟨x.state_,e,Qgd a x.state_ e⟩ : Qe)).foldl (addN onto obs x) L
 | [],L=>rfl
 | e :: l,L=>by
  rw [List.foldl_cons,Qbbl a onto obs x l]
  unfold addE
  by_cases h : 0 ≤ Qgd a x.state_ e
  ·rw [if_pos h,List.filter_cons_of_pos (by simpa using h)]; rfl
  ·rw [if_neg h,List.filter_cons_of_neg (by simpa using h)]
theorem Qbd4 {a : Qb} (h : Right a) {onto obs : List Int} (hon : EvSet onto) (ho : obs.length ≤ 1000) (marked : Bool) (h0 : 0 < a.States) :
  Qc0 a onto obs marked = some (Qvg a onto obs marked (Qdx a obs + 1) 0 [⟨0,0,[]⟩]):=by
 have hsm:=h.small
 have hNl:=Q7w h ho
 have hob : onto.length < big:=by have:=hon.len; unfold big; omega
 have hmb : a.Marked.length < big:=by unfold big; omega
 unfold Qc0 Qbu
 rw [if_pos (by omega),Qdj (by simp only [List.length_cons,List.length_nil]; unfold lim; omega)]
 simp only [Option.bind_some,List.nil_append]
 refine Qor (S:=Nat × List Qn) (fun s x=>Nodes a obs.length s.2 ∧ s.1 ≤ s.2.length ∧ x = (s.2,(s.1 : Int))) (fun s=>Qdx a obs + 1 - s.1)
  (fun s r=>r = some (Qvg a onto obs marked (Qdx a obs + 1 - s.1) s.1 s.2)) ?_ Qbs (0,[⟨0,0,[]⟩]) _ ⟨⟨fun z hz=>?_,by simp,fun j z hz=>?_⟩,Nat.zero_le _,rfl⟩ ?_
 ·rintro k ⟨i,L⟩ _ ⟨hN,hi,rfl⟩ ih
  have hNlen : L.length ≤ Qdx a obs:=hN.len
  dsimp only at hi ⊢
  by_cases hlt : i < L.length
  ·have hxg : L[i]? = some L[i]:=List.getElem?_eq_getElem hlt
   rw [if_pos (by omega),Qcw hlt]
   generalize L[i] = x at hxg ⊢
   have hxm:=hN.rg x (List.mem_of_getElem? hxg)
   have hwl:=hN.wl i x hxg
   simp only [Option.bind_some]
   rw [show Qdx a obs + 1 - i = (Qdx a obs - i) + 1 from by omega]
   simp only [Qvg,hxg]
   have hgoal : (if (x.done_ == (obs.length : Int)) then (if marked then ((Qem a.Marked x.state_).bind fun x20=>some x20) else some true) else some false) = some (Qbcg a obs marked x):=by
    simp only [Qbcg]
    rw [has7 hmb]
    by_cases e1 : x.done_ = (obs.length : Int) <;> cases marked <;> simp [e1]
   rw [hgoal]
   simp only [Option.bind_some]
   by_cases hgp : Qbcg a obs marked x = true
   ·rw [if_pos hgp,if_pos hgp]
   ·rw [if_neg hgp,if_neg hgp]
    have hfo : (outP a x.state_).foldl (addN onto obs x) L = a.Alphabet.foldl (addE a onto obs x) L:=by rw [Qbbl,← Qbjv h]
    rw [hfo]
    refine Qor (S:=Nat × List Qn) (fun s y=>Nodes a obs.length s.2 ∧ L <+: s.2 ∧ s.1 ≤ a.Alphabet.length ∧ y = (s.2,(s.1 : Int)) ∧ (a.Alphabet.drop s.1).foldl (addE a onto obs x) s.2 = a.Alphabet.foldl (addE a onto obs x) L) (fun s=>a.Alphabet.length - s.1)
     (fun s r=>r = some (Qvg a onto obs marked (Qdx a obs - i) (i + 1) (a.Alphabet.foldl (addE a onto obs x) L))) ?_ Qbs (0,L) _ ⟨hN,List.prefix_refl L,Nat.zero_le _,rfl,rfl⟩ (by simp only; unfold Qbs; omega)
    ·rintro k2 ⟨n,M⟩ _ ⟨hM,hLM,hn,rfl,hfold⟩ ih2
     have hMlen : M.length ≤ Qdx a obs:=hM.len
     have hxM:=Qm3 hLM hxg
     have hiM : i < M.length:=(List.getElem?_eq_some_iff.1 hxM).1
     have hgM : getO M (i : Int) = some x:=by rw [Qon]; exact ⟨by omega,by simpa using hxM⟩
     dsimp only at hn hfold ⊢
     by_cases hln : n < a.Alphabet.length
     ·rw [if_pos (by omega),Qcw hln]
      simp only [Option.bind_some]
      rw [List.drop_eq_getElem_cons hln,List.foldl_cons] at hfold
      generalize a.Alphabet[n] = e at hfold ⊢
      rw [hgM]
      simp only [Option.bind_some]
      rw [Q5j hsm.1,has7 hob]
      simp only [Option.bind_some]
      rw [Qb2 (by omega)]
      generalize ht : Qgd a x.state_ e = t
      have htr : t = -1 ∨ (0 ≤ t ∧ t < a.States):=by
       rcases Q7m h x.state_ e with hr | hr
       ·left; omega
       ·right; omega
      have hseen : ∀ d,Qcp (fun (k48 : Bool × Int → Option Bool) ((seen46,m47) : Bool × Int)=>(if (m47 < (M.length : Int)) then (((if seen46 then some true else ((getO M m47).bind fun x51=>(if (x51.state_ == t) then ((getO M m47).bind fun x54=>some (x54.done_ == d)) else some false)))).bind fun (seen56 : Bool)=>k48 (seen56,(IntKind.wrap .i64 (m47 + 1)))) else some seen46)) Qbs (decide (t < 0),0) = some (decide (t < 0) || M.any fun z=>decide (Qcz z = ⟨t,d⟩)):=by
       intro d
       refine (Qk3 (len:=M.length) (fun j (s : Bool)=>(s,(j : Int))) (fun j s=>s = (decide (t < 0) || (M.take j).any fun z=>decide (Qcz z = ⟨t,d⟩))) (fun j s=>some (decide (t < 0) || M.any fun z=>decide (Qcz z = ⟨t,d⟩))) ?_ ?_ Qbs 0 _ (Nat.zero_le _) (by unfold Qbs; omega) (by simp))
       ·rintro k j s hj rfl ih
        dsimp only
        rw [if_pos (by omega),Qcw hj]
        simp only [Option.bind_some]
        rw [Qb2 (by omega)]
        have htk : (M.take (j + 1)).any (fun z=>decide (Qcz z = ⟨t,d⟩)) = ((M.take j).any (fun z=>decide (Qcz z = ⟨t,d⟩)) || decide (Qcz M[j] = ⟨t,d⟩)):=by
         rw [List.take_succ_eq_append_getElem hj,List.any_append]; simp
        refine Q7s (x:=(decide (t < 0) || (M.take (j + 1)).any fun z=>decide (Qcz z = ⟨t,d⟩))) ?_ (ih _ rfl)
        rw [htk]
        generalize (M.take j).any (fun z=>decide (Qcz z = ⟨t,d⟩)) = b
        generalize M[j] = z
        by_cases hb : (decide (t < 0) || b) = true
        ·rw [if_pos hb]; rw [← Bool.or_assoc,hb]; rfl
        ·rw [if_neg hb,← Bool.or_assoc]
         simp only [Bool.not_eq_true] at hb
         rw [hb]
         by_cases h1 : z.state_ = t <;> by_cases h2 : z.done_ = d <;> simp [Qcz,h1,h2]
       ·rintro k s rfl
        dsimp only
        rw [if_neg (by omega),List.take_length]
      have hJ : ∀ d,Q7v onto obs x.done_ e = some d → (((Qcp (fun (k48 : Bool × Int → Option Bool) ((seen46,m47) : Bool × Int)=>(if (m47 < (M.length : Int)) then (((if seen46 then some true else ((getO M m47).bind fun x51=>(if (x51.state_ == t) then ((getO M m47).bind fun x54=>some (x54.done_ == d)) else some false)))).bind fun (seen56 : Bool)=>k48 (seen56,(IntKind.wrap .i64 (m47 + 1)))) else some seen46)) Qbs (decide (t < 0),0)).bind fun (seen57 : Bool)=>(if seen57 then some (M,t,d,[]) else ((appO [] x.word_).bind fun x61=>((appO x61 [e]).bind fun x63=>((appO M [(Qn.mk t d x63)]).bind fun x65=>some (x65,t,d,x63)))))).bind fun ((l68,next69,next70,next71) : (List Qn) × Int × Int × (List Int))=>k2 (l68,((n + 1 : Nat) : Int))) = some (Qvg a onto obs marked (Qdx a obs - i) (i + 1) (a.Alphabet.foldl (addE a onto obs x) L)):=by
       intro d hdd
       rw [hseen d]
       simp only [Option.bind_some]
       rcases htr with ht1 | ht1
       ·have hadd : addE a onto obs x M e = M:=by unfold addE; rw [ht,if_neg (by omega)]
        rw [if_pos (by simp; left; omega)]
        simp only [Option.bind_some]
        rw [hadd] at hfold
        exact ih2 (n + 1,M) _ ⟨hM,hLM,by simp only; omega,rfl,hfold⟩ (by simp only; omega)
       ·have hadd : addE a onto obs x M e = if (M.any fun z=>decide (Qcz z = ⟨t,d⟩)) then M else M ++ [⟨t,d,x.word_ ++ [e]⟩]:=by
         unfold addE addN; rw [ht,if_pos ht1.1,hdd]
        obtain ⟨hA1,hA2⟩:=hM.add (onto:=onto) (obs:=obs) rfl hxM (y:=⟨x.state_,e,t⟩) ht1
        have hadd2 : addN onto obs x M ⟨x.state_,e,t⟩ = addE a onto obs x M e:=by unfold addE; rw [ht,if_pos ht1.1]
        rw [hadd2] at hA1 hA2
        have hneg : decide (t < 0) = false:=by simp; omega
        rw [hneg,Bool.false_or]
        by_cases hany : (M.any fun z=>decide (Qcz z = ⟨t,d⟩)) = true
        ·rw [if_pos hany] at hadd
         rw [if_pos hany]
         simp only [Option.bind_some]
         rw [hadd] at hfold
         exact ih2 (n + 1,M) _ ⟨hM,hLM,by simp only; omega,rfl,hfold⟩ (by simp only; omega)
        ·rw [if_neg hany] at hadd
         rw [if_neg hany,Qdj (by simp only [List.length_nil]; unfold lim; omega)]
         simp only [Option.bind_some,List.nil_append]
         rw [Qdj (by simp only [List.length_cons,List.length_nil]; unfold lim; omega)]
         simp only [Option.bind_some]
         rw [Qdj (by simp only [List.length_cons,List.length_nil]; unfold lim; omega)]
         simp only [Option.bind_some]
         rw [hadd] at hA1 hA2 hfold
         exact ih2 (n + 1,M ++ [⟨t,d,x.word_ ++ [e]⟩]) _ ⟨hA1,hLM.trans hA2,by simp only; omega,rfl,hfold⟩ (by simp only; omega)
      unfold letJ
      by_cases hev : e ∈ onto
      ·simp only [hev,decide_true,if_true]
       have htest:=Q85 (obs:=obs) (d:=x.done_) (e:=e) ⟨hxm.2.1,hxm.2.2⟩
       rw [htest]
       simp only [Option.bind_some]
       by_cases hc : x.done_ = obs.length ∨ getO obs x.done_ ≠ some e
       ·rw [if_pos (by simpa using hc)]
        simp only [Option.bind_some]
        have hadd : addE a onto obs x M e = M:=by
         unfold addE addN Q7v
         split
         ·simp only [hev,hc,if_true]
         ·rfl
        rw [hadd] at hfold
        exact ih2 (n + 1,M) _ ⟨hM,hLM,by simp only; omega,rfl,hfold⟩ (by simp only; omega)
       ·rw [if_neg (by simpa using hc),Q0f (by omega) (by omega)]
        exact hJ (x.done_ + 1) (by unfold Q7v; rw [if_pos hev,if_neg hc])
      ·simp only [hev,decide_false,Bool.false_eq_true,if_false]
       exact hJ x.done_ (by unfold Q7v; rw [if_neg hev])
     ·rw [if_neg (by omega)]
      have hdn : a.Alphabet.drop n = []:=List.drop_eq_nil_of_le (by omega)
      rw [hdn] at hfold
      have hfold : M = a.Alphabet.foldl (addE a onto obs x) L:=hfold
      subst hfold
      rw [Qb2 (by omega),show Qdx a obs - i = Qdx a obs + 1 - (i + 1) from by omega]
      exact ih (i + 1,_) _ ⟨hM,by simp only; omega,rfl⟩ (by simp only; omega)
  ·rw [if_neg (by omega)]
   rw [show Qdx a obs + 1 - i = (Qdx a obs - i) + 1 from by omega]
   simp only [Qvg]
   rw [List.getElem?_eq_none (by omega)]
 ·simp at hz; subst hz; simp only; omega
 ·have hj:=(List.getElem?_eq_some_iff.1 hz).1
  simp at hj; subst hj; simp at hz; subst hz; simp
 ·simp only; unfold Qbs; omega
end Go.Abs
end
section
namespace Go.Abs
open Go
set_option linter.unusedSimpArgs false
set_option linter.unusedVariables false
theorem Qbd5 {a : Qb} (h : Right a) {onto : List Int} (ho : onto.length < big) : Qfg a onto = some (Qoq a onto):=by
 have hsm:=h.small
 unfold Qfg Qb4
 refine Q7s (x:=Qoq a onto) ?_ rfl
 refine (Qk3 (len:=a.Alphabet.length) (fun n (r : List Int)=>(r,(n : Int))) (fun n r=>r = (a.Alphabet.take n).filter fun x=>decide (x ∈ onto)) (fun n r=>some (Qoq a onto)) ?_ ?_ Qbs 0 _ (Nat.zero_le _) (by unfold Qbs; omega) (by simp))
 ·rintro k n r hn rfl ih
  dsimp only
  rw [if_pos (by omega),Qcw hn]
  have hfl : ((a.Alphabet.take n).filter fun x=>decide (x ∈ onto)).length ≤ 32:=Nat.le_trans (List.length_filter_le _ _) (by rw [List.length_take]; omega)
  have htk : ∀ e,a.Alphabet[n] = e → (a.Alphabet.take (n + 1)).filter (fun x=>decide (x ∈ onto)) = (a.Alphabet.take n).filter (fun x=>decide (x ∈ onto)) ++ [e].filter fun x=>decide (x ∈ onto):=by
   rintro e rfl
   rw [List.take_succ_eq_append_getElem hn,List.filter_append]
  have htk:=htk _ rfl
  generalize a.Alphabet[n] = e at htk ⊢
  simp only [Option.bind_some]
  rw [has7 ho]
  simp only [Option.bind_some]
  rw [Qb2 (by omega)]
  by_cases hx : e ∈ onto
  ·simp only [hx,decide_true,if_true]
   rw [Qdj (by simp only [List.length_cons,List.length_nil]; unfold lim; omega)]
   simp only [Option.bind_some]
   refine ih _ ?_
   rw [htk]; simp [hx]
  ·simp only [hx,decide_false,Bool.false_eq_true,if_false,Option.bind_some]
   refine ih _ ?_
   rw [htk]; simp [hx]
 ·rintro k r rfl
  dsimp only
  rw [if_neg (by omega),List.take_length]
  rfl
theorem Qbbm {a : Qb} (h : Right a) {onto obs : List Int} (hon : EvSet onto) (ho : obs.length ≤ 1000) (marked : Bool) (hk : (obs.all fun x=>decide (x ∈ Qoq a onto)) = false) : Qcd a onto obs marked = some ([],false,9):=by
 have hob : onto.length < big:=by have:=hon.len; unfold big; omega
 unfold Qcd Qbb
 rw [Q0h h hob,hon.err]
 simp only [Option.bind_some]
 rw [if_neg (by decide),Q5l h hob]
 simp only [Option.bind_some]
 rw [Q91 h (by unfold big; omega),hk]
 rfl
theorem Qbgl {a : Qb} (h : Right a) {onto obs : List Int} (hon : EvSet onto) (ho : obs.length ≤ 1000) (marked : Bool) (h0 : a.States = 0) (hk : (obs.all fun x=>decide (x ∈ Qoq a onto)) = true) : Qcd a onto obs marked = some ([],false,0):=by
 have hob : onto.length < big:=by have:=hon.len; unfold big; omega
 unfold Qcd Qbb
 rw [Q0h h hob,hon.err]
 simp only [Option.bind_some]
 rw [if_neg (by decide),Q5l h hob]
 simp only [Option.bind_some]
 rw [Q91 h (by unfold big; omega),hk]
 simp only [Option.bind_some,if_true]
 rw [if_pos (by simp [h0])]
theorem Qbbn {a : Qb} {onto obs : List Int} (marked : Bool) (h0 : a.States = 0) : Qc0 a onto obs marked = some ([],false):=by
 unfold Qc0 Qbu
 rw [if_neg (by omega)]
 simp only [Option.bind_some]
 obtain ⟨f,hf⟩ : ∃ f,Qbs = f + 1:=⟨1099511627775,rfl⟩
 rw [hf]
 rfl
theorem Qbbo {a : Qb} {onto obs : List Int} {marked : Bool} : ∀ (f i : Nat) (L : List Qn) (N : Nat),(∀ z ∈ L,0 ≤ z.state_ ∧ z.state_ < a.States) → Right a → Nodes a obs.length L → i ≤ L.length → (Qvg a onto obs marked f i L).1.length ≤ Qdx a obs
 | 0,_,_,_,_,_,_,_=>Nat.zero_le _
 | f + 1,i,L,N,hr,h,hN,hi=>by
  unfold Qvg
  cases hg : L[i]? with
  | none=>exact Nat.zero_le _
  | some x =>
   dsimp only
   have hlt:=(List.getElem?_eq_some_iff.1 hg).1
   have hl : L.length ≤ Qdx a obs:=hN.len
   split
   ·have:=hN.wl i x hg; simp only; omega
   ·obtain ⟨h1,h2⟩:=Nodes.fold (onto:=onto) (l:=outP a x.state_) rfl hN hg fun y hy=>by
     have:=h.ed0 y (List.mem_filter.1 hy).1; exact ⟨this.2.2.1,this.2.2.2.1⟩
    exact Qbbo f (i + 1) _ N (fun z hz=>(h1.rg z hz).1) h h1 (by have:=h2.length_le; omega)
theorem Qbch {a : Qb} (h0 : 0 < a.States) (n : Nat) : Nodes a n [⟨0,0,[]⟩]:=by
 refine ⟨fun z hz=>?_,by simp,fun j z hz=>?_⟩
 ·simp at hz; subst hz; simp only; omega
 ·have hj:=(List.getElem?_eq_some_iff.1 hz).1
  simp at hj; subst hj; simp at hz; subst hz; simp
theorem Qbgm {a : Qb} (h : Right a) {onto obs : List Int} (hon : EvSet onto) (ho : obs.length ≤ 1000) (marked : Bool) (hk : (obs.all fun x=>decide (x ∈ Qoq a onto)) = true) :
  ∃ w b,Qcd a onto obs marked = some (w,b,0) ∧ Qc0 a onto obs marked = some (w,b) ∧ w.length ≤ Qdx a obs:=by
 have hst:=h.st
 by_cases h0 : a.States = 0
 ·exact ⟨[],false,Qbgl h hon ho marked h0 hk,Qbbn marked h0,Nat.zero_le _⟩
 ·have hp : 0 < a.States:=by omega
  exact ⟨_,_,Qbi3 h hon ho marked hp hk,Qbd4 h hon ho marked hp,Qbbo _ 0 _ 0 (fun z hz=>by simp at hz; subst hz; simp only; omega) h (Qbch hp _) (Nat.zero_le _)⟩
theorem Qbdf (s : Int × Int) (g : Q1) (obs : List Int) (hs1 : 0 ≤ s.1 ∧ s.1 < 256) (hs2 : 0 ≤ s.2 ∧ s.2 < 256) (hg : Qbga g) : Qdl s g obs = some true:=by
 unfold Qdl Qcv
 rw [Qbgc]
 simp only [Option.bind_some,if_true]
 by_cases hl : obs.length ≤ 5
 ·rw [if_neg (by simp; omega)]
  obtain ⟨ev,hE,hev⟩:=Qbbb hs1.1 hs1.2
  obtain ⟨on,hE2,hon'⟩:=Qbbb hs2.1 hs2.2
  obtain ⟨m,hm,_,hM,_⟩:=Qbi2 hev hg
  have ha:=Qba9 hm
  have hon:=hon'.set
  rw [hE]
  simp only [Option.bind_some]
  rw [hM]
  simp only [Option.bind_some]
  rw [hE2]
  simp only [Option.bind_some]
  have hob : on.length < big:=by have:=hon.len; unfold big; omega
  rw [Qbd5 ha hob]
  simp only [Option.bind_some]
  generalize Q4q m = a at ha ⊢
  have hkl:=Q90 ha on
  have hnl:=Q7w ha (obs:=obs) (by omega)
  refine Q6b (fun i : Int=>∃ n : Nat,i = n ∧ n ≤ 2) (fun i=>2 - i.toNat) _ ⟨0,rfl,by omega⟩ (by simp only [Int.toNat_zero]; unfold Qbs; omega) ?_
  rintro k _ ⟨n,rfl,hn⟩ ih
  by_cases hn2 : n < 2
  ·rw [if_pos (by omega)]
   generalize ((n : Int) == 1) = marked
   by_cases hk : (obs.all fun x=>decide (x ∈ Qoq a on)) = true
   ·obtain ⟨w,b,h1,h2,h3⟩:=Qbgm ha hon (by omega) marked hk
    rw [h1]
    simp only [Option.bind_some]
    refine Q6b (fun i : Int=>∃ j : Nat,i = j ∧ j ≤ obs.length) (fun i=>obs.length - i.toNat) _ ⟨0,rfl,by omega⟩ (by simp only [Int.toNat_zero]; unfold Qbs; omega) ?_
    rintro k2 _ ⟨j,rfl,hj⟩ ih2
    by_cases hjl : j < obs.length
    ·rw [if_pos (by omega),Qcw hjl]
     simp only [Option.bind_some]
     rw [Qbh3 (by unfold big; omega)]
     have : obs[j] ∈ Qoq a on:=by have:=List.all_eq_true.1 hk _ (List.getElem_mem hjl); simpa using this
     simp only [Option.bind_some,this,decide_true,if_true]
     rw [Qb2 (by omega)]
     exact ih2 _ ⟨j + 1,rfl,by omega⟩ (by omega)
    ·rw [if_neg (by omega),h2]
     simp only [Option.bind_some]
     rw [Qbhj (by omega)]
     simp only [Option.bind_some,decide_true,if_true,beq_self_eq_true]
     rw [if_neg (by decide),Qb2 (by omega)]
     exact ih _ ⟨n + 1,rfl,by omega⟩ (by omega)
   ·simp only [Bool.not_eq_true] at hk
    rw [Qbbm ha hon (by omega) marked hk]
    simp only [Option.bind_some]
    have hex : ∃ x ∈ obs,x ∉ Qoq a on:=by
     have:=List.all_eq_false.1 hk
     simpa using this
    refine Q6b (fun i : Int=>∃ j : Nat,i = j ∧ j ≤ obs.length ∧ ∀ x ∈ obs.take j,x ∈ Qoq a on) (fun i=>obs.length - i.toNat) _ ⟨0,rfl,by omega,by simp⟩ (by simp only [Int.toNat_zero]; unfold Qbs; omega) ?_
    rintro k2 _ ⟨j,rfl,hj,hall⟩ ih2
    by_cases hjl : j < obs.length
    ·rw [if_pos (by omega),Qcw hjl]
     simp only [Option.bind_some]
     rw [Qbh3 (by unfold big; omega)]
     by_cases hx : obs[j] ∈ Qoq a on
     ·simp only [Option.bind_some,hx,decide_true,if_true]
      rw [Qb2 (by omega)]
      refine ih2 _ ⟨j + 1,rfl,by omega,fun x hxm=>?_⟩ (by omega)
      rw [List.take_succ_eq_append_getElem hjl,List.mem_append,List.mem_singleton] at hxm
      rcases hxm with hxm | rfl
      ·exact hall x hxm
      ·exact hx
     ·simp [hx]
    ·exfalso
     obtain ⟨x,hx,hnx⟩:=hex
     exact hnx (hall x (by rw [List.take_of_length_le (by omega)]; exact hx))
  ·rw [if_neg (by omega)]
 ·rw [if_pos (by simp; omega)]
end Go.Abs
end
