/-
  Part 7 of the proof: see the last text.
-/
import Derived.Test.YtdfiohnppomfgaaGreatP6
import Derived.KernelRfl
set_option linter.unusedVariables false
set_option linter.unusedSimpArgs false
set_option linter.unusedSectionVars false
section
namespace Go.Abs
open Go
def Qd3 (n : Int) : Option Int → List Int → Int
 | _,[]=>0
 | p,x :: xs=>if x < 0 ∨ x ≥ n then 2 else if ∃ y,p = some y ∧ x ≤ y then 5 else Qd3 n (some x) xs
def Qjc (al : List Int) (st : Int) : Option Qe → List Qe → Int
 | _,[]=>0
 | p,x :: xs=>if x.From < 0 ∨ x.From ≥ st ∨ x.To < 0 ∨ x.To ≥ st then 2 else if x.Event ∉ al then 9 else if ∃ y,p = some y ∧ (x.From < y.From ∨ x.From = y.From ∧ x.Event ≤ y.Event) then 5 else Qjc al st (some x) xs
def Qya (a : Qa) : Int :=
 if Qd3 32 none a.Alphabet ≠ 0 then Qd3 32 none a.Alphabet else if a.States < 0 then 2 else if a.States > 4096 then 3 else
 if Qd3 a.States none a.Marked ≠ 0 then Qd3 a.States none a.Marked else Qjc a.Alphabet a.States none a.Edges
def ahead {α : Type} (l : List α) (n : Nat) : Option α:=if n = 0 then none else l[n - 1]?
theorem Qoe {α : Type} (l : List α) : ahead l 0 = none:=rfl
theorem Qbdk {α : Type} (l : List α) {n : Nat} (h : n < l.length) : ahead l (n + 1) = some l[n]:=by simp [ahead,h]
theorem Qbbx {α : Type} (l : List α) {n : Nat} (h0 : 0 < n) (h : n ≤ l.length) : ahead l n = some (l[n - 1]'(by omega)):=by
 simp [ahead,show n ≠ 0 from by omega,show n - 1 < l.length from by omega]
theorem Q9y {n : Int} {l : List Int} {k : Nat} (h : k < l.length) : Qd3 n (ahead l k) (l.drop k) = if l[k] < 0 ∨ l[k] ≥ n then 2 else if ∃ y,ahead l k = some y ∧ l[k] ≤ y then 5 else Qd3 n (ahead l (k + 1)) (l.drop (k + 1)):=by
 rw [List.drop_eq_getElem_cons h,Qd3,Qbdk l h]
theorem Qben {al : List Int} {n : Int} {l : List Qe} {k : Nat} (h : k < l.length) : Qjc al n (ahead l k) (l.drop k) = if l[k].From < 0 ∨ l[k].From ≥ n ∨ l[k].To < 0 ∨ l[k].To ≥ n then 2 else if l[k].Event ∉ al then 9 else if ∃ y,ahead l k = some y ∧ (l[k].From < y.From ∨ l[k].From = y.From ∧ l[k].Event ≤ y.Event) then 5 else Qjc al n (ahead l (k + 1)) (l.drop (k + 1)):=by
 rw [List.drop_eq_getElem_cons h,Qjc,Qbdk l h]
theorem Q7n {l : List Int} {n : Int} (hl : l.length < big) : Qf7 l n = some (Qd3 n none l):=by
 unfold Qf7 Qb2
 refine (Qmg (len:=l.length) (fun k=>some (Qd3 n (ahead l k) (l.drop k))) (by unfold Qbc; unfold big at hl; omega) ?_ ?_).trans (by simp [Qoe])
 ·intro k i hi ih
  have hb : i < 1000000000000:=by unfold big at hl; omega
  rw [Q9y hi]
  try dsimp only
  rw [if_pos (by omega),Qbo hi,Qv (by omega),ih]
  simp only [Option.bind_some]
  by_cases h1 : l[i] < 0
  ·simp [h1]
  ·by_cases h2 : l[i] ≥ n
   ·simp [h1,h2]
   ·by_cases h0 : 0 < i
    ·rw [Qbbw h0 (by omega),Qbo (by omega : i - 1 < l.length),Qbbx l h0 (by omega)]
     by_cases h3 : l[i] ≤ l[i - 1] <;> simp [h1,h2,h3,h0]
    ·obtain rfl : i = 0:=by omega
     simp [h1,h2,Qoe]
 ·intro k; simp [Qd3]
theorem Qbi9 {l : List Int} {n : Int} (hl : l.length < big) : Qf8 l n = some (Qd3 n none l):=by
 unfold Qf8 Qcc
 refine (Qmg (len:=l.length) (fun k=>some (Qd3 n (ahead l k) (l.drop k))) (by unfold Qbc; unfold big at hl; omega) ?_ ?_).trans (by simp [Qoe])
 ·intro k i hi ih
  have hb : i < 1000000000000:=by unfold big at hl; omega
  rw [Q9y hi]
  try dsimp only
  rw [if_pos (by omega),Qbo hi,Qv (by omega),ih]
  simp only [Option.bind_some]
  by_cases h1 : l[i] < 0
  ·simp [h1]
  ·by_cases h2 : l[i] ≥ n
   ·simp [h1,h2]
   ·by_cases h0 : 0 < i
    ·rw [Qbbw h0 (by omega),Qbo (by omega : i - 1 < l.length),Qbbx l h0 (by omega)]
     by_cases h3 : l[i] ≤ l[i - 1] <;> simp [h1,h2,h3,h0]
    ·obtain rfl : i = 0:=by omega
     simp [h1,h2,Qoe]
 ·intro k; simp [Qd3]
theorem Qbm2 {l : List Int} {v : Int} (hl : l.length < big) : Qhh l v = some (if v ∈ l then (l.idxOf v : Int) else -1):=by
 unfold Qhh Qcz
 refine (Qmg (len:=l.length) (fun k=>some (if v ∈ l.drop k then ((k + (l.drop k).idxOf v : Nat) : Int) else -1)) (by unfold Qbc; unfold big at hl; omega) ?_ ?_).trans (by simp)
 ·intro k i hi ih
  have hb : i < 1000000000000:=by unfold big at hl; omega
  try dsimp only
  rw [if_pos (by omega),Qbo hi,Qv (by omega),ih,List.drop_eq_getElem_cons hi]
  simp only [Option.bind_some,List.mem_cons,List.idxOf_cons]
  by_cases h : v = l[i]
  ·simp [← h]
  ·have : ¬ l[i] = v:=fun e=>h e.symm
   have hbq : (l[i] == v) = false:=by simp [this]
   by_cases h2 : v ∈ l.drop (i + 1) <;> simp [h,h2,hbq]
   omega
 ·intro k; simp
theorem Qp0 {l : List Int} {v : Int} (hl : l.length < big) : Qbb l v = some (decide (v ∈ l)):=by
 unfold Qbb Qi
 rw [Qbm2 hl]
 simp only [Option.bind_some,Option.some.injEq]
 by_cases h : v ∈ l <;> simp [h]
theorem Qblq {l : List Int} {v : Int} (hl : l.length < big) : Qc7 l v = some (decide (v ∈ l)):=by
 unfold Qc7 Qbk
 refine (Qmg (len:=l.length) (fun k=>some (decide (v ∈ l.drop k))) (by unfold Qbc; unfold big at hl; omega) ?_ ?_).trans (by simp)
 ·intro k i hi ih
  have hb : i < 1000000000000:=by unfold big at hl; omega
  try dsimp only
  rw [if_pos (by omega),Qbo hi,Qv (by omega),ih,List.drop_eq_getElem_cons hi]
  simp only [Option.bind_some,List.mem_cons]
  by_cases h : l[i] = v
  ·simp [h]
  ·have : ¬ v = l[i]:=fun e=>h e.symm
   simp [h,this]
 ·intro k; simp
theorem Qbeo {a : Qa} (h : small a) : Qfb a = some (Qjc a.Alphabet a.States none a.Edges):=by
 obtain ⟨hal,_,hl⟩:=h
 unfold Qfb Qbz
 refine (Qmg (len:=a.Edges.length) (fun k=>some (Qjc a.Alphabet a.States (ahead a.Edges k) (a.Edges.drop k))) (by unfold Qbc; unfold big at hl; omega) ?_ ?_).trans (by simp [Qoe])
 ·intro k i hi ih
  have hb : i < 1000000000000:=by unfold big at hl; omega
  rw [Qben hi]
  unfold letJ
  try dsimp only
  rw [if_pos (by omega),Qbo hi,Qv (by omega),ih]
  simp only [Option.bind_some,Qp0 hal]
  generalize a.Edges[i] = x
  by_cases h1 : x.From < 0
  ·simp [h1]
  by_cases h2 : x.From ≥ a.States
  ·simp [h1,h2]
  by_cases h3 : x.To < 0
  ·simp [h1,h2,h3]
  by_cases h4 : x.To ≥ a.States
  ·simp [h1,h2,h3,h4]
  by_cases h5 : x.Event ∈ a.Alphabet
  ·by_cases h0 : 0 < i
   ·rw [Qbbw h0 (by omega),Qbo (by omega : i - 1 < a.Edges.length),Qbbx a.Edges h0 (by omega)]
    generalize a.Edges[i - 1] = y
    have hi0 : i ≠ 0:=by omega
    by_cases h6 : x.From < y.From
    ·simp [h1,h2,h3,h4,h5,h6,hi0]
    by_cases h7 : y.From = x.From
    ·by_cases h8 : x.Event ≤ y.Event <;> simp [h1,h2,h3,h4,h5,h6,h7,h8,hi0]
    ·have h7' : ¬ x.From = y.From:=fun e=>h7 e.symm
     simp [h1,h2,h3,h4,h5,h6,h7,hi0,h7']
   ·obtain rfl : i = 0:=by omega
    simp [h1,h2,h3,h4,h5,Qoe]
  ·simp [h1,h2,h3,h4,h5]
 ·intro k; unfold letJ; simp [Qjc]
theorem Qbif {a : Qa} (h : small a) : Qe0 a = some (Qya a):=by
 unfold Qe0 Q6 Qya
 rw [Q7n h.1,Q7n h.2.1,Qbeo h]
 simp only [Option.bind_some]
 by_cases h1 : Qd3 32 none a.Alphabet = 0
 ·by_cases h2 : a.States < 0
  ·simp [h1,h2]
  by_cases h3 : a.States > 4096
  ·simp [h1,h2,h3]
  by_cases h4 : Qd3 a.States none a.Marked = 0 <;> simp [h1,h2,h3,h4]
 ·simp [h1]
end Go.Abs
end
section
namespace Go.Abs
open Go
def Qjr (x y : Qe) : Prop:=x.From < y.From ∨ x.From = y.From ∧ x.Event < y.Event
instance (x y : Qe) : Decidable (Qjr x y):=by unfold Qjr; infer_instance
structure Right (a : Qa) : Prop where
 al0 : ∀ x ∈ a.Alphabet,0 ≤ x ∧ x < 32
 al : a.Alphabet.Pairwise (· < ·)
 st : 0 ≤ a.States ∧ a.States ≤ 4096
 ma0 : ∀ x ∈ a.Marked,0 ≤ x ∧ x < a.States
 ma : a.Marked.Pairwise (· < ·)
 ed0 : ∀ x ∈ a.Edges,0 ≤ x.From ∧ x.From < a.States ∧ 0 ≤ x.To ∧ x.To < a.States ∧ x.Event ∈ a.Alphabet
 ed : a.Edges.Pairwise Qjr
theorem Qgl {n : Int} : ∀ {l : List Int} {p : Option Int},Qd3 n p l = 0 ↔ (∀ x ∈ l,0 ≤ x ∧ x < n) ∧ l.Pairwise (· < ·) ∧ ∀ y,p = some y → ∀ x ∈ l,y < x
 | [],p=>by simp [Qd3]
 | x :: xs,p=>by
  rw [Qd3]
  split
  ·rename_i h
   refine ⟨fun h=>by omega,fun hh=>?_⟩
   have:=hh.1 x (by simp); omega
  ·rename_i h
   split
   ·rename_i h2
    obtain ⟨y,hy,hxy⟩:=h2
    refine ⟨fun h=>by omega,fun hh=>?_⟩
    have:=hh.2.2 y hy x (by simp); omega
   ·rename_i h2
    rw [Qgl]
    constructor
    ·rintro ⟨k1,k2,k3⟩
     refine ⟨fun z hz=>?_,List.pairwise_cons.2 ⟨fun z hz=>k3 x rfl z hz,k2⟩,fun y hy z hz=>?_⟩
     ·rcases List.mem_cons.1 hz with rfl | hz
      ·omega
      ·exact k1 z hz
     ·have hyx : y < x:=by
       rcases Int.lt_or_le y x with h | h
       ·exact h
       ·exact absurd ⟨y,hy,h⟩ h2
      rcases List.mem_cons.1 hz with rfl | hz
      ·exact hyx
      ·have:=k3 x rfl z hz; omega
    ·rintro ⟨k1,k2,k3⟩
     obtain ⟨k4,k5⟩:=List.pairwise_cons.1 k2
     exact ⟨fun z hz=>k1 z (by simp [hz]),k5,fun y hy z hz=>by cases hy; exact k4 z hz⟩
theorem Qyb {al : List Int} {n : Int} : ∀ {l : List Qe} {p : Option Qe},Qjc al n p l = 0 ↔ (∀ x ∈ l,0 ≤ x.From ∧ x.From < n ∧ 0 ≤ x.To ∧ x.To < n ∧ x.Event ∈ al) ∧ l.Pairwise Qjr ∧ ∀ y,p = some y → ∀ x ∈ l,Qjr y x
 | [],p=>by simp [Qjc]
 | x :: xs,p=>by
  have tr : ∀ a b c : Qe,Qjr a b → Qjr b c → Qjr a c:=fun a b c h k=>by unfold Qjr at *; omega
  rw [Qjc]
  split
  ·rename_i h
   refine ⟨fun h=>by omega,fun hh=>?_⟩
   have:=hh.1 x (by simp); omega
  ·rename_i h
   split
   ·rename_i h2
    refine ⟨fun h=>by omega,fun hh=>?_⟩
    exact absurd (hh.1 x (by simp)).2.2.2.2 h2
   ·rename_i hal
    split
    ·rename_i h2
     obtain ⟨y,hy,hxy⟩:=h2
     refine ⟨fun h=>by omega,fun hh=>?_⟩
     have:=hh.2.2 y hy x (by simp)
     unfold Qjr at this; omega
    ·rename_i h2
     rw [Qyb]
     constructor
     ·rintro ⟨k1,k2,k3⟩
      refine ⟨fun z hz=>?_,List.pairwise_cons.2 ⟨fun z hz=>k3 x rfl z hz,k2⟩,fun y hy z hz=>?_⟩
      ·rcases List.mem_cons.1 hz with rfl | hz
       ·exact ⟨by omega,by omega,by omega,by omega,Decidable.not_not.1 hal⟩
       ·exact k1 z hz
      ·have hyx : Qjr y x:=by
        apply Decidable.byContradiction
        intro h
        exact h2 ⟨y,hy,by unfold Qjr at h; omega⟩
       rcases List.mem_cons.1 hz with rfl | hz
       ·exact hyx
       ·exact tr _ _ _ hyx (k3 x rfl z hz)
     ·rintro ⟨k1,k2,k3⟩
      obtain ⟨k4,k5⟩:=List.pairwise_cons.1 k2
      exact ⟨fun z hz=>k1 z (by simp [hz]),k5,fun y hy z hz=>by cases hy; exact k4 z hz⟩
theorem Qbfy {a : Qa} : Qya a = 0 ↔ Right a:=by
 unfold Qya
 constructor
 ·intro h
  split at h
  ·rename_i h1; exact absurd h h1
  rename_i h1
  split at h
  ·omega
  split at h
  ·omega
  split at h
  ·rename_i h4; exact absurd h h4
  rename_i h4
  have q1:=Qgl.1 (Decidable.not_not.1 h1)
  have q2:=Qgl.1 (Decidable.not_not.1 h4)
  have q3:=Qyb.1 h
  exact ⟨q1.1,q1.2.1,⟨by omega,by omega⟩,q2.1,q2.2.1,q3.1,q3.2.1⟩
 ·intro h
  have q1 : Qd3 32 none a.Alphabet = 0:=Qgl.2 ⟨h.al0,h.al,fun y hy=>by cases hy⟩
  have q2 : Qd3 a.States none a.Marked = 0:=Qgl.2 ⟨h.ma0,h.ma,fun y hy=>by cases hy⟩
  have q3 : Qjc a.Alphabet a.States none a.Edges = 0:=Qyb.2 ⟨h.ed0,h.ed,fun y hy=>by cases hy⟩
  have:=h.st
  rw [if_neg (by simp [q1]),if_neg (by omega),if_neg (by omega),if_neg (by simp [q2]),q3]
def outP (a : Qa) (s : Int) : List Qe:=a.Edges.filter fun x=>x.From == s
def Qkh (a : Qa) (s e : Int) : Int:=match a.Edges.find? fun x=>x.From == s && x.Event == e with
 | some x=>x.To
 | none=>-1
theorem Qblr {l : List Qe} (h : l.Pairwise Qjr) (s : Int) : l.Pairwise fun a b=>decide (b.From < s) = true → decide (a.From < s) = true :=
 h.imp fun h=>by unfold Qjr at h; simp; omega
theorem Qbnu {l : List Qe} {s : Int} {cmp : Qe → Int → Option Int} (hcmp : ∀ x ∈ l,cmp x s = some (x.From - s)) (hs : l.Pairwise Qjr) (hl : l.length < big) :
  ∃ b,Qdj l s cmp = some (((l.filter fun x=>decide (x.From < s)).length : Int),b):=by
 have hc:=fun n h=>Q9h (p:=fun x : Qe=>decide (x.From < s)) (Qblr hs s) n h
 have hcl : (l.filter fun x=>decide (x.From < s)).length ≤ l.length:=List.length_filter_le _ _
 generalize (l.filter fun x=>decide (x.From < s)).length = c at hc hcl
 have hb : l.length < 1000000000000:=hl
 unfold Qdj Q3
 have hloop:=Qdd (F:=fun (k13 : Int × Int → Option Int) ((i11,j12) : Int × Int)=>(if (i11 < j12) then ((getO l (IntKind.wrap .i64 (Int.fdiv (IntKind.wrap .u64 (IntKind.wrap .i64 (i11 + j12))) (2 ^ (min (Int.toNat 1) (IntKind.bits .u64)))))).bind fun x15=>((cmp x15 s).bind fun x18=>(if (x18 < 0) then k13 ((IntKind.wrap .i64 ((IntKind.wrap .i64 (Int.fdiv (IntKind.wrap .u64 (IntKind.wrap .i64 (i11 + j12))) (2 ^ (min (Int.toNat 1) (IntKind.bits .u64))))) + 1)),j12) else k13 (i11,(IntKind.wrap .i64 (Int.fdiv (IntKind.wrap .u64 (IntKind.wrap .i64 (i11 + j12))) (2 ^ (min (Int.toNat 1) (IntKind.bits .u64))))))))) else some i11))
  (fun x=>∃ i j : Nat,x = ((i : Int),(j : Int)) ∧ i ≤ c ∧ c ≤ j ∧ j ≤ l.length) (fun x=>(x.2 - x.1).toNat) (fun _ r=>r = some (c : Int)) (by
   rintro k _ ⟨i,j,rfl,h1,h2,h3⟩ ih
   dsimp only
   by_cases hij : i < j
   ·rw [if_pos (by omega),Qbnt (by omega) (by omega)]
    have hm : (i + j) / 2 < l.length:=by omega
    rw [Qbo hm]
    simp only [Option.bind_some]
    rw [hcmp _ (List.getElem_mem hm)]
    simp only [Option.bind_some]
    have hcm:=hc ((i + j) / 2) hm
    by_cases hlt : l[(i + j) / 2].From < s
    ·rw [if_pos (by omega),Qv (by omega)]
     have : (i + j) / 2 < c:=hcm.1 (by simpa using hlt)
     exact ih _ ⟨_,_,rfl,by omega,h2,h3⟩ (by simp only; omega)
    ·rw [if_neg (by omega)]
     have : ¬ (i + j) / 2 < c:=fun h=>hlt (by simpa using hcm.2 h)
     exact ih _ ⟨_,_,rfl,h1,by omega,by omega⟩ (by simp only; omega)
   ·rw [if_neg (by omega)]
    have : i = c:=by omega
    rw [this]) Qbc (0,(l.length : Int)) ⟨0,l.length,rfl,by omega,hcl,Nat.le_refl _⟩ (by unfold Qbc; simp only; omega)
 rw [hloop]
 simp only [Option.bind_some]
 by_cases hlt : c < l.length
 ·rw [if_pos (by omega),Qbo hlt]
  simp only [Option.bind_some]
  rw [hcmp _ (List.getElem_mem hlt)]
  exact ⟨_,rfl⟩
 ·rw [if_neg (by omega)]
  exact ⟨_,rfl⟩
theorem Qbfz : ∀ {l : List Qe} (s : Int),l.Pairwise Qjr → (l.take (l.filter fun x=>decide (x.From < s + 1)).length).drop (l.filter fun x=>decide (x.From < s)).length = l.filter fun x=>x.From == s
 | [],s,_=>by simp
 | x :: xs,s,h=>by
  obtain ⟨h1,h2⟩:=List.pairwise_cons.1 h
  have ih:=Qbfz s h2
  have hge : ∀ y ∈ xs,x.From ≤ y.From:=fun y hy=>by have:=h1 y hy; unfold Qjr at this; omega
  by_cases hx : x.From < s
  ·have e1 : decide (x.From < s) = true:=by simpa using hx
   have e2 : decide (x.From < s + 1) = true:=by simp; omega
   have e3 : (x.From == s) = false:=by simp; omega
   simp only [List.filter_cons,e1,e2,e3,if_true,List.length_cons,List.take_succ_cons,List.drop_succ_cons,Bool.false_eq_true,if_false]
   exact ih
  ·have hz : xs.filter (fun x=>decide (x.From < s)) = []:=List.filter_eq_nil_iff.2 fun y hy=>by have:=hge y hy; simp; omega
   have e1 : decide (x.From < s) = false:=by simpa using hx
   by_cases hq : x.From = s
   ·have e2 : decide (x.From < s + 1) = true:=by simp; omega
    have e3 : (x.From == s) = true:=by simp [hq]
    simp only [List.filter_cons,e1,e2,e3,if_true,List.length_cons,List.take_succ_cons,Bool.false_eq_true,if_false,hz,List.length_nil,List.drop_zero]
    rw [hz,List.length_nil,List.drop_zero] at ih
    rw [ih]
   ·have e2 : decide (x.From < s + 1) = false:=by simp; omega
    have e3 : (x.From == s) = false:=by simp [hq]
    have hz1 : xs.filter (fun x=>decide (x.From < s + 1)) = []:=List.filter_eq_nil_iff.2 fun y hy=>by have:=hge y hy; simp; omega
    have hz2 : xs.filter (fun x=>x.From == s) = []:=List.filter_eq_nil_iff.2 fun y hy=>by have:=hge y hy; simp; omega
    simp only [List.filter_cons,e1,e2,e3,Bool.false_eq_true,if_false,hz,hz1,hz2,List.length_nil,List.take_zero,List.drop_zero]
section
variable {a : Qa} (h : Right a) (hs : small a)
include h hs
theorem Qbpr {s : Int} (h0 : -1000000000000 < s) (h1 : s < 1000000000000) : Qgi a s = some (outP a s):=by
 unfold Qgi Qdu
 have hst:=h.st
 have hw : ∀ t : Int,-1000000000002 < t → t < 1000000000002 → ∀ x ∈ a.Edges,IntKind.wrap .i64 (x.From - t) = x.From - t:=fun t k1 k2 x hx=>by
  have:=h.ed0 x hx; exact Qr4 (by omega) (by omega)
 have e1 : IntKind.wrap .i64 (s + 1) = s + 1:=Qr4 (by omega) (by omega)
 obtain ⟨b1,k1⟩:=Qbnu (s:=s) (cmp:=Qh9) (fun x hx=>by unfold Qh9 Qda; rw [hw s (by omega) (by omega) x hx]) h.ed hs.2.2
 obtain ⟨b2,k2⟩:=Qbnu (s:=s + 1) (cmp:=Qia) (fun x hx=>by unfold Qia Qdb; rw [hw (s + 1) (by omega) (by omega) x hx]) h.ed hs.2.2
 rw [k1,e1]
 simp only [Option.bind_some]
 rw [k2]
 simp only [Option.bind_some]
 have hle : (a.Edges.filter fun x=>decide (x.From < s)).length ≤ (a.Edges.filter fun x=>decide (x.From < s + 1)).length :=
  by rw [← List.countP_eq_length_filter,← List.countP_eq_length_filter]; exact List.countP_mono_left fun x _ hx=>by simp at hx ⊢; omega
 rw [Qbm1 hle (List.length_filter_le _ _),Qbfz s h.ed]
 rfl
omit h in
theorem Qbdl {s e : Int} : Qcg a s e = some (Qkh a s e):=by
 have hb : a.Edges.length < 1000000000000:=hs.2.2
 unfold Qcg Qbg
 refine (Qmg (len:=a.Edges.length) (fun k=>some (match (a.Edges.drop k).find? (fun x=>x.From == s && x.Event == e) with | some x=>x.To | none=>-1)) (by unfold Qbc; omega) ?_ ?_).trans (by simp [Qkh])
 ·intro k i hi ih
  rw [if_pos (by omega),Qbo hi,Qv (by omega),ih,List.drop_eq_getElem_cons hi]
  simp only [Option.bind_some,List.find?_cons]
  cases h1 : a.Edges[i].From == s <;> cases h2 : a.Edges[i].Event == e <;> simp [h1,h2]
 ·intro k; simp
end
theorem Qbhb {a : Qa} (h : Right a) (s e : Int) : Qkh a s e = -1 ∨ 0 ≤ Qkh a s e ∧ Qkh a s e < a.States ∧ 0 ≤ s ∧ s < a.States ∧ e ∈ a.Alphabet:=by
 unfold Qkh
 split
 ·rename_i x hx
  have hm:=List.mem_of_find?_eq_some hx
  have hp:=List.find?_some hx
  obtain ⟨k1,k2,k3,k4,k5⟩:=h.ed0 x hm
  simp at hp
  exact .inr ⟨k3,k4,by omega,by omega,hp.2 ▸ k5⟩
 ·exact .inl rfl
theorem Qbf0 {a : Qa} (h : Right a) {s e : Int} : 0 ≤ Qkh a s e ↔ ∃ x ∈ outP a s,x.Event = e:=by
 unfold Qkh outP
 split
 ·rename_i x hx
  have hm:=List.mem_of_find?_eq_some hx
  have hp:=List.find?_some hx
  simp at hp
  refine ⟨fun _=>⟨x,by simp [hm,hp.1],hp.2⟩,fun _=>(h.ed0 x hm).2.2.1⟩
 ·rename_i hx
  have:=List.find?_eq_none.1 hx
  refine ⟨fun h=>by omega,?_⟩
  rintro ⟨x,h1,h2⟩
  simp at h1
  exact absurd (by simp [h1.2,h2]) (this x h1.1)
theorem Q7o {a : Qa} (h : Right a) (s : Int) : (outP a s).map (·.Event) = a.Alphabet.filter fun e=>decide (0 ≤ Qkh a s e):=by
 refine Qbi8 ?_ (h.al.filter _) fun e=>?_
 ·rw [List.pairwise_map]
  have h1 : (outP a s).Pairwise Qjr:=h.ed.filter _
  have h2 : ∀ x ∈ outP a s,x.From = s:=fun x hx=>by unfold outP at hx; simp at hx; exact hx.2
  exact List.Pairwise.imp_of_mem (fun {x y} hx hy hk=>by have:=h2 x hx; have:=h2 y hy; unfold Qjr at hk; omega) h1
 ·simp only [List.mem_map,List.mem_filter,decide_eq_true_eq,Qbf0 h]
  constructor
  ·rintro ⟨x,hx,rfl⟩
   refine ⟨?_,x,hx,rfl⟩
   unfold outP at hx; simp at hx; exact (h.ed0 x hx.1).2.2.2.2
  ·rintro ⟨_,x,hx,rfl⟩; exact ⟨x,hx,rfl⟩
theorem Qbf1 {a : Qa} (h : Right a) {s : Int} {x : Qe} (hx : x ∈ outP a s) : Qkh a s x.Event = x.To:=by
 unfold outP at hx
 simp at hx
 unfold Qkh
 split
 ·rename_i y hy
  have hm:=List.mem_of_find?_eq_some hy
  have hp:=List.find?_some hy
  simp at hp
  have : x = y:=by
   rcases Classical.em (x = y) with e | hne
   ·exact e
   ·exfalso
    have hk : Qjr x y ∨ Qjr y x:=by
     have:=List.pairwise_iff_getElem.1 h.ed
     obtain ⟨i,hi,rfl⟩:=List.getElem_of_mem hx.1
     obtain ⟨j,hj,rfl⟩:=List.getElem_of_mem hm
     rcases Nat.lt_trichotomy i j with hij | hij | hij
     ·exact .inl (this i j hi hj hij)
     ·subst hij; exact absurd rfl hne
     ·exact .inr (this j i hj hi hij)
    unfold Qjr at hk; omega
  rw [this]
 ·rename_i hn
  exact absurd (by simp [hx.2]) (List.find?_eq_none.1 hn x hx.1)
end Go.Abs
end
section
namespace Go.Abs
open Go
theorem Right.small {a : Qa} (h : Right a) : small a ∧ a.Alphabet.length ≤ 32 ∧ a.Marked.length ≤ 4096 ∧ a.Edges.length ≤ 131072:=by
 have h1:=Qg1 h.al h.al0
 have h2:=Qg1 h.ma h.ma0
 have h3 : (a.Edges.map fun x=>x.From * 32 + x.Event).Pairwise (· < ·):=by
  rw [List.pairwise_map]
  refine List.Pairwise.imp_of_mem (fun {x y} hx hy hk=>?_) h.ed
  have:=h.al0 _ (h.ed0 x hx).2.2.2.2
  have:=h.al0 _ (h.ed0 y hy).2.2.2.2
  unfold Qjr at hk; omega
 have h4:=Qg1 (a:=0) (b:=131072) h3 (by
  intro z hz
  obtain ⟨x,hx,rfl⟩:=List.mem_map.1 hz
  have:=h.al0 _ (h.ed0 x hx).2.2.2.2
  have:=h.ed0 x hx
  have:=h.st
  omega)
 rw [List.length_map] at h4
 have:=h.st
 refine ⟨⟨?_,?_,?_⟩,?_,?_,?_⟩ <;> (try unfold big) <;> omega
end Go.Abs
end
section
namespace Go.Abs
open Go
def ins (o : List Int) (t : Int) : List Int:=if t ∈ o then o else o ++ [t]
def Qfz (a : Qa) (s : Int) : List Int:=(outP a s).map (·.To)
def bfs (a : Qa) : Nat → Nat → List Int → List Int
 | 0,_,o=>o
 | fuel + 1,i,o=>match o[i]? with
  | some s=>bfs a fuel (i + 1) ((Qfz a s).foldl ins o)
  | none=>o
def Qgj (a : Qa) : List Int:=bfs a (a.States.toNat + 1) 0 (if 0 < a.States then [0] else [])
structure Fnd (a : Qa) (o : List Int) : Prop where
 nd : o.Nodup
 rg : ∀ s ∈ o,0 ≤ s ∧ s < a.States
theorem Fnd.len {a : Qa} {o : List Int} (h : Fnd a o) : o.length ≤ a.States.toNat:=by
 have hO : Go.Sort.SWO Qfe:=⟨fun x=>by simp [Qfe],fun x y z h1 h2=>by simp [Qfe] at *; omega,fun x y z h1 h2=>by simp [Qfe] at *; omega⟩
 have hp:=Qjp Qfe o
 have hs:=Qkc hO o
 have hn : (Qid Qfe o).Nodup:=(hp.nodup_iff).2 h.nd
 have hlt : (Qid Qfe o).Pairwise (· < ·):=by
  have : (Qid Qfe o).Pairwise fun x y=>Qfe y x = false ∧ x ≠ y:=hs.and hn
  exact this.imp fun ⟨h1,h2⟩=>by simp [Qfe] at h1; omega
 have:=Qg1 hlt (a:=0) (b:=a.States) fun x hx=>h.rg x (hp.mem_iff.1 hx)
 rw [Qkb] at this
 simpa using this
theorem Q9i {o : List Int} {t x : Int} : x ∈ ins o t ↔ x ∈ o ∨ x = t:=by
 unfold ins; split
 ·rename_i h; constructor
  ·exact .inl
  ·rintro (h' | rfl)
   ·exact h'
   ·exact h
 ·simp
theorem Qbov (o : List Int) (t : Int) : o <+: ins o t:=by
 unfold ins; split
 ·exact List.prefix_refl o
 ·exact List.prefix_append o [t]
theorem Fnd.ins {a : Qa} {o : List Int} (h : Fnd a o) {t : Int} (ht : 0 ≤ t ∧ t < a.States) : Fnd a (ins o t):=by
 refine ⟨?_,fun s hs=>?_⟩
 ·unfold Go.Abs.ins; split
  ·exact h.nd
  ·rename_i hn
   rw [List.nodup_append]
   exact ⟨h.nd,by simp,fun x hx y hy=>by simp at hy; subst hy; exact fun e=>hn (e ▸ hx)⟩
 ·rcases Q9i.1 hs with hs | rfl
  ·exact h.rg s hs
  ·exact ht
theorem Qp1 {a : Qa} : ∀ {ts o : List Int},Fnd a o → (∀ t ∈ ts,0 ≤ t ∧ t < a.States) → Fnd a (ts.foldl ins o) ∧ o <+: ts.foldl ins o ∧ (∀ t ∈ ts,t ∈ ts.foldl ins o) ∧ ∀ x ∈ ts.foldl ins o,x ∈ o ∨ x ∈ ts
 | [],o,h,_=>⟨h,List.prefix_refl o,by simp,fun x hx=>.inl hx⟩
 | t :: ts,o,h,ht=>by
  obtain ⟨h1,h2,h3,h4⟩:=Qp1 (ts:=ts) (h.ins (ht t (by simp))) fun t ht'=>ht t (by simp [ht'])
  refine ⟨h1,(Qbov o t).trans h2,fun x hx=>?_,fun x hx=>?_⟩
  ·rcases List.mem_cons.1 hx with rfl | hx
   ·exact h2.subset (Q9i.2 (.inr rfl))
   ·exact h3 x hx
  ·rcases h4 x hx with h5 | h5
   ·rcases Q9i.1 h5 with h6 | rfl
    ·exact .inl h6
    ·exact .inr (by simp)
   ·exact .inr (by simp [h5])
theorem Qyc {a : Qa} (h : Right a) (s : Int) : ∀ t ∈ Qfz a s,0 ≤ t ∧ t < a.States:=by
 intro t ht
 unfold Qfz outP at ht
 obtain ⟨x,hx,rfl⟩:=List.mem_map.1 ht
 have:=h.ed0 x ((List.mem_filter.1 hx).1)
 omega
theorem Qof {α : Type} {l m : List α} (h : l <+: m) {i : Nat} {x : α} (hx : l[i]? = some x) : m[i]? = some x:=by
 obtain ⟨t,rfl⟩:=h
 have:=(List.getElem?_eq_some_iff.1 hx).1
 rw [List.getElem?_append_left this]; exact hx
theorem Qbaf {a : Qa} (h : Right a) : ∀ (fuel i : Nat) (o : List Int),Fnd a o → i ≤ o.length → a.States.toNat + 1 ≤ fuel + i → (∀ j s,j < i → o[j]? = some s → ∀ t ∈ Qfz a s,t ∈ o) →
  Fnd a (bfs a fuel i o) ∧ o <+: bfs a fuel i o ∧ ∀ s ∈ bfs a fuel i o,∀ t ∈ Qfz a s,t ∈ bfs a fuel i o
 | 0,i,o,hf,hi,hfu,_=>by have:=hf.len; omega
 | fuel + 1,i,o,hf,hi,hfu,hc=>by
  unfold bfs
  cases hg : o[i]? with
  | none =>
   dsimp only
   refine ⟨hf,List.prefix_refl o,fun s hs t ht=>?_⟩
   obtain ⟨j,hj⟩:=List.getElem?_of_mem hs
   have hlt:=(List.getElem?_eq_some_iff.1 hj).1
   exact hc j s (by have:=List.getElem?_eq_none_iff.1 hg; omega) hj t ht
  | some s =>
   dsimp only
   obtain ⟨h1,h2,h3,_⟩:=Qp1 hf (Qyc h s)
   have hlen : i < o.length:=(List.getElem?_eq_some_iff.1 hg).1
   have hle:=h2.length_le
   obtain ⟨k1,k2,k3⟩:=Qbaf h fuel (i + 1) ((Qfz a s).foldl ins o) h1 (by omega) (by omega) (fun j s' hj hs' t ht=>by
    by_cases hji : j < i
    ·have hjl : j < o.length:=by omega
     have : o[j]? = some s':=by
      have:=Qof h2 (List.getElem?_eq_getElem hjl)
      rw [hs'] at this; rw [List.getElem?_eq_getElem hjl]; exact this.symm
     exact h2.subset (hc j s' hji this t ht)
    ·obtain rfl : j = i:=by omega
     have:=Qof h2 hg
     rw [hs'] at this; cases this
     exact h3 t ht)
   exact ⟨k1,h2.trans k2,k3⟩
theorem Q9j {a : Qa} (h : Right a) : Fnd a (Qgj a) ∧ (if 0 < a.States then [0] else []) <+: Qgj a ∧ ∀ s ∈ Qgj a,∀ t ∈ Qfz a s,t ∈ Qgj a :=
 Qbaf h _ 0 _ ⟨by split <;> simp,fun s hs=>by split at hs <;> simp at hs; subst hs; omega⟩ (Nat.zero_le _) (by omega) fun j s hj=>by omega
def Qki (m : List Int) : Nat → List Int → List Int
 | _,[]=>[]
 | i,s :: t=>(if s ∈ m then [(i : Int)] else []) ++ Qki m (i + 1) t
def rowP (a : Qa) (F : List Int) (i : Nat) (s : Int) : List Qe:=(outP a s).map fun x=>⟨(i : Int),x.Event,(F.idxOf x.To : Int)⟩
def Qjb (a : Qa) (F : List Int) : Nat → List Int → List Qe
 | _,[]=>[]
 | i,s :: t=>rowP a F i s ++ Qjb a F (i + 1) t
def Qig (a : Qa) : Qa:=⟨a.Alphabet,((Qgj a).length : Int),Qki a.Marked 0 (Qgj a),Qjb a (Qgj a) 0 (Qgj a)⟩
theorem Q3r {m : List Int} : ∀ {l : List Int} {i : Nat},∀ x ∈ Qki m i l,(i : Int) ≤ x ∧ x < (i + l.length : Nat)
 | [],i,x,hx=>by simp [Qki] at hx
 | s :: t,i,x,hx=>by
  simp only [Qki,List.mem_append] at hx
  rcases hx with hx | hx
  ·split at hx <;> simp at hx
   subst hx; simp only [List.length_cons]; omega
  ·have:=Q3r x hx; simp only [List.length_cons]; omega
theorem Qyd {m : List Int} : ∀ {l : List Int} {i : Nat},(Qki m i l).Pairwise (· < ·)
 | [],i=>.nil
 | s :: t,i=>by
  simp only [Qki]
  rw [List.pairwise_append]
  refine ⟨by split <;> simp,Qyd,fun x hx y hy=>?_⟩
  have:=Q3r y hy
  split at hx <;> simp at hx
  omega
theorem Q7p {a : Qa} {F : List Int} : ∀ {l : List Int} {i : Nat},∀ x ∈ Qjb a F i l,(i : Int) ≤ x.From ∧ x.From < (i + l.length : Nat) ∧ ∃ s ∈ l,∃ y ∈ outP a s,x.Event = y.Event ∧ x.To = (F.idxOf y.To : Int)
 | [],i,x,hx=>by simp [Qjb] at hx
 | s :: t,i,x,hx=>by
  simp only [Qjb,List.mem_append] at hx
  rcases hx with hx | hx
  ·obtain ⟨y,hy,rfl⟩:=List.mem_map.1 hx
   simp only [List.length_cons]
   exact ⟨by omega,by omega,s,by simp,y,hy,rfl,rfl⟩
  ·obtain ⟨h1,h2,s',h3,h4⟩:=Q7p x hx
   simp only [List.length_cons]
   exact ⟨by omega,by omega,s',by simp [h3],h4⟩
theorem Q8n {a : Qa} (h : Right a) {F : List Int} : ∀ {l : List Int} {i : Nat},(Qjb a F i l).Pairwise Qjr
 | [],i=>.nil
 | s :: t,i=>by
  simp only [Qjb]
  rw [List.pairwise_append]
  refine ⟨?_,Q8n h,fun x hx y hy=>?_⟩
  ·unfold rowP
   rw [List.pairwise_map]
   have h1 : (outP a s).Pairwise Qjr:=h.ed.filter _
   have h2 : ∀ x ∈ outP a s,x.From = s:=fun x hx=>by unfold outP at hx; simp at hx; exact hx.2
   exact List.Pairwise.imp_of_mem (fun {x y} hx hy hk=>by have:=h2 x hx; have:=h2 y hy; unfold Qjr at hk; exact .inr ⟨rfl,by show x.Event < y.Event; omega⟩) h1
  ·obtain ⟨z,_,rfl⟩:=List.mem_map.1 hx
   have:=(Q7p y hy).1
   unfold Qjr; simp only; omega
theorem Qbf2 {a : Qa} (h : Right a) : Right (Qig a):=by
 obtain ⟨h1,h2,h3⟩:=Q9j h
 have hl:=h1.len
 have hst:=h.st
 refine ⟨h.al0,h.al,⟨by simp only [Qig]; omega,by simp only [Qig]; omega⟩,fun x hx=>?_,Qyd,fun x hx=>?_,Q8n h⟩
 ·have:=Q3r x hx; simp only [Qig]; omega
 ·obtain ⟨k1,k2,s,hs,y,hy,k3,k4⟩:=Q7p x hx
  have hy' : y.To ∈ Qgj a:=h3 s hs y.To (List.mem_map.2 ⟨y,hy,rfl⟩)
  have:=List.idxOf_lt_length_iff.2 hy'
  simp only [Qig]
  refine ⟨by omega,by omega,by omega,by omega,?_⟩
  rw [k3]
  unfold outP at hy
  exact (h.ed0 y ((List.mem_filter.1 hy).1)).2.2.2.2
end Go.Abs
end
section
namespace Go.Abs
open Go
theorem Qbag {l : List Int} (hl : l.length ≤ lim) : Qdo l = some ⟨l,0,[],[]⟩:=by
 unfold Qdo Qt
 rw [Qbx (by simpa using hl)]; rfl
theorem Qbhc {l : List Int} {v : Int} (hl : l.length < big) : Qel l v = some (if v ∈ l then (l.idxOf v : Int) else -1):=by
 have hb : l.length < 1000000000000:=hl
 unfold Qel Qb9
 refine (Qmg (len:=l.length) (fun k=>some (if v ∈ l.drop k then ((k + (l.drop k).idxOf v : Nat) : Int) else -1)) (by unfold Qbc; omega) ?_ ?_).trans (by simp)
 ·intro k i hi ih
  rw [if_pos (by omega),Qbo hi,Qv (by omega),ih,List.drop_eq_getElem_cons hi]
  simp only [Option.bind_some,List.mem_cons,List.idxOf_cons]
  by_cases h : v = l[i]
  ·simp [← h]
  ·have h' : ¬ l[i] = v:=fun e=>h e.symm
   have hbq : (l[i] == v) = false:=by simp [h']
   by_cases h2 : v ∈ l.drop (i + 1) <;> simp [h,h2,hbq]
   omega
 ·intro k; simp
theorem Q9z {a : Qa} (h : Right a) (s : Int) : Qfz a s = (a.Alphabet.filter fun e=>decide (0 ≤ Qkh a s e)).map (Qkh a s):=by
 rw [← Q7o h,List.map_map]
 unfold Qfz
 exact List.map_congr_left fun x hx=>(Qbf1 h hx).symm
theorem Qbdm {a : Qa} (s : Int) : ∀ (al o : List Int),al.foldl (fun o e=>if 0 ≤ Qkh a s e then ins o (Qkh a s e) else o) o = ((al.filter fun e=>decide (0 ≤ Qkh a s e)).map (Qkh a s)).foldl ins o
 | [],o=>rfl
 | e :: al,o=>by
  by_cases hx : 0 ≤ Qkh a s e <;> simp [List.filter_cons,hx,Qbdm s al]
theorem Qbep {a : Qa} {fuel i : Nat} {o : List Int} (hi : i < o.length) : bfs a (fuel + 1) i o = bfs a fuel (i + 1) ((Qfz a o[i]).foldl ins o):=by
 conv=>lhs; unfold bfs
 rw [List.getElem?_eq_getElem hi]
theorem Qbhd {a : Qa} {fuel : Nat} {o : List Int} : bfs a fuel o.length o = o:=by
 cases fuel with
 | zero=>rfl
 | succ n=>unfold bfs; simp
section
variable {a : Qa} (h : Right a)
include h
theorem Qbja (fuel : Nat) (hfu : 1099511627776 ≤ fuel) {s : Int} {o : List Int} {i : Nat} (hf : Fnd a o) (hi : o[i]? = some s) :
  Qcb (fun k12 ((out10,k11) : (List Int) × Int)=>(if (k11 < (a.Alphabet.length : Int)) then ((((getO out10 (i : Int)).bind fun x14=>((getO a.Alphabet k11).bind fun x16=>((Qcg a x14 x16).bind fun x19=>(((if (x19 ≥ 0) then ((Qc7 out10 x19).bind fun x22=>some (!x22)) else some false)).bind fun (x23 : Bool)=>(if x23 then ((appO out10 [x19]).bind fun x25=>some x25) else some out10)))))).bind fun (out27 : List Int)=>k12 (out27,(IntKind.wrap .i64 (k11 + 1)))) else some out10)) fuel (o,0) = some ((Qfz a s).foldl ins o):=by
 have hs:=h.small.1
 have hst:=h.st
 have hb : a.Alphabet.length < 1000000000000:=hs.1
 rw [Q9z h,← Qbdm]
 refine (Qh7 (len:=a.Alphabet.length) (fun n (acc : List Int)=>(acc,(n : Int))) (fun n acc=>Fnd a acc ∧ acc[i]? = some s) (fun n acc=>some ((a.Alphabet.drop n).foldl (fun o e=>if 0 ≤ Qkh a s e then ins o (Qkh a s e) else o) acc)) ?_ ?_ fuel 0 o (Nat.zero_le _) (by omega) ⟨hf,hi⟩).trans (by simp)
 ·intro k n acc hn ⟨k1,k2⟩ ih
  have hlen:=k1.len
  have hg : getO acc (i : Int) = some s:=by rw [Qja]; exact ⟨by omega,by simpa using k2⟩
  dsimp only
  rw [if_pos (by omega),hg,Qbo hn]
  simp only [Option.bind_some]
  rw [Qbdl hs,Qv (by omega)]
  simp only [Option.bind_some]
  rw [Qblq (by unfold big; omega),List.drop_eq_getElem_cons hn,List.foldl_cons]
  rcases Qbhb h s a.Alphabet[n] with hr | hr
  ·rw [hr]; simp only [show ¬ ((-1 : Int) ≥ 0) from by omega,show ¬ ((0 : Int) ≤ -1) from by omega,if_false,Option.bind_some,Bool.false_eq_true]
   exact ih _ ⟨k1,k2⟩
  ·have hge : Qkh a s a.Alphabet[n] ≥ 0:=hr.1
   by_cases hm : Qkh a s a.Alphabet[n] ∈ acc
   ·simp only [hge,hm,decide_true,Bool.not_true,if_true,Option.bind_some,Bool.false_eq_true,if_false,hr.1,ins]
    exact ih _ ⟨k1,k2⟩
   ·simp only [hge,hm,decide_false,Bool.not_false,if_true,Option.bind_some,hr.1,ins,if_false]
    rw [Qbx (by simp only [List.length_cons,List.length_nil]; unfold lim; omega)]
    simp only [Option.bind_some]
    have hi':=k1.ins (t:=Qkh a s a.Alphabet[n]) ⟨hr.1,hr.2.1⟩
    unfold ins at hi'
    rw [if_neg hm] at hi'
    exact ih _ ⟨hi',Qof (List.prefix_append acc _) k2⟩
 ·intro k acc _
  dsimp only
  rw [if_neg (by omega)]; simp
theorem Qbhe : Qfp a = some (Qgj a):=by
 have hs:=h.small.1
 have hst:=h.st
 unfold Qfp Qb8
 obtain ⟨fuel,hfu,hge⟩ : ∃ f,Qbc = f ∧ 1099511627776 ≤ f:=⟨_,rfl,Nat.le_refl _⟩
 rw [hfu]
 have hloop : ∀ o : List Int,Fnd a o → Qcb (fun (k8 : List Int × Int → Option (List Int)) ((out6,i7) : (List Int) × Int)=>(if (i7 < (out6.length : Int)) then ((Qcb (fun k12 ((out10,k11) : (List Int) × Int)=>(if (k11 < (a.Alphabet.length : Int)) then ((((getO out10 i7).bind fun x14=>((getO a.Alphabet k11).bind fun x16=>((Qcg a x14 x16).bind fun x19=>(((if (x19 ≥ 0) then ((Qc7 out10 x19).bind fun x22=>some (!x22)) else some false)).bind fun (x23 : Bool)=>(if x23 then ((appO out10 [x19]).bind fun x25=>some x25) else some out10)))))).bind fun (out27 : List Int)=>k12 (out27,(IntKind.wrap .i64 (k11 + 1)))) else some out10)) fuel (out6,0)).bind fun (out28 : List Int)=>k8 (out28,(IntKind.wrap .i64 (i7 + 1)))) else some out6)) fuel (o,0) = some (bfs a (a.States.toNat + 1) 0 o):=by
  intro o ho
  have:=Qdd (F:=fun (k8 : List Int × Int → Option (List Int)) ((out6,i7) : (List Int) × Int)=>(if (i7 < (out6.length : Int)) then ((Qcb (fun k12 ((out10,k11) : (List Int) × Int)=>(if (k11 < (a.Alphabet.length : Int)) then ((((getO out10 i7).bind fun x14=>((getO a.Alphabet k11).bind fun x16=>((Qcg a x14 x16).bind fun x19=>(((if (x19 ≥ 0) then ((Qc7 out10 x19).bind fun x22=>some (!x22)) else some false)).bind fun (x23 : Bool)=>(if x23 then ((appO out10 [x19]).bind fun x25=>some x25) else some out10)))))).bind fun (out27 : List Int)=>k12 (out27,(IntKind.wrap .i64 (k11 + 1)))) else some out10)) fuel (out6,0)).bind fun (out28 : List Int)=>k8 (out28,(IntKind.wrap .i64 (i7 + 1)))) else some out6))
   (fun x=>∃ i : Nat,x.2 = (i : Int) ∧ i ≤ x.1.length ∧ Fnd a x.1) (fun x=>a.States.toNat + 1 - x.2.toNat) (fun x r=>r = some (bfs a (a.States.toNat + 1 - x.2.toNat) x.2.toNat x.1)) (by
    rintro k ⟨o,i⟩ ⟨i,rfl,hi,hf⟩ ih
    replace hi : i ≤ o.length:=hi
    replace hf : Fnd a o:=hf
    have hl:=hf.len
    dsimp only
    by_cases hlt : i < o.length
    ·rw [if_pos (by omega),Qbja h fuel hge hf (List.getElem?_eq_getElem hlt),Option.bind_some,Qv (by omega)]
     obtain ⟨q1,q2,_,_⟩:=Qp1 hf (Qyc h o[i])
     have hle:=q2.length_le
     rw [ih _ ⟨i + 1,rfl,by simp only; omega,q1⟩ (by simp only; omega)]
     simp only [Int.toNat_natCast]
     rw [show a.States.toNat + 1 - i = (a.States.toNat + 1 - (i + 1)) + 1 from by omega,Qbep hlt]
    ·rw [if_neg (by omega)]
     obtain rfl : i = o.length:=by omega
     simp only [Int.toNat_natCast,Qbhd]) fuel (o,0) ⟨0,rfl,Nat.zero_le _,ho⟩ (by simp only; omega)
  simpa using this
 by_cases h0 : 0 < a.States
 ·rw [if_pos (by omega),Qbx (by simp only [List.length_cons,List.length_nil]; unfold lim; omega)]
  simp only [Option.bind_some]
  rw [show ([] ++ [0] : List Int) = [0] from rfl,hloop [0] ⟨by simp,fun s hs=>by simp at hs; subst hs; omega⟩]
  simp only [Option.bind_some,Qgj,if_pos h0]
 ·rw [if_neg (by omega)]
  simp only [Option.bind_some]
  rw [hloop [] ⟨by simp,fun s hs=>by simp at hs⟩]
  simp only [Option.bind_some,Qgj,if_neg h0]
theorem Qbdn (fuel : Nat) (hfu : 1099511627776 ≤ fuel) {F : List Int} (hF : Fnd a F) (hcl : ∀ s ∈ F,∀ t ∈ Qfz a s,t ∈ F) {s : Int} {i : Nat} (hi : F[i]? = some s) (ms : List Int) (es : List Qe) (hes : es.length ≤ 200000) :
  Qcb (fun (k24 : Int × List Qe → Option (List Int × List Qe)) ((k22,out23) : Int × (List Qe))=>(if (k22 < (a.Alphabet.length : Int)) then ((((getO F (i : Int)).bind fun x26=>((getO a.Alphabet k22).bind fun x28=>((Qcg a x26 x28).bind fun x31=>(if (x31 ≥ 0) then ((getO a.Alphabet k22).bind fun x33=>((Qel F x31).bind fun x36=>((appO out23 [(Qe.mk (i : Int) x33 x36)]).bind fun x37=>some x37))) else some out23))))).bind fun (out39 : List Qe)=>k24 ((IntKind.wrap .i64 (k22 + 1)),out39)) else some (ms,out23))) fuel (0,es) = some (ms,es ++ rowP a F i s):=by
 have hs:=h.small.1
 have hst:=h.st
 have hal:=h.small.2.1
 have hb : a.Alphabet.length < 1000000000000:=hs.1
 have hFl:=hF.len
 have hrow : rowP a F i s = (a.Alphabet.filter fun e=>decide (0 ≤ Qkh a s e)).map fun e=>⟨(i : Int),e,(F.idxOf (Qkh a s e) : Int)⟩:=by
  rw [← Q7o h,List.map_map]
  unfold rowP
  exact List.map_congr_left fun x hx=>by simp only [Function.comp]; rw [Qbf1 h hx]
 rw [hrow]
 refine (Qh7 (len:=a.Alphabet.length) (fun n (acc : List Qe)=>((n : Int),acc)) (fun n acc=>acc.length ≤ 200000 + n) (fun n acc=>some (ms,acc ++ ((a.Alphabet.drop n).filter fun e=>decide (0 ≤ Qkh a s e)).map fun e=>⟨(i : Int),e,(F.idxOf (Qkh a s e) : Int)⟩)) ?_ ?_ fuel 0 es (Nat.zero_le _) (by omega) (by omega)).trans (by simp)
 ·intro k n acc hn k1 ih
  have hg : getO F (i : Int) = some s:=by rw [Qja]; exact ⟨by omega,by simpa using hi⟩
  dsimp only
  rw [if_pos (by omega),hg,Qbo hn]
  simp only [Option.bind_some]
  rw [Qbdl hs,Qv (by omega)]
  simp only [Option.bind_some]
  rw [List.drop_eq_getElem_cons hn,List.filter_cons]
  by_cases hr : 0 ≤ Qkh a s a.Alphabet[n]
  ·have hm : Qkh a s a.Alphabet[n] ∈ F:=hcl s (List.mem_of_getElem? hi) _ (by rw [Q9z h]; exact List.mem_map.2 ⟨_,List.mem_filter.2 ⟨List.getElem_mem hn,by simpa using hr⟩,rfl⟩)
   rw [if_pos hr,Qbhc (by unfold big; omega),if_pos hm]
   simp only [Option.bind_some]
   rw [Qbx (by simp only [List.length_cons,List.length_nil]; unfold lim; omega)]
   simp only [Option.bind_some]
   rw [ih _ (by simp only [List.length_append,List.length_cons,List.length_nil]; omega)]
   simp only [hr,decide_true,if_true,List.map_cons,List.append_assoc,List.cons_append,List.nil_append]
  ·rw [if_neg (by omega)]
   simp only [Option.bind_some]
   rw [ih _ (by omega)]
   simp only [hr,decide_false,Bool.false_eq_true,if_false]
 ·intro k acc _
  dsimp only
  rw [if_neg (by omega)]; simp
theorem Qbig {F : List Int} {i : Nat} {s : Int} : (rowP a F i s).length ≤ 32:=by
 have:=h.small.2.1
 have h1 : (rowP a F i s).length = ((outP a s).map (·.Event)).length:=by simp [rowP]
 rw [h1,Q7o h]
 exact Nat.le_trans (List.length_filter_le _ _) this
theorem Qbby : Qed a = some (Qig a):=by
 have hs:=h.small.1
 have hst:=h.st
 have hal:=h.small.2.1
 have hb : a.Alphabet.length < 1000000000000:=hs.1
 obtain ⟨hF,_,hcl⟩:=Q9j h
 have hFl:=hF.len
 unfold Qed Qbq
 obtain ⟨fuel,hfu,hge⟩ : ∃ f,Qbc = f ∧ 1099511627776 ≤ f:=⟨_,rfl,Nat.le_refl _⟩
 rw [hfu,Qbhe h,Option.bind_some,Qbag (by unfold lim; omega),Option.bind_some]
 unfold Qig
 generalize Qgj a = F at hF hcl hFl
 show Option.bind (Qcb _ fuel (((0 : Nat) : Int),[],[],[],[],[])) _ = _
 rw [Qh7 (len:=F.length) (R:=List Int × List Int × List Qe × List Int × List Qe) (fun n (acc : List Int × List Qe)=>((n : Int),([] : List Int),([] : List Int),([] : List Qe),acc.1,acc.2)) (fun n acc=>acc.1.length ≤ n ∧ acc.2.length ≤ 32 * n)
  (fun n acc=>some (([] : List Int),([] : List Int),([] : List Qe),acc.1 ++ Qki a.Marked n (F.drop n),acc.2 ++ Qjb a F n (F.drop n))) ?_ ?_ fuel 0 ([],[]) (Nat.zero_le _) (by omega) ⟨Nat.zero_le _,Nat.zero_le _⟩]
 ·simp
 ·rintro k n ⟨ms,es⟩ hn ⟨k1,k2⟩ ih
  replace k1 : ms.length ≤ n:=k1
  replace k2 : es.length ≤ 32 * n:=k2
  have hg:=List.getElem?_eq_getElem hn
  dsimp only
  rw [if_pos (by omega),Qbo hn]
  simp only [Option.bind_some]
  rw [Qblq hs.2.1]
  simp only [Option.bind_some]
  have hrl:=Qbig h (F:=F) (i:=n) (s:=F[n])
  rw [List.drop_eq_getElem_cons hn]
  simp only [Qki,Qjb]
  by_cases hm : F[n] ∈ a.Marked
  ·simp only [hm,decide_true,if_true]
   rw [Qbx (by simp only [List.length_cons,List.length_nil]; unfold lim; omega)]
   simp only [Option.bind_some]
   have:=Qbdn h fuel hge hF hcl hg (ms ++ [(n : Int)]) es (by omega)
   rw [Qbo hn] at this
   simp only [Option.bind_some] at this
   rw [this]
   simp only [Option.bind_some]
   rw [Qv (by omega),ih (ms ++ [(n : Int)],es ++ rowP a F n F[n]) ⟨by simp only [List.length_append,List.length_cons,List.length_nil]; omega,by simp only [List.length_append]; omega⟩]
   simp only [List.append_assoc]
  ·simp only [hm,decide_false,Bool.false_eq_true,if_false,Option.bind_some]
   have:=Qbdn h fuel hge hF hcl hg ms es (by omega)
   rw [Qbo hn] at this
   simp only [Option.bind_some] at this
   rw [this]
   simp only [Option.bind_some]
   rw [Qv (by omega),ih (ms,es ++ rowP a F n F[n]) ⟨by simp only; omega,by simp only [List.length_append]; omega⟩]
   simp only [List.append_assoc,List.nil_append]
 ·rintro k ⟨ms,es⟩ _
  dsimp only
  rw [if_neg (by omega)]
  simp [Qki,Qjb]
end
end Go.Abs
end
section
namespace Go.Abs
open Go
structure Evs (l : List Int) : Prop where
 rg : ∀ x ∈ l,0 ≤ x ∧ x < 5
 so : l.Pairwise (· < ·)
theorem Evs.len {l : List Int} (h : Evs l) : l.length ≤ 5:=by have:=Qg1 h.so h.rg; simpa using this
def Qbm3 : List Int → Bool
 | []=>true
 | x :: xs=>xs.all (fun y=>decide (x < y)) && Qbm3 xs
theorem Qbf3 : ∀ {l : List Int},Qbm3 l = true → l.Pairwise (· < ·)
 | [],_=>.nil
 | x :: xs,h=>by
  simp only [Qbm3,Bool.and_eq_true,List.all_eq_true,decide_eq_true_eq] at h
  exact List.pairwise_cons.2 ⟨h.1,Qbf3 h.2⟩
def evB (s : Nat) : Bool:=match Qd5 (s : Int) with
 | some l=>Qbm3 l && l.all fun x=>decide (0 ≤ x) && decide (x < 5)
 | none=>false
theorem Qbow : (List.range 256).all evB = true:=by kernel_rfl
theorem Qbls {s : Int} (h0 : 0 ≤ s) (h1 : s < 256) : ∃ l,Qd5 s = some l ∧ Evs l:=by
 have:=List.all_eq_true.1 Qbow s.toNat (List.mem_range.2 (by omega))
 unfold evB at this
 rw [show ((s.toNat : Nat) : Int) = s from by omega] at this
 split at this
 ·rename_i l hl
  simp only [Bool.and_eq_true,List.all_eq_true,decide_eq_true_eq] at this
  exact ⟨l,hl,fun x hx=>this.2 x hx,Qbf3 this.1⟩
 ·cases this
structure Mks (n : Nat) (ms : List Int) : Prop where
 rg : ∀ x ∈ ms,0 ≤ x ∧ x < n
 so : ms.Pairwise (· < ·)
structure Eds (al : List Int) (N : Int) (i k : Nat) (es : List Qe) : Prop where
 rg : ∀ x ∈ es,0 ≤ x.From ∧ 0 ≤ x.To ∧ x.To < N ∧ x.Event ∈ al ∧ (x.From < i ∨ x.From = i ∧ ∃ j : Nat,j < k ∧ al[j]? = some x.Event)
 so : es.Pairwise Qjr
 ln : es.length ≤ 5 * i + k
theorem Mks.up {n : Nat} {ms : List Int} (h : Mks n ms) : Mks (n + 1) ms:=⟨fun x hx=>by have:=h.rg x hx; omega,h.so⟩
theorem Mks.add {n : Nat} {ms : List Int} (h : Mks n ms) : Mks (n + 1) (ms ++ [(n : Int)]):=by
 refine ⟨fun x hx=>?_,?_⟩
 ·rcases List.mem_append.1 hx with hx | hx
  ·have:=h.rg x hx; omega
  ·simp at hx; omega
 ·rw [List.pairwise_append]
  exact ⟨h.so,by simp,fun x hx y hy=>by simp at hy; have:=h.rg x hx; omega⟩
theorem Mks.len {n : Nat} {ms : List Int} (h : Mks n ms) : ms.length ≤ n:=by have:=Qg1 h.so h.rg; simpa using this
section
variable {al : List Int} (hal : Evs al) {N : Int} {i k : Nat} {es : List Qe}
theorem Eds.up (h : Eds al N i k es) : Eds al N i (k + 1) es:=⟨fun x hx=>by
 obtain ⟨h1,h2,h3,h4,h5⟩:=h.rg x hx
 refine ⟨h1,h2,h3,h4,?_⟩
 rcases h5 with h5 | ⟨h5,j,h6,h7⟩
 ·exact .inl h5
 ·exact .inr ⟨h5,j,by omega,h7⟩,h.so,by have:=h.ln; omega⟩
theorem Eds.next (h : Eds al N i k es) (hk : k ≤ 5) : Eds al N (i + 1) 0 es:=⟨fun x hx=>by
 obtain ⟨h1,h2,h3,h4,h5⟩:=h.rg x hx
 exact ⟨h1,h2,h3,h4,.inl (by rcases h5 with h5 | ⟨h5,_⟩ <;> omega)⟩,h.so,by have:=h.ln; omega⟩
include hal in
theorem Eds.add (h : Eds al N i k es) (hk : k < al.length) {t : Int} (ht : 0 ≤ t ∧ t < N) : Eds al N i (k + 1) (es ++ [⟨(i : Int),al[k],t⟩]):=by
 refine ⟨fun x hx=>?_,?_,by have:=h.ln; simp only [List.length_append,List.length_cons,List.length_nil]; omega⟩
 ·rcases List.mem_append.1 hx with hx | hx
  ·exact h.up.rg x hx
  ·simp at hx; subst hx
   exact ⟨by simp only; omega,ht.1,ht.2,List.getElem_mem hk,.inr ⟨rfl,k,by omega,List.getElem?_eq_getElem hk⟩⟩
 ·rw [List.pairwise_append]
  refine ⟨h.so,by simp,fun x hx y hy=>?_⟩
  simp at hy; subst hy
  obtain ⟨_,_,_,_,h5⟩:=h.rg x hx
  rcases h5 with h5 | ⟨h5,j,h6,h7⟩
  ·exact .inl h5
  ·refine .inr ⟨h5,?_⟩
   obtain ⟨h8,h9⟩:=List.getElem?_eq_some_iff.1 h7
   rw [← h9]
   exact List.pairwise_iff_getElem.1 hal.so j k h8 hk h6
end
structure Qblt (g : Q7) : Prop where
 st : 0 ≤ g.States ∧ g.States < 256
 to : ∀ x ∈ [g.To.1.1,g.To.1.2.1,g.To.1.2.2.1,g.To.1.2.2.2.1,g.To.1.2.2.2.2,g.To.2.1.1,g.To.2.1.2.1,g.To.2.1.2.2.1,g.To.2.1.2.2.2.1,g.To.2.1.2.2.2.2,g.To.2.2.1.1,g.To.2.2.1.2.1,g.To.2.2.1.2.2.1,g.To.2.2.1.2.2.2.1,g.To.2.2.1.2.2.2.2,g.To.2.2.2.1.1,g.To.2.2.2.1.2.1,g.To.2.2.2.1.2.2.1,g.To.2.2.2.1.2.2.2.1,g.To.2.2.2.1.2.2.2.2,g.To.2.2.2.2.1,g.To.2.2.2.2.2.1,g.To.2.2.2.2.2.2.1,g.To.2.2.2.2.2.2.2.1,g.To.2.2.2.2.2.2.2.2],0 ≤ x ∧ x < 256
theorem Qbih {al : List Int} (hal : Evs al) (fuel : Nat) (hfu : 1099511627776 ≤ fuel) {L : List Int} (hL : L.length = 25) (hL2 : ∀ x ∈ L,0 ≤ x ∧ x < 256) {N : Int} (hN : 1 ≤ N ∧ N ≤ 5) {i : Nat} (hi : (i : Int) < N) {ms : List Int} {es : List Qe} (hes : Eds al N i 0 es) :
  ∃ es',Eds al N (i + 1) 0 es' ∧ Qcb (fun (k25 : Int × List Qe → Option (List Int × List Qe)) ((k23,a24) : Int × (List Qe))=>(((if (k23 < (al.length : Int)) then some (decide (k23 < 5)) else some false)).bind fun (x27 : Bool)=>(if x27 then ((((inO 5 (i : Int)).bind fun _=>((inO 5 k23).bind fun _=>((rowO L (Int.toNat (i : Int) * 5 + Int.toNat k23 * 1)).bind fun x31=>((remO .i64 (IntKind.wrap .i64 x31) (IntKind.wrap .i64 (N + 2))).bind fun s33=>(if (s33 < N) then ((getO al k23).bind fun x36=>((appO a24 [(Qe.mk (i : Int) x36 s33)]).bind fun x38=>some x38)) else some a24)))))).bind fun (a40 : List Qe)=>k25 ((IntKind.wrap .i64 (k23 + 1)),a40)) else some (ms,a24)))) fuel (0,es) = some (ms,es'):=by
 have hl:=hal.len
 have:=Qdd (F:=fun (k25 : Int × List Qe → Option (List Int × List Qe)) ((k23,a24) : Int × (List Qe))=>(((if (k23 < (al.length : Int)) then some (decide (k23 < 5)) else some false)).bind fun (x27 : Bool)=>(if x27 then ((((inO 5 (i : Int)).bind fun _=>((inO 5 k23).bind fun _=>((rowO L (Int.toNat (i : Int) * 5 + Int.toNat k23 * 1)).bind fun x31=>((remO .i64 (IntKind.wrap .i64 x31) (IntKind.wrap .i64 (N + 2))).bind fun s33=>(if (s33 < N) then ((getO al k23).bind fun x36=>((appO a24 [(Qe.mk (i : Int) x36 s33)]).bind fun x38=>some x38)) else some a24)))))).bind fun (a40 : List Qe)=>k25 ((IntKind.wrap .i64 (k23 + 1)),a40)) else some (ms,a24))))
  (fun x=>∃ k : Nat,x.1 = (k : Int) ∧ k ≤ al.length ∧ Eds al N i k x.2) (fun x=>al.length - x.1.toNat) (fun _ r=>∃ es',r = some (ms,es') ∧ Eds al N (i + 1) 0 es') (by
   rintro kk ⟨k,es⟩ ⟨k,rfl,hk,he⟩ ih
   replace he : Eds al N i k es:=he
   replace hk : k ≤ al.length:=hk
   dsimp only
   by_cases hlt : k < al.length
   ·rw [if_pos (by omega)]
    simp only [Option.bind_some,show decide ((k : Int) < 5) = true from by simp; omega,if_true]
    rw [show inO 5 (i : Int) = some () from by unfold inO; rw [if_pos (by omega)],show inO 5 (k : Int) = some () from by unfold inO; rw [if_pos (by omega)]]
    simp only [Option.bind_some,Int.toNat_natCast]
    have hidx : i * 5 + k * 1 < L.length:=by omega
    have hx:=hL2 _ (List.getElem_mem hidx)
    rw [show rowO L (i * 5 + k * 1) = some L[i * 5 + k * 1] from by unfold rowO; exact List.getElem?_eq_getElem hidx]
    simp only [Option.bind_some]
    rw [Qr4 (x:=L[i * 5 + k * 1]) (by omega) (by omega),Qr4 (x:=N + 2) (by omega) (by omega),show remO .i64 L[i * 5 + k * 1] (N + 2) = some (L[i * 5 + k * 1].tmod (N + 2)) from by unfold remO; rw [if_neg (by omega)]]
    simp only [Option.bind_some]
    have hmod : 0 ≤ L[i * 5 + k * 1].tmod (N + 2):=Int.tmod_nonneg _ hx.1
    have hln:=he.ln
    by_cases hm : L[i * 5 + k * 1].tmod (N + 2) < N
    ·rw [if_pos hm,Qbo hlt]
     simp only [Option.bind_some]
     rw [Qbx (by simp only [List.length_cons,List.length_nil]; unfold lim; omega)]
     simp only [Option.bind_some]
     rw [Qv (by omega)]
     exact ih _ ⟨k + 1,rfl,hlt,he.add hal hlt ⟨hmod,hm⟩⟩ (by simp only; omega)
    ·rw [if_neg hm]
     simp only [Option.bind_some]
     rw [Qv (by omega)]
     exact ih _ ⟨k + 1,rfl,hlt,he.up⟩ (by simp only; omega)
   ·rw [if_neg (by omega)]
    exact ⟨es,rfl,he.next (by omega)⟩) fuel (0,es) ⟨0,rfl,Nat.zero_le _,hes⟩ (by simp only; omega)
 obtain ⟨es',h1,h2⟩:=this
 exact ⟨es',h2,h1⟩
theorem Qbhf {al : List Int} (hal : Evs al) : Right ⟨al,0,[],[]⟩ :=
 ⟨fun x hx=>by have:=hal.rg x hx; omega,hal.so,⟨by simp,by simp⟩,by simp,.nil,by simp,.nil⟩
theorem Qbox {al : List Int} (hal : Evs al) {g : Q7} (hg : Qblt g) : ∃ m,Right m ∧ m.Alphabet = al ∧ Qf9 al g = some (Qig m) ∧ m.States ≤ 5:=by
 have hl:=hal.len
 obtain ⟨hst,hto⟩:=hg
 unfold Qf9 Qcd
 obtain ⟨fuel,hfu,hge⟩ : ∃ f,Qbc = f ∧ 1099511627776 ≤ f:=⟨_,rfl,Nat.le_refl _⟩
 rw [hfu,Qbag (by unfold lim; omega)]
 simp only [Option.bind_some]
 by_cases h250 : g.States ≥ 250
 ·rw [if_pos h250]
  exact ⟨⟨al,0,[],[]⟩,Qbhf hal,rfl,rfl,by simp⟩
 rw [if_neg h250]
 have hL : [g.To.1.1,g.To.1.2.1,g.To.1.2.2.1,g.To.1.2.2.2.1,g.To.1.2.2.2.2,g.To.2.1.1,g.To.2.1.2.1,g.To.2.1.2.2.1,g.To.2.1.2.2.2.1,g.To.2.1.2.2.2.2,g.To.2.2.1.1,g.To.2.2.1.2.1,g.To.2.2.1.2.2.1,g.To.2.2.1.2.2.2.1,g.To.2.2.1.2.2.2.2,g.To.2.2.2.1.1,g.To.2.2.2.1.2.1,g.To.2.2.2.1.2.2.1,g.To.2.2.2.1.2.2.2.1,g.To.2.2.2.1.2.2.2.2,g.To.2.2.2.2.1,g.To.2.2.2.2.2.1,g.To.2.2.2.2.2.2.1,g.To.2.2.2.2.2.2.2.1,g.To.2.2.2.2.2.2.2.2].length = 25:=rfl
 generalize [g.To.1.1,g.To.1.2.1,g.To.1.2.2.1,g.To.1.2.2.2.1,g.To.1.2.2.2.2,g.To.2.1.1,g.To.2.1.2.1,g.To.2.1.2.2.1,g.To.2.1.2.2.2.1,g.To.2.1.2.2.2.2,g.To.2.2.1.1,g.To.2.2.1.2.1,g.To.2.2.1.2.2.1,g.To.2.2.1.2.2.2.1,g.To.2.2.1.2.2.2.2,g.To.2.2.2.1.1,g.To.2.2.2.1.2.1,g.To.2.2.2.1.2.2.1,g.To.2.2.2.1.2.2.2.1,g.To.2.2.2.1.2.2.2.2,g.To.2.2.2.2.1,g.To.2.2.2.2.2.1,g.To.2.2.2.2.2.2.1,g.To.2.2.2.2.2.2.2.1,g.To.2.2.2.2.2.2.2.2] = L at hto hL ⊢
 have hmod : 0 ≤ g.States.tmod 5 ∧ g.States.tmod 5 < 5:=⟨Int.tmod_nonneg _ hst.1,Int.tmod_lt_of_pos _ (by omega)⟩
 have hN : 1 ≤ IntKind.wrap .i64 (1 + (IntKind.wrap .i64 (Int.tmod g.States 5))) ∧ IntKind.wrap .i64 (1 + (IntKind.wrap .i64 (Int.tmod g.States 5))) ≤ 5:=by
  rw [Qr4 (x:=g.States.tmod 5) (by omega) (by omega),Qr4 (by omega) (by omega)]; omega
 generalize IntKind.wrap .i64 (1 + (IntKind.wrap .i64 (Int.tmod g.States 5))) = N at hN ⊢
 have hloop:=Qdd (F:=(fun (k15 : Int × List Int × List Int × List Qe × Int × List Int × List Qe → Option (List Int × List Int × List Qe × Int × List Int × List Qe)) ((i8,c9,c10,c11,a12,a13,a14) : Int × (List Int) × (List Int) × (List Qe) × Int × (List Int) × (List Qe))=>(if (i8 < a12) then ((((((shrO .u8 g.Marks i8).bind fun s17=>(if ((andI .u8 s17 1) == 1) then ((appO a13 [i8]).bind fun x20=>some x20) else some a13))).bind fun (a22 : List Int)=>Qcb (fun k25 ((k23,a24) : Int × (List Qe))=>(((if (k23 < (al.length : Int)) then some (decide (k23 < 5)) else some false)).bind fun (x27 : Bool)=>(if x27 then ((((inO 5 i8).bind fun _=>((inO 5 k23).bind fun _=>((rowO L (Int.toNat i8 * 5 + Int.toNat k23 * 1)).bind fun x31=>((remO .i64 (IntKind.wrap .i64 x31) (IntKind.wrap .i64 (a12 + 2))).bind fun s33=>(if (s33 < a12) then ((getO al k23).bind fun x36=>((appO a24 [(Qe.mk i8 x36 s33)]).bind fun x38=>some x38)) else some a24)))))).bind fun (a40 : List Qe)=>k25 ((IntKind.wrap .i64 (k23 + 1)),a40)) else some (a22,a24)))) fuel (0,a14))).bind fun ((a41,a42) : (List Int) × (List Qe))=>k15 ((IntKind.wrap .i64 (i8 + 1)),c9,c10,c11,a12,a41,a42)) else some (c9,c10,c11,a12,a13,a14))))
  (fun x=>∃ (i : Nat) (ms : List Int) (es : List Qe),x = ((i : Int),[],[],[],N,ms,es) ∧ (i : Int) ≤ N ∧ Mks i ms ∧ Eds al N i 0 es) (fun x=>(N - x.1).toNat)
  (fun _ r=>∃ (i : Nat) (ms : List Int) (es : List Qe),r = some ([],[],[],N,ms,es) ∧ (i : Int) = N ∧ Mks i ms ∧ Eds al N i 0 es) (by
   rintro k _ ⟨i,ms,es,rfl,hi,hm,he⟩ ih
   dsimp only
   by_cases hlt : (i : Int) < N
   ·rw [if_pos hlt,show shrO .u8 g.Marks (i : Int) = some (g.Marks.fdiv (2 ^ (min (Int.toNat (i : Int)) (IntKind.bits .u8)))) from by unfold shrO; rw [if_neg (by omega)]]
    simp only [Option.bind_some]
    have hml:=hm.len
    by_cases hb : (andI .u8 (g.Marks.fdiv (2 ^ (min (Int.toNat (i : Int)) (IntKind.bits .u8)))) 1 == 1) = true
    ·rw [if_pos hb,Qbx (by simp only [List.length_cons,List.length_nil]; unfold lim; omega)]
     simp only [Option.bind_some]
     obtain ⟨es',h1,h2⟩:=Qbih hal fuel hge hL hto hN hlt (ms:=ms ++ [(i : Int)]) he
     rw [h2]
     simp only [Option.bind_some]
     rw [Qv (by omega)]
     exact ih _ ⟨i + 1,_,_,rfl,by omega,hm.add,h1⟩ (by simp only; omega)
    ·rw [if_neg hb]
     simp only [Option.bind_some]
     obtain ⟨es',h1,h2⟩:=Qbih hal fuel hge hL hto hN hlt (ms:=ms) he
     rw [h2]
     simp only [Option.bind_some]
     rw [Qv (by omega)]
     exact ih _ ⟨i + 1,_,_,rfl,by omega,hm.up,h1⟩ (by simp only; omega)
   ·rw [if_neg hlt]
    exact ⟨i,ms,es,rfl,by omega,hm,he⟩) fuel (0,[],[],[],N,[],[]) ⟨0,[],[],rfl,by omega,⟨by simp,.nil⟩,⟨by simp,.nil,by simp⟩⟩ (by simp only; omega)
 obtain ⟨i,ms,es,h1,h2,h3,h4⟩:=hloop
 rw [h1]
 simp only [Option.bind_some]
 have hr : Right ⟨al,N,ms,es⟩:=⟨fun x hx=>by have:=hal.rg x hx; omega,hal.so,⟨by simp only; omega,by simp only; omega⟩,fun x hx=>by have:=h3.rg x hx; simp only; omega,h3.so,fun x hx=>by
  obtain ⟨k1,k2,k3,k4,k5⟩:=h4.rg x hx
  refine ⟨k1,?_,k2,k3,k4⟩
  rcases k5 with k5 | ⟨_,j,k6,_⟩
  ·simp only; omega
  ·omega,h4.so⟩
 rw [Qbby hr]
 exact ⟨_,hr,rfl,rfl,by simp only; omega⟩
end Go.Abs
end
section
namespace Go.Proofs
open Go Go.Abs
theorem Qbps {x : Int} (h : wfI .u8 x) : 0 ≤ x ∧ x < 256:=by
 unfold wfI at h
 simp [Lit.wf,IntKind.min,IntKind.max,IntKind.bits,IntKind.signed] at h
 omega
theorem Qbpu {g : Q7} (h : W_26 g) : Qblt g:=by
 unfold W_26 W_24 W_23 W_5 at h
 obtain ⟨h1,h2,⟨a1,a2,a3,a4,a5⟩,⟨b1,b2,b3,b4,b5⟩,⟨c1,c2,c3,c4,c5⟩,⟨d1,d2,d3,d4,d5⟩,⟨e1,e2,e3,e4,e5⟩⟩:=h
 refine ⟨Qbps h1,fun x hx=>?_⟩
 simp only [List.mem_cons,List.not_mem_nil,or_false] at hx
 rcases hx with rfl | rfl | rfl | rfl | rfl | rfl | rfl | rfl | rfl | rfl | rfl | rfl | rfl | rfl | rfl | rfl | rfl | rfl | rfl | rfl | rfl | rfl | rfl | rfl | rfl <;> exact Qbps (by assumption)
end Go.Proofs
end
section
namespace Go.Abs
open Go
theorem Qbbz {α : Type} [DecidableEq α] {s t : List α} {ne : α → α → Bool} (hne : ∀ x y,ne x y = decide (x ≠ y)) (hl : s.length = t.length) (h : s.length < 1000000000000) :
  Qcb (fun k5 (i4 : Int)=>(if (i4 < (s.length : Int)) then ((getO s i4).bind fun x7=>((getO t i4).bind fun x9=>(if ne x7 x9 then some false else k5 (IntKind.wrap .i64 (i4 + 1))))) else some true)) Qbc 0 = some (decide (s = t)):=by
 refine Qbem (fun i : Int=>∃ n : Nat,i = n ∧ n ≤ s.length ∧ s.take n = t.take n) (fun i=>s.length - i.toNat) _ ⟨0,rfl,by omega,by simp⟩ (by unfold Qbc; omega) ?_
 rintro k _ ⟨n,rfl,hn,he⟩ ih
 by_cases hlt : n < s.length
 ·rw [if_pos (by omega),Qbo hlt,Qbo (by omega : n < t.length)]
  simp only [Option.bind_some,hne]
  by_cases hx : s[n] = t[n]
  ·rw [if_neg (by simp [hx]),Qv (by omega)]
   exact ih _ ⟨n + 1,rfl,by omega,Q9x hlt (by omega) he hx⟩ (by omega)
  ·rw [if_pos (by simp [hx])]
   have : s ≠ t:=fun e=>hx (by subst e; rfl)
   simp [this]
 ·rw [if_neg (by omega)]
  have e : n = s.length:=by omega
  have : s = t:=by
   rw [e,List.take_length,hl,List.take_length] at he; exact he
  simp [this]
theorem Qblu (x y : Qe) : (!((x.From == y.From) && ((x.Event == y.Event) && ((x.To == y.To) && true)))) = decide (x ≠ y):=by
 cases x; cases y
 simp only [Qe.mk.injEq,Bool.and_true,ne_eq,decide_not]
 congr 1
 rw [Bool.eq_iff_iff]; simp
theorem Qbb0 {s t : List Int} (h : s.length < 1000000000000) : Qhj s t = some (decide (s = t)):=by
 unfold Qhj Qcl
 by_cases hl : s.length = t.length
 ·rw [if_neg (by simp [hl])]
  exact Qbbz (ne:=fun x y=>x != y) (fun x y=>by rw [Bool.eq_iff_iff]; simp) hl h
 ·rw [if_pos (by simp; omega)]
  have : s ≠ t:=fun e=>hl (by rw [e])
  simp [this]
theorem Qbah {s t : List Int} (h : s.length < 1000000000000) : Qci s t = some (decide (s = t)):=Qbb0 h
theorem Qbnv {R : Type} (b : Bool) (A B : R) : (if b then A else B) = if (!b) then B else A:=by cases b <;> rfl
theorem Qbjb {s t : List Qe} (h : s.length < 1000000000000) : Qgv s t = some (decide (s = t)):=by
 unfold Qgv Qcp
 by_cases hl : s.length = t.length
 ·rw [if_neg (by simp [hl])]
  have:=Qbbz (ne:=fun x y=>!((x.From == y.From) && ((x.Event == y.Event) && ((x.To == y.To) && true)))) Qblu hl h
  simp only [← Qbnv] at this
  exact this
 ·rw [if_pos (by simp; omega)]
  have : s ≠ t:=fun e=>hl (by rw [e])
  simp [this]
theorem Qblv {a b : Qa} (h : small a) : Qib a b = some (decide (a = b)):=by
 unfold Qib Qdc
 rw [Qbb0 h.1,Qbb0 h.2.1,Qbjb h.2.2]
 obtain ⟨al,s,m,e⟩:=a
 obtain ⟨al',s',m',e'⟩:=b
 simp only [Option.bind_some,Qa.mk.injEq]
 by_cases h1 : s = s' <;> by_cases h2 : al = al' <;> by_cases h3 : m = m' <;> by_cases h4 : e = e' <;> simp [h1,h2,h3,h4]
theorem Qboy {a b : Qa} (h : small a) : Qex a b = some (decide (a = b)):=by
 unfold Qex Qbf
 rw [Qbah h.1,Qbah h.2.1]
 obtain ⟨al,s,m,e⟩:=a
 obtain ⟨al',s',m',e'⟩:=b
 have hlen : e.length ≠ e'.length → ¬ e = e':=fun h k=>h (by rw [k])
 have hlen2 : ((e.length : Int) != (e'.length : Int)) = decide (e.length ≠ e'.length):=by
  rw [Bool.eq_iff_iff]; simp; omega
 by_cases hl : e.length = e'.length
 ·have:=Qbbz (ne:=fun x y=>!((x.From == y.From) && ((x.Event == y.Event) && ((x.To == y.To) && true)))) Qblu hl h.2.2
  simp only [← Qbnv] at this
  rw [this]
  simp only [Option.bind_some,Qa.mk.injEq,hlen2]
  by_cases h1 : s = s' <;> by_cases h2 : al = al' <;> by_cases h3 : m = m' <;> simp [h1,h2,h3,hl]
 ·generalize Qcb _ Qbc 0 = L
  simp only [Option.bind_some,Qa.mk.injEq,hlen2]
  by_cases h1 : s = s' <;> by_cases h2 : al = al' <;> by_cases h3 : m = m' <;> simp [h1,h2,h3,hl,hlen hl]
end Go.Abs
end
section
namespace Go.Abs
open Go
theorem Qblw : Qh6 = some true:=by kernel_rfl
theorem Qblx {s t : List (List Int)} (h : s.length < 1000000000000) (hs : ∀ x ∈ s,x.length < 1000000000000) : Qdi s t = some (decide (s = t)):=by
 unfold Qdi Qy
 by_cases hl : s.length = t.length
 ·rw [if_neg (by simp [hl])]
  refine Qbem (fun i : Int=>∃ n : Nat,i = n ∧ n ≤ s.length ∧ s.take n = t.take n) (fun i=>s.length - i.toNat) _ ⟨0,rfl,by omega,by simp⟩ (by unfold Qbc; omega) ?_
  rintro k _ ⟨n,rfl,hn,he⟩ ih
  by_cases hlt : n < s.length
  ·rw [if_pos (by omega),Qbo hlt,Qbo (by omega : n < t.length)]
   simp only [Option.bind_some,Qbah (hs _ (List.getElem_mem hlt))]
   by_cases hx : s[n] = t[n]
   ·rw [if_pos (by simp [hx]),Qv (by omega)]
    exact ih _ ⟨n + 1,rfl,by omega,Q9x hlt (by omega) he hx⟩ (by omega)
   ·rw [if_neg (by simp [hx])]
    have : s ≠ t:=fun e=>hx (by subst e; rfl)
    simp [this]
  ·rw [if_neg (by omega)]
   have e : n = s.length:=by omega
   have : s = t:=by
    rw [e,List.take_length,hl,List.take_length] at he; exact he
   simp [this]
 ·rw [if_pos (by simp; omega)]
  have : s ≠ t:=fun e=>hl (by rw [e])
  simp [this]
end Go.Abs
end
section
namespace Go.Abs
open Go
theorem Qboz (x y : Int) : Qi9 x y = some (decide (x < y)):=by
 unfold Qi9 Qeb Qpv Qdg
 simp
theorem Qbm4 (x : Int) : Qhi x = some false:=by
 unfold Qhi Qck
 simp
theorem Qbly {l : List Int} (h : l.Pairwise (· < ·)) (v : Int) : l.Pairwise fun a b=>decide (b < v) = true → decide (a < v) = true :=
 h.imp fun h=>by simp; omega
theorem Qblz {l : List Int} {v : Int} (hs : l.Pairwise (· < ·)) (hl : l.length < big) : ∃ n,Qct l v = some (n,decide (v ∈ l)):=by
 have hc:=fun n h=>Q9h (p:=fun x : Int=>decide (x < v)) (Qbly hs v) n h
 have hcl : (l.filter fun x=>decide (x < v)).length ≤ l.length:=List.length_filter_le _ _
 generalize (l.filter fun x=>decide (x < v)).length = c at hc hcl
 have hb : l.length < 1000000000000:=hl
 unfold Qct Qbp
 obtain ⟨fuel,hfu,hge⟩ : ∃ f,Qbc = f ∧ 1099511627776 ≤ f:=⟨_,rfl,Nat.le_refl _⟩
 rw [hfu]
 have hloop:=Qdd (F:=fun (k5 : Int × Int → Option Int) ((i3,j4) : Int × Int)=>(if (i3 < j4) then ((getO l (IntKind.wrap .i64 (Int.fdiv (IntKind.wrap .u64 (IntKind.wrap .i64 (i3 + j4))) (2 ^ (min (Int.toNat 1) (IntKind.bits .u64)))))).bind fun x7=>((Qi9 x7 v).bind fun x10=>(if x10 then k5 ((IntKind.wrap .i64 ((IntKind.wrap .i64 (Int.fdiv (IntKind.wrap .u64 (IntKind.wrap .i64 (i3 + j4))) (2 ^ (min (Int.toNat 1) (IntKind.bits .u64))))) + 1)),j4) else k5 (i3,(IntKind.wrap .i64 (Int.fdiv (IntKind.wrap .u64 (IntKind.wrap .i64 (i3 + j4))) (2 ^ (min (Int.toNat 1) (IntKind.bits .u64))))))))) else some i3))
  (fun x=>∃ i j : Nat,x = ((i : Int),(j : Int)) ∧ i ≤ c ∧ c ≤ j ∧ j ≤ l.length) (fun x=>(x.2 - x.1).toNat) (fun _ r=>r = some (c : Int)) (by
   rintro k _ ⟨i,j,rfl,h1,h2,h3⟩ ih
   dsimp only
   by_cases hij : i < j
   ·rw [if_pos (by omega),Qbnt (by omega) (by omega)]
    have hm : (i + j) / 2 < l.length:=by omega
    rw [Qbo hm]
    simp only [Option.bind_some]
    rw [Qboz]
    simp only [Option.bind_some]
    have hcm:=hc ((i + j) / 2) hm
    by_cases hlt : l[(i + j) / 2] < v
    ·rw [if_pos (by simpa using hlt),Qv (by omega)]
     have : (i + j) / 2 < c:=hcm.1 (by simpa using hlt)
     exact ih _ ⟨_,_,rfl,by omega,h2,h3⟩ (by simp only; omega)
    ·rw [if_neg (by simpa using hlt)]
     have : ¬ (i + j) / 2 < c:=fun h=>hlt (by simpa using hcm.2 h)
     exact ih _ ⟨_,_,rfl,h1,by omega,by omega⟩ (by simp only; omega)
   ·rw [if_neg (by omega)]
    have : i = c:=by omega
    rw [this]) fuel (0,(l.length : Int)) ⟨0,l.length,rfl,by omega,hcl,Nat.le_refl _⟩ (by simp only; omega)
 rw [hloop]
 simp only [Option.bind_some]
 have hmem : v ∈ l ↔ ∃ h : c < l.length,l[c] = v:=by
  constructor
  ·intro hv
   obtain ⟨j,hj,rfl⟩:=List.getElem_of_mem hv
   have h1 : ¬ j < c:=fun h=>by have:=(hc j hj).2 h; simp at this
   have h2 : c < l.length:=by omega
   refine ⟨h2,?_⟩
   have h3 : ¬ l[c] < l[j]:=fun h=>by have:=(hc c h2).1 (by simpa using h); omega
   rcases Nat.lt_or_ge c j with h | h
   ·have:=List.pairwise_iff_getElem.1 hs c j h2 hj h; omega
   ·have : c = j:=by omega
    subst this; rfl
  ·rintro ⟨h,rfl⟩; exact List.getElem_mem h
 by_cases hlt : c < l.length
 ·rw [if_pos (by omega),Qbo hlt]
  simp only [Option.bind_some]
  by_cases he : l[c] = v
  ·rw [if_pos (by simpa using he)]
   exact ⟨_,by rw [decide_eq_true (hmem.2 ⟨hlt,he⟩)]⟩
  ·rw [if_neg (by simpa using he),Qbm4]
   exact ⟨_,by rw [decide_eq_false (fun h=>he (hmem.1 h).2)]; rfl⟩
 ·rw [if_neg (by omega)]
  exact ⟨_,by rw [decide_eq_false (fun h=>hlt (hmem.1 h).1)]⟩
theorem Qbm5 {l : List Int} (hl : l.length ≤ lim) : Qfo l = some l:=by
 unfold Qfo Qbn
 rw [Qbx (by simpa using hl)]
 cases l <;> simp [nilO]
structure Num (a : Qa) (o num : List Int) : Prop where
 len : num.length = a.States.toNat
 at1 : ∀ s : Nat,s < a.States.toNat → num[s]? = some (if (s : Int) ∈ o then (o.idxOf (s : Int) : Int) else -1)
theorem Qbb1 {o F : List Int} (h : o <+: F) {t : Int} (ht : t ∈ o) : F.idxOf t = o.idxOf t:=by
 obtain ⟨r,rfl⟩:=h
 rw [List.idxOf_append,if_pos ht]
theorem Num.get {a : Qa} {o num : List Int} (h : Num a o num) {t : Int} (ht : 0 ≤ t ∧ t < a.States) : getO num t = some (if t ∈ o then (o.idxOf t : Int) else -1):=by
 rw [Qja]
 refine ⟨ht.1,?_⟩
 have:=h.at1 t.toNat (by omega)
 rwa [show ((t.toNat : Nat) : Int) = t from by omega] at this
theorem Num.set {a : Qa} {o num : List Int} (h : Num a o num) {t : Int} (ht : 0 ≤ t ∧ t < a.States) (hn : t ∉ o) : ∃ num',setO num t (o.length : Int) = some num' ∧ Num a (o ++ [t]) num':=by
 refine ⟨num.set t.toNat (o.length : Int),by unfold setO; rw [if_pos ⟨ht.1,by rw [h.len]; omega⟩],by rw [List.length_set]; exact h.len,fun s hs=>?_⟩
 rw [List.getElem?_set]
 by_cases he : t.toNat = s
 ·subst he
  rw [if_pos rfl,if_pos (by rw [h.len]; omega),show ((t.toNat : Nat) : Int) = t from by omega,if_pos (by simp),List.idxOf_append,if_neg hn]
  simp
 ·rw [if_neg he,h.at1 s hs]
  have hne : (s : Int) ≠ t:=by omega
  by_cases hm : (s : Int) ∈ o
  ·rw [if_pos hm,if_pos (by simp [hm]),List.idxOf_append,if_pos hm]
  ·rw [if_neg hm,if_neg (by simp [hm,hne])]
section
variable {a : Qa} (h : Right a)
include h
theorem Qbl0 (fuel : Nat) (hfu : 1099511627776 ≤ fuel) {l : List Qe} (hl : l.length ≤ 200000) (hto : ∀ x ∈ l,0 ≤ x.To ∧ x.To < a.States) {i : Nat} {ms o : List Int} {es : List Qe} {num : List Int} (ho : Fnd a o) (hn : Num a o num) (hes : es.length ≤ 200000) :
  ∃ num',Num a ((l.map (·.To)).foldl ins o) num' ∧ Qcb (fun (k47 : List Int × Int × List Qe × List Int → Option (List Int × List Int × List Qe × List Int)) ((order43,x44,r45,c46) : (List Int) × Int × (List Qe) × (List Int))=>(if (x44 < (l.length : Int)) then ((getO l x44).bind fun x49=>((((inO (Int.toNat a.States) x49.To).bind fun u51=>((getO c46 x49.To).bind fun x53=>(if (x53 < 0) then ((inO (Int.toNat a.States) x49.To).bind fun u56=>((setO c46 x49.To (order43.length : Int)).bind fun x58=>((appO order43 [x49.To]).bind fun x60=>some (x60,x58)))) else some (order43,c46))))).bind fun ((order62,c63) : (List Int) × (List Int))=>((inO (Int.toNat a.States) x49.To).bind fun u64=>((getO c63 x49.To).bind fun x66=>((appO r45 [(Qe.mk (i : Int) x49.Event x66)]).bind fun x68=>k47 (order62,(IntKind.wrap .i64 (x44 + 1)),x68,c63)))))) else some (order43,ms,r45,c46))) fuel (o,0,es,num) = some ((l.map (·.To)).foldl ins o,ms,es ++ l.map (fun x=>⟨(i : Int),x.Event,(((l.map (·.To)).foldl ins o).idxOf x.To : Int)⟩),num'):=by
 have hst:=h.st
 have key:=Qdd (F:=(fun (k47 : List Int × Int × List Qe × List Int → Option (List Int × List Int × List Qe × List Int)) ((order43,x44,r45,c46) : (List Int) × Int × (List Qe) × (List Int))=>(if (x44 < (l.length : Int)) then ((getO l x44).bind fun x49=>((((inO (Int.toNat a.States) x49.To).bind fun u51=>((getO c46 x49.To).bind fun x53=>(if (x53 < 0) then ((inO (Int.toNat a.States) x49.To).bind fun u56=>((setO c46 x49.To (order43.length : Int)).bind fun x58=>((appO order43 [x49.To]).bind fun x60=>some (x60,x58)))) else some (order43,c46))))).bind fun ((order62,c63) : (List Int) × (List Int))=>((inO (Int.toNat a.States) x49.To).bind fun u64=>((getO c63 x49.To).bind fun x66=>((appO r45 [(Qe.mk (i : Int) x49.Event x66)]).bind fun x68=>k47 (order62,(IntKind.wrap .i64 (x44 + 1)),x68,c63)))))) else some (order43,ms,r45,c46))))
  (fun x=>∃ (j : Nat) (o : List Int) (es : List Qe) (num : List Int),x = (o,(j : Int),es,num) ∧ j ≤ l.length ∧ Fnd a o ∧ Num a o num ∧ es.length ≤ 200000 + j) (fun x=>l.length - x.2.1.toNat)
  (fun x r=>∀ (j : Nat) (o : List Int) (es : List Qe) (num : List Int),x = (o,(j : Int),es,num) → ∃ num',Num a (((l.drop j).map (·.To)).foldl ins o) num' ∧ r = some (((l.drop j).map (·.To)).foldl ins o,ms,es ++ (l.drop j).map (fun x=>⟨(i : Int),x.Event,((((l.drop j).map (·.To)).foldl ins o).idxOf x.To : Int)⟩),num')) (by
   rintro k _ ⟨j,o,es,num,rfl,hj,hf,hnm,hel⟩ ih j' o' es' num' he
   obtain ⟨rfl,he2⟩:=Prod.mk.inj he
   obtain ⟨hjj,he3⟩:=Prod.mk.inj he2
   obtain ⟨rfl,rfl⟩:=Prod.mk.inj he3
   obtain rfl : j = j':=by omega
   have hfl:=hf.len
   dsimp only
   by_cases hlt : j < l.length
   ·have ht:=hto _ (List.getElem_mem hlt)
    rw [if_pos (by omega),Qbo hlt]
    simp only [Option.bind_some]
    rw [show inO (Int.toNat a.States) l[j].To = some () from by unfold inO; rw [if_pos (by omega)]]
    simp only [Option.bind_some]
    rw [hnm.get ht]
    simp only [Option.bind_some]
    have hfi:=hf.ins ht
    have hmem : l[j].To ∈ ins o l[j].To:=Q9i.2 (.inr rfl)
    have hpre : ins o l[j].To <+: ((l.drop (j + 1)).map (·.To)).foldl ins (ins o l[j].To) :=
     (Qp1 hfi fun t ht'=>by obtain ⟨x,hx,rfl⟩:=List.mem_map.1 ht'; exact hto x (List.mem_of_mem_drop hx)).2.1
    rw [List.drop_eq_getElem_cons hlt]
    simp only [List.map_cons,List.foldl_cons]
    by_cases hm : l[j].To ∈ o
    ·have e1 : ins o l[j].To = o:=by unfold ins; rw [if_pos hm]
     rw [if_pos hm,if_neg (by omega)]
     simp only [Option.bind_some]
     rw [hnm.get ht,if_pos hm]
     simp only [Option.bind_some]
     rw [Qbx (by simp only [List.length_cons,List.length_nil]; unfold lim; omega)]
     simp only [Option.bind_some]
     rw [Qv (by omega)]
     rw [e1] at hpre ⊢
     obtain ⟨num',q1,q2⟩:=ih _ ⟨j + 1,o,es ++ [⟨(i : Int),l[j].Event,(o.idxOf l[j].To : Int)⟩],num,rfl,by omega,hf,hnm,by simp only [List.length_append,List.length_cons,List.length_nil]; omega⟩ (by simp only; omega) (j + 1) _ _ _ rfl
     refine ⟨num',q1,?_⟩
     rw [q2,Qbb1 hpre hm]
     simp only [List.append_assoc,List.cons_append,List.nil_append]
    ·have e1 : ins o l[j].To = o ++ [l[j].To]:=by unfold ins; rw [if_neg hm]
     rw [if_neg hm,if_pos (by omega)]
     obtain ⟨num1,w1,w2⟩:=hnm.set ht hm
     rw [w1]
     simp only [Option.bind_some]
     rw [Qbx (by simp only [List.length_cons,List.length_nil]; unfold lim; omega)]
     simp only [Option.bind_some]
     rw [w2.get ht,if_pos (by simp)]
     simp only [Option.bind_some]
     rw [Qbx (by simp only [List.length_cons,List.length_nil]; unfold lim; omega)]
     simp only [Option.bind_some]
     rw [Qv (by omega)]
     rw [e1] at hpre hfi hmem ⊢
     obtain ⟨num',q1,q2⟩:=ih _ ⟨j + 1,o ++ [l[j].To],es ++ [⟨(i : Int),l[j].Event,((o ++ [l[j].To]).idxOf l[j].To : Int)⟩],num1,rfl,by omega,hfi,w2,by simp only [List.length_append,List.length_cons,List.length_nil]; omega⟩ (by simp only; omega) (j + 1) _ _ _ rfl
     refine ⟨num',q1,?_⟩
     rw [q2,Qbb1 hpre hmem]
     simp only [List.append_assoc,List.cons_append,List.nil_append]
   ·rw [if_neg (by omega)]
    obtain rfl : j = l.length:=by omega
    exact ⟨num,by simpa using hnm,by simp⟩) fuel (o,0,es,num) ⟨0,o,es,num,rfl,Nat.zero_le _,ho,hn,by omega⟩ (by simp only; omega) 0 o es num rfl
 obtain ⟨num',q1,q2⟩:=key
 exact ⟨num',by simpa using q1,by simpa using q2⟩
theorem Qbjc (fuel : Nat) (hfu : 1099511627776 ≤ fuel) {num : List Int} (h0 : 0 < a.States) (hn : Num a [0] num) :
  ∃ num',Qcb (fun (k28 : List Int × Int × List Int × List Int × List Qe × List Int × List Qe × List Int → Option (List Int × List Int × List Int × List Qe × List Int × List Qe × List Int)) ((order20,i21,c22,c23,c24,r25,r26,c27) : (List Int) × Int × (List Int) × (List Int) × (List Qe) × (List Int) × (List Qe) × (List Int))=>(if (i21 < (order20.length : Int)) then ((((((getO order20 i21).bind fun x30=>((Qct a.Marked x30).bind fun (r33,r34)=>(if r34 then ((appO r25 [i21]).bind fun x36=>some x36) else some r25)))).bind fun (r38 : List Int)=>((getO order20 i21).bind fun x39=>((Qgi a x39).bind fun x42=>Qcb (fun k47 ((order43,x44,r45,c46) : (List Int) × Int × (List Qe) × (List Int))=>(if (x44 < (x42.length : Int)) then ((getO x42 x44).bind fun x49=>((((inO (Int.toNat a.States) x49.To).bind fun u51=>((getO c46 x49.To).bind fun x53=>(if (x53 < 0) then ((inO (Int.toNat a.States) x49.To).bind fun u56=>((setO c46 x49.To (order43.length : Int)).bind fun x58=>((appO order43 [x49.To]).bind fun x60=>some (x60,x58)))) else some (order43,c46))))).bind fun ((order62,c63) : (List Int) × (List Int))=>((inO (Int.toNat a.States) x49.To).bind fun u64=>((getO c63 x49.To).bind fun x66=>((appO r45 [(Qe.mk i21 x49.Event x66)]).bind fun x68=>k47 (order62,(IntKind.wrap .i64 (x44 + 1)),x68,c63)))))) else some (order43,r38,r45,c46))) fuel (order20,0,r26,c27))))).bind fun ((order70,r71,r72,c73) : (List Int) × (List Int) × (List Qe) × (List Int))=>k28 (order70,(IntKind.wrap .i64 (i21 + 1)),c22,c23,c24,r71,r72,c73)) else some (order20,c22,c23,c24,r25,r26,c27))) fuel ([0],0,[],[],[],[],[],num) = some (Qgj a,[],[],[],Qki a.Marked 0 (Qgj a),Qjb a (Qgj a) 0 (Qgj a),num'):=by
 have hst:=h.st
 have hs:=h.small.1
 have hsb:=h.small.2
 have key:=Qdd (F:=(fun (k28 : List Int × Int × List Int × List Int × List Qe × List Int × List Qe × List Int → Option (List Int × List Int × List Int × List Qe × List Int × List Qe × List Int)) ((order20,i21,c22,c23,c24,r25,r26,c27) : (List Int) × Int × (List Int) × (List Int) × (List Qe) × (List Int) × (List Qe) × (List Int))=>(if (i21 < (order20.length : Int)) then ((((((getO order20 i21).bind fun x30=>((Qct a.Marked x30).bind fun (r33,r34)=>(if r34 then ((appO r25 [i21]).bind fun x36=>some x36) else some r25)))).bind fun (r38 : List Int)=>((getO order20 i21).bind fun x39=>((Qgi a x39).bind fun x42=>Qcb (fun k47 ((order43,x44,r45,c46) : (List Int) × Int × (List Qe) × (List Int))=>(if (x44 < (x42.length : Int)) then ((getO x42 x44).bind fun x49=>((((inO (Int.toNat a.States) x49.To).bind fun u51=>((getO c46 x49.To).bind fun x53=>(if (x53 < 0) then ((inO (Int.toNat a.States) x49.To).bind fun u56=>((setO c46 x49.To (order43.length : Int)).bind fun x58=>((appO order43 [x49.To]).bind fun x60=>some (x60,x58)))) else some (order43,c46))))).bind fun ((order62,c63) : (List Int) × (List Int))=>((inO (Int.toNat a.States) x49.To).bind fun u64=>((getO c63 x49.To).bind fun x66=>((appO r45 [(Qe.mk i21 x49.Event x66)]).bind fun x68=>k47 (order62,(IntKind.wrap .i64 (x44 + 1)),x68,c63)))))) else some (order43,r38,r45,c46))) fuel (order20,0,r26,c27))))).bind fun ((order70,r71,r72,c73) : (List Int) × (List Int) × (List Qe) × (List Int))=>k28 (order70,(IntKind.wrap .i64 (i21 + 1)),c22,c23,c24,r71,r72,c73)) else some (order20,c22,c23,c24,r25,r26,c27))))
  (fun x=>∃ (i : Nat) (o ms : List Int) (es : List Qe) (num : List Int),x = (o,(i : Int),[],[],[],ms,es,num) ∧ i ≤ o.length ∧ Fnd a o ∧ Num a o num ∧ ms.length ≤ i ∧ es.length ≤ 32 * i ∧ (∀ j s,j < i → o[j]? = some s → ∀ t ∈ Qfz a s,t ∈ o)) (fun x=>a.States.toNat + 1 - x.2.1.toNat)
  (fun x r=>∀ (i : Nat) (o ms : List Int) (es : List Qe) (num : List Int),x = (o,(i : Int),[],[],[],ms,es,num) → ∃ num',r = some (bfs a (a.States.toNat + 1 - i) i o,[],[],[],ms ++ Qki a.Marked i ((bfs a (a.States.toNat + 1 - i) i o).drop i),es ++ Qjb a (bfs a (a.States.toNat + 1 - i) i o) i ((bfs a (a.States.toNat + 1 - i) i o).drop i),num')) (by
   rintro k _ ⟨i,o,ms,es,num,rfl,hi,hf,hnm,hml,hel,hcl⟩ ih i' o' ms' es' num' he
   obtain ⟨rfl,he2⟩:=Prod.mk.inj he
   obtain ⟨hii,he3⟩:=Prod.mk.inj he2
   obtain ⟨_,he4⟩:=Prod.mk.inj he3
   obtain ⟨_,he5⟩:=Prod.mk.inj he4
   obtain ⟨_,he6⟩:=Prod.mk.inj he5
   obtain ⟨rfl,he7⟩:=Prod.mk.inj he6
   obtain ⟨rfl,rfl⟩:=Prod.mk.inj he7
   obtain rfl : i = i':=by omega
   have hfl:=hf.len
   dsimp only
   by_cases hlt : i < o.length
   ·have hrg:=hf.rg _ (List.getElem_mem hlt)
    rw [if_pos (by omega),Qbo hlt]
    simp only [Option.bind_some]
    obtain ⟨n,hsr⟩:=Qblz (v:=o[i]) h.ma hs.2.1
    rw [hsr]
    simp only [Option.bind_some]
    rw [Qbpr h hs (by omega) (by omega)]
    have hto : ∀ x ∈ outP a o[i],0 ≤ x.To ∧ x.To < a.States:=fun x hx=>by
     unfold outP at hx
     have:=h.ed0 x (List.mem_filter.1 hx).1; omega
    have hol : (outP a o[i]).length ≤ 200000:=Nat.le_trans (List.length_filter_le _ _) (by omega)
    have hrow:=Qbig h (F:=o) (i:=i) (s:=o[i])
    have hrl : (outP a o[i]).length ≤ 32:=by simpa [rowP] using hrow
    obtain ⟨q1,q2,q3,_⟩:=Qp1 hf (Qyc h o[i])
    have hle:=q2.length_le
    have hcl' : ∀ j s,j < i + 1 → ((Qfz a o[i]).foldl ins o)[j]? = some s → ∀ t ∈ Qfz a s,t ∈ (Qfz a o[i]).foldl ins o:=by
     intro j s hj hs' t ht
     by_cases hji : j < i
     ·have hjl : j < o.length:=by omega
      have : o[j]? = some s:=by
       have:=Qof q2 (List.getElem?_eq_getElem hjl)
       rw [hs'] at this; rw [List.getElem?_eq_getElem hjl]; exact this.symm
      exact q2.subset (hcl j s hji this t ht)
     ·obtain rfl : j = i:=by omega
      have:=Qof q2 (List.getElem?_eq_getElem hlt)
      rw [hs'] at this; cases this
      exact q3 t ht
    have hF:=Qbaf h (a.States.toNat + 1 - (i + 1)) (i + 1) ((Qfz a o[i]).foldl ins o) q1 (by omega) (by omega) hcl'
    have hget : (bfs a (a.States.toNat + 1 - (i + 1)) (i + 1) ((Qfz a o[i]).foldl ins o))[i]? = some o[i]:=Qof (q2.trans hF.2.1) (List.getElem?_eq_getElem hlt)
    rw [show a.States.toNat + 1 - i = (a.States.toNat + 1 - (i + 1)) + 1 from by omega,Qbep hlt]
    have hdrop : (bfs a (a.States.toNat + 1 - (i + 1)) (i + 1) ((Qfz a o[i]).foldl ins o)).drop i = o[i] :: (bfs a (a.States.toNat + 1 - (i + 1)) (i + 1) ((Qfz a o[i]).foldl ins o)).drop (i + 1):=by
     obtain ⟨w1,w2⟩:=List.getElem?_eq_some_iff.1 hget
     rw [List.drop_eq_getElem_cons w1,w2]
    rw [hdrop]
    simp only [Qki,Qjb]
    have hidx : ∀ x ∈ outP a o[i],(bfs a (a.States.toNat + 1 - (i + 1)) (i + 1) ((Qfz a o[i]).foldl ins o)).idxOf x.To = ((Qfz a o[i]).foldl ins o).idxOf x.To:=fun x hx =>
     Qbb1 hF.2.1 (q3 x.To (List.mem_map.2 ⟨x,hx,rfl⟩))
    have hrow2 : rowP a (bfs a (a.States.toNat + 1 - (i + 1)) (i + 1) ((Qfz a o[i]).foldl ins o)) i o[i] = (outP a o[i]).map fun x=>⟨(i : Int),x.Event,(((Qfz a o[i]).foldl ins o).idxOf x.To : Int)⟩ :=
     List.map_congr_left fun x hx=>by rw [hidx x hx]
    rw [hrow2]
    generalize hFe : bfs a (a.States.toNat + 1 - (i + 1)) (i + 1) ((Qfz a o[i]).foldl ins o) = F at *
    have hstep : ∀ ms1 : List Int,ms1.length ≤ i + 1 → ∃ num',(Option.bind (Qcb (fun (k47 : List Int × Int × List Qe × List Int → Option (List Int × List Int × List Qe × List Int)) ((order43,x44,r45,c46) : (List Int) × Int × (List Qe) × (List Int))=>(if (x44 < ((outP a o[i]).length : Int)) then ((getO (outP a o[i]) x44).bind fun x49=>((((inO (Int.toNat a.States) x49.To).bind fun u51=>((getO c46 x49.To).bind fun x53=>(if (x53 < 0) then ((inO (Int.toNat a.States) x49.To).bind fun u56=>((setO c46 x49.To (order43.length : Int)).bind fun x58=>((appO order43 [x49.To]).bind fun x60=>some (x60,x58)))) else some (order43,c46))))).bind fun ((order62,c63) : (List Int) × (List Int))=>((inO (Int.toNat a.States) x49.To).bind fun u64=>((getO c63 x49.To).bind fun x66=>((appO r45 [(Qe.mk (i : Int) x49.Event x66)]).bind fun x68=>k47 (order62,(IntKind.wrap .i64 (x44 + 1)),x68,c63)))))) else some (order43,ms1,r45,c46))) fuel (o,0,es,num)) fun x=>k (x.1,IntKind.wrap .i64 ((i : Int) + 1),[],[],[],x.2.1,x.2.2.1,x.2.2.2)) = some (F,[],[],[],ms1 ++ Qki a.Marked (i + 1) (F.drop (i + 1)),(es ++ (outP a o[i]).map (fun x=>⟨(i : Int),x.Event,(((Qfz a o[i]).foldl ins o).idxOf x.To : Int)⟩)) ++ Qjb a F (i + 1) (F.drop (i + 1)),num'):=by
     intro ms1 hms1
     obtain ⟨num1,n1,n2⟩:=Qbl0 h fuel hfu hol hto (ms:=ms1) (i:=i) hf hnm (es:=es) (by omega)
     rw [n2]
     simp only [Option.bind_some]
     rw [Qv (by omega)]
     have hel2 : (es ++ (outP a o[i]).map (fun x=>(⟨(i : Int),x.Event,(((Qfz a o[i]).foldl ins o).idxOf x.To : Int)⟩ : Qe))).length ≤ 32 * (i + 1):=by simp only [List.length_append,List.length_map]; omega
     have hfin:=ih _ ⟨i + 1,(Qfz a o[i]).foldl ins o,ms1,_,num1,rfl,by omega,q1,n1,hms1,hel2,hcl'⟩ (by simp only; omega) (i + 1) _ ms1 _ num1 rfl
     rw [hFe] at hfin
     exact hfin
    by_cases hm : o[i] ∈ a.Marked
    ·simp only [hm,decide_true,if_true]
     rw [Qbx (by simp only [List.length_cons,List.length_nil]; unfold lim; omega)]
     simp only [Option.bind_some]
     obtain ⟨num1,n1⟩:=hstep (ms ++ [(i : Int)]) (by simp only [List.length_append,List.length_cons,List.length_nil]; omega)
     refine ⟨num1,Eq.trans ?_ (n1.trans ?_)⟩
     ·rfl
     ·simp only [List.append_assoc]
    ·simp only [hm,decide_false,Bool.false_eq_true,if_false,Option.bind_some]
     obtain ⟨num1,n1⟩:=hstep ms (by omega)
     refine ⟨num1,Eq.trans ?_ (n1.trans ?_)⟩
     ·rfl
     ·simp only [List.append_assoc,List.nil_append]
   ·rw [if_neg (by omega)]
    obtain rfl : i = o.length:=by omega
    rw [Qbhd]
    exact ⟨num,by simp [Qki,Qjb]⟩) fuel ([0],0,[],[],[],[],[],num) ⟨0,[0],[],[],num,rfl,by simp,⟨by simp,fun s hs=>by simp at hs; omega⟩,hn,by simp,by simp,fun j s hj=>by omega⟩ (by simp only; omega) 0 [0] [] [] num rfl
 obtain ⟨num',hk⟩:=key
 refine ⟨num',?_⟩
 rw [hk]
 simp [Qgj,h0]
theorem Qbcl : Qek a = some (Qig a):=by
 have hst:=h.st
 have hsb:=h.small.2
 unfold Qek Q9
 obtain ⟨fuel,hfu,hge⟩ : ∃ f,Qbc = f ∧ 1099511627776 ≤ f:=⟨_,rfl,Nat.le_refl _⟩
 rw [hfu,Qbm5 (by unfold lim; omega),Option.bind_some]
 by_cases h0 : a.States = 0
 ·rw [if_pos (by simpa using h0)]
  unfold Qig Qgj
  rw [if_neg (by omega)]
  rw [h0]; rfl
 ·rw [if_neg (by simpa using h0),show mkO a.States (0 : Int) = some (List.replicate a.States.toNat 0) from by unfold mkO; rw [if_pos ⟨by omega,by unfold lim; omega⟩],Option.bind_some]
  have hfill:=Qh7 (len:=a.States.toNat) (F:=fun (k9 : Int × List Int → Option (List Int)) ((x7,c8) : Int × (List Int))=>(if (x7 < ((Int.toNat a.States) : Int)) then ((inO (Int.toNat a.States) x7).bind fun u11=>((setO c8 x7 (-1)).bind fun x13=>k9 ((IntKind.wrap .i64 (x7 + 1)),x13))) else some c8))
   (fun n (c : List Int)=>((n : Int),c)) (fun n c=>c.length = a.States.toNat ∧ c.take n = List.replicate n (-1)) (fun _ _=>some (List.replicate a.States.toNat (-1))) (by
    rintro k n c hn ⟨k1,k2⟩ ih
    dsimp only
    rw [if_pos (by omega),show inO (Int.toNat a.States) (n : Int) = some () from by unfold inO; rw [if_pos (by omega)],Option.bind_some,show setO c (n : Int) (-1) = some (c.set n (-1)) from by unfold setO; rw [if_pos ⟨by omega,by rw [k1]; simpa using hn⟩]; rfl,Option.bind_some,Qv (by omega)]
    refine ih _ ⟨by rw [List.length_set]; exact k1,?_⟩
    rw [List.take_add_one,List.take_set_of_le (Nat.le_refl _),k2,List.getElem?_set_self (by omega)]
    rw [List.replicate_succ']; rfl) (by
    rintro k c ⟨k1,k2⟩
    dsimp only
    rw [if_neg (by omega)]
    rw [← k1,List.take_length,k1] at k2
    rw [k2]) fuel 0 (List.replicate a.States.toNat 0) (Nat.zero_le _) (by omega) ⟨by simp,by simp⟩
  refine (congrArg (fun w=>Option.bind w _) hfill).trans ?_
  rw [Option.bind_some,show inO (Int.toNat a.States) 0 = some () from by unfold inO; rw [if_pos (by omega)],Option.bind_some]
  have hn : Num a [0] ((List.replicate a.States.toNat (-1)).set 0 0):=⟨by simp,fun s hs=>by
   rw [List.getElem?_set]
   cases s with
   | zero=>simp; omega
   | succ s=>simp [hs]; omega⟩
  rw [show setO (List.replicate a.States.toNat (-1 : Int)) 0 0 = some ((List.replicate a.States.toNat (-1)).set 0 0) from by unfold setO; rw [if_pos ⟨by omega,by simp; omega⟩]; rfl,Option.bind_some]
  obtain ⟨num',hk⟩:=Qbjc h fuel hge (by omega) hn
  rw [hk]
  rfl
end
end Go.Abs
end
section
namespace Go.Abs
open Go
section
variable {a : Qa} (h : Right a)
include h
omit h in
theorem Qbb2 {w : List Int} {p : Int → Bool} {f : Int → Option Bool} (hf : ∀ x,f x = some (p x)) (hw : w.length < big) : Qdh w f = some (w.any p):=by
 have hb : w.length < 1000000000000:=hw
 unfold Qdh Qx Qhd Qb0
 obtain ⟨fuel,hfu,hge⟩ : ∃ f,Qbc = f ∧ 1099511627776 ≤ f:=⟨_,rfl,Nat.le_refl _⟩
 rw [hfu]
 have:=Qmg (F:=fun (k10 : Int → Option Int) (x9 : Int)=>(if (x9 < (w.length : Int)) then ((getO w x9).bind fun x12=>((f x12).bind fun x15=>(if x15 then some x9 else k10 (IntKind.wrap .i64 (x9 + 1))))) else some (-1))) (len:=w.length) (fuel:=fuel)
  (fun n=>some (if (w.drop n).any p then ((n + (w.drop n).findIdx p : Nat) : Int) else -1)) (by omega) (by
   intro k n hn ih
   rw [if_pos (by omega),Qbo hn,Qv (by omega),ih]
   simp only [Option.bind_some,hf]
   rw [List.drop_eq_getElem_cons hn]
   cases hp : p w[n] with
   | true=>simp only [List.any_cons,hp,Bool.true_or,if_true,List.findIdx_cons,cond_true,Nat.add_zero]
   | false =>
    simp only [List.any_cons,hp,Bool.false_or,List.findIdx_cons,cond_false,Bool.false_eq_true,if_false]
    rw [show n + 1 + (w.drop (n + 1)).findIdx p = n + ((w.drop (n + 1)).findIdx p + 1) from by omega]) (by intro k; simp)
 rw [this]
 simp only [Option.bind_some,List.drop_zero,Nat.zero_add]
 cases w.any p <;> simp
end
end Go.Abs
end
section
namespace Go.Abs
open Go
theorem Qbf4 {P : Int → Prop} : ∀ (ts o : List Int),(∀ s ∈ o,P s) → (∀ t ∈ ts,P t) → ∀ s ∈ ts.foldl ins o,P s
 | [],o,h,_=>h
 | t :: ts,o,h,ht=>Qbf4 ts (ins o t) (fun s hs=>by
   rcases Q9i.1 hs with hs | rfl
   ·exact h s hs
   ·exact ht _ (by simp)) fun u hu=>ht u (by simp [hu])
theorem Qbf5 {a : Qa} {P : Int → Prop} (hP : ∀ s,P s → ∀ t ∈ Qfz a s,P t) : ∀ (fuel i : Nat) (o : List Int),(∀ s ∈ o,P s) → ∀ s ∈ bfs a fuel i o,P s
 | 0,i,o,h=>h
 | fuel + 1,i,o,h=>by
  unfold bfs
  cases hg : o[i]? with
  | none=>exact h
  | some s=>exact Qbf5 hP fuel (i + 1) _ (Qbf4 _ _ h (hP s (h s (List.mem_of_getElem? hg))))
structure Like (a b : Qa) (φ : Int → Int) : Prop where
 al : b.Alphabet = a.Alphabet
 st : 0 < b.States ↔ 0 < a.States
 zero : 0 < a.States → φ 0 = 0
 inj : ∀ s ∈ Qgj a,∀ t ∈ Qgj a,φ s = φ t → s = t
 out : ∀ s ∈ Qgj a,outP b (φ s) = (outP a s).map fun x=>⟨φ s,x.Event,φ x.To⟩
 ma : ∀ s ∈ Qgj a,(φ s ∈ b.Marked ↔ s ∈ a.Marked)
section
variable {F : List Int} {φ : Int → Int} (inj : ∀ s ∈ F,∀ t ∈ F,φ s = φ t → s = t)
include inj
end
section
variable {a b : Qa} {φ : Int → Int} (ha : Right a) (hb : Right b) (h : Like a b φ)
include ha h
include hb
end
theorem Qbdo {m : List Int} : ∀ (l : List Int) (k : Nat) (x : Int),x ∈ Qki m k l ↔ ∃ j s,l[j]? = some s ∧ s ∈ m ∧ x = ((k + j : Nat) : Int)
 | [],k,x=>by simp [Qki]
 | s' :: l,k,x=>by
  simp only [Qki,List.mem_append]
  rw [Qbdo l (k + 1) x]
  constructor
  ·rintro (h | ⟨j,s,h1,h2,h3⟩)
   ·split at h
    ·rename_i hm; simp at h; exact ⟨0,s',by simp,hm,by simpa using h⟩
    ·simp at h
   ·exact ⟨j + 1,s,by simpa using h1,h2,by rw [h3]; congr 1; omega⟩
  ·rintro ⟨j,s,h1,h2,h3⟩
   cases j with
   | zero=>simp at h1; subst h1; left; rw [if_pos h2]; simpa using h3
   | succ j=>right; exact ⟨j,s,by simpa using h1,h2,by rw [h3]; congr 1; omega⟩
theorem Qbl1 {l : List Int} {s : Int} (h : s ∈ l) : l[l.idxOf s]? = some s:=by
 have hlt:=List.idxOf_lt_length_iff.2 h
 rw [List.getElem?_eq_getElem hlt,List.getElem_idxOf hlt]
section
variable {a b : Qa} {φ : Int → Int} (ha : Right a) (hb : Right b) (h : Like a b φ)
include ha h
end
end Go.Abs
end
section
namespace Go.Abs
open Go
theorem Qkj {α β : Type} {o : Option α} {x : α} {K : α → Option β} {r : Option β} (h : o = some x) (h2 : K x = r) : o.bind K = r:=by rw [h]; exact h2
theorem Qbo0 {α β : Type} {o : Option α} {K : α → Option β} {r : Option β} (P : α → Prop) (h : ∃ x,o = some x ∧ P x) (h2 : ∀ x,P x → K x = r) : o.bind K = r:=by
 obtain ⟨x,h,hp⟩:=h
 rw [h]; exact h2 x hp
theorem Qbl2 {α β : Type} {o : Option α} {x : α} {K : α → Option β} {Q : β → Prop} (h : o = some x) (h2 : ∃ y,K x = some y ∧ Q y) : ∃ y,o.bind K = some y ∧ Q y:=by rw [h]; exact h2
theorem Qbai {α β : Type} {o : Option α} {K : α → Option β} {Q : β → Prop} (P : α → Prop) (h : ∃ x,o = some x ∧ P x) (h2 : ∀ x,P x → ∃ y,K x = some y ∧ Q y) : ∃ y,o.bind K = some y ∧ Q y:=by
 obtain ⟨x,h,hp⟩:=h
 rw [h]; exact h2 x hp
theorem Qbjd {X S R α : Type} {F : (X → Option R) → X → Option R} {l : List α} {fuel : Nat} (mk : Nat → S → X) (f : S → α → S) (fin : S → Option R) (I : Nat → S → Prop)
  (step : ∀ (k : X → Option R) (n : Nat) (h : n < l.length) (s : S),I n s → I (n + 1) (f s l[n]) ∧ F k (mk n s) = k (mk (n + 1) (f s l[n]))) (last : ∀ (k : X → Option R) (s : S),I l.length s → F k (mk l.length s) = fin s)
  (hf : l.length < fuel) (s0 : S) (h0 : I 0 s0) : Qcb F fuel (mk 0 s0) = fin (l.foldl f s0):=by
 have:=Qh7 (F:=F) (len:=l.length) mk I (fun n s=>fin ((l.drop n).foldl f s)) (fun k n s hn hi ih=>by
  obtain ⟨h1,h2⟩:=step k n hn s hi
  rw [h2,ih _ h1,List.drop_eq_getElem_cons hn,List.foldl_cons]) (fun k s hi=>by rw [last k s hi]; simp) fuel 0 s0 (Nat.zero_le _) (by omega) h0
 simpa using this
theorem Qbeq {l m : List Int} (hl : l.Pairwise (· < ·)) (hm : m.Pairwise (· < ·)) (h : ∀ x,x ∈ l ↔ x ∈ m) : l = m:=by
 refine List.Perm.eq_of_pairwise (le:=(· < ·)) (fun a b _ _ h1 h2=>by omega) hl hm ?_
 rw [List.perm_ext_iff_of_nodup (hl.imp fun h=>by omega) (hm.imp fun h=>by omega)]
 exact h
theorem swoI : Go.Sort.SWO Qfe:=⟨fun x=>by simp [Qfe],fun x y z h1 h2=>by simp [Qfe] at *; omega,fun x y z h1 h2=>by simp [Qfe] at *; omega⟩
theorem Qbf6 {l : List Int} (h : l.Nodup) : (Qid Qfe l).Pairwise (· < ·) ∧ ∀ x,x ∈ Qid Qfe l ↔ x ∈ l:=by
 have hp:=Qjp Qfe l
 refine ⟨?_,fun x=>hp.mem_iff⟩
 have hs:=Qkc swoI l
 have hn:=(hp.nodup_iff).2 h
 exact (hs.and hn).imp fun ⟨h1,h2⟩=>by simp [Qfe] at h1; omega
inductive Rch (a : Qa) (ev fr : List Int) : Int → Prop where
 | base {s : Int} : s ∈ fr → Rch a ev fr s
 | step {x : Qe} : Rch a ev fr x.From → x ∈ a.Edges → x.Event ∈ ev → Rch a ev fr x.To
def upto (n : Int) : List Int:=(List.range n.toNat).map fun (i : Nat)=>(i : Int)
theorem Q35 {n x : Int} : x ∈ upto n ↔ 0 ≤ x ∧ x < n:=by
 simp only [upto,List.mem_map,List.mem_range]
 constructor
 ·rintro ⟨i,hi,rfl⟩; omega
 ·rintro ⟨h1,h2⟩; exact ⟨x.toNat,by omega,by omega⟩
theorem Qbf7 (n : Int) : (upto n).Pairwise (· < ·):=by
 unfold upto
 rw [List.pairwise_map]
 exact List.pairwise_lt_range.imp fun h=>by omega
theorem Qjd (n : Int) : (upto n).length = n.toNat:=by simp [upto]
theorem Qbii {n : Int} {i : Nat} (h : i < n.toNat) : (upto n)[i]'(by rw [Qjd]; exact h) = (i : Int):=by simp [upto]
open Classical in
noncomputable def Qm9 (a : Qa) (fr ev : List Int) : List Int:=(upto a.States).filter fun s=>decide (Rch a ev fr s)
theorem Qye (a : Qa) (fr ev : List Int) : (Qm9 a fr ev).Pairwise (· < ·):=(Qbf7 _).filter _
theorem Qud {a : Qa} {fr ev : List Int} {s : Int} : s ∈ Qm9 a fr ev ↔ (0 ≤ s ∧ s < a.States) ∧ Rch a ev fr s:=by
 classical
 simp only [Qm9,List.mem_filter,Q35,decide_eq_true_eq]
theorem Rch.range {a : Qa} (h : Right a) {ev fr : List Int} (hf : ∀ s ∈ fr,0 ≤ s ∧ s < a.States) {s : Int} (hr : Rch a ev fr s) : 0 ≤ s ∧ s < a.States:=by
 induction hr with
 | base hs=>exact hf _ hs
 | step _ hx _ _=>have:=h.ed0 _ hx; exact ⟨this.2.2.1,this.2.2.2.1⟩
theorem Qbl3 {a : Qa} (h : Right a) {fr ev : List Int} (hf : ∀ s ∈ fr,0 ≤ s ∧ s < a.States) {s : Int} : s ∈ Qm9 a fr ev ↔ Rch a ev fr s:=by
 rw [Qud]; exact ⟨fun h=>h.2,fun hr=>⟨hr.range h hf,hr⟩⟩
theorem Rch.mono {a : Qa} {ev fr fr' : List Int} (hf : ∀ s ∈ fr,Rch a ev fr' s) {s : Int} (hr : Rch a ev fr s) : Rch a ev fr' s:=by
 induction hr with
 | base hs=>exact hf _ hs
 | step _ hx he ih=>exact .step ih hx he
theorem Qbf8 {a : Qa} {fr fr' ev : List Int} (h : ∀ s,s ∈ fr ↔ s ∈ fr') : Qm9 a fr ev = Qm9 a fr' ev:=by
 refine Qbeq (Qye _ _ _) (Qye _ _ _) fun x=>?_
 rw [Qud,Qud]
 have : Rch a ev fr x ↔ Rch a ev fr' x:=⟨Rch.mono fun s hs=>.base ((h s).1 hs),Rch.mono fun s hs=>.base ((h s).2 hs)⟩
 rw [this]
theorem Qbf9 {a : Qa} (h : Right a) {fr ev l : List Int} (hf : ∀ s ∈ fr,0 ≤ s ∧ s < a.States) (hl : l.Pairwise (· < ·)) (h1 : ∀ s ∈ l,Rch a ev fr s) (h2 : ∀ s ∈ fr,s ∈ l)
  (h3 : ∀ x ∈ a.Edges,x.From ∈ l → x.Event ∈ ev → x.To ∈ l) : l = Qm9 a fr ev:=by
 refine Qbeq hl (Qye _ _ _) fun x=>?_
 rw [Qbl3 h hf]
 refine ⟨h1 x,fun hr=>?_⟩
 induction hr with
 | base hs=>exact h2 _ hs
 | step _ hx he ih=>exact h3 _ hx ih he
def Qn9 (a : Qa) (ev : List Int) : Qa:={ a with Edges:=a.Edges.filter fun x=>decide (x.Event ∈ ev) }
theorem Qbb3 {a : Qa} (h : Right a) (ev : List Int) : Right (Qn9 a ev) :=
 ⟨h.al0,h.al,h.st,h.ma0,h.ma,fun x hx=>h.ed0 x (List.mem_filter.1 hx).1,h.ed.filter _⟩
theorem Qbje (a : Qa) (ev : List Int) (s : Int) : Qfz (Qn9 a ev) s = ((outP a s).filter fun x=>decide (x.Event ∈ ev)).map (·.To):=by
 simp only [Qfz,outP,Qn9,List.filter_filter]
 congr 1
 exact List.filter_congr fun x _=>Bool.and_comm _ _
theorem Qbij {a : Qa} {s t : Int} : t ∈ Qfz a s ↔ ∃ x ∈ a.Edges,x.From = s ∧ x.To = t:=by
 simp only [Qfz,outP,List.mem_map,List.mem_filter,beq_iff_eq]
 constructor
 ·rintro ⟨x,⟨h1,h2⟩,h3⟩; exact ⟨x,h1,h2,h3⟩
 ·rintro ⟨x,h1,h2,h3⟩; exact ⟨x,⟨h1,h2⟩,h3⟩
theorem Qbga {a : Qa} (h : Right a) {ev fr o : List Int} (hf : ∀ s ∈ fr,0 ≤ s ∧ s < a.States) (ho : ∀ s,s ∈ o ↔ s ∈ fr) (hn : o.Nodup) :
  Fnd (Qn9 a ev) (bfs (Qn9 a ev) (a.States.toNat + 1) 0 o) ∧ Qid Qfe (bfs (Qn9 a ev) (a.States.toNat + 1) 0 o) = Qm9 a fr ev:=by
 have hr:=Qbb3 h ev
 have hfo : Fnd (Qn9 a ev) o:=⟨hn,fun s hs=>hf s ((ho s).1 hs)⟩
 obtain ⟨q1,q2,q3⟩:=Qbaf hr (a.States.toNat + 1) 0 o hfo (Nat.zero_le _) (by show a.States.toNat + 1 ≤ _; omega) (fun j s hj=>by omega)
 obtain ⟨r1,r2⟩:=Qbf6 q1.nd
 refine ⟨q1,Qbf9 h hf r1 (fun s hs=>?_) (fun s hs=>?_) (fun x hx hfx hex=>?_)⟩
 ·have hs:=(r2 s).1 hs
  refine Qbf5 (a:=Qn9 a ev) (P:=Rch a ev fr) (fun s hs t ht=>?_) _ 0 o (fun s hs=>.base ((ho s).1 hs)) s hs
  obtain ⟨x,hx,rfl,rfl⟩:=Qbij.1 ht
  obtain ⟨hx,he⟩:=List.mem_filter.1 hx
  exact .step hs hx (by simpa using he)
 ·exact (r2 s).2 (q2.subset ((ho s).2 hs))
 ·exact (r2 _).2 (q3 _ ((r2 _).1 hfx) _ (Qbij.2 ⟨x,List.mem_filter.2 ⟨hx,by simpa using hex⟩,rfl,rfl⟩))
theorem Q8o : ∀ (ts o : List Int) (x : Int),x ∈ ts.foldl ins o ↔ x ∈ o ∨ x ∈ ts
 | [],o,x=>by simp
 | t :: ts,o,x=>by
  simp only [List.foldl_cons,Q8o ts,Q9i,List.mem_cons]
  constructor
  ·rintro ((h | h) | h)
   ·exact .inl h
   ·exact .inr (.inl h)
   ·exact .inr (.inr h)
  ·rintro (h | h | h)
   ·exact .inl (.inl h)
   ·exact .inl (.inr h)
   ·exact .inr h
end Go.Abs
end
section
namespace Go.Abs
open Go
def Qfr (a : Qa) (onto : List Int) : List Int:=a.Alphabet.filter fun x=>decide (x ∈ onto)
def Qkk (a : Qa) (onto : List Int) : List Int:=a.Alphabet.filter fun x=>!decide (x ∈ onto)
def Qbcm (a : Qa) : List (List Qe):=(upto a.States).map (outP a)
def obsP (a : Qa) (onto : List Int) : Ql:=⟨Qbcm a,Qfr a onto,Qkk a onto,a.Marked⟩
theorem Q8p (a : Qa) : (Qbcm a).length = a.States.toNat:=by simp [Qbcm,Qjd]
theorem Qbgb (a : Qa) {s : Nat} (h : s < a.States.toNat) : (Qbcm a)[s]? = some (outP a (s : Int)):=by
 simp only [Qbcm,upto,List.getElem?_map,List.getElem?_range h,Option.map_some]
theorem Qbik {a : Qa} {s : Int} (h : 0 ≤ s ∧ s < a.States) : getO (Qbcm a) s = some (outP a s):=by
 rw [Qja]
 refine ⟨h.1,?_⟩
 rw [Qbgb a (by omega)]
 congr 2; omega
theorem Q9k (onto : List Int) : ∀ (l k e : List Int),l.foldl (fun (s : List Int × List Int) x=>if x ∈ onto then (s.1 ++ [x],s.2) else (s.1,s.2 ++ [x])) (k,e) = (k ++ l.filter (fun x=>decide (x ∈ onto)),e ++ l.filter fun x=>!decide (x ∈ onto))
 | [],k,e=>by simp
 | x :: l,k,e=>by
  rw [List.foldl_cons]
  by_cases hx : x ∈ onto
  ·rw [if_pos hx,Q9k onto l]; simp [hx]
  ·rw [if_neg hx,Q9k onto l]; simp [hx]
theorem Qbjf {a : Qa} (h : Right a) {onto : List Int} (ho : onto.length < big) : Qew a onto = some (obsP a onto):=by
 have hs:=h.small
 have hst:=h.st
 unfold Qew Qbd
 refine Qkj (x:=List.replicate a.States.toNat []) (by unfold mkO; rw [if_pos ⟨hst.1,by unfold lim; omega⟩]) ?_
 refine Qkj (x:=Qbcm a) ?_ ?_
 ·refine (Qh7 (len:=a.Edges.length) (fun n (c : List (List Qe))=>((n : Int),c)) (fun n c=>c.length = a.States.toNat ∧ ∀ s : Nat,s < a.States.toNat → c[s]? = some ((a.Edges.take n).filter fun x=>x.From == (s : Int))) (fun n c=>some (Qbcm a)) ?_ ?_ Qbc 0 _ (Nat.zero_le _) (by unfold Qbc; omega) ⟨by simp,fun s hs=>by simp [hs]⟩)
  ·intro k n c hn ⟨i1,i2⟩ ih
   have he:=h.ed0 _ (List.getElem_mem hn)
   dsimp only
   rw [if_pos (by omega),Qbo hn]
   simp only [Option.bind_some]
   have hin : inO (Int.toNat a.States) a.Edges[n].From = some ():=by unfold inO; rw [if_pos ⟨he.1,by omega⟩]
   have hto : ((a.Edges[n].From.toNat : Nat) : Int) = a.Edges[n].From:=by omega
   have hg : getO c a.Edges[n].From = some ((a.Edges.take n).filter fun x=>x.From == a.Edges[n].From):=by
    rw [Qja]; refine ⟨he.1,?_⟩
    rw [i2 _ (by omega),hto]
   have hfl : ((a.Edges.take n).filter fun x=>x.From == a.Edges[n].From).length ≤ a.Edges.length:=Nat.le_trans (List.length_filter_le _ _) (by rw [List.length_take]; omega)
   rw [hin,hg]
   simp only [Option.bind_some]
   rw [Qbx (by simp only [List.length_cons,List.length_nil]; unfold lim; omega)]
   simp only [Option.bind_some]
   unfold setO
   rw [if_pos ⟨he.1,by omega⟩,Qv (by omega)]
   simp only [Option.bind_some]
   refine ih _ ⟨by simp [i1],fun s hs=>?_⟩
   rw [List.getElem?_set,List.take_succ_eq_append_getElem hn,List.filter_append]
   split
   ·rename_i hss
    subst hss
    rw [if_pos (by omega),hto]
    simp
   ·rename_i hss
    have : ¬ a.Edges[n].From = (s : Int):=by omega
    rw [i2 s hs]
    simp [this]
  ·intro k c ⟨i1,i2⟩
   dsimp only
   rw [if_neg (by omega)]
   congr 1
   refine List.ext_getElem? fun s=>?_
   by_cases hs : s < a.States.toNat
   ·rw [i2 s hs,Qbgb a hs,List.take_length]; rfl
   ·rw [List.getElem?_eq_none (by omega),List.getElem?_eq_none (by rw [Q8p]; omega)]
 ·refine Qkj (x:=([],[],[],[],Qfr a onto,Qkk a onto)) ?_ ?_
  ·refine (Qbjd (l:=a.Alphabet) (fun n (s : List Int × List Int)=>((n : Int),[],[],[],[],s.1,s.2)) (fun (s : List Int × List Int) x=>if x ∈ onto then (s.1 ++ [x],s.2) else (s.1,s.2 ++ [x])) (fun s=>some ([],[],[],[],s.1,s.2)) (fun n s=>s.1.length ≤ n ∧ s.2.length ≤ n) ?_ ?_ (by unfold Qbc; omega) ([],[]) ⟨by simp,by simp⟩).trans ?_
   ·intro k n hn s ⟨i1,i2⟩
    by_cases hx : a.Alphabet[n] ∈ onto
    ·rw [if_pos hx]
     refine ⟨⟨by simp; omega,by simp; omega⟩,?_⟩
     dsimp only
     rw [if_pos (by omega),Qbo hn]
     simp only [Option.bind_some]
     rw [Qp0 ho]
     simp only [Option.bind_some,hx,decide_true,if_true]
     rw [Qbx (by simp only [List.length_cons,List.length_nil]; unfold lim; omega),Qv (by omega)]
     rfl
    ·rw [if_neg hx]
     refine ⟨⟨by simp; omega,by simp; omega⟩,?_⟩
     dsimp only
     rw [if_pos (by omega),Qbo hn]
     simp only [Option.bind_some]
     rw [Qp0 ho]
     simp only [Option.bind_some,hx,decide_false,Bool.false_eq_true,if_false]
     rw [Qbx (by simp only [List.length_cons,List.length_nil]; unfold lim; omega),Qv (by omega)]
     rfl
   ·intro k s _
    dsimp only
    rw [if_neg (by omega)]
   ·rw [Q9k]; rfl
  ·dsimp only
   unfold lenO
   rw [if_pos (by rw [Q8p])]
   rfl
structure Seen (n : Nat) (l : List Int) (c : List Bool) : Prop where
 len : c.length = n
 at1 : ∀ s : Nat,s < n → c[s]? = some (decide ((s : Int) ∈ l))
theorem Seen.start (n : Nat) : Seen n [] (List.replicate n false):=⟨by simp,fun s hs=>by simp [hs]⟩
theorem Qbnw {n : Nat} {l : List Int} {c : List Bool} (h : Seen n l c) {x : Int} (hx : 0 ≤ x ∧ x < n) (hl : l.length < big) : ∃ c',Q4 x c l = some (c',ins l x) ∧ Seen n (ins l x) c':=by
 have hg : getO c x = some (decide (x ∈ l)):=by
  rw [Qja]; refine ⟨hx.1,?_⟩
  rw [h.at1 _ (by omega)]; congr 2; rw [show ((x.toNat : Nat) : Int) = x from by omega]
 unfold Q4 Q2
 have hin : inO c.length x = some ():=by unfold inO; rw [if_pos ⟨hx.1,by rw [h.len]; omega⟩]
 rw [hin,hg]
 simp only [Option.bind_some]
 by_cases hm : x ∈ l
 ·rw [if_pos (by simp [hm])]
  exact ⟨c,by simp [ins,hm],by simpa [ins,hm] using h⟩
 ·rw [if_neg (by simp [hm])]
  unfold setO
  rw [if_pos ⟨hx.1,by rw [h.len]; omega⟩]
  simp only [Option.bind_some]
  rw [Qbx (by simp only [List.length_cons,List.length_nil]; unfold big at hl; unfold lim; omega)]
  refine ⟨c.set x.toNat true,by simp [ins,hm],?_⟩
  simp only [ins,hm,if_false]
  refine ⟨by simp [h.len],fun s hs=>?_⟩
  rw [List.getElem?_set]
  split
  ·rename_i e; subst e
   rw [if_pos (by rw [h.len]; exact hs)]
   simp; omega
  ·rename_i e
   rw [h.at1 s hs]
   have : ¬ (s : Int) = x:=by omega
   simp [this]
theorem Qbil {a : Qa} (h : Right a) {onto fr ev : List Int} (hf : ∀ s ∈ fr,0 ≤ s ∧ s < a.States) (hfl : fr.length < big) (hev : ev.length < big) :
  Qc6 (obsP a onto) fr ev = some (Qm9 a fr ev):=by
 have hst:=h.st
 have hsm:=h.small
 have hr:=Qbb3 h ev
 have hlen : ((obsP a onto).out_.length : Int) = a.States:=by show ((Qbcm a).length : Int) = _; rw [Q8p]; omega
 unfold Qc6 Qu
 rw [hlen]
 refine Qkj (x:=List.replicate a.States.toNat false) (by unfold mkO; rw [if_pos ⟨hst.1,by unfold lim; omega⟩]) ?_
 have hF0 : Fnd (Qn9 a ev) (fr.foldl ins []):=(Qp1 (a:=Qn9 a ev) ⟨by simp,by simp⟩ hf).1
 have hlo : ∀ {o : List Int},Fnd (Qn9 a ev) o → o.length ≤ a.States.toNat:=fun h=>h.len
 -- what is given
 obtain ⟨c1,hc1,h1⟩ : ∃ c1,Seen a.States.toNat (fr.foldl ins []) c1 ∧ Qcb (fun (k9 : Int × List Int × List Bool → Option (List Int × List Bool)) ((x6,l7,c8) : Int × (List Int) × (List Bool))=>(if (x6 < (fr.length : Int)) then ((getO fr x6).bind fun x11=>((lenO c8 (Int.toNat a.States)).bind fun _=>((Q4 x11 c8 l7).bind fun (c14,c15)=>k9 ((IntKind.wrap .i64 (x6 + 1)),c15,c14)))) else some (l7,c8))) Qbc (0,[],List.replicate a.States.toNat false) = some (fr.foldl ins [],c1):=by
  have:=Qdd (F:=fun (k9 : Int × List Int × List Bool → Option (List Int × List Bool)) ((x6,l7,c8) : Int × (List Int) × (List Bool))=>(if (x6 < (fr.length : Int)) then ((getO fr x6).bind fun x11=>((lenO c8 (Int.toNat a.States)).bind fun _=>((Q4 x11 c8 l7).bind fun (c14,c15)=>k9 ((IntKind.wrap .i64 (x6 + 1)),c15,c14)))) else some (l7,c8)))
   (fun x=>∃ n : Nat,x.1 = (n : Int) ∧ n ≤ fr.length ∧ Fnd (Qn9 a ev) x.2.1 ∧ Seen a.States.toNat x.2.1 x.2.2 ∧ (fr.drop n).foldl ins x.2.1 = fr.foldl ins []) (fun x=>fr.length - x.1.toNat)
   (fun x r=>∃ c1,Seen a.States.toNat (fr.foldl ins []) c1 ∧ r = some (fr.foldl ins [],c1)) (by
    rintro k ⟨_,l,c⟩ ⟨n,rfl,hn,hF,hS,he⟩ ih
    replace hF : Fnd (Qn9 a ev) l:=hF
    replace hS : Seen a.States.toNat l c:=hS
    have hll:=hlo hF
    dsimp only at he ⊢
    by_cases hlt : n < fr.length
    ·rw [if_pos (by omega),Qbo hlt]
     simp only [Option.bind_some]
     have hx:=hf _ (List.getElem_mem hlt)
     obtain ⟨c',hadd,hS'⟩:=Qbnw hS (x:=fr[n]) ⟨hx.1,by omega⟩ (by unfold big; omega)
     unfold lenO
     rw [if_pos hS.len]
     simp only [Option.bind_some]
     rw [hadd]
     simp only [Option.bind_some]
     rw [Qv (by unfold big at hfl; omega)]
     rw [List.drop_eq_getElem_cons hlt,List.foldl_cons] at he
     exact ih _ ⟨n + 1,rfl,by omega,hF.ins hx,hS',he⟩ (by simp only; omega)
    ·rw [if_neg (by omega)]
     have : fr.drop n = []:=List.drop_eq_nil_of_le (by omega)
     rw [this] at he
     exact ⟨c,by rw [← he]; exact hS,by rw [← he]; rfl⟩) Qbc (0,[],List.replicate a.States.toNat false) ⟨0,rfl,by omega,⟨by simp,by simp⟩,Seen.start _,rfl⟩ (by simp only [Int.toNat_zero]; unfold Qbc; unfold big at hfl; omega)
  exact this
 refine Qkj h1 ?_
 dsimp only
 -- the search
 obtain ⟨c2,h2⟩ : ∃ c2,Qcb (fun (k22 : Int × List Int × List Bool → Option (List Int × List Bool)) ((i19,l20,c21) : Int × (List Int) × (List Bool))=>(if (i19 < (l20.length : Int)) then ((((getO l20 i19).bind fun x24=>((getO (obsP a onto).out_ x24).bind fun x26=>Qcb (fun (k31 : Int × List Int × List Bool → Option (List Int × List Bool)) ((x28,l29,c30) : Int × (List Int) × (List Bool))=>(if (x28 < (x26.length : Int)) then ((((getO x26 x28).bind fun x33=>((Qbb ev x33.Event).bind fun x36=>(if x36 then ((lenO c30 (Int.toNat a.States)).bind fun _=>((Q4 x33.To c30 l29).bind fun (c39,c40)=>some (c40,c39,x33.From,x33.Event,x33.To))) else some (l29,c30,x33.From,x33.Event,x33.To))))).bind fun ((l42,c43,c44,c45,c46) : (List Int) × (List Bool) × Int × Int × Int)=>k31 ((IntKind.wrap .i64 (x28 + 1)),l42,c43)) else some (l29,c30))) Qbc (0,l20,c21)))).bind fun ((l47,c48) : (List Int) × (List Bool))=>k22 ((IntKind.wrap .i64 (i19 + 1)),l47,c48)) else some (l20,c21))) Qbc (0,fr.foldl ins [],c1) = some (bfs (Qn9 a ev) (a.States.toNat + 1) 0 (fr.foldl ins []),c2):=by
  have:=Qdd (F:=fun (k22 : Int × List Int × List Bool → Option (List Int × List Bool)) ((i19,l20,c21) : Int × (List Int) × (List Bool))=>(if (i19 < (l20.length : Int)) then ((((getO l20 i19).bind fun x24=>((getO (obsP a onto).out_ x24).bind fun x26=>Qcb (fun (k31 : Int × List Int × List Bool → Option (List Int × List Bool)) ((x28,l29,c30) : Int × (List Int) × (List Bool))=>(if (x28 < (x26.length : Int)) then ((((getO x26 x28).bind fun x33=>((Qbb ev x33.Event).bind fun x36=>(if x36 then ((lenO c30 (Int.toNat a.States)).bind fun _=>((Q4 x33.To c30 l29).bind fun (c39,c40)=>some (c40,c39,x33.From,x33.Event,x33.To))) else some (l29,c30,x33.From,x33.Event,x33.To))))).bind fun ((l42,c43,c44,c45,c46) : (List Int) × (List Bool) × Int × Int × Int)=>k31 ((IntKind.wrap .i64 (x28 + 1)),l42,c43)) else some (l29,c30))) Qbc (0,l20,c21)))).bind fun ((l47,c48) : (List Int) × (List Bool))=>k22 ((IntKind.wrap .i64 (i19 + 1)),l47,c48)) else some (l20,c21)))
   (fun x=>∃ i : Nat,x.1 = (i : Int) ∧ i ≤ x.2.1.length ∧ Fnd (Qn9 a ev) x.2.1 ∧ Seen a.States.toNat x.2.1 x.2.2) (fun x=>a.States.toNat + 1 - x.1.toNat)
   (fun x r=>∃ c2,r = some (bfs (Qn9 a ev) (a.States.toNat + 1 - x.1.toNat) x.1.toNat x.2.1,c2)) (by
    rintro k ⟨_,l,c⟩ ⟨i,rfl,hi,hF,hS⟩ ih
    replace hi : i ≤ l.length:=hi
    replace hF : Fnd (Qn9 a ev) l:=hF
    replace hS : Seen a.States.toNat l c:=hS
    have hll:=hlo hF
    dsimp only
    by_cases hlt : i < l.length
    ·rw [if_pos (by omega),Qbo hlt]
     have hx:=hF.rg _ (List.getElem_mem hlt)
     have hx : 0 ≤ l[i] ∧ l[i] < a.States:=hx
     simp only [Option.bind_some]
     rw [show getO (obsP a onto).out_ l[i] = _ from Qbik hx]
     simp only [Option.bind_some]
     have hlo2 : (outP a l[i]).length ≤ a.Edges.length:=List.length_filter_le _ _
     obtain ⟨c',hF',hS',hin⟩ : ∃ c',Fnd (Qn9 a ev) ((Qfz (Qn9 a ev) l[i]).foldl ins l) ∧ Seen a.States.toNat ((Qfz (Qn9 a ev) l[i]).foldl ins l) c' ∧ Qcb (fun (k31 : Int × List Int × List Bool → Option (List Int × List Bool)) ((x28,l29,c30) : Int × (List Int) × (List Bool))=>(if (x28 < ((outP a l[i]).length : Int)) then ((((getO (outP a l[i]) x28).bind fun x33=>((Qbb ev x33.Event).bind fun x36=>(if x36 then ((lenO c30 (Int.toNat a.States)).bind fun _=>((Q4 x33.To c30 l29).bind fun (c39,c40)=>some (c40,c39,x33.From,x33.Event,x33.To))) else some (l29,c30,x33.From,x33.Event,x33.To))))).bind fun ((l42,c43,c44,c45,c46) : (List Int) × (List Bool) × Int × Int × Int)=>k31 ((IntKind.wrap .i64 (x28 + 1)),l42,c43)) else some (l29,c30))) Qbc (0,l,c) = some ((Qfz (Qn9 a ev) l[i]).foldl ins l,c'):=by
      rw [Qbje]
      have:=Qdd (F:=fun (k31 : Int × List Int × List Bool → Option (List Int × List Bool)) ((x28,l29,c30) : Int × (List Int) × (List Bool))=>(if (x28 < ((outP a l[i]).length : Int)) then ((((getO (outP a l[i]) x28).bind fun x33=>((Qbb ev x33.Event).bind fun x36=>(if x36 then ((lenO c30 (Int.toNat a.States)).bind fun _=>((Q4 x33.To c30 l29).bind fun (c39,c40)=>some (c40,c39,x33.From,x33.Event,x33.To))) else some (l29,c30,x33.From,x33.Event,x33.To))))).bind fun ((l42,c43,c44,c45,c46) : (List Int) × (List Bool) × Int × Int × Int)=>k31 ((IntKind.wrap .i64 (x28 + 1)),l42,c43)) else some (l29,c30)))
       (fun x=>∃ n : Nat,x.1 = (n : Int) ∧ n ≤ (outP a l[i]).length ∧ Fnd (Qn9 a ev) x.2.1 ∧ Seen a.States.toNat x.2.1 x.2.2 ∧ ((((outP a l[i]).drop n).filter fun x=>decide (x.Event ∈ ev)).map (·.To)).foldl ins x.2.1 = (((outP a l[i]).filter fun x=>decide (x.Event ∈ ev)).map (·.To)).foldl ins l) (fun x=>(outP a l[i]).length - x.1.toNat)
       (fun x r=>∃ c1,Fnd (Qn9 a ev) ((((outP a l[i]).filter fun x=>decide (x.Event ∈ ev)).map (·.To)).foldl ins l) ∧ Seen a.States.toNat ((((outP a l[i]).filter fun x=>decide (x.Event ∈ ev)).map (·.To)).foldl ins l) c1 ∧ r = some ((((outP a l[i]).filter fun x=>decide (x.Event ∈ ev)).map (·.To)).foldl ins l,c1)) (by
        rintro k ⟨_,l2,c2⟩ ⟨n,rfl,hn,hF,hS,he⟩ ih
        replace hF : Fnd (Qn9 a ev) l2:=hF
        replace hS : Seen a.States.toNat l2 c2:=hS
        have hll:=hlo hF
        dsimp only at he ⊢
        by_cases hlt2 : n < (outP a l[i]).length
        ·rw [if_pos (by omega),Qbo hlt2]
         simp only [Option.bind_some]
         rw [Qp0 hev]
         rw [List.drop_eq_getElem_cons hlt2,List.filter_cons] at he
         have hed : (outP a l[i])[n] ∈ a.Edges:=(List.mem_filter.1 (List.getElem_mem hlt2)).1
         have hto:=(h.ed0 _ hed).2.2
         by_cases hx : (outP a l[i])[n].Event ∈ ev
         ·simp only [Option.bind_some,hx,decide_true,if_true] at he ⊢
          obtain ⟨c',hadd,hS'⟩:=Qbnw hS (x:=(outP a l[i])[n].To) ⟨hto.1,by omega⟩ (by unfold big; omega)
          unfold lenO
          rw [if_pos hS.len]
          simp only [Option.bind_some]
          rw [hadd]
          simp only [Option.bind_some]
          rw [Qv (by omega)]
          exact ih _ ⟨n + 1,rfl,by omega,hF.ins ⟨hto.1,hto.2.1⟩,hS',he⟩ (by simp only; omega)
         ·simp only [Option.bind_some,hx,decide_false,Bool.false_eq_true,if_false] at he ⊢
          rw [Qv (by omega)]
          exact ih _ ⟨n + 1,rfl,by omega,hF,hS,he⟩ (by simp only; omega)
        ·rw [if_neg (by omega)]
         have : (outP a l[i]).drop n = []:=List.drop_eq_nil_of_le (by omega)
         rw [this] at he
         simp only [List.filter_nil,List.map_nil,List.foldl_nil] at he
         exact ⟨c2,by rw [← he]; exact hF,by rw [← he]; exact hS,by rw [← he]⟩) Qbc (0,l,c) ⟨0,rfl,Nat.zero_le _,hF,hS,rfl⟩ (by simp only [Int.toNat_zero]; unfold Qbc; omega)
      exact this
     rw [hin]
     simp only [Option.bind_some]
     rw [Qv (by omega)]
     have hpre:=(Qp1 hF (Qyc hr l[i])).2.1
     obtain ⟨c3,hc3⟩:=ih ((i + 1 : Nat),_,c') ⟨i + 1,rfl,by have:=hpre.length_le; simp only; omega,hF',hS'⟩ (by simp only; omega)
     refine ⟨c3,hc3.trans ?_⟩
     simp only [Int.toNat_natCast]
     rw [show a.States.toNat + 1 - i = (a.States.toNat + 1 - (i + 1)) + 1 from by omega,Qbep hlt]
    ·rw [if_neg (by omega)]
     obtain rfl : i = l.length:=by omega
     exact ⟨c,by simp only [Int.toNat_natCast,Qbhd]⟩) Qbc (0,fr.foldl ins [],c1) ⟨0,rfl,Nat.zero_le _,hF0,hc1⟩ (by simp only [Int.toNat_zero]; unfold Qbc; omega)
  simpa using this
 refine Qkj h2 ?_
 dsimp only
 obtain ⟨q1,q2⟩:=Qbga h (ev:=ev) hf (o:=fr.foldl ins []) (fun s=>by rw [Q8o]; simp) hF0.nd
 have hql:=hlo q1
 unfold sortI
 rw [if_pos (by unfold lim; omega),q2]
 rfl
end Go.Abs
end
section
namespace Go.Abs
open Go
def Qp2 (a : Qa) (est : List Int) (e : Int) : List Int:=est.flatMap fun s=>((outP a s).filter fun x=>x.Event == e).map (·.To)
noncomputable def Qln (a : Qa) (onto est : List Int) (e : Int) : List Int:=Qm9 a (Qp2 a est e) (Qkk a onto)
noncomputable def Que (a : Qa) (onto : List Int) : List Int:=if a.States = 0 then [] else Qm9 a [0] (Qkk a onto)
structure Sts (a : Qa) (l : List Int) : Prop where
 rg : ∀ s ∈ l,0 ≤ s ∧ s < a.States
 so : l.Pairwise (· < ·)
theorem Sts.len {a : Qa} {l : List Int} (h : Sts a l) : l.length ≤ a.States.toNat:=by
 have:=Qg1 (a:=0) (b:=a.States) h.so h.rg; omega
theorem Qbdp (a : Qa) (fr ev : List Int) : Sts a (Qm9 a fr ev):=⟨fun s hs=>(Qud.1 hs).1,Qye _ _ _⟩
theorem Qbb4 (a : Qa) (onto est : List Int) (e : Int) : Sts a (Qln a onto est e):=Qbdp _ _ _
theorem Q36 (a : Qa) (onto : List Int) : Sts a (Que a onto):=by
 unfold Que; split
 ·exact ⟨by simp,by simp⟩
 ·exact Qbdp _ _ _
theorem Qbgc {a : Qa} {est : List Int} {e t : Int} : t ∈ Qp2 a est e ↔ ∃ x ∈ a.Edges,x.From ∈ est ∧ x.Event = e ∧ x.To = t:=by
 simp only [Qp2,outP,List.mem_flatMap,List.mem_map,List.mem_filter,beq_iff_eq]
 constructor
 ·rintro ⟨s,hs,x,⟨⟨h1,h2⟩,h3⟩,h4⟩; exact ⟨x,h1,by rw [h2]; exact hs,h3,h4⟩
 ·rintro ⟨x,h1,h2,h3,h4⟩; exact ⟨x.From,h2,x,⟨⟨h1,rfl⟩,h3⟩,h4⟩
theorem Q7q {a : Qa} (h : Right a) {est : List Int} {e : Int} : ∀ s ∈ Qp2 a est e,0 ≤ s ∧ s < a.States:=by
 intro s hs
 obtain ⟨x,hx,_,_,rfl⟩:=Qbgc.1 hs
 exact ⟨(h.ed0 x hx).2.2.1,(h.ed0 x hx).2.2.2.1⟩
theorem Qbim {α β : Type} {f : α → List β} {m : Nat} : ∀ {l : List α},(∀ x ∈ l,(f x).length ≤ m) → (l.flatMap f).length ≤ m * l.length
 | [],_=>by simp
 | x :: l,h=>by
  have h1:=h x (by simp)
  have h2:=Qbim (l:=l) fun y hy=>h y (by simp [hy])
  simp only [List.flatMap_cons,List.length_append,List.length_cons,Nat.mul_succ]; omega
theorem Qbo1 (a : Qa) (s e : Int) : ((outP a s).filter fun x=>x.Event == e).length ≤ a.Edges.length:=Nat.le_trans (List.length_filter_le _ _) (List.length_filter_le _ _)
theorem Qbgd {a : Qa} (h : Right a) {est : List Int} (hl : est.length ≤ 5000) (e : Int) : (Qp2 a est e).length ≤ 131072 * 5000:=by
 have:=Qbim (f:=fun s=>((outP a s).filter fun x=>x.Event == e).map (·.To)) (m:=131072) (l:=est) fun s _=>by
  have:=Qbo1 a s e; have:=h.small.2.2.2; rw [List.length_map]; omega
 exact Nat.le_trans this (Nat.mul_le_mul_left _ hl)
theorem Q37 {a : Qa} (h : Right a) (onto : List Int) : (Qkk a onto).length < big:=by
 have:=h.small.2.1
 have : (Qkk a onto).length ≤ a.Alphabet.length:=List.length_filter_le _ _
 unfold big; omega
theorem Qbaj {a : Qa} (h : Right a) (onto : List Int) : (Qfr a onto).length ≤ 32:=by
 have:=h.small.2.1
 have : (Qfr a onto).length ≤ a.Alphabet.length:=List.length_filter_le _ _
 omega
theorem Qbjg {a : Qa} (h : Right a) {onto est : List Int} (he : ∀ s ∈ est,0 ≤ s ∧ s < a.States) (hl : est.length ≤ 5000) (e : Int) :
  Qd4 (obsP a onto) est e = some (Qln a onto est e):=by
 have hsm:=h.small
 have hmax:=Qbgd h hl e
 unfold Qd4 Qbm
 refine Qkj (x:=Qp2 a est e) ?_ ?_
 ·refine (Qh7 (len:=est.length) (fun n (l : List Int)=>(l,(n : Int))) (fun n l=>l = Qp2 a (est.take n) e) (fun n l=>some (Qp2 a est e)) ?_ ?_ Qbc 0 [] (Nat.zero_le _) (by unfold Qbc; omega) (by simp [Qp2]))
  ·rintro k n l hn rfl ih
   have hx:=he _ (List.getElem_mem hn)
   dsimp only
   rw [if_pos (by omega),Qbo hn]
   simp only [Option.bind_some]
   rw [show getO (obsP a onto).out_ est[n] = _ from Qbik hx]
   simp only [Option.bind_some]
   have hol : (outP a est[n]).length ≤ 131072:=Nat.le_trans (List.length_filter_le _ _) hsm.2.2.2
   have hml : (Qp2 a (est.take n) e).length ≤ 131072 * 5000:=Qbgd h (by rw [List.length_take]; omega) e
   refine Qkj (x:=Qp2 a (est.take n) e ++ ((outP a est[n]).filter fun x=>x.Event == e).map (·.To)) ?_ ?_
   ·refine (Qh7 (len:=(outP a est[n]).length) (fun m (l : List Int)=>(l,(m : Int))) (fun m l=>l = Qp2 a (est.take n) e ++ (((outP a est[n]).take m).filter fun x=>x.Event == e).map (·.To)) (fun m l=>some (Qp2 a (est.take n) e ++ ((outP a est[n]).filter fun x=>x.Event == e).map (·.To))) ?_ ?_ Qbc 0 _ (Nat.zero_le _) (by unfold Qbc; omega) (by simp))
    ·rintro k m l hm rfl ih
     dsimp only
     rw [if_pos (by omega),Qbo hm]
     simp only [Option.bind_some]
     have hfl : ((((outP a est[n]).take m).filter fun x=>x.Event == e).map (·.To)).length ≤ 131072:=by
      rw [List.length_map]
      exact Nat.le_trans (List.length_filter_le _ _) (by rw [List.length_take]; omega)
     by_cases hx : (outP a est[n])[m].Event = e
     ·rw [if_pos (by simp [hx]),Qbx (by rw [List.length_append]; simp only [List.length_cons,List.length_nil]; unfold lim; omega)]
      simp only [Option.bind_some]
      rw [Qv (by omega)]
      refine ih _ ?_
      rw [List.take_succ_eq_append_getElem hm,List.filter_append,List.map_append,List.append_assoc]
      simp [hx]
     ·rw [if_neg (by simp [hx])]
      simp only [Option.bind_some]
      rw [Qv (by omega)]
      refine ih _ ?_
      rw [List.take_succ_eq_append_getElem hm,List.filter_append,List.map_append]
      simp [hx]
    ·rintro k l rfl
     dsimp only
     rw [if_neg (by omega),List.take_length]
   ·rw [Qv (by omega)]
    refine ih _ ?_
    rw [List.take_succ_eq_append_getElem hn]
    simp only [Qp2,List.flatMap_append,List.flatMap_cons,List.flatMap_nil,List.append_nil]
  ·rintro k l rfl
   dsimp only
   rw [if_neg (by omega),List.take_length]
 ·rw [show (obsP a onto).erased_ = Qkk a onto from rfl,Qbil h (Q7q h) (by unfold big; omega) (Q37 h onto)]
  rfl
theorem Qbm6 {a : Qa} (h : Right a) (onto : List Int) : Qdw (obsP a onto) = some (Que a onto):=by
 have hst:=h.st
 unfold Qdw Qbj
 have hlen : ((obsP a onto).out_.length : Int) = a.States:=by show ((Qbcm a).length : Int) = _; rw [Q8p]; omega
 rw [hlen]
 unfold Que
 by_cases h0 : a.States = 0
 ·rw [if_pos (by simp [h0]),if_pos h0]
 ·rw [if_neg (by simp [h0]),if_neg h0,show (obsP a onto).erased_ = Qkk a onto from rfl,Qbil h (fun s hs=>by simp at hs; subst hs; omega) (by unfold big; simp) (Q37 h onto)]
  rfl
theorem Qbhg {a : Qa} (h : Right a) {onto est : List Int} (hl : est.length < big) : Qdf (obsP a onto) est = some (est.any fun x=>decide (x ∈ a.Marked)):=by
 have hm:=h.small.2.2.1
 unfold Qdf Q8
 rw [Qbb2 (p:=fun x=>decide (x ∈ a.Marked)) (fun x=>by
  unfold Qd2 Q1
  rw [show (obsP a onto).marked_ = a.Marked from rfl,Qp0 (by unfold big; omega)]; rfl) hl]
 rfl
theorem Qbge {l : List Int} {n : Int} (hl : l.length < big) : Qh4 l n = some (Qd3 n none l):=Q7n hl
theorem Qbl4 {a : Qa} (h : small a) {ev : List Int} (hl : ev.length < big) : Qdv a ev = some (if Qya a = 0 then Qd3 32 none ev else Qya a):=by
 unfold Qdv Qz
 rw [Qbif h]
 simp only [Option.bind_some]
 by_cases h0 : Qya a = 0
 ·rw [if_neg (by simp [h0]),if_pos h0,Qbge hl]; rfl
 ·rw [if_pos (by simp [h0]),if_neg h0]
theorem Qbgf {a : Qa} (h : Right a) {ev : List Int} (hl : ev.length < big) : Qdv a ev = some (Qd3 32 none ev):=by
 rw [Qbl4 h.small.1 hl,if_pos (Qbfy.2 h)]
structure EvSet (l : List Int) : Prop where
 rg : ∀ x ∈ l,0 ≤ x ∧ x < 32
 so : l.Pairwise (· < ·)
theorem EvSet.err {l : List Int} (h : EvSet l) : Qd3 32 none l = 0:=Qgl.2 ⟨h.rg,h.so,fun y hy=>by cases hy⟩
theorem Qbl5 {l : List Int} : Qd3 32 none l = 0 ↔ EvSet l:=⟨fun h=>by obtain ⟨h1,h2,_⟩:=Qgl.1 h; exact ⟨h1,h2⟩,EvSet.err⟩
theorem EvSet.len {l : List Int} (h : EvSet l) : l.length ≤ 32:=by have:=Qg1 (a:=0) (b:=32) h.so h.rg; omega
theorem Evs.set {l : List Int} (h : Evs l) : EvSet l:=⟨fun x hx=>by have:=h.rg x hx; omega,h.so⟩
end Go.Abs
end
section
namespace Go.Abs
open Go
theorem Qbgg {l : List Int} {v : Int} (hl : l.length < big) : Qc8 l v = some (decide (v ∈ l)):=Qblq hl
theorem Qyf {α β R : Type} {F : (List β × Int → Option R) → List β × Int → Option R} {l : List α} {fuel : Nat} (p : α → Bool) (f : α → β) (fin : List β → Option R)
  (step : ∀ (k : List β × Int → Option R) (n : Nat) (h : n < l.length) (s : List β),s.length ≤ n → F k (s,(n : Int)) = k (if p l[n] then s ++ [f l[n]] else s,((n + 1 : Nat) : Int)))
  (last : ∀ (k : List β × Int → Option R) (s : List β),F k (s,(l.length : Int)) = fin s) (hf : l.length < fuel) : Qcb F fuel ([],0) = fin ((l.filter p).map f):=by
 refine (Qh7 (len:=l.length) (fun n (s : List β)=>(s,(n : Int))) (fun n s=>s = ((l.take n).filter p).map f) (fun n s=>fin ((l.filter p).map f)) ?_ ?_ fuel 0 [] (Nat.zero_le _) (by omega) (by simp))
 ·rintro k n s hn rfl ih
  rw [step k n hn _ (by rw [List.length_map]; exact Nat.le_trans (List.length_filter_le _ _) (by rw [List.length_take]; omega))]
  refine ih _ ?_
  rw [List.take_succ_eq_append_getElem hn,List.filter_append,List.map_append]
  cases hp : p l[n] <;> simp [hp]
 ·rintro k s rfl
  rw [last,List.take_length]
theorem Qbin {a : Qa} (h : Right a) {onto : List Int} (ho : onto.length < big) : Qga a onto = some (Qfr a onto):=by
 have hl:=h.small.2.1
 unfold Qga Qce
 refine Qkj (x:=Qfr a onto) ?_ rfl
 rw [Qyf (l:=a.Alphabet) (fun x=>decide (x ∈ onto)) id some ?_ ?_ (by unfold Qbc; omega)]
 ·simp [Qfr]
 ·intro k n hn s hs
  dsimp only
  rw [if_pos (by omega),Qbo hn]
  simp only [Option.bind_some]
  rw [Qbgg ho]
  simp only [Option.bind_some]
  by_cases hx : a.Alphabet[n] ∈ onto
  ·simp only [hx,decide_true,if_true]
   rw [Qbx (by simp only [List.length_cons,List.length_nil]; unfold lim; omega),Qv (by omega)]
   rfl
  ·simp only [hx,decide_false,Bool.false_eq_true,if_false,Option.bind_some]
   rw [Qv (by omega)]
 ·intro k s
  dsimp only
  rw [if_neg (by omega)]
theorem Qbdq {a : Qa} (h : Right a) {onto : List Int} (ho : onto.length < big) : Qd7 a onto = some (Qkk a onto):=by
 have hl:=h.small.2.1
 unfold Qd7 Q5
 refine Qkj (x:=Qkk a onto) ?_ rfl
 rw [Qyf (l:=a.Alphabet) (fun x=>!decide (x ∈ onto)) id some ?_ ?_ (by unfold Qbc; omega)]
 ·simp [Qkk]
 ·intro k n hn s hs
  dsimp only
  rw [if_pos (by omega),Qbo hn]
  simp only [Option.bind_some]
  rw [Qbgg ho]
  simp only [Option.bind_some]
  by_cases hx : a.Alphabet[n] ∈ onto
  ·simp only [hx,decide_true,if_true,Bool.not_true,Bool.false_eq_true,if_false,Option.bind_some]
   rw [Qv (by omega)]
  ·simp only [hx,decide_false,Bool.false_eq_true,if_false,Bool.not_false,if_true]
   rw [Qbx (by simp only [List.length_cons,List.length_nil]; unfold lim; omega),Qv (by omega)]
   rfl
 ·intro k s
  dsimp only
  rw [if_neg (by omega)]
theorem Qbjh {l : List Int} {n : Int} (hl : l.length < big) (h0 : 0 ≤ n) (hn : n ≤ 4096) : Qfc l n = some ((upto n).filter fun x=>decide (x ∈ l)):=by
 unfold Qfc Qb1
 refine Qkj (x:=(upto n).filter fun x=>decide (x ∈ l)) ?_ rfl
 rw [Qyf (l:=upto n) (fun x=>decide (x ∈ l)) id some ?_ ?_ (by rw [Qjd]; unfold Qbc; omega)]
 ·simp
 ·intro k m hm s hs
  rw [Qjd] at hm
  dsimp only
  rw [if_pos (by omega),Qbgg hl,Qbii hm]
  simp only [Option.bind_some]
  by_cases hx : (m : Int) ∈ l
  ·simp only [hx,decide_true,if_true]
   rw [Qbx (by simp only [List.length_cons,List.length_nil]; unfold lim; omega),Qv (by omega)]
   rfl
  ·simp only [hx,decide_false,Bool.false_eq_true,if_false,Option.bind_some]
   rw [Qv (by omega)]
 ·intro k s
  dsimp only
  rw [if_neg (by rw [Qjd]; omega)]
structure RI (a : Qa) (ev fr o : List Int) : Prop where
 rch : ∀ s ∈ o,Rch a ev fr s
 sub : ∃ ad,o = fr ++ ad ∧ Fnd a ad
theorem RI.len {a : Qa} {ev fr o : List Int} (h : RI a ev fr o) : o.length ≤ fr.length + a.States.toNat:=by
 obtain ⟨ad,rfl,hf⟩:=h.sub
 have:=hf.len
 rw [List.length_append]; omega
theorem RI.base {a : Qa} {ev fr o : List Int} (h : RI a ev fr o) : ∀ s ∈ fr,s ∈ o:=by
 obtain ⟨ad,rfl,hf⟩:=h.sub
 exact fun s hs=>List.mem_append_left _ hs
theorem Qbgh {a : Qa} (h : Right a) {fr ev : List Int} (hf : ∀ s ∈ fr,0 ≤ s ∧ s < a.States) (hl : fr.length ≤ 1000000000) (he : ev.length < big) : Qem a fr ev = some (Qm9 a fr ev):=by
 have hst:=h.st
 have hsm:=h.small.2.2.2
 unfold Qem Qba
 refine Qkj (x:=fr) (by rw [Qbx (by simp only [List.length_nil]; unfold lim; omega)]; rfl) ?_
 refine Qbo0 (fun o=>RI a ev fr o ∧ ∀ s ∈ o,∀ x ∈ a.Edges,x.From = s → x.Event ∈ ev → x.To ∈ o) ?_ ?_
 ·refine Qdd (fun x=>∃ i : Nat,x.2 = (i : Int) ∧ i ≤ x.1.length ∧ RI a ev fr x.1 ∧ ∀ j s,j < i → x.1[j]? = some s → ∀ x' ∈ a.Edges,x'.From = s → x'.Event ∈ ev → x'.To ∈ x.1) (fun x=>fr.length + a.States.toNat + 1 - x.2.toNat)
   (fun x r=>∃ o,r = some o ∧ RI a ev fr o ∧ ∀ s ∈ o,∀ x ∈ a.Edges,x.From = s → x.Event ∈ ev → x.To ∈ o) ?_ Qbc _ ?_ ?_
  ·rintro k ⟨o,_⟩ ⟨i,rfl,hi,hI,hc⟩ ih
   dsimp only at hi hI hc ⊢
   have hol:=hI.len
   by_cases hlt : i < o.length
   ·rw [if_pos (by omega)]
    generalize hs : o[i] = s
    have hg : o[i]? = some s:=by rw [List.getElem?_eq_getElem hlt,hs]
    refine Qbai (fun o'=>RI a ev fr o' ∧ o <+: o' ∧ ∀ x ∈ a.Edges,x.From = s → x.Event ∈ ev → x.To ∈ o') ?_ ?_
    ·refine Qdd (fun x=>∃ n : Nat,x.2 = (n : Int) ∧ n ≤ a.Edges.length ∧ RI a ev fr x.1 ∧ o <+: x.1 ∧ ∀ x' ∈ a.Edges.take n,x'.From = s → x'.Event ∈ ev → x'.To ∈ x.1) (fun x=>a.Edges.length - x.2.toNat)
      (fun x r=>∃ o',r = some o' ∧ RI a ev fr o' ∧ o <+: o' ∧ ∀ x ∈ a.Edges,x.From = s → x.Event ∈ ev → x.To ∈ o') ?_ Qbc _ ?_ ?_
     ·rintro k ⟨o2,_⟩ ⟨n,rfl,hn,hI2,hp,hc2⟩ ih
      dsimp only at hn hI2 hp hc2 ⊢
      have hol2:=hI2.len
      by_cases hlt2 : n < a.Edges.length
      ·rw [if_pos (by omega),Qbo hlt2]
       have hg2 : getO o2 (i : Int) = some s:=by
        rw [Qja]; refine ⟨by omega,?_⟩
        obtain ⟨r,rfl⟩:=hp
        rw [Int.toNat_natCast,List.getElem?_append_left hlt]; exact hg
       have hmem : a.Edges[n] ∈ a.Edges:=List.getElem_mem hlt2
       have hto:=h.ed0 _ hmem
       rw [hg2]
       simp only [Option.bind_some]
       rw [Qbgg he]
       have htk : a.Edges.take (n + 1) = a.Edges.take n ++ [a.Edges[n]]:=List.take_succ_eq_append_getElem hlt2
       generalize a.Edges[n] = x at hmem hto htk ⊢
       have skip : ¬ (x.From = s ∧ x.Event ∈ ev ∧ x.To ∉ o2) → ∃ o',k (o2,IntKind.wrap .i64 ((n : Int) + 1)) = some o' ∧ RI a ev fr o' ∧ o <+: o' ∧ ∀ x ∈ a.Edges,x.From = s → x.Event ∈ ev → x.To ∈ o':=by
        intro hno
        rw [Qv (by omega)]
        refine ih _ ⟨n + 1,rfl,by omega,hI2,hp,fun y hy hy1 hy2=>?_⟩ (by simp only; omega)
        rw [htk] at hy
        rcases List.mem_append.1 hy with hy | hy
        ·exact hc2 y hy hy1 hy2
        ·simp only [List.mem_singleton] at hy
         subst hy
         exact Classical.byContradiction fun hn=>hno ⟨hy1,hy2,hn⟩
       by_cases h1 : x.From = s
       ·rw [if_pos (by simp [h1])]
        by_cases h2 : x.Event ∈ ev
        ·simp only [h2,decide_true,if_true,Option.bind_some]
         rw [Qbgg (by unfold big; omega)]
         by_cases h3 : x.To ∈ o2
         ·simp only [h3,decide_true,Bool.not_true,Option.bind_some,Bool.false_eq_true,if_false]
          exact skip fun hh=>hh.2.2 h3
         ·simp only [h3,decide_false,Bool.not_false,Option.bind_some,if_true]
          rw [Qbx (by simp only [List.length_cons,List.length_nil]; unfold lim; omega)]
          simp only [Option.bind_some]
          rw [Qv (by omega)]
          refine ih _ ⟨n + 1,rfl,by omega,⟨fun t ht=>?_,?_⟩,hp.trans (List.prefix_append _ _),fun y hy hy1 hy2=>?_⟩ (by simp only; omega)
          ·rcases List.mem_append.1 ht with ht | ht
           ·exact hI2.rch t ht
           ·simp only [List.mem_singleton] at ht
            subst ht
            refine .step (hI2.rch x.From ?_) hmem h2
            rw [h1]
            exact hp.subset (List.mem_of_getElem? hg)
          ·obtain ⟨ad,rfl,hF⟩:=hI2.sub
           refine ⟨ad ++ [x.To],by rw [List.append_assoc],?_,?_⟩
           ·rw [List.nodup_append]
            refine ⟨hF.nd,by simp,fun u hu v hv e=>?_⟩
            simp only [List.mem_singleton] at hv
            subst hv e
            exact h3 (List.mem_append_right _ hu)
           ·intro u hu
            rcases List.mem_append.1 hu with hu | hu
            ·exact hF.rg u hu
            ·simp only [List.mem_singleton] at hu
             subst hu
             exact ⟨hto.2.2.1,hto.2.2.2.1⟩
          ·rw [htk] at hy
           rcases List.mem_append.1 hy with hy | hy
           ·exact List.mem_append_left _ (hc2 y hy hy1 hy2)
           ·simp only [List.mem_singleton] at hy
            subst hy
            exact List.mem_append_right _ (by simp)
        ·simp only [h2,decide_false,Bool.false_eq_true,if_false,Option.bind_some]
         exact skip fun hh=>h2 hh.2.1
       ·rw [if_neg (by simp [h1])]
        simp only [Option.bind_some,Bool.false_eq_true,if_false]
        exact skip fun hh=>h1 hh.1
      ·rw [if_neg (by omega)]
       exact ⟨o2,rfl,hI2,hp,fun y hy=>hc2 y (by rw [List.take_of_length_le (by omega)]; exact hy)⟩
     ·exact ⟨0,rfl,Nat.zero_le _,hI,List.prefix_refl _,by simp⟩
     ·simp only [Int.toNat_zero]; unfold Qbc; omega
    ·rintro o' ⟨hI',hp,hc'⟩
     have:=hp.length_le
     have hl':=hI'.len
     rw [Qv (by omega)]
     refine ih _ ⟨i + 1,rfl,by simp only; omega,hI',fun j t hj ht x hx h1 h2=>?_⟩ (by simp only; omega)
     obtain ⟨r,hr⟩:=hp
     dsimp only at ht ⊢
     rw [← hr,List.getElem?_append_left (by omega)] at ht
     rcases Nat.lt_or_ge j i with hji | hji
     ·rw [← hr]; exact List.mem_append_left _ (hc j t hji ht x hx h1 h2)
     ·obtain rfl : j = i:=by omega
      rw [hg] at ht; cases ht
      exact hc' x hx h1 h2
   ·rw [if_neg (by omega)]
    refine ⟨o,rfl,hI,fun s hs x hx h1 h2=>?_⟩
    obtain ⟨j,hj⟩:=List.getElem?_of_mem hs
    have hjl:=(List.getElem?_eq_some_iff.1 hj).1
    exact hc j s (by omega) hj x hx h1 h2
  ·exact ⟨0,rfl,Nat.zero_le _,⟨fun s hs=>.base hs,[],by simp,by simp,by simp⟩,fun j s hj=>absurd hj (by omega)⟩
  ·simp only [Int.toNat_zero]; unfold Qbc; omega
 ·rintro o ⟨hI,hc⟩
  have hol:=hI.len
  refine Qkj (x:=(upto a.States).filter fun x=>decide (x ∈ o)) (Qbjh (by unfold big; omega) hst.1 hst.2) ?_
  congr 1
  refine Qbf9 h hf ((Qbf7 _).filter _) (fun s hs=>?_) (fun s hs=>?_) fun x hx h1 h2=>?_
  ·have:=(List.mem_filter.1 hs).2
   exact hI.rch s (by simpa using this)
  ·exact List.mem_filter.2 ⟨Q35.2 (hf s hs),by simpa using hI.base s hs⟩
  ·have hto:=h.ed0 x hx
   have:=(List.mem_filter.1 h1).2
   exact List.mem_filter.2 ⟨Q35.2 ⟨hto.2.2.1,hto.2.2.2.1⟩,by simpa using hc _ (by simpa using this) x hx rfl h2⟩
theorem Qbm7 {a : Qa} (h : Right a) {onto est : List Int} (ho : onto.length < big) (hl : est.length < big) (e : Int) : Qgb a onto est e = some (Qln a onto est e):=by
 have hsm:=h.small.2.2.2
 unfold Qgb Qcf
 refine Qkj (x:=(a.Edges.filter fun x=>x.Event == e && decide (x.From ∈ est)).map (·.To)) ?_ ?_
 ·rw [Qyf (l:=a.Edges) (fun x=>x.Event == e && decide (x.From ∈ est)) (·.To) some ?_ ?_ (by unfold Qbc; omega)]
  ·intro k n hn s hs
   dsimp only
   rw [if_pos (by omega),Qbo hn]
   simp only [Option.bind_some]
   by_cases h1 : a.Edges[n].Event = e
   ·rw [if_pos (by simp [h1]),Qbgg hl]
    simp only [Option.bind_some]
    by_cases h2 : a.Edges[n].From ∈ est
    ·simp only [h1,h2,decide_true,if_true,BEq.rfl,Bool.and_self,Option.bind_some]
     rw [Qbx (by simp only [List.length_cons,List.length_nil]; unfold lim; omega),Qv (by omega)]
     rfl
    ·simp only [h1,h2,decide_false,Bool.false_eq_true,if_false,Bool.and_false,Option.bind_some]
     rw [Qv (by omega)]
   ·have : (a.Edges[n].Event == e) = false:=by simp [h1]
    rw [if_neg (by simp [h1])]
    simp only [this,Bool.false_and,Bool.false_eq_true,if_false,Option.bind_some]
    rw [Qv (by omega)]
  ·intro k s
   dsimp only
   rw [if_neg (by omega)]
 ·rw [Qbdq h ho]
  simp only [Option.bind_some]
  have hmm : ∀ t,t ∈ (a.Edges.filter fun x=>x.Event == e && decide (x.From ∈ est)).map (·.To) ↔ t ∈ Qp2 a est e:=by
   intro t
   rw [Qbgc]
   simp only [List.mem_map,List.mem_filter,Bool.and_eq_true,beq_iff_eq,decide_eq_true_eq]
   constructor
   ·rintro ⟨x,⟨h1,h2,h3⟩,h4⟩; exact ⟨x,h1,h3,h2,h4⟩
   ·rintro ⟨x,h1,h2,h3,h4⟩; exact ⟨x,⟨h1,h3,h2⟩,h4⟩
  have hlen : ((a.Edges.filter fun x=>x.Event == e && decide (x.From ∈ est)).map (·.To)).length ≤ 131072:=by
   rw [List.length_map]; exact Nat.le_trans (List.length_filter_le _ _) hsm
  rw [Qbgh h (fun s hs=>Q7q h s ((hmm s).1 hs)) (by omega) (Q37 h onto)]
  simp only [Option.bind_some]
  rw [Qln,Qbf8 hmm]
theorem Qbl6 {a : Qa} (h : Right a) {onto : List Int} (ho : onto.length < big) : Qfq a onto = some (Que a onto):=by
 unfold Qfq Qca Que
 have hst:=h.st
 by_cases h0 : a.States = 0
 ·rw [if_pos (by simp [h0]),if_pos h0]
 ·rw [if_neg (by simp [h0]),if_neg h0,Qbdq h ho]
  simp only [Option.bind_some]
  rw [Qbgh h (fun s hs=>by simp at hs; subst hs; omega) (by simp) (Q37 h onto)]
  rfl
end Go.Abs
end
section
namespace Go.Abs
open Go
section
variable {a b : Qa} {φ : Int → Int} (ha : Right a) (hb : Right b) (h : Like a b φ)
include ha hb h
end
theorem Qbgi {a : Qa} {F : List Int} : ∀ (l : List Int) (i : Nat),l.Nodup → (Qjb a F i l).length ≤ (a.Edges.filter fun x=>decide (x.From ∈ l)).length
 | [],i,_=>by simp [Qjb]
 | s :: l,i,hn=>by
  have hn:=List.nodup_cons.1 hn
  simp only [Qjb,List.length_append]
  have ih:=Qbgi (a:=a) (F:=F) l (i + 1) hn.2
  have h1 : (rowP a F i s).length = (a.Edges.filter fun x=>x.From == s).length:=by simp [rowP,outP]
  have h2 : a.Edges.filter (fun x=>decide (x.From ∈ s :: l)) = a.Edges.filter (fun x=>x.From == s || decide (x.From ∈ l)):=by
   congr 1; funext x; rw [Bool.eq_iff_iff]; simp
  rw [h1,h2]
  have h3 : ∀ L : List Qe,(L.filter (fun x=>x.From == s)).length + (L.filter fun x=>decide (x.From ∈ l)).length = (L.filter (fun x=>x.From == s || decide (x.From ∈ l))).length:=by
   intro L
   induction L with
   | nil=>simp
   | cons x L ih =>
    by_cases hx : x.From = s
    ·have : ¬ x.From ∈ l:=by rw [hx]; exact hn.1
     simp [hx,hn.1] at ih ⊢; omega
    ·by_cases hm : x.From ∈ l <;> simp [hx,hm] at ih ⊢ <;> omega
  have:=h3 a.Edges
  omega
theorem Qbji {a : Qa} (ha : Right a) : (Qig a).States ≤ a.States ∧ (Qig a).Edges.length ≤ a.Edges.length:=by
 have hF:=(Q9j ha).1
 have:=hF.len
 have hst:=ha.st
 refine ⟨by simp only [Qig]; omega,?_⟩
 exact Nat.le_trans (Qbgi _ _ hF.nd) (List.length_filter_le _ _)
end Go.Abs
end
section
namespace Go.Abs
open Go
theorem Sts.err {a : Qa} {l : List Int} (h : Sts a l) : Qd3 a.States none l = 0:=Qgl.2 ⟨h.rg,h.so,fun y hy=>by cases hy⟩
theorem Sts.big {a : Qa} (ha : Right a) {l : List Int} (h : Sts a l) : l.length < big:=by have:=h.len; have:=ha.st; unfold Abs.big; omega
theorem EvSet.big {l : List Int} (h : EvSet l) : l.length < big:=by have:=h.len; unfold Abs.big; omega
theorem Sts.t {a : Qa} (ha : Right a) {l : List Int} (h : Sts a l) : l.length < 1000000000000:=by have:=h.len; have:=ha.st; omega
end Go.Abs
end
section
namespace Go.Abs
open Go
theorem bytes_beq (a b : ByteArray) : (a == b) = decide (a = b):=by
 cases a; cases b
 rw [Bool.eq_iff_iff]
 simp only [decide_eq_true_eq,ByteArray.mk.injEq]
 exact beq_iff_eq (α:=Array UInt8)
theorem Qyi {x y : Int} (hx : 0 ≤ x ∧ x < 256) (hy : 0 ≤ y ∧ y < 256) (h : x.toNat.toUInt8 = y.toNat.toUInt8) : x = y:=by
 have:=congrArg UInt8.toNat h
 simp only [Nat.toUInt8,UInt8.toNat_ofNat'] at this
 omega
theorem Q90 {r : Int} (h0 : 1 ≤ r) (h1 : r ≤ 50000) :
  (r ≤ 127 ∧ Lib.encodeRuneZ r = [r]) ∨ (128 ≤ r ∧ r ≤ 2047 ∧ Lib.encodeRuneZ r = [192 + r / 64,128 + r % 64]) ∨ (2048 ≤ r ∧ Lib.encodeRuneZ r = [224 + r / 4096,128 + r / 64 % 64,128 + r % 64]):=by
 by_cases h2 : r ≤ 127
 ·exact .inl ⟨h2,Lib.encodeRuneZ_one (by omega) h2⟩
 ·by_cases h3 : r ≤ 2047
  ·exact .inr (.inl ⟨by omega,h3,Lib.encodeRuneZ_two (by omega) h3⟩)
  ·exact .inr (.inr ⟨by omega,Lib.encodeRuneZ_three (.inl ⟨by omega,by omega⟩)⟩)
theorem Qbjj {r q : Int} (hr : 1 ≤ r ∧ r ≤ 50000) (hq : 1 ≤ q ∧ q ≤ 50000) {s t : List UInt8} (h : Lib.encodeRune r ++ s = Lib.encodeRune q ++ t) : r = q ∧ s = t:=by
 unfold Lib.encodeRune at h
 rcases Q90 hr.1 hr.2 with ⟨a1,a2⟩ | ⟨a0,a1,a2⟩ | ⟨a1,a2⟩ <;> rcases Q90 hq.1 hq.2 with ⟨b1,b2⟩ | ⟨b0,b1,b2⟩ | ⟨b1,b2⟩ <;> rw [a2,b2] at h <;>
  simp only [List.map_cons,List.map_nil,List.cons_append,List.nil_append,List.cons.injEq] at h
 ·exact ⟨Qyi (by omega) (by omega) h.1,h.2⟩
 ·have:=Qyi (by omega) (by omega) h.1; omega
 ·have:=Qyi (by omega) (by omega) h.1; omega
 ·have:=Qyi (by omega) (by omega) h.1; omega
 ·have e1:=Qyi (by omega) (by omega) h.1
  have e2:=Qyi (by omega) (by omega) h.2.1
  exact ⟨by omega,h.2.2⟩
 ·have:=Qyi (by omega) (by omega) h.1; omega
 ·have:=Qyi (by omega) (by omega) h.1; omega
 ·have:=Qyi (by omega) (by omega) h.1; omega
 ·have e1:=Qyi (by omega) (by omega) h.1
  have e2:=Qyi (by omega) (by omega) h.2.1
  have e3:=Qyi (by omega) (by omega) h.2.2.1
  exact ⟨by omega,h.2.2.2⟩
theorem Qbgj (r : Int) : Lib.encodeRune r ≠ []:=by
 unfold Lib.encodeRune Lib.encodeRuneZ
 split
 ·simp
 ·split
  ·simp
  ·split
   ·simp
   ·split <;> simp
theorem Qbio : ∀ {l m : List Int},(∀ x ∈ l,0 ≤ x ∧ x < 50000) → (∀ x ∈ m,0 ≤ x ∧ x < 50000) → (l.flatMap fun x=>Lib.encodeRune (x + 1)) = (m.flatMap fun x=>Lib.encodeRune (x + 1)) → l = m
 | [],[],_,_,_=>rfl
 | [],y :: m,_,_,h=>by
  simp only [List.flatMap_nil,List.flatMap_cons] at h
  exact absurd (List.append_eq_nil_iff.1 h.symm).1 (Qbgj _)
 | x :: l,[],_,_,h=>by
  simp only [List.flatMap_nil,List.flatMap_cons] at h
  exact absurd (List.append_eq_nil_iff.1 h).1 (Qbgj _)
 | x :: l,y :: m,hl,hm,h=>by
  simp only [List.flatMap_cons] at h
  have hx:=hl x (by simp); have hy:=hm y (by simp)
  obtain ⟨h1,h2⟩:=Qbjj ⟨by omega,by omega⟩ ⟨by omega,by omega⟩ h
  rw [Qbio (fun z hz=>hl z (by simp [hz])) (fun z hz=>hm z (by simp [hz])) h2,show x = y from by omega]
theorem Qber {l m : List Int} (hl : ∀ x ∈ l,0 ≤ x ∧ x < 50000) (hm : ∀ x ∈ m,0 ≤ x ∧ x < 50000) (h : keyB l = keyB m) : l = m:=by
 unfold keyB at h
 have h:=congrArg (fun b : ByteArray=>b.data.toList) h
 simp only [List.toList_toArray] at h
 exact Qbio hl hm h
theorem Qbnx {l : List Int} (hl : l.length ≤ lim) (hx : ∀ x ∈ l,0 ≤ x ∧ x < 50000) : keyS l = some (keyB l):=by
 unfold keyS; rw [if_pos ⟨hl,hx⟩]
structure KM (S : List (List Int)) (c : List (ByteArray × Int)) : Prop where
 has : ∀ n,(∀ x ∈ n,0 ≤ x ∧ x < 50000) → hasM c (keyB n) = decide (n ∈ S)
 get : ∀ n ∈ S,getM c (keyB n) 0 = (S.idxOf n : Int)
 rg : ∀ n ∈ S,∀ x ∈ n,0 ≤ x ∧ x < 50000
theorem Qbb5 {β : Type} {v : β} {k k' : ByteArray} : ∀ {m : List (ByteArray × β)},hasM (setM m k v) k' = (decide (k' = k) || hasM m k')
 | []=>by simp [setM,hasM,bytes_beq]
 | (q,w) :: m=>by
  have ih:=Qbb5 (v:=v) (k:=k) (k':=k') (m:=m)
  simp only [setM]
  by_cases h : k = q
  ·subst h
   simp only [bytes_beq,decide_true,if_true,Qbbi]
   by_cases h2 : k' = k <;> simp [h2,bytes_beq]
  ·simp only [bytes_beq,h,decide_false,Bool.false_eq_true,if_false,Qbbi]
   rw [ih]
   cases decide (k' = q) <;> cases decide (k' = k) <;> rfl
theorem Qbb6 {β : Type} {z v : β} {k k' : ByteArray} : ∀ {m : List (ByteArray × β)},getM (setM m k v) k' z = if k' = k then v else getM m k' z
 | []=>by simp [setM,getM,bytes_beq]
 | (q,w) :: m=>by
  have ih:=Qbb6 (z:=z) (v:=v) (k:=k) (k':=k') (m:=m)
  simp only [setM]
  by_cases h : k = q
  ·subst h
   simp only [bytes_beq,decide_true,if_true,getM]
   by_cases h2 : k' = k
   ·subst h2; simp
   ·simp [h2]
  ·simp only [bytes_beq,h,decide_false,Bool.false_eq_true,if_false,getM]
   by_cases h2 : k' = q
   ·subst h2
    have : ¬ k' = k:=fun e=>h e.symm
    simp [this]
   ·simp only [h2,decide_false,Bool.false_eq_true,if_false,ih]
theorem KM.first {n : List Int} (hn : ∀ x ∈ n,0 ≤ x ∧ x < 50000) : KM [n] (setM ([] : List (ByteArray × Int)) (keyB n) 0):=by
 refine ⟨fun m hm=>?_,fun m hm=>?_,fun m hm=>?_⟩
 ·rw [Qbb5]
  have : hasM ([] : List (ByteArray × Int)) (keyB m) = false:=rfl
  rw [this,Bool.or_false]
  apply decide_eq_decide.2
  rw [List.mem_singleton]
  exact ⟨fun h=>Qber hm hn h,fun h=>by rw [h]⟩
 ·rw [List.mem_singleton] at hm; subst hm
  rw [Qbb6,if_pos rfl]; simp
 ·rw [List.mem_singleton] at hm; subst hm; exact hn
theorem KM.add {S : List (List Int)} {c : List (ByteArray × Int)} (h : KM S c) {n : List Int} (hn : ∀ x ∈ n,0 ≤ x ∧ x < 50000) (hm : n ∉ S) : KM (S ++ [n]) (setM c (keyB n) (S.length : Int)):=by
 refine ⟨fun m hm'=>?_,fun m hm'=>?_,fun m hm'=>?_⟩
 ·rw [Qbb5,h.has m hm',← Bool.decide_or]
  apply decide_eq_decide.2
  rw [List.mem_append,List.mem_singleton]
  constructor
  ·rintro (e | e)
   ·exact .inr (Qber hm' hn e)
   ·exact .inl e
  ·rintro (e | e)
   ·exact .inr e
   ·exact .inl (by rw [e])
 ·rw [Qbb6]
  rw [List.mem_append,List.mem_singleton] at hm'
  rcases hm' with hm' | rfl
  ·rw [if_neg (fun e=>hm (by rw [← Qber (h.rg m hm') hn e]; exact hm')),h.get m hm',List.idxOf_append,if_pos hm']
  ·rw [if_pos rfl,List.idxOf_append,if_neg hm]; simp
 ·rw [List.mem_append,List.mem_singleton] at hm'
  rcases hm' with hm' | rfl
  ·exact h.rg m hm'
  ·exact hn
end Go.Abs
end
section
namespace Go.Abs
open Go
def insL (o : List (List Int)) (t : List Int) : List (List Int):=if t ∈ o then o else o ++ [t]
noncomputable def Qmh (a : Qa) (onto est : List Int) (l : List Int) : List (Int × List Int):=l.filterMap fun x=>if Qln a onto est x = [] then none else some (x,Qln a onto est x)
noncomputable def rowN (a : Qa) (onto est : List Int) : List (Int × List Int):=Qmh a onto est (Qfr a onto)
def Qp3 (S : List (List Int)) (row : List (Int × List Int)) : List (List Int):=row.foldl (fun o p=>insL o p.2) S
def rowE (S : List (List Int)) (i : Nat) (row : List (Int × List Int)) : List Qe:=row.map fun p=>⟨(i : Int),p.1,(S.idxOf p.2 : Int)⟩
noncomputable def estB (a : Qa) (onto : List Int) : Nat → List (List Int)
 | 0=>[Que a onto]
 | i + 1=>match (estB a onto i)[i]? with
  | some s=>Qp3 (estB a onto i) (rowN a onto s)
  | none=>estB a onto i
noncomputable def edN (a : Qa) (onto : List Int) (S : List (List Int)) : Nat → List (List Int) → List Qe
 | _,[]=>[]
 | i,s :: t=>rowE S i (rowN a onto s) ++ edN a onto S (i + 1) t
def mkN (a : Qa) : Nat → List (List Int) → List Int
 | _,[]=>[]
 | i,s :: t=>(if s.any (fun x=>decide (x ∈ a.Marked)) then [(i : Int)] else []) ++ mkN a (i + 1) t
noncomputable def autN (a : Qa) (onto : List Int) (S : List (List Int)) : Qa:=⟨Qfr a onto,(S.length : Int),mkN a 0 S,edN a onto S 0 S⟩
theorem Q38 {o : List (List Int)} {t x : List Int} : x ∈ insL o t ↔ x ∈ o ∨ x = t:=by
 unfold insL; split
 ·rename_i h
  exact ⟨.inl,fun e=>e.elim id fun e=>by rw [e]; exact h⟩
 ·simp
theorem Qbes (o : List (List Int)) (t : List Int) : o <+: insL o t:=by
 unfold insL; split
 ·exact List.prefix_refl o
 ·exact List.prefix_append o _
theorem Q9l {o : List (List Int)} (h : o.Nodup) (t : List Int) : (insL o t).Nodup:=by
 unfold insL; split
 ·exact h
 ·rename_i hn
  rw [List.nodup_append]
  exact ⟨h,by simp,fun x hx y hy e=>by simp at hy; subst hy; subst e; exact hn hx⟩
theorem Q3s : ∀ (row : List (Int × List Int)) (S : List (List Int)),S <+: Qp3 S row
 | [],S=>List.prefix_refl S
 | p :: row,S=>(Qbes S p.2).trans (Q3s row (insL S p.2))
theorem Qbb7 : ∀ (row : List (Int × List Int)) {S : List (List Int)},S.Nodup → (Qp3 S row).Nodup
 | [],S,h=>h
 | p :: row,S,h=>Qbb7 row (Q9l h p.2)
theorem Quf : ∀ (row : List (Int × List Int)) (S : List (List Int)) (x : List Int),x ∈ Qp3 S row ↔ x ∈ S ∨ ∃ p ∈ row,p.2 = x
 | [],S,x=>by simp [Qp3]
 | p :: row,S,x=>by
  show x ∈ Qp3 (insL S p.2) row ↔ _
  rw [Quf row,Q38]
  simp only [List.mem_cons,exists_eq_or_imp]
  constructor
  ·rintro ((h | h) | h)
   ·exact .inl h
   ·exact .inr (.inl h.symm)
   ·exact .inr (.inr h)
  ·rintro (h | h | h)
   ·exact .inl (.inl h)
   ·exact .inl (.inr h.symm)
   ·exact .inr h
theorem Qbgk : ∀ (row : List (Int × List Int)) (S : List (List Int)),(Qp3 S row).length ≤ S.length + row.length
 | [],S=>by simp [Qp3]
 | p :: row,S=>by
  have:=Qbgk row (insL S p.2)
  have h2 : (insL S p.2).length ≤ S.length + 1:=by unfold insL; split <;> simp
  show (Qp3 (insL S p.2) row).length ≤ _
  simp only [List.length_cons]; omega
theorem Q3t {a : Qa} {onto est l : List Int} {p : Int × List Int} : p ∈ Qmh a onto est l ↔ p.1 ∈ l ∧ p.2 = Qln a onto est p.1 ∧ p.2 ≠ []:=by
 obtain ⟨x,n⟩:=p
 simp only [Qmh,List.mem_filterMap]
 constructor
 ·rintro ⟨y,hy,h⟩
  split at h
  ·cases h
  ·rename_i hne
   cases h; exact ⟨hy,rfl,hne⟩
 ·rintro ⟨h1,h2,h3⟩
  refine ⟨x,h1,?_⟩
  subst h2
  rw [if_neg h3]
theorem Qbgl {a : Qa} {onto est l : List Int} : (Qmh a onto est l).length ≤ l.length:=List.length_filterMap_le _ _
theorem Q39 {o F : List (List Int)} (h : o <+: F) {t : List Int} (ht : t ∈ o) : F.idxOf t = o.idxOf t:=by
 obtain ⟨r,rfl⟩:=h
 rw [List.idxOf_append,if_pos ht]
structure Ests (a : Qa) (S : List (List Int)) : Prop where
 nd : S.Nodup
 ok : ∀ s ∈ S,Sts a s ∧ s ≠ []
theorem Ests.grow {a : Qa} {S : List (List Int)} (h : Ests a S) (onto est l : List Int) : Ests a (Qp3 S (Qmh a onto est l)):=by
 refine ⟨Qbb7 _ h.nd,fun s hs=>?_⟩
 rcases (Quf _ _ _).1 hs with hs | ⟨p,hp,rfl⟩
 ·exact h.ok s hs
 ·obtain ⟨_,h2,h3⟩:=Q3t.1 hp
  exact ⟨by rw [h2]; exact Qbb4 _ _ _ _,h3⟩
theorem Qbm8 {a : Qa} (h : 0 < a.States) (onto : List Int) : Que a onto ≠ []:=by
 unfold Que
 rw [if_neg (by omega)]
 intro e
 have : (0 : Int) ∈ Qm9 a [0] (Qkk a onto):=Qud.2 ⟨by omega,.base (by simp)⟩
 rw [e] at this; simp at this
theorem Ests.first {a : Qa} (h : 0 < a.States) (onto : List Int) : Ests a [Que a onto] :=
 ⟨by simp,fun s hs=>by simp at hs; subst hs; exact ⟨Q36 _ _,Qbm8 h onto⟩⟩
theorem Qkl {a : Qa} (h : 0 < a.States) (onto : List Int) : ∀ i,Ests a (estB a onto i)
 | 0=>.first h onto
 | i + 1=>by
  unfold estB
  split
  ·exact (Qkl h onto i).grow _ _ _
  ·exact Qkl h onto i
theorem Qbb8 {a : Qa} {onto : List Int} (i : Nat) : estB a onto i <+: estB a onto (i + 1):=by
 conv=>rhs; unfold estB
 split
 ·exact Q3s _ _
 ·exact List.prefix_refl _
theorem Q4a {a : Qa} {onto : List Int} {i j : Nat} (h : i ≤ j) : estB a onto i <+: estB a onto j:=by
 induction j with
 | zero =>
  obtain rfl : i = 0:=by omega
  exact List.prefix_refl _
 | succ j ih =>
  rcases Nat.lt_or_ge i (j + 1) with hlt | hge
  ·exact (ih (by omega)).trans (Qbb8 j)
  ·obtain rfl : i = j + 1:=by omega
   exact List.prefix_refl _
theorem Qbb9 {a : Qa} {onto : List Int} {n : Nat} (h : (estB a onto n).length = n) : ∀ k,estB a onto (n + k) = estB a onto n
 | 0=>rfl
 | k + 1=>by
  rw [show estB a onto (n + (k + 1)) = (match (estB a onto (n + k))[n + k]? with | some s=>Qp3 (estB a onto (n + k)) (rowN a onto s) | none=>estB a onto (n + k)) from rfl,Qbb9 h k,List.getElem?_eq_none (by omega)]
theorem Qbm9 {a : Qa} {onto : List Int} {i j : Nat} (hij : i < j) {s : List Int} (hs : (estB a onto j)[i]? = some s) (hlt : i < (estB a onto i).length) : ∀ p ∈ rowN a onto s,p.2 ∈ estB a onto (i + 1):=by
 intro p hp
 have h1 : (estB a onto i)[i]? = some s:=by
  rw [← hs]
  obtain ⟨r,hr⟩:=Q4a (a:=a) (onto:=onto) (Nat.le_of_lt hij)
  rw [← hr,List.getElem?_append_left hlt]
 unfold estB
 rw [h1]
 exact (Quf _ _ _).2 (.inr ⟨p,hp,rfl⟩)
theorem Qbna {a : Qa} {onto : List Int} (i : Nat) : 1 ≤ (estB a onto i).length:=by
 have:=(Q4a (a:=a) (onto:=onto) (Nat.zero_le i)).length_le
 simpa [estB] using this
theorem Q9m {a : Qa} {onto : List Int} {S : List (List Int)} : ∀ (l m : List (List Int)) (i : Nat),edN a onto S i (l ++ m) = edN a onto S i l ++ edN a onto S (i + l.length) m
 | [],m,i=>by simp [edN]
 | s :: l,m,i=>by
  simp only [List.cons_append,edN,Q9m l m,List.length_cons,List.append_assoc]
  rw [show i + 1 + l.length = i + (l.length + 1) from by omega]
theorem Q9n {a : Qa} : ∀ (l m : List (List Int)) (i : Nat),mkN a i (l ++ m) = mkN a i l ++ mkN a (i + l.length) m
 | [],m,i=>by simp [mkN]
 | s :: l,m,i=>by
  simp only [List.cons_append,mkN,Q9n l m,List.length_cons,List.append_assoc]
  rw [show i + 1 + l.length = i + (l.length + 1) from by omega]
theorem Qbhh {a : Qa} {onto : List Int} {S T : List (List Int)} (h : S <+: T) : ∀ (l : List (List Int)) (i : Nat),(∀ s ∈ l,∀ p ∈ rowN a onto s,p.2 ∈ S) → edN a onto T i l = edN a onto S i l
 | [],i,_=>rfl
 | s :: l,i,hl=>by
  simp only [edN]
  rw [Qbhh h l (i + 1) fun t ht=>hl t (by simp [ht])]
  congr 1
  refine List.map_congr_left fun p hp=>?_
  rw [Q39 h (hl s (by simp) p hp)]
theorem Qbhi {a : Qa} (h : Right a) {onto : List Int} {S : List (List Int)} : ∀ (l : List (List Int)) (i : Nat),(edN a onto S i l).length ≤ 32 * l.length
 | [],i=>by simp [edN]
 | s :: l,i=>by
  have:=Qbhi h (onto:=onto) (S:=S) l (i + 1)
  have h1 : (rowN a onto s).length ≤ (Qfr a onto).length:=Qbgl
  have h2:=Qbaj h onto
  simp only [edN,rowE,List.length_append,List.length_map,List.length_cons]; omega
theorem Qbhj {a : Qa} : ∀ (l : List (List Int)) (i : Nat),(mkN a i l).length ≤ l.length
 | [],i=>by simp [mkN]
 | s :: l,i=>by
  have:=Qbhj (a:=a) l (i + 1)
  simp only [mkN,List.length_append,List.length_cons]
  split <;> simp <;> omega
theorem Sts.lt {a : Qa} (h : Right a) {l : List Int} (hl : Sts a l) : ∀ x ∈ l,0 ≤ x ∧ x < 50000:=fun x hx=>by
 have:=hl.rg x hx; have:=h.st; omega
end Go.Abs
end
section
namespace Go.Abs
open Go
def Qbpt (a : Qa) (onto : List Int) (r : Qa × List (List Int) × Int) : Prop :=
 (∃ n,(estB a onto n).length = n ∧ n ≤ 4096 ∧ r = (autN a onto (estB a onto n),estB a onto n,0)) ∨ (∃ n,4096 < (estB a onto n).length ∧ r = (⟨[],0,[],[]⟩,[],3))
theorem Qbny {α : Type} (l : List α) : ((l.length : Int) == 0) = decide (l = []):=by
 cases l with
 | nil=>rfl
 | cons x l=>simp; omega
theorem Qbjk {a : Qa} (h : Right a) {onto : List Int} (ho : EvSet onto) :
  ∃ r,Qdy a onto = some r ∧ (if a.States = 0 then r = (⟨Qfr a onto,0,[],[]⟩,[],0) else Qbpt a onto r):=by
 have hol:=ho.len
 have hkl:=Qbaj h onto
 have hst:=h.st
 have hob : onto.length < big:=by unfold big; omega
 unfold Qdy Qbe
 rw [Qbgf h hob,ho.err]
 simp only [Option.bind_some,show ((0 : Int) != 0) = false from rfl,Bool.false_eq_true,if_false]
 rw [Qbjf h hob]
 simp only [Option.bind_some]
 by_cases h0 : a.States = 0
 ·rw [if_pos (by simp [h0])]
  simp only [h0,if_true]
  exact ⟨_,rfl,rfl⟩
 ·have hpos : 0 < a.States:=by omega
  rw [if_neg (by simp [h0]),Qbm6 h onto]
  simp only [h0,if_false]
  simp only [Option.bind_some]
  have hsl:=(Q36 a onto).len
  rw [Qbnx (by unfold lim; omega) ((Q36 a onto).lt h)]
  simp only [Option.bind_some]
  refine Qdd (fun x=>∃ (n : Nat) (c : List (ByteArray × Int)),n ≤ (estB a onto n).length ∧ (estB a onto n).length ≤ 4096 ∧ KM (estB a onto n) c ∧ (∀ i s,i < n → (estB a onto n)[i]? = some s → ∀ p ∈ rowN a onto s,p.2 ∈ estB a onto n) ∧
    x = (estB a onto n,(n : Int),[],[],[],mkN a 0 ((estB a onto n).take n),edN a onto (estB a onto n) 0 ((estB a onto n).take n),c)) (fun x=>5000 - x.2.1.toNat) (fun x r=>∃ y,r = some y ∧ Qbpt a onto y) ?_ Qbc _ ?_ ?_
  ·rintro k _ ⟨n,c,hn,hlen,hK,hcl,rfl⟩ ih
   have hE:=Qkl hpos onto n
   dsimp only
   by_cases hlt : n < (estB a onto n).length
   ·rw [if_pos (by omega),Qbo hlt]
    generalize hs : (estB a onto n)[n] = s
    have hg : (estB a onto n)[n]? = some s:=by rw [List.getElem?_eq_getElem hlt,hs]
    have hsS : Sts a s:=(hE.ok s (List.mem_of_getElem? hg)).1
    have hsl:=hsS.len
    simp only [Option.bind_some]
    rw [Qbhg h (by unfold big; omega)]
    simp only [Option.bind_some]
    have hml:=Qbhj (a:=a) ((estB a onto n).take n) 0
    rw [List.length_take] at hml
    have hel:=Qbhi h (onto:=onto) (S:=estB a onto n) ((estB a onto n).take n) 0
    rw [List.length_take] at hel
    have htake : (estB a onto n).take (n + 1) = (estB a onto n).take n ++ [s]:=by rw [List.take_succ_eq_append_getElem hlt,hs]
    have hpre:=Qbb8 (a:=a) (onto:=onto) n
    have hstep : estB a onto (n + 1) = Qp3 (estB a onto n) (rowN a onto s):=by
     show (match (estB a onto n)[n]? with | some s=>_ | none=>_) = _
     rw [hg]
    have hlen' : (estB a onto (n + 1)).length ≤ (estB a onto n).length + 32:=by
     rw [hstep]
     have:=Qbgk (rowN a onto s) (estB a onto n)
     have h2 : (rowN a onto s).length ≤ (Qfr a onto).length:=Qbgl
     omega
    have htake2 : (estB a onto (n + 1)).take (n + 1) = (estB a onto n).take (n + 1):=by
     obtain ⟨r,hr⟩:=hpre
     rw [← hr,List.take_append_of_le_length (by omega)]
    refine Qbl2 (x:=mkN a 0 ((estB a onto n).take (n + 1))) ?_ ?_
    ·rw [htake,Q9n]
     simp only [mkN,List.append_nil,List.length_take,Nat.zero_add,Nat.min_eq_left (Nat.le_of_lt hlt)]
     by_cases hm : s.any (fun x=>decide (x ∈ a.Marked)) = true
     ·rw [if_pos hm,if_pos hm,Qbx (by simp only [List.length_cons,List.length_nil]; unfold lim; omega)]
      rfl
     ·rw [if_neg hm,if_neg hm,List.append_nil]
    refine Qbai (fun y=>∃ c',KM (estB a onto (n + 1)) c' ∧ y = (estB a onto (n + 1),edN a onto (estB a onto n) 0 ((estB a onto n).take n) ++ rowE (estB a onto (n + 1)) n (rowN a onto s),c')) ?_ ?_
    ·-- the events of a state
     refine Qdd (fun x=>∃ (m : Nat) (S : List (List Int)) (r : List Qe) (c : List (ByteArray × Int)),x = (S,(m : Int),r,c) ∧ m ≤ (Qfr a onto).length ∧ S[n]? = some s ∧ Ests a S ∧ S.length ≤ 4096 + m ∧ r.length ≤ 32 * 4096 + m ∧ KM S c ∧
      Qp3 S (Qmh a onto s ((Qfr a onto).drop m)) = estB a onto (n + 1) ∧ r ++ rowE (estB a onto (n + 1)) n (Qmh a onto s ((Qfr a onto).drop m)) = edN a onto (estB a onto n) 0 ((estB a onto n).take n) ++ rowE (estB a onto (n + 1)) n (rowN a onto s))
      (fun x=>(Qfr a onto).length - x.2.1.toNat) (fun x r=>∃ y,r = some y ∧ ∃ c',KM (estB a onto (n + 1)) c' ∧ y = (estB a onto (n + 1),edN a onto (estB a onto n) 0 ((estB a onto n).take n) ++ rowE (estB a onto (n + 1)) n (rowN a onto s),c')) ?_ Qbc _ ?_ ?_
     ·rintro k _ ⟨m,S,r,c,rfl,hm,hgs,hES,hSl,hrl,hKS,hg1,hg2⟩ ih
      dsimp only
      by_cases hlm : m < (Qfr a onto).length
      ·rw [show (obsP a onto).kept_ = Qfr a onto from rfl,if_pos (by omega),Qbo hlm]
       have hgn : getO S (n : Int) = some s:=by rw [Qja]; exact ⟨by omega,by simpa using hgs⟩
       simp only [Option.bind_some]
       rw [hgn]
       simp only [Option.bind_some]
       rw [Qbjg h hsS.rg (by omega)]
       simp only [Option.bind_some,Qbny]
       rw [List.drop_eq_getElem_cons hlm] at hg1 hg2
       generalize (Qfr a onto)[m] = x at hg1 hg2 ⊢
       have hNS:=Qbb4 a onto s x
       have hcons : Qmh a onto s (x :: (Qfr a onto).drop (m + 1)) = if Qln a onto s x = [] then Qmh a onto s ((Qfr a onto).drop (m + 1)) else (x,Qln a onto s x) :: Qmh a onto s ((Qfr a onto).drop (m + 1)):=by
        simp only [Qmh,List.filterMap_cons]
        split <;> simp_all
       rw [hcons] at hg1 hg2
       generalize hN : Qln a onto s x = N at hg1 hg2 hNS ⊢
       by_cases hne : N = []
       ·rw [if_pos hne] at hg1 hg2
        simp only [hne,decide_true,if_true,Option.bind_some]
        rw [Qv (by omega)]
        exact ih _ ⟨m + 1,S,r,c,rfl,by omega,hgs,hES,by omega,by omega,hKS,hg1,hg2⟩ (by simp only; omega)
       ·rw [if_neg hne] at hg1 hg2
        have hNl:=hNS.len
        simp only [hne,decide_false,Bool.false_eq_true,if_false]
        rw [Qbnx (by unfold lim; omega) (hNS.lt h)]
        simp only [Option.bind_some]
        rw [hKS.has N (hNS.lt h)]
        have hg1' : Qp3 (insL S N) (Qmh a onto s ((Qfr a onto).drop (m + 1))) = estB a onto (n + 1):=hg1
        have hfin : insL S N <+: estB a onto (n + 1):=by rw [← hg1']; exact Q3s _ _
        have hmemN : N ∈ insL S N:=Q38.2 (.inr rfl)
        have hidx : (estB a onto (n + 1)).idxOf N = (insL S N).idxOf N:=Q39 hfin hmemN
        have hg2' : (r ++ [(⟨(n : Int),x,((insL S N).idxOf N : Int)⟩ : Qe)]) ++ rowE (estB a onto (n + 1)) n (Qmh a onto s ((Qfr a onto).drop (m + 1))) = edN a onto (estB a onto n) 0 ((estB a onto n).take n) ++ rowE (estB a onto (n + 1)) n (rowN a onto s):=by
         rw [← hg2,← hidx,List.append_assoc]
         rfl
        have hESi : Ests a (insL S N):=⟨Q9l hES.nd N,fun t ht=>by
         rcases Q38.1 ht with ht | rfl
         ·exact hES.ok t ht
         ·exact ⟨hNS,hne⟩⟩
        have hgsi : (insL S N)[n]? = some s:=by
         obtain ⟨q,hq⟩:=Qbes S N
         rw [← hq,List.getElem?_append_left (List.getElem?_eq_some_iff.1 hgs).1]; exact hgs
        have hli : (insL S N).length ≤ S.length + 1:=by unfold insL; split <;> simp
        by_cases hin : N ∈ S
        ·have hi : insL S N = S:=by unfold insL; rw [if_pos hin]
         rw [if_pos (by simp [hin]),hKS.get N hin]
         simp only [Option.bind_some]
         rw [Qbx (by simp only [List.length_cons,List.length_nil]; unfold lim; omega)]
         simp only [Option.bind_some]
         rw [Qv (by omega)]
         rw [hi] at hg1' hg2'
         exact ih _ ⟨m + 1,S,_,c,rfl,by omega,hgs,hES,by omega,by rw [List.length_append]; simp only [List.length_cons,List.length_nil]; omega,hKS,hg1',hg2'⟩ (by simp only; omega)
        ·have hi : insL S N = S ++ [N]:=by unfold insL; rw [if_neg hin]
         have hix : (insL S N).idxOf N = S.length:=by rw [hi,List.idxOf_append,if_neg hin]; simp
         rw [if_neg (by simp [hin]),Qbx (by simp only [List.length_cons,List.length_nil]; unfold lim; omega)]
         simp only [Option.bind_some]
         rw [Qbx (by simp only [List.length_cons,List.length_nil]; unfold lim; omega)]
         simp only [Option.bind_some]
         rw [Qv (by omega)]
         have hKadd:=hKS.add (hNS.lt h) hin
         rw [hix] at hg2'
         rw [hi] at hg1' hESi hgsi
         exact ih _ ⟨m + 1,S ++ [N],_,_,rfl,by omega,hgsi,hESi,by simp; omega,by rw [List.length_append]; simp only [List.length_cons,List.length_nil]; omega,hKadd,hg1',hg2'⟩ (by simp only; omega)
      ·rw [show (obsP a onto).kept_ = Qfr a onto from rfl,if_neg (by omega)]
       have hd : (Qfr a onto).drop m = []:=List.drop_eq_nil_of_le (by omega)
       rw [hd] at hg1 hg2
       have hg1 : S = estB a onto (n + 1):=hg1
       subst hg1
       simp only [Qmh,List.filterMap_nil,rowE,List.map_nil,List.append_nil] at hg2
       exact ⟨_,rfl,c,hKS,by rw [hg2]; rfl⟩
     ·exact ⟨0,_,_,c,rfl,Nat.zero_le _,hg,hE,by omega,by omega,hK,by rw [List.drop_zero,hstep]; rfl,by rw [List.drop_zero]; rfl⟩
     ·simp only [Int.toNat_zero]; unfold Qbc; omega
    ·rintro _ ⟨c',hK',rfl⟩
     dsimp only
     have hrows : ∀ i t,i < n + 1 → (estB a onto (n + 1))[i]? = some t → ∀ p ∈ rowN a onto t,p.2 ∈ estB a onto (n + 1):=by
      intro i t hi ht p hp
      obtain ⟨q,hq⟩:=id hpre
      rcases Nat.lt_or_ge i n with hin | hin
      ·rw [← hq,List.getElem?_append_left (by omega)] at ht
       exact hpre.subset (hcl i t hin ht p hp)
      ·obtain rfl : i = n:=by omega
       rw [← hq,List.getElem?_append_left hlt,hg] at ht
       cases ht
       rw [hstep]
       exact (Quf _ _ _).2 (.inr ⟨p,hp,rfl⟩)
     have hed : edN a onto (estB a onto n) 0 ((estB a onto n).take n) ++ rowE (estB a onto (n + 1)) n (rowN a onto s) = edN a onto (estB a onto (n + 1)) 0 ((estB a onto (n + 1)).take (n + 1)):=by
      rw [htake2,htake,Q9m]
      simp only [edN,List.append_nil,List.length_take,Nat.zero_add,Nat.min_eq_left (Nat.le_of_lt hlt)]
      congr 1
      refine (Qbhh hpre _ _ fun t ht p hp=>?_).symm
      obtain ⟨i,hi⟩:=List.getElem?_of_mem ht
      have hilt:=(List.getElem?_eq_some_iff.1 hi).1
      rw [List.length_take] at hilt
      rw [List.getElem?_take,if_pos (by omega)] at hi
      exact hcl i t (by omega) hi p hp
     rw [hed]
     by_cases hbig : 4096 < (estB a onto (n + 1)).length
     ·rw [if_pos (by omega)]
      exact ⟨_,rfl,.inr ⟨n + 1,hbig,rfl⟩⟩
     ·rw [if_neg (by omega),Qv (by omega)]
      have:=hpre.length_le
      refine ih _ ⟨n + 1,c',by omega,by omega,hK',hrows,?_⟩ (by simp only; omega)
      rw [htake2]
   ·rw [if_neg (by omega)]
    have hnn : (estB a onto n).length = n:=by omega
    refine ⟨_,rfl,.inl ⟨n,hnn,by omega,?_⟩⟩
    rw [List.take_of_length_le (by omega)]
    rfl
  ·refine ⟨0,_,Nat.zero_le _,by simp [estB],.first ((Q36 a onto).lt h),fun i s hi=>by omega,rfl⟩
  ·simp only [Int.toNat_zero]; unfold Qbc; omega
end Go.Abs
end
section
namespace Go.Abs
open Go
theorem Qq5? {n : Int} {i : Nat} (h : i < n.toNat) : (upto n)[i]? = some (i : Int):=by
 simp only [upto,List.getElem?_map,List.getElem?_range h,Option.map_some]
theorem Qbnb {n x : Int} (h : 0 ≤ x ∧ x < n) : ((upto n).idxOf x : Int) = x:=by
 have hm:=Q35.2 h
 have h1:=Qbl1 hm
 have hlt:=(List.getElem?_eq_some_iff.1 h1).1
 rw [Qjd] at hlt
 rw [Qq5? hlt] at h1
 exact Option.some.inj h1
theorem Qbjl {l : List Qe} (h : l.Pairwise Qjr) (i : Int) : l.filter (fun x=>decide (i ≤ x.From)) = l.filter (fun x=>x.From == i) ++ l.filter fun x=>decide (i + 1 ≤ x.From):=by
 induction l with
 | nil=>rfl
 | cons x xs ih =>
  obtain ⟨h1,h2⟩:=List.pairwise_cons.1 h
  have ih:=ih h2
  have hge : ∀ y ∈ xs,x.From ≤ y.From:=fun y hy=>by have:=h1 y hy; unfold Qjr at this; omega
  rcases Int.lt_trichotomy x.From i with hlt | heq | hgt
  ·rw [List.filter_cons_of_neg (by simp; omega),List.filter_cons_of_neg (by simp; omega),List.filter_cons_of_neg (by simp; omega),ih]
  ·rw [List.filter_cons_of_pos (by simp; omega),List.filter_cons_of_pos (by simp [heq]),List.filter_cons_of_neg (by simp; omega),ih]; rfl
  ·have e1 : (x :: xs).filter (fun x=>x.From == i) = []:=List.filter_eq_nil_iff.2 fun y hy=>by
    rcases List.mem_cons.1 hy with rfl | hy
    ·simp; omega
    ·have:=hge y hy; simp; omega
   rw [e1,List.nil_append]
   refine List.filter_congr fun y hy=>?_
   rcases List.mem_cons.1 hy with rfl | hy
   ·simp; omega
   ·have:=hge y hy; simp; omega
theorem Qbca {b : Qa} (hb : Right b) {n : Int} (hn : b.States = n) : ∀ (k i : Nat),i + k = n.toNat → Qjb b (upto n) i ((upto n).drop i) = b.Edges.filter fun x=>decide ((i : Int) ≤ x.From)
 | 0,i,h=>by
  rw [List.drop_eq_nil_of_le (by rw [Qjd]; omega)]
  simp only [Qjb]
  refine (List.filter_eq_nil_iff.2 fun x hx=>?_).symm
  have:=hb.ed0 x hx
  simp; omega
 | k + 1,i,h=>by
  have hlt : i < (upto n).length:=by rw [Qjd]; omega
  rw [List.drop_eq_getElem_cons hlt,Qbii (by omega)]
  simp only [Qjb]
  rw [Qbca hb hn k (i + 1) (by omega),Qbjl hb.ed (i : Int)]
  congr 1
  unfold rowP outP
  conv=>rhs; rw [← List.map_id (b.Edges.filter fun x=>x.From == (i : Int))]
  refine List.map_congr_left fun x hx=>?_
  obtain ⟨h1,h2⟩:=List.mem_filter.1 hx
  have:=hb.ed0 x h1
  simp only [beq_iff_eq] at h2
  rw [Qbnb ⟨this.2.2.1,by omega⟩,← h2]
  rfl
theorem Qbhk {m : List Int} {n : Int} (hr : ∀ x ∈ m,0 ≤ x ∧ x < n) (hs : m.Pairwise (· < ·)) : Qki m 0 (upto n) = m:=by
 refine Qbeq Qyd hs fun x=>?_
 rw [Qbdo]
 constructor
 ·rintro ⟨j,s,h1,h2,h3⟩
  have hlt:=(List.getElem?_eq_some_iff.1 h1).1
  rw [Qjd] at hlt
  rw [Qq5? hlt] at h1
  cases h1
  rw [h3,Nat.zero_add]; exact h2
 ·intro hx
  have:=hr x hx
  exact ⟨x.toNat,x,by rw [Qq5? (by omega)]; congr 1; omega,hx,by omega⟩
theorem Qbcn {b : Qa} (hb : Right b) (hf : Qgj b = upto b.States) : Qig b = b:=by
 have hst:=hb.st
 unfold Qig
 rw [hf,Qjd]
 have h1:=Qbca hb rfl b.States.toNat 0 (by omega)
 rw [List.drop_zero] at h1
 rw [h1,Qbhk hb.ma0 hb.ma]
 have h2 : (b.Edges.filter fun x=>decide (((0 : Nat) : Int) ≤ x.From)) = b.Edges:=List.filter_eq_self.2 fun x hx=>by
  have:=hb.ed0 x hx; simp; omega
 rw [h2]
 obtain ⟨al,st,ma,ed⟩:=b
 simp only [Qa.mk.injEq,true_and,and_true] at hst ⊢
 omega
def fndB (c : Qa) : Nat → List Int
 | 0=>[0]
 | i + 1=>match (fndB c i)[i]? with
  | some s=>(Qfz c s).foldl ins (fndB c i)
  | none=>fndB c i
theorem Qbgm {c : Qa} {i : Nat} (h : (fndB c i)[i]? = none) : ∀ k,fndB c (i + k) = fndB c i
 | 0=>rfl
 | k + 1=>by
  rw [show fndB c (i + (k + 1)) = (match (fndB c (i + k))[i + k]? with | some s=>(Qfz c s).foldl ins (fndB c (i + k)) | none=>fndB c (i + k)) from rfl,Qbgm h k]
  have : (fndB c i).length ≤ i:=List.getElem?_eq_none_iff.1 h
  rw [List.getElem?_eq_none (by omega)]
theorem Qbip (c : Qa) : ∀ (k i : Nat),bfs c k i (fndB c i) = fndB c (i + k)
 | 0,i=>rfl
 | k + 1,i=>by
  unfold bfs
  cases hg : (fndB c i)[i]? with
  | none=>exact (Qbgm hg (k + 1)).symm
  | some s =>
   dsimp only
   have : (Qfz c s).foldl ins (fndB c i) = fndB c (i + 1):=by
    show _ = (match (fndB c i)[i]? with | some s=>_ | none=>_)
    rw [hg]
   rw [this,Qbip c k (i + 1)]
   congr 1; omega
theorem Qbjm {c : Qa} (h : 0 < c.States) : Qgj c = fndB c (c.States.toNat + 1):=by
 unfold Qgj
 rw [if_pos h]
 have:=Qbip c (c.States.toNat + 1) 0
 simpa [fndB] using this
def Qbp2 (b : Qa) (onto : List Int) : Prop:=∀ x ∈ b.Edges,x.Event ∉ onto → x.To = x.From
section
variable {b : Qa} (hb : Right b) {onto : List Int} (hs : Qbp2 b onto)
include hb hs
end
end Go.Abs
end
section
namespace Go.Abs
open Go
structure Proj (a : Qa) (onto : List Int) (S : List (List Int)) : Prop where
 es : Ests a S
 first : S[0]? = some (Que a onto)
 cl : ∀ s ∈ S,∀ e ∈ Qfr a onto,Qln a onto s e ≠ [] → Qln a onto s e ∈ S
 form : ∀ s ∈ S,∃ fr,(∀ t ∈ fr,0 ≤ t ∧ t < a.States) ∧ s = Qm9 a fr (Qkk a onto)
theorem Qbcb {a : Qa} (h : Right a) (h0 : 0 < a.States) (onto : List Int) : ∀ i,∀ s ∈ estB a onto i,∃ fr,(∀ t ∈ fr,0 ≤ t ∧ t < a.States) ∧ s = Qm9 a fr (Qkk a onto)
 | 0,s,hs=>by
  simp only [estB,List.mem_singleton] at hs
  subst hs
  unfold Que
  rw [if_neg (by omega)]
  exact ⟨[0],fun t ht=>by simp at ht; subst ht; omega,rfl⟩
 | i + 1,s,hs=>by
  unfold estB at hs
  split at hs
  ·rcases (Quf _ _ _).1 hs with hs | ⟨p,hp,rfl⟩
   ·exact Qbcb h h0 onto i s hs
   ·obtain ⟨_,h2,_⟩:=Q3t.1 hp
    rw [h2]
    exact ⟨_,Q7q h,rfl⟩
  ·exact Qbcb h h0 onto i s hs
theorem Qbl7 {a : Qa} {onto : List Int} (i : Nat) : (estB a onto i)[0]? = some (Que a onto):=by
 obtain ⟨r,hr⟩:=Q4a (a:=a) (onto:=onto) (Nat.zero_le i)
 rw [← hr]; rfl
theorem Qbl8 {a : Qa} (h : Right a) (h0 : 0 < a.States) {onto : List Int} {n : Nat} (hn : (estB a onto n).length = n) : Proj a onto (estB a onto n):=by
 refine ⟨Qkl h0 onto n,Qbl7 n,fun s hs e he hne=>?_,Qbcb h h0 onto n⟩
 obtain ⟨i,hi⟩:=List.getElem?_of_mem hs
 have hlt:=(List.getElem?_eq_some_iff.1 hi).1
 have hil : i < (estB a onto i).length:=by
  rcases Nat.lt_or_ge i (estB a onto i).length with hlt2 | hge
  ·exact hlt2
  ·exfalso
   -- the search has ended before
   have key : ∀ k,k ≤ i → (estB a onto i).length ≤ k → estB a onto n = estB a onto i ∨ k < i:=by
    intro k hk hkl
    by_cases hki : k = i
    ·left
     subst hki
     have : ∀ m,estB a onto (k + m) = estB a onto k:=by
      intro m
      induction m with
      | zero=>rfl
      | succ m ih =>
       rw [show estB a onto (k + (m + 1)) = (match (estB a onto (k + m))[k + m]? with | some s=>Qp3 (estB a onto (k + m)) (rowN a onto s) | none=>estB a onto (k + m)) from rfl,ih,List.getElem?_eq_none (by omega)]
     rw [← this (n - k)]
     congr 1; omega
    ·right; omega
   rcases key i (Nat.le_refl i) hge with h1 | h1
   ·rw [h1] at hlt; omega
   ·omega
 have hp:=Qbm9 (a:=a) (onto:=onto) (i:=i) (j:=n) (by omega) hi hil (e,Qln a onto s e) (Q3t.2 ⟨he,rfl,hne⟩)
 exact (Q4a (a:=a) (onto:=onto) (show i + 1 ≤ n by omega)).subset hp
section
variable {a : Qa} {onto : List Int} {S : List (List Int)}
theorem Qbak {i : Nat} {s : List Int} {x : Qe} : x ∈ rowE S i (rowN a onto s) ↔ x.From = i ∧ x.Event ∈ Qfr a onto ∧ Qln a onto s x.Event ≠ [] ∧ x.To = (S.idxOf (Qln a onto s x.Event) : Int):=by
 simp only [rowE,List.mem_map]
 constructor
 ·rintro ⟨p,hp,rfl⟩
  obtain ⟨h1,h2,h3⟩:=Q3t.1 hp
  exact ⟨rfl,h1,by rw [← h2]; exact h3,by rw [← h2]⟩
 ·rintro ⟨h1,h2,h3,h4⟩
  refine ⟨(x.Event,Qln a onto s x.Event),Q3t.2 ⟨h2,rfl,h3⟩,?_⟩
  obtain ⟨f,e,t⟩:=x
  simp only at h1 h4 ⊢
  rw [h1,h4]
theorem Qbhl : ∀ (l : List (List Int)) (i : Nat) (x : Qe),x ∈ edN a onto S i l ↔ ∃ (j : Nat) (s : List Int),l[j]? = some s ∧ x.From = ((i + j : Nat) : Int) ∧ x.Event ∈ Qfr a onto ∧ Qln a onto s x.Event ≠ [] ∧ x.To = (S.idxOf (Qln a onto s x.Event) : Int)
 | [],i,x=>by simp [edN]
 | s' :: l,i,x=>by
  simp only [edN,List.mem_append,Qbak]
  rw [Qbhl l (i + 1) x]
  constructor
  ·rintro (⟨h1,h2⟩ | ⟨j,s,h1,h2,h3⟩)
   ·exact ⟨0,s',rfl,by rw [h1,Nat.add_zero],h2⟩
   ·exact ⟨j + 1,s,by simpa using h1,by rw [h2]; congr 1; omega,h3⟩
  ·rintro ⟨j,s,h1,h2,h3⟩
   cases j with
   | zero=>simp at h1; subst h1; left; exact ⟨by simpa using h2,h3⟩
   | succ j=>right; exact ⟨j,s,by simpa using h1,by rw [h2]; congr 1; omega,h3⟩
theorem Qbet : ∀ (l : List (List Int)) (i : Nat) (x : Int),x ∈ mkN a i l ↔ ∃ (j : Nat) (s : List Int),l[j]? = some s ∧ (s.any fun t=>decide (t ∈ a.Marked)) = true ∧ x = ((i + j : Nat) : Int)
 | [],i,x=>by simp [mkN]
 | s' :: l,i,x=>by
  simp only [mkN,List.mem_append]
  rw [Qbet l (i + 1) x]
  constructor
  ·rintro (h | ⟨j,s,h1,h2,h3⟩)
   ·split at h
    ·rename_i hm; simp at h; exact ⟨0,s',rfl,hm,by simpa using h⟩
    ·simp at h
   ·exact ⟨j + 1,s,by simpa using h1,h2,by rw [h3]; congr 1; omega⟩
  ·rintro ⟨j,s,h1,h2,h3⟩
   cases j with
   | zero=>simp at h1; subst h1; left; rw [if_pos h2]; simpa using h3
   | succ j=>right; exact ⟨j,s,by simpa using h1,h2,by rw [h3]; congr 1; omega⟩
theorem Qbdr : ∀ (l : List (List Int)) (i : Nat),(mkN a i l).Pairwise (· < ·)
 | [],i=>.nil
 | s :: l,i=>by
  simp only [mkN]
  rw [List.pairwise_append]
  refine ⟨by split <;> simp,Qbdr l (i + 1),fun x hx y hy=>?_⟩
  obtain ⟨j,_,_,_,rfl⟩:=(Qbet l (i + 1) y).1 hy
  split at hx <;> simp at hx
  omega
theorem Q91 : ∀ (s l : List Int),(Qmh a onto s l).map (·.1) = l.filter fun e=>!decide (Qln a onto s e = [])
 | s,[]=>rfl
 | s,e :: l=>by
  have ih:=Q91 s l
  by_cases h : Qln a onto s e = []
  ·rw [List.filter_cons_of_neg (by simp [h]),← ih]
   simp only [Qmh,List.filterMap_cons,h,if_true]
  ·rw [List.filter_cons_of_pos (by simp [h]),← ih]
   simp only [Qmh,List.filterMap_cons,h,if_false,List.map_cons]
theorem Qbds (h : Right a) : ∀ (l : List (List Int)) (i : Nat),(edN a onto S i l).Pairwise Qjr
 | [],i=>.nil
 | s :: l,i=>by
  simp only [edN]
  rw [List.pairwise_append]
  refine ⟨?_,Qbds h l (i + 1),fun x hx y hy=>?_⟩
  ·unfold rowE
   rw [List.pairwise_map]
   have h1 : ((rowN a onto s).map (·.1)).Pairwise (· < ·):=by
    unfold rowN
    rw [Q91]
    exact ((h.al.filter _).filter _)
   rw [List.pairwise_map] at h1
   exact h1.imp fun h=>.inr ⟨rfl,h⟩
  ·have hx:=(Qbak.1 hx).1
   obtain ⟨j,_,_,hy,_⟩:=(Qbhl l (i + 1) y).1 hy
   exact .inl (by omega)
variable (h : Right a) (hP : Proj a onto S)
include h hP
theorem Qbnc {s : List Int} {e : Int} (hs : s ∈ S) (he : e ∈ Qfr a onto) (hne : Qln a onto s e ≠ []) : S[S.idxOf (Qln a onto s e)]? = some (Qln a onto s e):=by
 have hm:=hP.cl s hs e he hne
 have hlt : S.idxOf (Qln a onto s e) < S.length:=List.idxOf_lt_length_of_mem hm
 rw [List.getElem?_eq_getElem hlt,List.getElem_idxOf hlt]
theorem Qbdt (hl : S.length ≤ 4096) : Right (autN a onto S):=by
 refine ⟨fun x hx=>h.al0 x (List.mem_filter.1 hx).1,h.al.filter _,⟨Int.natCast_nonneg _,by show (S.length : Int) ≤ 4096; omega⟩,fun x hx=>?_,Qbdr S 0,fun x hx=>?_,Qbds h S 0⟩
 ·obtain ⟨j,s,h1,_,h3⟩:=(Qbet S 0 x).1 hx
  have:=(List.getElem?_eq_some_iff.1 h1).1
  show 0 ≤ x ∧ x < (S.length : Int)
  omega
 ·obtain ⟨j,s,h1,h2,h3,h4,h5⟩:=(Qbhl S 0 x).1 hx
  have hj:=(List.getElem?_eq_some_iff.1 h1).1
  have hi:=(List.getElem?_eq_some_iff.1 (Qbnc h hP (List.mem_of_getElem? h1) h3 h4)).1
  show 0 ≤ x.From ∧ x.From < (S.length : Int) ∧ 0 ≤ x.To ∧ x.To < (S.length : Int) ∧ x.Event ∈ Qfr a onto
  exact ⟨by omega,by omega,by omega,by omega,h3⟩
end
def Qbgn (l : List Int) : Nat:=l.foldr (fun x n=>n ||| 2 ^ x.toNat) 0
theorem Q4b : ∀ {l : List Int},(∀ x ∈ l,0 ≤ x) → ∀ k : Nat,(Qbgn l).testBit k = decide ((k : Int) ∈ l)
 | [],_,k=>by simp [Qbgn]
 | x :: l,h,k=>by
  have ih:=Q4b (l:=l) (fun y hy=>h y (by simp [hy])) k
  have hx:=h x (by simp)
  show ((Qbgn l) ||| 2 ^ x.toNat).testBit k = _
  rw [Nat.testBit_or,ih,Nat.testBit_two_pow]
  rw [Bool.eq_iff_iff]
  simp only [Bool.or_eq_true,decide_eq_true_eq,List.mem_cons]
  constructor
  ·rintro (h | h)
   ·exact .inr h
   ·left; omega
  ·rintro (h | h)
   ·right; omega
   ·exact .inl h
theorem Qbnd {l : List Int} {n : Nat} (h : ∀ x ∈ l,0 ≤ x ∧ x < n) : Qbgn l < 2 ^ n:=by
 refine Nat.lt_pow_two_of_testBit _ fun i hi=>?_
 rw [Q4b (fun x hx=>(h x hx).1)]
 simp only [decide_eq_false_iff_not]
 intro hm; have:=h _ hm; omega
theorem Qbiq {a : Qa} {S : List (List Int)} (hS : Ests a S) {n : Nat} (hn : a.States ≤ n) : S.length ≤ 2 ^ n:=by
 have h1 : (S.map fun s=>((Qbgn s : Nat) : Int)).Nodup:=by
  refine List.Pairwise.map _ (S:=fun a b=>a ≠ b) (fun p q h=>h) ?_
  refine List.Pairwise.imp_of_mem (fun {s t} hs ht hne e=>hne ?_) hS.nd
  have hs:=(hS.ok s hs).1; have ht:=(hS.ok t ht).1
  have e : Qbgn s = Qbgn t:=by omega
  refine Qbeq hs.so ht.so fun x=>?_
  by_cases hx : 0 ≤ x
  ·have k1:=Q4b (fun y hy=>(hs.rg y hy).1) x.toNat
   have k2:=Q4b (fun y hy=>(ht.rg y hy).1) x.toNat
   rw [e,k2] at k1
   have:=decide_eq_decide.1 k1
   rw [show ((x.toNat : Nat) : Int) = x from by omega] at this
   exact this.symm
  ·exact ⟨fun h=>absurd (hs.rg x h).1 hx,fun h=>absurd (ht.rg x h).1 hx⟩
 have hb : ∀ x ∈ (S.map fun s=>((Qbgn s : Nat) : Int)),0 ≤ x ∧ x < ((2 ^ n : Nat) : Int):=fun x hx=>by
  obtain ⟨s,hs,rfl⟩:=List.mem_map.1 hx
  have:=Qbnd (l:=s) (n:=n) fun y hy=>by have:=(hS.ok s hs).1.rg y hy; omega
  omega
 obtain ⟨h3,h4⟩:=Qbf6 h1
 generalize 2 ^ n = N at hb ⊢
 have:=Qg1 (a:=0) (b:=(N : Int)) h3 fun x hx=>hb x ((h4 x).1 hx)
 rw [Qkb,List.length_map] at this
 omega
end Go.Abs
end
section
namespace Go.Abs
open Go
theorem Qbl9 {a : Qa} {onto : List Int} {S : List (List Int)} : ∀ (l : List (List Int)) (j i : Nat),(edN a onto S j l).filter (fun x=>x.From == (i : Int)) = if j ≤ i then (match l[i - j]? with | some s=>rowE S i (rowN a onto s) | none=>[]) else []
 | [],j,i=>by simp [edN]
 | s :: l,j,i=>by
  simp only [edN,List.filter_append]
  rw [Qbl9 l (j + 1) i]
  have hrow : ∀ k,(rowE S k (rowN a onto s)).filter (fun x=>x.From == (i : Int)) = if k = i then rowE S k (rowN a onto s) else []:=by
   intro k
   split
   ·rename_i e; subst e
    exact List.filter_eq_self.2 fun x hx=>by simp [(Qbak.1 hx).1]
   ·rename_i e
    exact List.filter_eq_nil_iff.2 fun x hx=>by simp [(Qbak.1 hx).1]; omega
  rw [hrow]
  rcases Nat.lt_trichotomy j i with h | h | h
  ·rw [if_neg (by omega),if_pos (by omega),if_pos (by omega),List.nil_append]
   rw [show i - j = (i - (j + 1)) + 1 from by omega]
   simp
  ·subst h
   rw [if_pos rfl,if_neg (by omega),if_pos (Nat.le_refl _)]
   simp
  ·rw [if_neg (by omega),if_neg (by omega),if_neg (by omega)]
   rfl
theorem Qbir (S : List (List Int)) (hS : S.Nodup) : ∀ (row : List (Int × List Int)) (T : List (List Int)),Qp3 T row <+: S → (row.map fun p=>(S.idxOf p.2 : Int)).foldl ins (upto (T.length : Int)) = upto ((Qp3 T row).length : Int)
 | [],T,_=>rfl
 | p :: row,T,hT=>by
  have hT' : Qp3 (insL T p.2) row <+: S:=hT
  have hpre : insL T p.2 <+: S:=(Q3s row (insL T p.2)).trans hT'
  have hidx : S.idxOf p.2 = (insL T p.2).idxOf p.2:=Q39 hpre (Q38.2 (.inr rfl))
  show (row.map fun p=>(S.idxOf p.2 : Int)).foldl ins (ins (upto (T.length : Int)) (S.idxOf p.2 : Int)) = upto ((Qp3 (insL T p.2) row).length : Int)
  rw [← Qbir S hS row (insL T p.2) hT']
  congr 1
  by_cases hin : p.2 ∈ T
  ·have hi : insL T p.2 = T:=by unfold insL; rw [if_pos hin]
   rw [hi] at hidx ⊢
   rw [hidx]
   have:=List.idxOf_lt_length_of_mem hin
   unfold ins; rw [if_pos (Q35.2 (by omega))]
  ·have hi : insL T p.2 = T ++ [p.2]:=by unfold insL; rw [if_neg hin]
   have hix : (insL T p.2).idxOf p.2 = T.length:=by rw [hi,List.idxOf_append,if_neg hin]; simp
   rw [hidx,hix]
   unfold ins; rw [if_neg (fun h=>by have:=Q35.1 h; omega),hi]
   unfold upto
   rw [List.length_append,show ((T.length + [p.2].length : Nat) : Int).toNat = T.length + 1 from by simp,show (T.length : Int).toNat = T.length from rfl,List.range_succ,List.map_append]
   rfl
theorem Qbgo {a : Qa} (h : Right a) (h0 : 0 < a.States) {onto : List Int} {n : Nat} (hn : (estB a onto n).length = n) : ∀ i,i ≤ n → fndB (autN a onto (estB a onto n)) i = upto ((estB a onto i).length : Int)
 | 0,_=>rfl
 | i + 1,hi=>by
  have ih:=Qbgo h h0 hn i (by omega)
  show (match (fndB (autN a onto (estB a onto n)) i)[i]? with | some s=>(Qfz (autN a onto (estB a onto n)) s).foldl ins (fndB (autN a onto (estB a onto n)) i) | none=>fndB (autN a onto (estB a onto n)) i) = _
  have hE:=Qkl h0 onto n
  have hpre:=Q4a (a:=a) (onto:=onto) (show i ≤ n by omega)
  have hpre1:=Q4a (a:=a) (onto:=onto) (show i + 1 ≤ n by omega)
  have hstep : estB a onto (i + 1) = match (estB a onto i)[i]? with | some s=>Qp3 (estB a onto i) (rowN a onto s) | none=>estB a onto i:=rfl
  rw [ih]
  by_cases hlt : i < (estB a onto i).length
  ·rw [Qq5? (by omega)]
   dsimp only
   have hg : (estB a onto i)[i]? = some (estB a onto i)[i]:=List.getElem?_eq_getElem hlt
   rw [hg] at hstep
   generalize (estB a onto i)[i] = s at hg hstep
   have hgn : (estB a onto n)[i]? = some s:=by
    obtain ⟨r,hr⟩:=hpre
    rw [← hr,List.getElem?_append_left hlt]; exact hg
   have hsucc : Qfz (autN a onto (estB a onto n)) (i : Int) = (rowN a onto s).map fun p=>((estB a onto n).idxOf p.2 : Int):=by
    show (((edN a onto (estB a onto n) 0 (estB a onto n)).filter fun x=>x.From == (i : Int))).map (·.To) = _
    rw [Qbl9,if_pos (Nat.zero_le _),Nat.sub_zero,hgn]
    simp only [rowE,List.map_map]
    rfl
   rw [hsucc,hstep]
   dsimp only at hstep ⊢
   rw [hstep] at hpre1
   exact Qbir _ hE.nd _ _ hpre1
  ·have hno : (estB a onto i)[i]? = none:=List.getElem?_eq_none (by omega)
   rw [hno] at hstep
   have : (upto ((estB a onto i).length : Int))[i]? = none:=List.getElem?_eq_none (by rw [Qjd]; omega)
   rw [this,hstep]
theorem Qbjn {a : Qa} (h : Right a) (h0 : 0 < a.States) {onto : List Int} {n : Nat} (hn : (estB a onto n).length = n) (hl : n ≤ 4096) : Qig (autN a onto (estB a onto n)) = autN a onto (estB a onto n):=by
 have hp:=Qbl8 h h0 hn
 have hr:=Qbdt h hp (by omega)
 refine Qbcn hr ?_
 have h1:=Qbgo h h0 hn n (Nat.le_refl _)
 have hpos:=Qbna (a:=a) (onto:=onto) n
 have hst : (autN a onto (estB a onto n)).States = (n : Int):=by show ((estB a onto n).length : Int) = _; rw [hn]
 rw [Qbjm (by rw [hst]; omega),hst]
 rw [hn] at h1
 show (match (fndB (autN a onto (estB a onto n)) n)[n]? with | some s=>(Qfz (autN a onto (estB a onto n)) s).foldl ins (fndB (autN a onto (estB a onto n)) n) | none=>fndB (autN a onto (estB a onto n)) n) = _
 rw [h1,List.getElem?_eq_none (by rw [Qjd]; omega)]
theorem Qbco {a : Qa} (h : Right a) : Qez a = some (decide (a = Qig a)):=by
 unfold Qez Qbw
 rw [Qbif h.small.1,Qbfy.2 h]
 simp only [Option.bind_some,show ((0 : Int) == 0) = true from rfl,if_true]
 rw [Qbcl h]
 simp only [Option.bind_some]
 rw [Qblv h.small.1]
 rfl
theorem Qbjo {l : List Int} : Qig ⟨l,0,[],[]⟩ = ⟨l,0,[],[]⟩:=by
 have : Qgj (⟨l,0,[],[]⟩ : Qa) = []:=rfl
 simp only [Qig,this]
 rfl
theorem Qbhm {α β γ : Type} (o : Option α) (f : α → Option β) (g : β → Option γ) : (o.bind f).bind g = o.bind fun x=>(f x).bind g:=by cases o <;> rfl
theorem Qbjp {S : List (List Int)} {N : List Int} (hl : S.length < 1000000) (hS : ∀ s ∈ S,s.length < 1000000000000) :
  Qcb (fun k54 (to53 : Int)=>(((if (to53 < (S.length : Int)) then ((getO S to53).bind fun x56=>((Qci x56 N).bind fun x59=>some (!x59))) else some false)).bind fun (x60 : Bool)=>(if x60 then k54 (IntKind.wrap .i64 (to53 + 1)) else some to53))) Qbc 0 = some (S.idxOf N : Int):=by
 refine Qbem (fun i : Int=>∃ n : Nat,i = n ∧ n ≤ S.length ∧ S.idxOf N = n + (S.drop n).idxOf N) (fun i=>S.length - i.toNat) _ ⟨0,rfl,Nat.zero_le _,by simp⟩ (by simp only [Int.toNat_zero]; unfold Qbc; omega) ?_
 rintro k _ ⟨n,rfl,hn,he⟩ ih
 by_cases hlt : n < S.length
 ·rw [if_pos (by omega),Qbo hlt]
  simp only [Option.bind_some]
  rw [Qbah (hS _ (List.getElem_mem hlt))]
  simp only [Option.bind_some]
  rw [List.drop_eq_getElem_cons hlt,List.idxOf_cons] at he
  by_cases hx : S[n] = N
  ·simp only [hx,decide_true,Bool.not_true,Bool.false_eq_true,if_false]
   simp only [hx,BEq.rfl,cond_true] at he
   rw [he]; rfl
  ·simp only [hx,decide_false,Bool.not_false,if_true]
   have : (S[n] == N) = false:=by simp [hx]
   simp only [this,cond_false] at he
   rw [Qv (by omega)]
   exact ih _ ⟨n + 1,rfl,by omega,by omega⟩ (by omega)
 ·rw [if_neg (by omega)]
  simp only [Option.bind_some,Bool.false_eq_true,if_false]
  have : S.drop n = []:=List.drop_eq_nil_of_le (by omega)
  rw [this] at he
  simp only [List.idxOf_nil,Nat.add_zero] at he
  rw [he]
theorem Qbne (s m : List Int) : s.any (fun x=>decide (x ∈ m)) = m.any fun x=>decide (x ∈ s):=by
 rw [Bool.eq_iff_iff]
 simp only [List.any_eq_true,decide_eq_true_eq]
 exact ⟨fun ⟨x,h1,h2⟩=>⟨x,h2,h1⟩,fun ⟨x,h1,h2⟩=>⟨x,h2,h1⟩⟩
theorem Qbcc {a : Qa} (h : Right a) {onto : List Int} (ho : EvSet onto) (h0 : a.States = 0) : Qcq a onto = some (⟨Qfr a onto,0,[],[]⟩,[]):=by
 have hkl:=Qbaj h onto
 unfold Qcq Qbr
 rw [Qbin h ho.big]
 simp only [Option.bind_some]
 rw [Qbag (by unfold lim; omega)]
 simp only [Option.bind_some]
 rw [if_neg (by omega)]
 simp only [Option.bind_some]
 obtain ⟨f,hf⟩ : ∃ f,Qbc = f + 1:=⟨1099511627775,rfl⟩
 rw [hf]
 rfl
theorem Qbeu {a : Qa} (h : Right a) {onto : List Int} (ho : EvSet onto) (hpos : 0 < a.States) (h12 : a.States ≤ 12) :
  ∃ r,Qcq a onto = some r ∧ ∃ n,(estB a onto n).length = n ∧ n ≤ 4096 ∧ r = (autN a onto (estB a onto n),estB a onto n):=by
 have hol:=ho.len
 have hkl:=Qbaj h onto
 have hst:=h.st
 have hob:=ho.big
 have hml:=h.small.2.2.1
 have hlenN : ∀ i,(estB a onto i).length ≤ 4096:=fun i=>Qbiq (Qkl hpos onto i) (n:=12) h12
 unfold Qcq Qbr
 rw [Qbin h hob]
 simp only [Option.bind_some]
 rw [Qbag (by unfold lim; omega)]
 simp only [Option.bind_some]
 rw [if_pos (by omega),Qbl6 h hob]
 simp only [Option.bind_some]
 rw [Qbx (by simp [lim])]
 simp only [Option.bind_some,List.nil_append]
 refine Qbai (fun y=>∃ n,(estB a onto n).length = n ∧ n ≤ 4096 ∧ y = (estB a onto n,[],[],[],mkN a 0 (estB a onto n),edN a onto (estB a onto n) 0 (estB a onto n))) ?_ ?_
 ·refine Qdd (fun x=>∃ (n : Nat),n ≤ (estB a onto n).length ∧ (∀ i s,i < n → (estB a onto n)[i]? = some s → ∀ p ∈ rowN a onto s,p.2 ∈ estB a onto n) ∧
    x = (estB a onto n,(n : Int),[],[],[],mkN a 0 ((estB a onto n).take n),edN a onto (estB a onto n) 0 ((estB a onto n).take n))) (fun x=>5000 - x.2.1.toNat) (fun x r=>∃ y,r = some y ∧ ∃ n,(estB a onto n).length = n ∧ n ≤ 4096 ∧ y = (estB a onto n,[],[],[],mkN a 0 (estB a onto n),edN a onto (estB a onto n) 0 (estB a onto n))) ?_ Qbc _ ?_ ?_
  ·rintro k _ ⟨n,hn,hcl,rfl⟩ ih
   have hlen:=hlenN n
   have hE:=Qkl hpos onto n
   dsimp only
   by_cases hlt : n < (estB a onto n).length
   ·rw [if_pos (by omega)]
    generalize hs : (estB a onto n)[n] = s
    have hg : (estB a onto n)[n]? = some s:=by rw [List.getElem?_eq_getElem hlt,hs]
    have hgO : getO (estB a onto n) (n : Int) = some s:=by rw [Qja]; exact ⟨by omega,by simpa using hg⟩
    have hsS : Sts a s:=(hE.ok s (List.mem_of_getElem? hg)).1
    have hsl:=hsS.len
    have hmk:=Qbhj (a:=a) ((estB a onto n).take n) 0
    rw [List.length_take] at hmk
    have hel:=Qbhi h (onto:=onto) (S:=estB a onto n) ((estB a onto n).take n) 0
    rw [List.length_take] at hel
    have htake : (estB a onto n).take (n + 1) = (estB a onto n).take n ++ [s]:=by rw [List.take_succ_eq_append_getElem hlt,hs]
    have hpre:=Qbb8 (a:=a) (onto:=onto) n
    have hstep : estB a onto (n + 1) = Qp3 (estB a onto n) (rowN a onto s):=by
     show (match (estB a onto n)[n]? with | some s=>_ | none=>_) = _
     rw [hg]
    have htake2 : (estB a onto (n + 1)).take (n + 1) = (estB a onto n).take (n + 1):=by
     obtain ⟨r,hr⟩:=hpre
     rw [← hr,List.take_append_of_le_length (by omega)]
    have hnm : (n : Int) ∉ mkN a 0 ((estB a onto n).take n):=by
     intro hm
     obtain ⟨j,t,hj,_,he⟩:=(Qbet _ _ _).1 hm
     have:=(List.getElem?_eq_some_iff.1 hj).1
     rw [List.length_take] at this
     omega
    rw [Qbhm]
    refine Qbl2 (x:=mkN a 0 ((estB a onto n).take (n + 1))) ?_ ?_
    ·rw [htake,Q9n]
     simp only [mkN,List.append_nil,List.length_take,Nat.zero_add,Nat.min_eq_left (Nat.le_of_lt hlt)]
     generalize mkN a 0 ((estB a onto n).take n) = M at hnm hmk
     rw [Qbne]
     refine (Qh7 (len:=a.Marked.length) (fun m (o : List Int)=>((m : Int),o)) (fun m o=>o = M ++ (if (a.Marked.take m).any (fun x=>decide (x ∈ s)) then [(n : Int)] else [])) (fun m o=>some (M ++ (if a.Marked.any (fun x=>decide (x ∈ s)) then [(n : Int)] else []))) ?_ ?_ Qbc 0 M (Nat.zero_le _) (by unfold Qbc; omega) (by simp))
     ·rintro k m o hm rfl ih
      have hMl : (M ++ (if (a.Marked.take m).any (fun x=>decide (x ∈ s)) then [(n : Int)] else [])).length ≤ 4097:=by
       rw [List.length_append]; split <;> simp <;> omega
      dsimp only
      rw [if_pos (by omega),hgO,Qbo hm]
      simp only [Option.bind_some]
      rw [Qbgg (hsS.big h)]
      simp only [Option.bind_some]
      have htk : a.Marked.take (m + 1) = a.Marked.take m ++ [a.Marked[m]]:=List.take_succ_eq_append_getElem hm
      by_cases hx : a.Marked[m] ∈ s
      ·simp only [hx,decide_true,if_true]
       rw [Qbgg (by unfold Abs.big; omega)]
       simp only [Option.bind_some]
       by_cases hA : (a.Marked.take m).any (fun x=>decide (x ∈ s)) = true
       ·rw [if_pos hA]
        simp only [List.mem_append,List.mem_singleton,or_true,decide_true,Bool.not_true,Bool.false_eq_true,if_false,Option.bind_some]
        rw [Qv (by omega)]
        refine ih _ ?_
        rw [htk,List.any_append,hA]; simp
       ·rw [if_neg hA]
        simp only [List.append_nil,hnm,decide_false,Bool.not_false,if_true]
        rw [Qbx (by simp only [List.length_cons,List.length_nil]; unfold lim; omega)]
        simp only [Option.bind_some]
        rw [Qv (by omega)]
        refine ih _ ?_
        rw [htk,List.any_append]; simp [hx]
      ·simp only [hx,decide_false,Bool.false_eq_true,if_false,Option.bind_some]
       rw [Qv (by omega)]
       refine ih _ ?_
       rw [htk,List.any_append]; simp [hx]
     ·rintro k o rfl
      dsimp only
      rw [if_neg (by omega),List.take_length]
    ·generalize hM1 : mkN a 0 ((estB a onto n).take (n + 1)) = M1
     refine Qbai (fun y=>y = (estB a onto (n + 1),M1,edN a onto (estB a onto n) 0 ((estB a onto n).take n) ++ rowE (estB a onto (n + 1)) n (rowN a onto s))) ?_ ?_
     ·refine Qdd (fun x=>∃ (m : Nat) (S : List (List Int)) (r : List Qe),x = (S,(m : Int),r) ∧ m ≤ (Qfr a onto).length ∧ S[n]? = some s ∧ Ests a S ∧ S.length ≤ 4096 + m ∧ r.length ≤ 32 * 4096 + m ∧
       Qp3 S (Qmh a onto s ((Qfr a onto).drop m)) = estB a onto (n + 1) ∧ r ++ rowE (estB a onto (n + 1)) n (Qmh a onto s ((Qfr a onto).drop m)) = edN a onto (estB a onto n) 0 ((estB a onto n).take n) ++ rowE (estB a onto (n + 1)) n (rowN a onto s))
       (fun x=>(Qfr a onto).length - x.2.1.toNat) (fun x r=>∃ y,r = some y ∧ y = (estB a onto (n + 1),M1,edN a onto (estB a onto n) 0 ((estB a onto n).take n) ++ rowE (estB a onto (n + 1)) n (rowN a onto s))) ?_ Qbc _ ?_ ?_
      ·rintro k _ ⟨m,S,r,rfl,hm,hgs,hES,hSl,hrl,hg1,hg2⟩ ih
       dsimp only
       by_cases hlm : m < (Qfr a onto).length
       ·rw [if_pos (by omega),Qbo hlm]
        have hgn : getO S (n : Int) = some s:=by rw [Qja]; exact ⟨by omega,by simpa using hgs⟩
        rw [hgn]
        simp only [Option.bind_some]
        rw [Qbm7 h hob (hsS.big h)]
        simp only [Option.bind_some,Qbny]
        rw [List.drop_eq_getElem_cons hlm] at hg1 hg2
        generalize (Qfr a onto)[m] = x at hg1 hg2 ⊢
        have hNS:=Qbb4 a onto s x
        have hcons : Qmh a onto s (x :: (Qfr a onto).drop (m + 1)) = if Qln a onto s x = [] then Qmh a onto s ((Qfr a onto).drop (m + 1)) else (x,Qln a onto s x) :: Qmh a onto s ((Qfr a onto).drop (m + 1)):=by
         simp only [Qmh,List.filterMap_cons]
         split <;> simp_all
        rw [hcons] at hg1 hg2
        generalize hN : Qln a onto s x = N at hg1 hg2 hNS ⊢
        by_cases hne : N = []
        ·rw [if_pos hne] at hg1 hg2
         simp only [hne,decide_true,if_true,Option.bind_some]
         rw [Qv (by omega)]
         exact ih _ ⟨m + 1,S,r,rfl,by omega,hgs,hES,by omega,by omega,hg1,hg2⟩ (by simp only; omega)
        ·rw [if_neg hne] at hg1 hg2
         simp only [hne,decide_false,Bool.false_eq_true,if_false]
         rw [Qbjp (by omega) fun t ht=>(hES.ok t ht).1.t h]
         simp only [Option.bind_some]
         have hg1' : Qp3 (insL S N) (Qmh a onto s ((Qfr a onto).drop (m + 1))) = estB a onto (n + 1):=hg1
         have hfin : insL S N <+: estB a onto (n + 1):=by rw [← hg1']; exact Q3s _ _
         have hmemN : N ∈ insL S N:=Q38.2 (.inr rfl)
         have hidx : (estB a onto (n + 1)).idxOf N = (insL S N).idxOf N:=Q39 hfin hmemN
         have hg2' : (r ++ [(⟨(n : Int),x,((insL S N).idxOf N : Int)⟩ : Qe)]) ++ rowE (estB a onto (n + 1)) n (Qmh a onto s ((Qfr a onto).drop (m + 1))) = edN a onto (estB a onto n) 0 ((estB a onto n).take n) ++ rowE (estB a onto (n + 1)) n (rowN a onto s):=by
          rw [← hg2,← hidx,List.append_assoc]
          rfl
         have hESi : Ests a (insL S N):=⟨Q9l hES.nd N,fun t ht=>by
          rcases Q38.1 ht with ht | rfl
          ·exact hES.ok t ht
          ·exact ⟨hNS,hne⟩⟩
         have hgsi : (insL S N)[n]? = some s:=by
          obtain ⟨q,hq⟩:=Qbes S N
          rw [← hq,List.getElem?_append_left (List.getElem?_eq_some_iff.1 hgs).1]; exact hgs
         by_cases hin : N ∈ S
         ·have hi : insL S N = S:=by unfold insL; rw [if_pos hin]
          have hlx:=List.idxOf_lt_length_of_mem hin
          rw [if_neg (by simp; omega)]
          simp only [Option.bind_some]
          rw [Qbx (by simp only [List.length_cons,List.length_nil]; unfold lim; omega)]
          simp only [Option.bind_some]
          rw [Qv (by omega)]
          rw [hi] at hg1' hg2'
          exact ih _ ⟨m + 1,S,_,rfl,by omega,hgs,hES,by omega,by rw [List.length_append]; simp only [List.length_cons,List.length_nil]; omega,hg1',hg2'⟩ (by simp only; omega)
         ·have hi : insL S N = S ++ [N]:=by unfold insL; rw [if_neg hin]
          have hix : (insL S N).idxOf N = S.length:=by rw [hi,List.idxOf_append,if_neg hin]; simp
          have hlx : S.idxOf N = S.length:=List.idxOf_eq_length hin
          rw [hlx,if_pos (by simp),Qbx (by simp only [List.length_cons,List.length_nil]; unfold lim; omega)]
          simp only [Option.bind_some]
          rw [Qbx (by simp only [List.length_cons,List.length_nil]; unfold lim; omega)]
          simp only [Option.bind_some]
          rw [Qv (by omega)]
          rw [hix] at hg2'
          rw [hi] at hg1' hESi hgsi
          exact ih _ ⟨m + 1,S ++ [N],_,rfl,by omega,hgsi,hESi,by simp; omega,by rw [List.length_append]; simp only [List.length_cons,List.length_nil]; omega,hg1',hg2'⟩ (by simp only; omega)
       ·rw [if_neg (by omega)]
        have hd : (Qfr a onto).drop m = []:=List.drop_eq_nil_of_le (by omega)
        rw [hd] at hg1 hg2
        have hg1 : S = estB a onto (n + 1):=hg1
        subst hg1
        simp only [Qmh,List.filterMap_nil,rowE,List.map_nil,List.append_nil] at hg2
        exact ⟨_,rfl,by rw [hg2]; rfl⟩
      ·exact ⟨0,_,_,rfl,Nat.zero_le _,hg,hE,by omega,by omega,by rw [List.drop_zero,hstep]; rfl,by rw [List.drop_zero]; rfl⟩
      ·simp only [Int.toNat_zero]; unfold Qbc; omega
     ·rintro _ rfl
      dsimp only
      have hrows : ∀ i t,i < n + 1 → (estB a onto (n + 1))[i]? = some t → ∀ p ∈ rowN a onto t,p.2 ∈ estB a onto (n + 1):=by
       intro i t hi ht p hp
       obtain ⟨q,hq⟩:=id hpre
       rcases Nat.lt_or_ge i n with hin | hin
       ·rw [← hq,List.getElem?_append_left (by omega)] at ht
        exact hpre.subset (hcl i t hin ht p hp)
       ·obtain rfl : i = n:=by omega
        rw [← hq,List.getElem?_append_left hlt,hg] at ht
        cases ht
        rw [hstep]
        exact (Quf _ _ _).2 (.inr ⟨p,hp,rfl⟩)
      have hed : edN a onto (estB a onto n) 0 ((estB a onto n).take n) ++ rowE (estB a onto (n + 1)) n (rowN a onto s) = edN a onto (estB a onto (n + 1)) 0 ((estB a onto (n + 1)).take (n + 1)):=by
       rw [htake2,htake,Q9m]
       simp only [edN,List.append_nil,List.length_take,Nat.zero_add,Nat.min_eq_left (Nat.le_of_lt hlt)]
       congr 1
       refine (Qbhh hpre _ _ fun t ht p hp=>?_).symm
       obtain ⟨i,hi⟩:=List.getElem?_of_mem ht
       have hilt:=(List.getElem?_eq_some_iff.1 hi).1
       rw [List.length_take] at hilt
       rw [List.getElem?_take,if_pos (by omega)] at hi
       exact hcl i t (by omega) hi p hp
      rw [hed,Qv (by omega)]
      have:=hpre.length_le
      refine ih _ ⟨n + 1,by omega,hrows,?_⟩ (by simp only; omega)
      rw [htake2,hM1]
   ·rw [if_neg (by omega)]
    have hnn : (estB a onto n).length = n:=by omega
    refine ⟨_,rfl,n,hnn,by omega,?_⟩
    rw [List.take_of_length_le (by omega)]
  ·exact ⟨0,Nat.zero_le _,fun i s hi=>by omega,rfl⟩
  ·simp only [Int.toNat_zero]; unfold Qbc; omega
 ·rintro _ ⟨n,h1,h2,rfl⟩
  exact ⟨_,rfl,n,h1,h2,rfl⟩
end Go.Abs
end
section
namespace Go.Abs
open Go
theorem Qbo2 {a : Qa} {onto : List Int} {n m : Nat} (hn : (estB a onto n).length = n) (hm : (estB a onto m).length = m) : n = m:=by
 rcases Nat.le_total n m with h | h
 ·obtain ⟨k,rfl⟩:=Nat.exists_eq_add_of_le h
  rw [Qbb9 hn k,hn] at hm; exact hm
 ·obtain ⟨k,rfl⟩:=Nat.exists_eq_add_of_le h
  rw [Qbb9 hm k,hm] at hn; exact hn.symm
theorem Qbgp {a : Qa} (h : Right a) (h12 : a.States ≤ 12) {onto : List Int} (ho : EvSet onto) :
  ∃ p S,Qdy a onto = some (p,S,0) ∧ Qcq a onto = some (p,S) ∧ Right p ∧ Qig p = p ∧ S.length ≤ 4096 ∧ (∀ s ∈ S,Sts a s):=by
 have hst:=h.st
 obtain ⟨r,h1,h2⟩:=Qbjk h ho
 by_cases h0 : a.States = 0
 ·rw [if_pos h0] at h2
  refine ⟨_,_,h2 ▸ h1,Qbcc h ho h0,?_,Qbjo,by simp,by simp⟩
  exact ⟨fun x hx=>h.al0 x (List.mem_filter.1 hx).1,h.al.filter _,⟨Int.le_refl _,by show (0:Int) ≤ 4096; decide⟩,by simp,by simp,by simp,by simp⟩
 ·have hpos : 0 < a.States:=by omega
  rw [if_neg h0] at h2
  obtain ⟨_,h3,m,k1,k2,rfl⟩:=Qbeu h ho hpos h12
  rcases h2 with ⟨n,j1,j2,rfl⟩ | ⟨n,j1,rfl⟩
  ·obtain rfl:=Qbo2 j1 k1
   exact ⟨_,_,h1,h3,Qbdt h (Qbl8 h hpos j1) (by omega),Qbjn h hpos j1 j2,by omega,fun s hs=>((Qkl hpos onto n).ok s hs).1⟩
  ·exfalso
   have:=Qbiq (Qkl hpos onto n) (n:=12) h12
   omega
theorem Qbgq (s : Int) (g : Q7) (onto : List Int) (hs : 0 ≤ s ∧ s < 256) (hg : Qblt g) : Qds s g onto = some true:=by
 unfold Qds Qcr
 rw [Qblw]
 simp only [Option.bind_some,if_true]
 by_cases hl : onto.length ≤ 8
 ·rw [if_neg (by omega),Qbi9 (by unfold Abs.big; omega)]
  simp only [Option.bind_some]
  by_cases hw : Qd3 32 none onto = 0
  ·rw [hw]
   simp only [show ((0 : Int) != 0) = false from rfl,Bool.false_eq_true,if_false]
   have ho:=Qbl5.1 hw
   obtain ⟨ev,hE,hev⟩:=Qbls hs.1 hs.2
   obtain ⟨m,hm,_,hM,hm5⟩:=Qbox hev hg
   have ha:=Qbf2 hm
   have h5 : (Qig m).States ≤ 5:=Int.le_trans (Qbji hm).1 hm5
   rw [hE]
   simp only [Option.bind_some]
   rw [hM]
   simp only [Option.bind_some]
   generalize Qig m = a at ha h5 ⊢
   obtain ⟨p,S,h1,h2,hr,hc,hSl,hS⟩:=Qbgp ha (by omega) ho
   rw [h1]
   simp only [Option.bind_some]
   rw [h2]
   simp only [Option.bind_some,show ((0 : Int) == 0) = true from rfl,if_true]
   rw [Qboy hr.small.1]
   simp only [Option.bind_some,decide_true,if_true]
   rw [Qblx (by omega) fun x hx=>(hS x hx).t ha]
   simp only [Option.bind_some,decide_true,if_true]
   rw [Qbco hr,hc]
   simp
  ·rw [if_pos (by simpa using hw)]
 ·rw [if_pos (by omega)]
  simp only [Option.bind_some,if_true]
end Go.Abs
end
