/-
  Part 7 of the proof: see the last text.
-/
import Derived.Test.YtdfiohnppomfgaaP6
import Derived.KernelRfl
set_option linter.unusedVariables false
set_option linter.unusedSimpArgs false
set_option linter.unusedSectionVars false
section
namespace Go.Abs
open Go
set_option linter.unusedSimpArgs false
set_option linter.unusedVariables false
def Qir (x y : Qe) : Prop:=x.From < y.From ∨ x.From = y.From ∧ x.Event < y.Event
instance (x y : Qe) : Decidable (Qir x y):=by unfold Qir; infer_instance
structure Right (a : Qb) : Prop where
 al0 : ∀ x ∈ a.Alphabet,0 ≤ x ∧ x < 32
 al : a.Alphabet.Pairwise (· < ·)
 st : 0 ≤ a.States ∧ a.States ≤ 4096
 ma0 : ∀ x ∈ a.Marked,0 ≤ x ∧ x < a.States
 ma : a.Marked.Pairwise (· < ·)
 ed0 : ∀ x ∈ a.Edges,0 ≤ x.From ∧ x.From < a.States ∧ 0 ≤ x.To ∧ x.To < a.States ∧ x.Event ∈ a.Alphabet
 ed : a.Edges.Pairwise Qir
theorem Qh9 {n : Int} : ∀ {l : List Int} {p : Option Int},Qe2 n p l = 0 ↔ (∀ x ∈ l,0 ≤ x ∧ x < n) ∧ l.Pairwise (· < ·) ∧ ∀ y,p = some y → ∀ x ∈ l,y < x
 | [],p=>by simp [Qe2]
 | x :: xs,p=>by
  rw [Qe2]
  split
  ·rename_i h
   refine ⟨fun h=>by omega,fun hh=>?_⟩
   have:=hh.1 x (by simp); omega
  ·rename_i h
   split
   ·rename_i h2
    obtain ⟨y,hy,hxy⟩:=h2
    refine ⟨fun h=>by omega,fun hh=>?_⟩
    have:=hh.2.2 y hy x (by simp); omega
   ·rename_i h2
    rw [Qh9]
    constructor
    ·rintro ⟨k1,k2,k3⟩
     refine ⟨fun z hz=>?_,List.pairwise_cons.2 ⟨fun z hz=>k3 x rfl z hz,k2⟩,fun y hy z hz=>?_⟩
     ·rcases List.mem_cons.1 hz with rfl | hz
      ·omega
      ·exact k1 z hz
     ·have hyx : y < x:=by
       rcases Int.lt_or_le y x with h | h
       ·exact h
       ·exact absurd ⟨y,hy,h⟩ h2
      rcases List.mem_cons.1 hz with rfl | hz
      ·exact hyx
      ·have:=k3 x rfl z hz; omega
    ·rintro ⟨k1,k2,k3⟩
     obtain ⟨k4,k5⟩:=List.pairwise_cons.1 k2
     exact ⟨fun z hz=>k1 z (by simp [hz]),k5,fun y hy z hz=>by cases hy; exact k4 z hz⟩
theorem Qvz {al : List Int} {n : Int} : ∀ {l : List Qe} {p : Option Qe},Qht al n p l = 0 ↔ (∀ x ∈ l,0 ≤ x.From ∧ x.From < n ∧ 0 ≤ x.To ∧ x.To < n ∧ x.Event ∈ al) ∧ l.Pairwise Qir ∧ ∀ y,p = some y → ∀ x ∈ l,Qir y x
 | [],p=>by simp [Qht]
 | x :: xs,p=>by
  have tr : ∀ a b c : Qe,Qir a b → Qir b c → Qir a c:=fun a b c h k=>by unfold Qir at *; omega
  rw [Qht]
  split
  ·rename_i h
   refine ⟨fun h=>by omega,fun hh=>?_⟩
   have:=hh.1 x (by simp); omega
  ·rename_i h
   split
   ·rename_i h2
    refine ⟨fun h=>by omega,fun hh=>?_⟩
    exact absurd (hh.1 x (by simp)).2.2.2.2 h2
   ·rename_i hal
    split
    ·rename_i h2
     obtain ⟨y,hy,hxy⟩:=h2
     refine ⟨fun h=>by omega,fun hh=>?_⟩
     have:=hh.2.2 y hy x (by simp)
     unfold Qir at this; omega
    ·rename_i h2
     rw [Qvz]
     constructor
     ·rintro ⟨k1,k2,k3⟩
      refine ⟨fun z hz=>?_,List.pairwise_cons.2 ⟨fun z hz=>k3 x rfl z hz,k2⟩,fun y hy z hz=>?_⟩
      ·rcases List.mem_cons.1 hz with rfl | hz
       ·exact ⟨by omega,by omega,by omega,by omega,Decidable.not_not.1 hal⟩
       ·exact k1 z hz
      ·have hyx : Qir y x:=by
        apply Decidable.byContradiction
        intro h
        exact h2 ⟨y,hy,by unfold Qir at h; omega⟩
       rcases List.mem_cons.1 hz with rfl | hz
       ·exact hyx
       ·exact tr _ _ _ hyx (k3 x rfl z hz)
     ·rintro ⟨k1,k2,k3⟩
      obtain ⟨k4,k5⟩:=List.pairwise_cons.1 k2
      exact ⟨fun z hz=>k1 z (by simp [hz]),k5,fun y hy z hz=>by cases hy; exact k4 z hz⟩
theorem Qbh1 {a : Qb} : Qvy a = 0 ↔ Right a:=by
 unfold Qvy
 constructor
 ·intro h
  split at h
  ·rename_i h1; exact absurd h h1
  rename_i h1
  split at h
  ·omega
  split at h
  ·omega
  split at h
  ·rename_i h4; exact absurd h h4
  rename_i h4
  have q1:=Qh9.1 (Decidable.not_not.1 h1)
  have q2:=Qh9.1 (Decidable.not_not.1 h4)
  have q3:=Qvz.1 h
  exact ⟨q1.1,q1.2.1,⟨by omega,by omega⟩,q2.1,q2.2.1,q3.1,q3.2.1⟩
 ·intro h
  have q1 : Qe2 32 none a.Alphabet = 0:=Qh9.2 ⟨h.al0,h.al,fun y hy=>by cases hy⟩
  have q2 : Qe2 a.States none a.Marked = 0:=Qh9.2 ⟨h.ma0,h.ma,fun y hy=>by cases hy⟩
  have q3 : Qht a.Alphabet a.States none a.Edges = 0:=Qvz.2 ⟨h.ed0,h.ed,fun y hy=>by cases hy⟩
  have:=h.st
  rw [if_neg (by simp [q1]),if_neg (by omega),if_neg (by omega),if_neg (by simp [q2]),q3]
def outP (a : Qb) (s : Int) : List Qe:=a.Edges.filter fun x=>x.From == s
def Qdg (a : Qb) (s e : Int) : Int:=match a.Edges.find? fun x=>x.From == s && x.Event == e with
 | some x=>x.To
 | none=>-1
section
variable {a : Qb} (h : Right a) (hs : small a)
include h hs
omit h in
theorem Q0q {s e : Int} : Qbx a s e = some (Qdg a s e):=by
 have hb : a.Edges.length < 1000000000000:=hs.2.2
 unfold Qbx Qs
 refine (Qpm (len:=a.Edges.length) (fun k=>some (match (a.Edges.drop k).find? (fun x=>x.From == s && x.Event == e) with | some x=>x.To | none=>-1)) (by unfold Qbn; omega) ?_ ?_).trans (by simp [Qdg])
 ·intro k i hi ih
  rw [if_pos (by omega),Qcf hi,Qbj (by omega),ih,List.drop_eq_getElem_cons hi]
  simp only [Option.bind_some,List.find?_cons]
  cases h1 : a.Edges[i].From == s <;> cases h2 : a.Edges[i].Event == e <;> simp [h1,h2]
 ·intro k; simp
end
theorem Q3r {a : Qb} (h : Right a) (s e : Int) : Qdg a s e = -1 ∨ 0 ≤ Qdg a s e ∧ Qdg a s e < a.States ∧ 0 ≤ s ∧ s < a.States ∧ e ∈ a.Alphabet:=by
 unfold Qdg
 split
 ·rename_i x hx
  have hm:=List.mem_of_find?_eq_some hx
  have hp:=List.find?_some hx
  obtain ⟨k1,k2,k3,k4,k5⟩:=h.ed0 x hm
  simp at hp
  exact .inr ⟨k3,k4,by omega,by omega,hp.2 ▸ k5⟩
 ·exact .inl rfl
theorem Qqc {a : Qb} (h : Right a) {s e : Int} : 0 ≤ Qdg a s e ↔ ∃ x ∈ outP a s,x.Event = e:=by
 unfold Qdg outP
 split
 ·rename_i x hx
  have hm:=List.mem_of_find?_eq_some hx
  have hp:=List.find?_some hx
  simp at hp
  refine ⟨fun _=>⟨x,by simp [hm,hp.1],hp.2⟩,fun _=>(h.ed0 x hm).2.2.1⟩
 ·rename_i hx
  have:=List.find?_eq_none.1 hx
  refine ⟨fun h=>by omega,?_⟩
  rintro ⟨x,h1,h2⟩
  simp at h1
  exact absurd (by simp [h1.2,h2]) (this x h1.1)
theorem Qv0 {a : Qb} (h : Right a) (s : Int) : (outP a s).map (·.Event) = a.Alphabet.filter fun e=>decide (0 ≤ Qdg a s e):=by
 refine Qbfk ?_ (h.al.filter _) fun e=>?_
 ·rw [List.pairwise_map]
  have h1 : (outP a s).Pairwise Qir:=h.ed.filter _
  have h2 : ∀ x ∈ outP a s,x.From = s:=fun x hx=>by unfold outP at hx; simp at hx; exact hx.2
  exact List.Pairwise.imp_of_mem (fun {x y} hx hy hk=>by have:=h2 x hx; have:=h2 y hy; unfold Qir at hk; omega) h1
 ·simp only [List.mem_map,List.mem_filter,decide_eq_true_eq,Qqc h]
  constructor
  ·rintro ⟨x,hx,rfl⟩
   refine ⟨?_,x,hx,rfl⟩
   unfold outP at hx; simp at hx; exact (h.ed0 x hx.1).2.2.2.2
  ·rintro ⟨_,x,hx,rfl⟩; exact ⟨x,hx,rfl⟩
theorem Q0a {a : Qb} (h : Right a) {s : Int} {x : Qe} (hx : x ∈ outP a s) : Qdg a s x.Event = x.To:=by
 unfold outP at hx
 simp at hx
 unfold Qdg
 split
 ·rename_i y hy
  have hm:=List.mem_of_find?_eq_some hy
  have hp:=List.find?_some hy
  simp at hp
  have : x = y:=by
   rcases Classical.em (x = y) with e | hne
   ·exact e
   ·exfalso
    have hk : Qir x y ∨ Qir y x:=by
     have:=List.pairwise_iff_getElem.1 h.ed
     obtain ⟨i,hi,rfl⟩:=List.getElem_of_mem hx.1
     obtain ⟨j,hj,rfl⟩:=List.getElem_of_mem hm
     rcases Nat.lt_trichotomy i j with hij | hij | hij
     ·exact .inl (this i j hi hj hij)
     ·subst hij; exact absurd rfl hne
     ·exact .inr (this j i hj hi hij)
    unfold Qir at hk; omega
  rw [this]
 ·rename_i hn
  exact absurd (by simp [hx.2]) (List.find?_eq_none.1 hn x hx.1)
end Go.Abs
end
section
namespace Go.Abs
open Go
set_option linter.unusedSimpArgs false
set_option linter.unusedVariables false
theorem Right.small {a : Qb} (h : Right a) : small a ∧ a.Alphabet.length ≤ 32 ∧ a.Marked.length ≤ 4096 ∧ a.Edges.length ≤ 131072:=by
 have h1:=Qfv h.al h.al0
 have h2:=Qfv h.ma h.ma0
 have h3 : (a.Edges.map fun x=>x.From * 32 + x.Event).Pairwise (· < ·):=by
  rw [List.pairwise_map]
  refine List.Pairwise.imp_of_mem (fun {x y} hx hy hk=>?_) h.ed
  have:=h.al0 _ (h.ed0 x hx).2.2.2.2
  have:=h.al0 _ (h.ed0 y hy).2.2.2.2
  unfold Qir at hk; omega
 have h4:=Qfv (a:=0) (b:=131072) h3 (by
  intro z hz
  obtain ⟨x,hx,rfl⟩:=List.mem_map.1 hz
  have:=h.al0 _ (h.ed0 x hx).2.2.2.2
  have:=h.ed0 x hx
  have:=h.st
  omega)
 rw [List.length_map] at h4
 have:=h.st
 refine ⟨⟨?_,?_,?_⟩,?_,?_,?_⟩ <;> (try unfold big) <;> omega
theorem Qbj1 {l : List Int} {v : Int} (hl : l.length < big) : Qh5 l v = some (decide (v ∈ l)):=Qbh0 hl
end Go.Abs
end
section
namespace Go.Abs
open Go
set_option linter.unusedSimpArgs false
set_option linter.unusedVariables false
def ins (o : List Int) (t : Int) : List Int:=if t ∈ o then o else o ++ [t]
def Qgi (a : Qb) (s : Int) : List Int:=(outP a s).map (·.To)
def bfs (a : Qb) : Nat → Nat → List Int → List Int
 | 0,_,o=>o
 | fuel + 1,i,o=>match o[i]? with
  | some s=>bfs a fuel (i + 1) ((Qgi a s).foldl ins o)
  | none=>o
def Qca (a : Qb) : List Int:=bfs a (a.States.toNat + 1) 0 (if 0 < a.States then [0] else [])
structure Fnd (a : Qb) (o : List Int) : Prop where
 nd : o.Nodup
 rg : ∀ s ∈ o,0 ≤ s ∧ s < a.States
theorem Fnd.len {a : Qb} {o : List Int} (h : Fnd a o) : o.length ≤ a.States.toNat:=by
 have hO : Go.Sort.SWO Qev:=⟨fun x=>by simp [Qev],fun x y z h1 h2=>by simp [Qev] at *; omega,fun x y z h1 h2=>by simp [Qev] at *; omega⟩
 have hp:=Qh4 Qev o
 have hs:=Qjb hO o
 have hn : (Qha Qev o).Nodup:=(hp.nodup_iff).2 h.nd
 have hlt : (Qha Qev o).Pairwise (· < ·):=by
  have : (Qha Qev o).Pairwise fun x y=>Qev y x = false ∧ x ≠ y:=hs.and hn
  exact this.imp fun ⟨h1,h2⟩=>by simp [Qev] at h1; omega
 have:=Qfv hlt (a:=0) (b:=a.States) fun x hx=>h.rg x (hp.mem_iff.1 hx)
 rw [Qg9] at this
 simpa using this
theorem Q5m {o : List Int} {t x : Int} : x ∈ ins o t ↔ x ∈ o ∨ x = t:=by
 unfold ins; split
 ·rename_i h; constructor
  ·exact .inl
  ·rintro (h' | rfl)
   ·exact h'
   ·exact h
 ·simp
theorem Qbh2 (o : List Int) (t : Int) : o <+: ins o t:=by
 unfold ins; split
 ·exact List.prefix_refl o
 ·exact List.prefix_append o [t]
theorem Fnd.ins {a : Qb} {o : List Int} (h : Fnd a o) {t : Int} (ht : 0 ≤ t ∧ t < a.States) : Fnd a (ins o t):=by
 refine ⟨?_,fun s hs=>?_⟩
 ·unfold Go.Abs.ins; split
  ·exact h.nd
  ·rename_i hn
   rw [List.nodup_append]
   exact ⟨h.nd,by simp,fun x hx y hy=>by simp at hy; subst hy; exact fun e=>hn (e ▸ hx)⟩
 ·rcases Q5m.1 hs with hs | rfl
  ·exact h.rg s hs
  ·exact ht
theorem Qsn {a : Qb} : ∀ {ts o : List Int},Fnd a o → (∀ t ∈ ts,0 ≤ t ∧ t < a.States) → Fnd a (ts.foldl ins o) ∧ o <+: ts.foldl ins o ∧ (∀ t ∈ ts,t ∈ ts.foldl ins o) ∧ ∀ x ∈ ts.foldl ins o,x ∈ o ∨ x ∈ ts
 | [],o,h,_=>⟨h,List.prefix_refl o,by simp,fun x hx=>.inl hx⟩
 | t :: ts,o,h,ht=>by
  obtain ⟨h1,h2,h3,h4⟩:=Qsn (ts:=ts) (h.ins (ht t (by simp))) fun t ht'=>ht t (by simp [ht'])
  refine ⟨h1,(Qbh2 o t).trans h2,fun x hx=>?_,fun x hx=>?_⟩
  ·rcases List.mem_cons.1 hx with rfl | hx
   ·exact h2.subset (Q5m.2 (.inr rfl))
   ·exact h3 x hx
  ·rcases h4 x hx with h5 | h5
   ·rcases Q5m.1 h5 with h6 | rfl
    ·exact .inl h6
    ·exact .inr (by simp)
   ·exact .inr (by simp [h5])
theorem Qv1 {a : Qb} (h : Right a) (s : Int) : ∀ t ∈ Qgi a s,0 ≤ t ∧ t < a.States:=by
 intro t ht
 unfold Qgi outP at ht
 obtain ⟨x,hx,rfl⟩:=List.mem_map.1 ht
 have:=h.ed0 x ((List.mem_filter.1 hx).1)
 omega
theorem Q0r {α : Type} {l m : List α} (h : l <+: m) {i : Nat} {x : α} (hx : l[i]? = some x) : m[i]? = some x:=by
 obtain ⟨t,rfl⟩:=h
 have:=(List.getElem?_eq_some_iff.1 hx).1
 rw [List.getElem?_append_left this]; exact hx
theorem Qbat {a : Qb} (h : Right a) : ∀ (fuel i : Nat) (o : List Int),Fnd a o → i ≤ o.length → a.States.toNat + 1 ≤ fuel + i → (∀ j s,j < i → o[j]? = some s → ∀ t ∈ Qgi a s,t ∈ o) →
  Fnd a (bfs a fuel i o) ∧ o <+: bfs a fuel i o ∧ ∀ s ∈ bfs a fuel i o,∀ t ∈ Qgi a s,t ∈ bfs a fuel i o
 | 0,i,o,hf,hi,hfu,_=>by have:=hf.len; omega
 | fuel + 1,i,o,hf,hi,hfu,hc=>by
  unfold bfs
  cases hg : o[i]? with
  | none =>
   dsimp only
   refine ⟨hf,List.prefix_refl o,fun s hs t ht=>?_⟩
   obtain ⟨j,hj⟩:=List.getElem?_of_mem hs
   have hlt:=(List.getElem?_eq_some_iff.1 hj).1
   exact hc j s (by have:=List.getElem?_eq_none_iff.1 hg; omega) hj t ht
  | some s =>
   dsimp only
   obtain ⟨h1,h2,h3,_⟩:=Qsn hf (Qv1 h s)
   have hlen : i < o.length:=(List.getElem?_eq_some_iff.1 hg).1
   have hle:=h2.length_le
   obtain ⟨k1,k2,k3⟩:=Qbat h fuel (i + 1) ((Qgi a s).foldl ins o) h1 (by omega) (by omega) (fun j s' hj hs' t ht=>by
    by_cases hji : j < i
    ·have hjl : j < o.length:=by omega
     have : o[j]? = some s':=by
      have:=Q0r h2 (List.getElem?_eq_getElem hjl)
      rw [hs'] at this; rw [List.getElem?_eq_getElem hjl]; exact this.symm
     exact h2.subset (hc j s' hji this t ht)
    ·obtain rfl : j = i:=by omega
     have:=Q0r h2 hg
     rw [hs'] at this; cases this
     exact h3 t ht)
   exact ⟨k1,h2.trans k2,k3⟩
theorem Qia {a : Qb} (h : Right a) : Fnd a (Qca a) ∧ (if 0 < a.States then [0] else []) <+: Qca a ∧ ∀ s ∈ Qca a,∀ t ∈ Qgi a s,t ∈ Qca a :=
 Qbat h _ 0 _ ⟨by split <;> simp,fun s hs=>by split at hs <;> simp at hs; subst hs; omega⟩ (Nat.zero_le _) (by omega) fun j s hj=>by omega
def Qj8 (m : List Int) : Nat → List Int → List Int
 | _,[]=>[]
 | i,s :: t=>(if s ∈ m then [(i : Int)] else []) ++ Qj8 m (i + 1) t
def rowP (a : Qb) (F : List Int) (i : Nat) (s : Int) : List Qe:=(outP a s).map fun x=>⟨(i : Int),x.Event,(F.idxOf x.To : Int)⟩
def Qhc (a : Qb) (F : List Int) : Nat → List Int → List Qe
 | _,[]=>[]
 | i,s :: t=>rowP a F i s ++ Qhc a F (i + 1) t
def Qfg (a : Qb) : Qb:=⟨a.Alphabet,((Qca a).length : Int),Qj8 a.Marked 0 (Qca a),Qhc a (Qca a) 0 (Qca a)⟩
theorem Q0b {m : List Int} : ∀ {l : List Int} {i : Nat},∀ x ∈ Qj8 m i l,(i : Int) ≤ x ∧ x < (i + l.length : Nat)
 | [],i,x,hx=>by simp [Qj8] at hx
 | s :: t,i,x,hx=>by
  simp only [Qj8,List.mem_append] at hx
  rcases hx with hx | hx
  ·split at hx <;> simp at hx
   subst hx; simp only [List.length_cons]; omega
  ·have:=Q0b x hx; simp only [List.length_cons]; omega
theorem Qv2 {m : List Int} : ∀ {l : List Int} {i : Nat},(Qj8 m i l).Pairwise (· < ·)
 | [],i=>.nil
 | s :: t,i=>by
  simp only [Qj8]
  rw [List.pairwise_append]
  refine ⟨by split <;> simp,Qv2,fun x hx y hy=>?_⟩
  have:=Q0b y hy
  split at hx <;> simp at hx
  omega
theorem Qv3 {a : Qb} {F : List Int} : ∀ {l : List Int} {i : Nat},∀ x ∈ Qhc a F i l,(i : Int) ≤ x.From ∧ x.From < (i + l.length : Nat) ∧ ∃ s ∈ l,∃ y ∈ outP a s,x.Event = y.Event ∧ x.To = (F.idxOf y.To : Int)
 | [],i,x,hx=>by simp [Qhc] at hx
 | s :: t,i,x,hx=>by
  simp only [Qhc,List.mem_append] at hx
  rcases hx with hx | hx
  ·obtain ⟨y,hy,rfl⟩:=List.mem_map.1 hx
   simp only [List.length_cons]
   exact ⟨by omega,by omega,s,by simp,y,hy,rfl,rfl⟩
  ·obtain ⟨h1,h2,s',h3,h4⟩:=Qv3 x hx
   simp only [List.length_cons]
   exact ⟨by omega,by omega,s',by simp [h3],h4⟩
theorem Q4r {a : Qb} (h : Right a) {F : List Int} : ∀ {l : List Int} {i : Nat},(Qhc a F i l).Pairwise Qir
 | [],i=>.nil
 | s :: t,i=>by
  simp only [Qhc]
  rw [List.pairwise_append]
  refine ⟨?_,Q4r h,fun x hx y hy=>?_⟩
  ·unfold rowP
   rw [List.pairwise_map]
   have h1 : (outP a s).Pairwise Qir:=h.ed.filter _
   have h2 : ∀ x ∈ outP a s,x.From = s:=fun x hx=>by unfold outP at hx; simp at hx; exact hx.2
   exact List.Pairwise.imp_of_mem (fun {x y} hx hy hk=>by have:=h2 x hx; have:=h2 y hy; unfold Qir at hk; exact .inr ⟨rfl,by show x.Event < y.Event; omega⟩) h1
  ·obtain ⟨z,_,rfl⟩:=List.mem_map.1 hx
   have:=(Qv3 y hy).1
   unfold Qir; simp only; omega
theorem Q0c {a : Qb} (h : Right a) : Right (Qfg a):=by
 obtain ⟨h1,h2,h3⟩:=Qia h
 have hl:=h1.len
 have hst:=h.st
 refine ⟨h.al0,h.al,⟨by simp only [Qfg]; omega,by simp only [Qfg]; omega⟩,fun x hx=>?_,Qv2,fun x hx=>?_,Q4r h⟩
 ·have:=Q0b x hx; simp only [Qfg]; omega
 ·obtain ⟨k1,k2,s,hs,y,hy,k3,k4⟩:=Qv3 x hx
  have hy' : y.To ∈ Qca a:=h3 s hs y.To (List.mem_map.2 ⟨y,hy,rfl⟩)
  have:=List.idxOf_lt_length_iff.2 hy'
  simp only [Qfg]
  refine ⟨by omega,by omega,by omega,by omega,?_⟩
  rw [k3]
  unfold outP at hy
  exact (h.ed0 y ((List.mem_filter.1 hy).1)).2.2.2.2
end Go.Abs
end
section
namespace Go.Abs
open Go
set_option linter.unusedSimpArgs false
set_option linter.unusedVariables false
theorem Qbek {l : List Int} (hl : l.length ≤ lim) : Qdz l = some ⟨l,0,[],[]⟩:=by
 unfold Qdz Q0
 rw [Qdn (by simpa using hl)]; rfl
theorem Qbdc {l : List Int} {v : Int} (hl : l.length < big) : Qd0 l v = some (if v ∈ l then (l.idxOf v : Int) else -1):=by
 have hb : l.length < 1000000000000:=hl
 unfold Qd0 Qb1
 refine (Qpm (len:=l.length) (fun k=>some (if v ∈ l.drop k then ((k + (l.drop k).idxOf v : Nat) : Int) else -1)) (by unfold Qbn; omega) ?_ ?_).trans (by simp)
 ·intro k i hi ih
  rw [if_pos (by omega),Qcf hi,Qbj (by omega),ih,List.drop_eq_getElem_cons hi]
  simp only [Option.bind_some,List.mem_cons,List.idxOf_cons]
  by_cases h : v = l[i]
  ·simp [← h]
  ·have h' : ¬ l[i] = v:=fun e=>h e.symm
   have hbq : (l[i] == v) = false:=by simp [h']
   by_cases h2 : v ∈ l.drop (i + 1) <;> simp [h,h2,hbq]
   omega
 ·intro k; simp
theorem Q0d {a : Qb} (h : Right a) (s : Int) : Qgi a s = (a.Alphabet.filter fun e=>decide (0 ≤ Qdg a s e)).map (Qdg a s):=by
 rw [← Qv0 h,List.map_map]
 unfold Qgi
 exact List.map_congr_left fun x hx=>(Q0a h hx).symm
theorem Q9j {a : Qb} (s : Int) : ∀ (al o : List Int),al.foldl (fun o e=>if 0 ≤ Qdg a s e then ins o (Qdg a s e) else o) o = ((al.filter fun e=>decide (0 ≤ Qdg a s e)).map (Qdg a s)).foldl ins o
 | [],o=>rfl
 | e :: al,o=>by
  by_cases hx : 0 ≤ Qdg a s e <;> simp [List.filter_cons,hx,Q9j s al]
theorem Qbel {a : Qb} {fuel i : Nat} {o : List Int} (hi : i < o.length) : bfs a (fuel + 1) i o = bfs a fuel (i + 1) ((Qgi a o[i]).foldl ins o):=by
 conv=>lhs; unfold bfs
 rw [List.getElem?_eq_getElem hi]
theorem Qbh3 {a : Qb} {fuel : Nat} {o : List Int} : bfs a fuel o.length o = o:=by
 cases fuel with
 | zero=>rfl
 | succ n=>unfold bfs; simp
section
variable {a : Qb} (h : Right a)
include h
theorem Qbfl (fuel : Nat) (hfu : 1099511627776 ≤ fuel) {s : Int} {o : List Int} {i : Nat} (hf : Fnd a o) (hi : o[i]? = some s) :
  Qcn (fun k12 ((out10,k11) : (List Int) × Int)=>(if (k11 < (a.Alphabet.length : Int)) then ((((getO out10 (i : Int)).bind fun x14=>((getO a.Alphabet k11).bind fun x16=>((Qbx a x14 x16).bind fun x19=>(((if (x19 ≥ 0) then ((Qct out10 x19).bind fun x22=>some (!x22)) else some false)).bind fun (x23 : Bool)=>(if x23 then ((appO out10 [x19]).bind fun x25=>some x25) else some out10)))))).bind fun (out27 : List Int)=>k12 (out27,(IntKind.wrap .i64 (k11 + 1)))) else some out10)) fuel (o,0) = some ((Qgi a s).foldl ins o):=by
 have hs:=h.small.1
 have hst:=h.st
 have hb : a.Alphabet.length < 1000000000000:=hs.1
 rw [Q0d h,← Q9j]
 refine (Qjg (len:=a.Alphabet.length) (fun n (acc : List Int)=>(acc,(n : Int))) (fun n acc=>Fnd a acc ∧ acc[i]? = some s) (fun n acc=>some ((a.Alphabet.drop n).foldl (fun o e=>if 0 ≤ Qdg a s e then ins o (Qdg a s e) else o) acc)) ?_ ?_ fuel 0 o (Nat.zero_le _) (by omega) ⟨hf,hi⟩).trans (by simp)
 ·intro k n acc hn ⟨k1,k2⟩ ih
  have hlen:=k1.len
  have hg : getO acc (i : Int) = some s:=by rw [Qjf]; exact ⟨by omega,by simpa using k2⟩
  dsimp only
  rw [if_pos (by omega),hg,Qcf hn]
  simp only [Option.bind_some]
  rw [Q0q hs,Qbj (by omega)]
  simp only [Option.bind_some]
  rw [Qbh0 (by unfold big; omega),List.drop_eq_getElem_cons hn,List.foldl_cons]
  rcases Q3r h s a.Alphabet[n] with hr | hr
  ·rw [hr]; simp only [show ¬ ((-1 : Int) ≥ 0) from by omega,show ¬ ((0 : Int) ≤ -1) from by omega,if_false,Option.bind_some,Bool.false_eq_true]
   exact ih _ ⟨k1,k2⟩
  ·have hge : Qdg a s a.Alphabet[n] ≥ 0:=hr.1
   by_cases hm : Qdg a s a.Alphabet[n] ∈ acc
   ·simp only [hge,hm,decide_true,Bool.not_true,if_true,Option.bind_some,Bool.false_eq_true,if_false,hr.1,ins]
    exact ih _ ⟨k1,k2⟩
   ·simp only [hge,hm,decide_false,Bool.not_false,if_true,Option.bind_some,hr.1,ins,if_false]
    rw [Qdn (by simp only [List.length_cons,List.length_nil]; unfold lim; omega)]
    simp only [Option.bind_some]
    have hi':=k1.ins (t:=Qdg a s a.Alphabet[n]) ⟨hr.1,hr.2.1⟩
    unfold ins at hi'
    rw [if_neg hm] at hi'
    exact ih _ ⟨hi',Q0r (List.prefix_append acc _) k2⟩
 ·intro k acc _
  dsimp only
  rw [if_neg (by omega)]; simp
theorem Qbdd : Qe6 a = some (Qca a):=by
 have hs:=h.small.1
 have hst:=h.st
 unfold Qe6 Qb0
 obtain ⟨fuel,hfu,hge⟩ : ∃ f,Qbn = f ∧ 1099511627776 ≤ f:=⟨_,rfl,Nat.le_refl _⟩
 rw [hfu]
 have hloop : ∀ o : List Int,Fnd a o → Qcn (fun (k8 : List Int × Int → Option (List Int)) ((out6,i7) : (List Int) × Int)=>(if (i7 < (out6.length : Int)) then ((Qcn (fun k12 ((out10,k11) : (List Int) × Int)=>(if (k11 < (a.Alphabet.length : Int)) then ((((getO out10 i7).bind fun x14=>((getO a.Alphabet k11).bind fun x16=>((Qbx a x14 x16).bind fun x19=>(((if (x19 ≥ 0) then ((Qct out10 x19).bind fun x22=>some (!x22)) else some false)).bind fun (x23 : Bool)=>(if x23 then ((appO out10 [x19]).bind fun x25=>some x25) else some out10)))))).bind fun (out27 : List Int)=>k12 (out27,(IntKind.wrap .i64 (k11 + 1)))) else some out10)) fuel (out6,0)).bind fun (out28 : List Int)=>k8 (out28,(IntKind.wrap .i64 (i7 + 1)))) else some out6)) fuel (o,0) = some (bfs a (a.States.toNat + 1) 0 o):=by
  intro o ho
  have:=Qei (F:=fun (k8 : List Int × Int → Option (List Int)) ((out6,i7) : (List Int) × Int)=>(if (i7 < (out6.length : Int)) then ((Qcn (fun k12 ((out10,k11) : (List Int) × Int)=>(if (k11 < (a.Alphabet.length : Int)) then ((((getO out10 i7).bind fun x14=>((getO a.Alphabet k11).bind fun x16=>((Qbx a x14 x16).bind fun x19=>(((if (x19 ≥ 0) then ((Qct out10 x19).bind fun x22=>some (!x22)) else some false)).bind fun (x23 : Bool)=>(if x23 then ((appO out10 [x19]).bind fun x25=>some x25) else some out10)))))).bind fun (out27 : List Int)=>k12 (out27,(IntKind.wrap .i64 (k11 + 1)))) else some out10)) fuel (out6,0)).bind fun (out28 : List Int)=>k8 (out28,(IntKind.wrap .i64 (i7 + 1)))) else some out6))
   (fun x=>∃ i : Nat,x.2 = (i : Int) ∧ i ≤ x.1.length ∧ Fnd a x.1) (fun x=>a.States.toNat + 1 - x.2.toNat) (fun x r=>r = some (bfs a (a.States.toNat + 1 - x.2.toNat) x.2.toNat x.1)) (by
    rintro k ⟨o,i⟩ ⟨i,rfl,hi,hf⟩ ih
    replace hi : i ≤ o.length:=hi
    replace hf : Fnd a o:=hf
    have hl:=hf.len
    dsimp only
    by_cases hlt : i < o.length
    ·rw [if_pos (by omega),Qbfl h fuel hge hf (List.getElem?_eq_getElem hlt),Option.bind_some,Qbj (by omega)]
     obtain ⟨q1,q2,_,_⟩:=Qsn hf (Qv1 h o[i])
     have hle:=q2.length_le
     rw [ih _ ⟨i + 1,rfl,by simp only; omega,q1⟩ (by simp only; omega)]
     simp only [Int.toNat_natCast]
     rw [show a.States.toNat + 1 - i = (a.States.toNat + 1 - (i + 1)) + 1 from by omega,Qbel hlt]
    ·rw [if_neg (by omega)]
     obtain rfl : i = o.length:=by omega
     simp only [Int.toNat_natCast,Qbh3]) fuel (o,0) ⟨0,rfl,Nat.zero_le _,ho⟩ (by simp only; omega)
  simpa using this
 by_cases h0 : 0 < a.States
 ·rw [if_pos (by omega),Qdn (by simp only [List.length_cons,List.length_nil]; unfold lim; omega)]
  simp only [Option.bind_some]
  rw [show ([] ++ [0] : List Int) = [0] from rfl,hloop [0] ⟨by simp,fun s hs=>by simp at hs; subst hs; omega⟩]
  simp only [Option.bind_some,Qca,if_pos h0]
 ·rw [if_neg (by omega)]
  simp only [Option.bind_some]
  rw [hloop [] ⟨by simp,fun s hs=>by simp at hs⟩]
  simp only [Option.bind_some,Qca,if_neg h0]
theorem Q9k (fuel : Nat) (hfu : 1099511627776 ≤ fuel) {F : List Int} (hF : Fnd a F) (hcl : ∀ s ∈ F,∀ t ∈ Qgi a s,t ∈ F) {s : Int} {i : Nat} (hi : F[i]? = some s) (ms : List Int) (es : List Qe) (hes : es.length ≤ 200000) :
  Qcn (fun (k24 : Int × List Qe → Option (List Int × List Qe)) ((k22,out23) : Int × (List Qe))=>(if (k22 < (a.Alphabet.length : Int)) then ((((getO F (i : Int)).bind fun x26=>((getO a.Alphabet k22).bind fun x28=>((Qbx a x26 x28).bind fun x31=>(if (x31 ≥ 0) then ((getO a.Alphabet k22).bind fun x33=>((Qd0 F x31).bind fun x36=>((appO out23 [(Qe.mk (i : Int) x33 x36)]).bind fun x37=>some x37))) else some out23))))).bind fun (out39 : List Qe)=>k24 ((IntKind.wrap .i64 (k22 + 1)),out39)) else some (ms,out23))) fuel (0,es) = some (ms,es ++ rowP a F i s):=by
 have hs:=h.small.1
 have hst:=h.st
 have hal:=h.small.2.1
 have hb : a.Alphabet.length < 1000000000000:=hs.1
 have hFl:=hF.len
 have hrow : rowP a F i s = (a.Alphabet.filter fun e=>decide (0 ≤ Qdg a s e)).map fun e=>⟨(i : Int),e,(F.idxOf (Qdg a s e) : Int)⟩:=by
  rw [← Qv0 h,List.map_map]
  unfold rowP
  exact List.map_congr_left fun x hx=>by simp only [Function.comp]; rw [Q0a h hx]
 rw [hrow]
 refine (Qjg (len:=a.Alphabet.length) (fun n (acc : List Qe)=>((n : Int),acc)) (fun n acc=>acc.length ≤ 200000 + n) (fun n acc=>some (ms,acc ++ ((a.Alphabet.drop n).filter fun e=>decide (0 ≤ Qdg a s e)).map fun e=>⟨(i : Int),e,(F.idxOf (Qdg a s e) : Int)⟩)) ?_ ?_ fuel 0 es (Nat.zero_le _) (by omega) (by omega)).trans (by simp)
 ·intro k n acc hn k1 ih
  have hg : getO F (i : Int) = some s:=by rw [Qjf]; exact ⟨by omega,by simpa using hi⟩
  dsimp only
  rw [if_pos (by omega),hg,Qcf hn]
  simp only [Option.bind_some]
  rw [Q0q hs,Qbj (by omega)]
  simp only [Option.bind_some]
  rw [List.drop_eq_getElem_cons hn,List.filter_cons]
  by_cases hr : 0 ≤ Qdg a s a.Alphabet[n]
  ·have hm : Qdg a s a.Alphabet[n] ∈ F:=hcl s (List.mem_of_getElem? hi) _ (by rw [Q0d h]; exact List.mem_map.2 ⟨_,List.mem_filter.2 ⟨List.getElem_mem hn,by simpa using hr⟩,rfl⟩)
   rw [if_pos hr,Qbdc (by unfold big; omega),if_pos hm]
   simp only [Option.bind_some]
   rw [Qdn (by simp only [List.length_cons,List.length_nil]; unfold lim; omega)]
   simp only [Option.bind_some]
   rw [ih _ (by simp only [List.length_append,List.length_cons,List.length_nil]; omega)]
   simp only [hr,decide_true,if_true,List.map_cons,List.append_assoc,List.cons_append,List.nil_append]
  ·rw [if_neg (by omega)]
   simp only [Option.bind_some]
   rw [ih _ (by omega)]
   simp only [hr,decide_false,Bool.false_eq_true,if_false]
 ·intro k acc _
  dsimp only
  rw [if_neg (by omega)]; simp
theorem Qbjb {F : List Int} {i : Nat} {s : Int} : (rowP a F i s).length ≤ 32:=by
 have:=h.small.2.1
 have h1 : (rowP a F i s).length = ((outP a s).map (·.Event)).length:=by simp [rowP]
 rw [h1,Qv0 h]
 exact Nat.le_trans (List.length_filter_le _ _) this
theorem Q7t : Qdt a = some (Qfg a):=by
 have hs:=h.small.1
 have hst:=h.st
 have hal:=h.small.2.1
 have hb : a.Alphabet.length < 1000000000000:=hs.1
 obtain ⟨hF,_,hcl⟩:=Qia h
 have hFl:=hF.len
 unfold Qdt Qbg
 obtain ⟨fuel,hfu,hge⟩ : ∃ f,Qbn = f ∧ 1099511627776 ≤ f:=⟨_,rfl,Nat.le_refl _⟩
 rw [hfu,Qbdd h,Option.bind_some,Qbek (by unfold lim; omega),Option.bind_some]
 unfold Qfg
 generalize Qca a = F at hF hcl hFl
 show Option.bind (Qcn _ fuel (((0 : Nat) : Int),[],[],[],[],[])) _ = _
 rw [Qjg (len:=F.length) (R:=List Int × List Int × List Qe × List Int × List Qe) (fun n (acc : List Int × List Qe)=>((n : Int),([] : List Int),([] : List Int),([] : List Qe),acc.1,acc.2)) (fun n acc=>acc.1.length ≤ n ∧ acc.2.length ≤ 32 * n)
  (fun n acc=>some (([] : List Int),([] : List Int),([] : List Qe),acc.1 ++ Qj8 a.Marked n (F.drop n),acc.2 ++ Qhc a F n (F.drop n))) ?_ ?_ fuel 0 ([],[]) (Nat.zero_le _) (by omega) ⟨Nat.zero_le _,Nat.zero_le _⟩]
 ·simp
 ·rintro k n ⟨ms,es⟩ hn ⟨k1,k2⟩ ih
  replace k1 : ms.length ≤ n:=k1
  replace k2 : es.length ≤ 32 * n:=k2
  have hg:=List.getElem?_eq_getElem hn
  dsimp only
  rw [if_pos (by omega),Qcf hn]
  simp only [Option.bind_some]
  rw [Qbh0 hs.2.1]
  simp only [Option.bind_some]
  have hrl:=Qbjb h (F:=F) (i:=n) (s:=F[n])
  rw [List.drop_eq_getElem_cons hn]
  simp only [Qj8,Qhc]
  by_cases hm : F[n] ∈ a.Marked
  ·simp only [hm,decide_true,if_true]
   rw [Qdn (by simp only [List.length_cons,List.length_nil]; unfold lim; omega)]
   simp only [Option.bind_some]
   have:=Q9k h fuel hge hF hcl hg (ms ++ [(n : Int)]) es (by omega)
   rw [Qcf hn] at this
   simp only [Option.bind_some] at this
   rw [this]
   simp only [Option.bind_some]
   rw [Qbj (by omega),ih (ms ++ [(n : Int)],es ++ rowP a F n F[n]) ⟨by simp only [List.length_append,List.length_cons,List.length_nil]; omega,by simp only [List.length_append]; omega⟩]
   simp only [List.append_assoc]
  ·simp only [hm,decide_false,Bool.false_eq_true,if_false,Option.bind_some]
   have:=Q9k h fuel hge hF hcl hg ms es (by omega)
   rw [Qcf hn] at this
   simp only [Option.bind_some] at this
   rw [this]
   simp only [Option.bind_some]
   rw [Qbj (by omega),ih (ms,es ++ rowP a F n F[n]) ⟨by simp only; omega,by simp only [List.length_append]; omega⟩]
   simp only [List.append_assoc,List.nil_append]
 ·rintro k ⟨ms,es⟩ _
  dsimp only
  rw [if_neg (by omega)]
  simp [Qj8,Qhc]
end
end Go.Abs
end
section
namespace Go.Abs
open Go
set_option linter.unusedSimpArgs false
set_option linter.unusedVariables false
structure Evs (l : List Int) : Prop where
 rg : ∀ x ∈ l,0 ≤ x ∧ x < 5
 so : l.Pairwise (· < ·)
theorem Evs.len {l : List Int} (h : Evs l) : l.length ≤ 5:=by have:=Qfv h.so h.rg; simpa using this
def Qbjc : List Int → Bool
 | []=>true
 | x :: xs=>xs.all (fun y=>decide (x < y)) && Qbjc xs
theorem Qbb6 : ∀ {l : List Int},Qbjc l = true → l.Pairwise (· < ·)
 | [],_=>.nil
 | x :: xs,h=>by
  simp only [Qbjc,Bool.and_eq_true,List.all_eq_true,decide_eq_true_eq] at h
  exact List.pairwise_cons.2 ⟨h.1,Qbb6 h.2⟩
def evB (s : Nat) : Bool:=match Qcb (s : Int) with
 | some l=>Qbjc l && l.all fun x=>decide (0 ≤ x) && decide (x < 5)
 | none=>false
theorem Qbky : (List.range 256).all evB = true:=by kernel_rfl
theorem Q7u {s : Int} (h0 : 0 ≤ s) (h1 : s < 256) : ∃ l,Qcb s = some l ∧ Evs l:=by
 have:=List.all_eq_true.1 Qbky s.toNat (List.mem_range.2 (by omega))
 unfold evB at this
 rw [show ((s.toNat : Nat) : Int) = s from by omega] at this
 split at this
 ·rename_i l hl
  simp only [Bool.and_eq_true,List.all_eq_true,decide_eq_true_eq] at this
  exact ⟨l,hl,fun x hx=>this.2 x hx,Qbb6 this.1⟩
 ·cases this
structure Mks (n : Nat) (ms : List Int) : Prop where
 rg : ∀ x ∈ ms,0 ≤ x ∧ x < n
 so : ms.Pairwise (· < ·)
structure Eds (al : List Int) (N : Int) (i k : Nat) (es : List Qe) : Prop where
 rg : ∀ x ∈ es,0 ≤ x.From ∧ 0 ≤ x.To ∧ x.To < N ∧ x.Event ∈ al ∧ (x.From < i ∨ x.From = i ∧ ∃ j : Nat,j < k ∧ al[j]? = some x.Event)
 so : es.Pairwise Qir
 ln : es.length ≤ 5 * i + k
theorem Mks.up {n : Nat} {ms : List Int} (h : Mks n ms) : Mks (n + 1) ms:=⟨fun x hx=>by have:=h.rg x hx; omega,h.so⟩
theorem Mks.add {n : Nat} {ms : List Int} (h : Mks n ms) : Mks (n + 1) (ms ++ [(n : Int)]):=by
 refine ⟨fun x hx=>?_,?_⟩
 ·rcases List.mem_append.1 hx with hx | hx
  ·have:=h.rg x hx; omega
  ·simp at hx; omega
 ·rw [List.pairwise_append]
  exact ⟨h.so,by simp,fun x hx y hy=>by simp at hy; have:=h.rg x hx; omega⟩
theorem Mks.len {n : Nat} {ms : List Int} (h : Mks n ms) : ms.length ≤ n:=by have:=Qfv h.so h.rg; simpa using this
section
variable {al : List Int} (hal : Evs al) {N : Int} {i k : Nat} {es : List Qe}
theorem Eds.up (h : Eds al N i k es) : Eds al N i (k + 1) es:=⟨fun x hx=>by
 obtain ⟨h1,h2,h3,h4,h5⟩:=h.rg x hx
 refine ⟨h1,h2,h3,h4,?_⟩
 rcases h5 with h5 | ⟨h5,j,h6,h7⟩
 ·exact .inl h5
 ·exact .inr ⟨h5,j,by omega,h7⟩,h.so,by have:=h.ln; omega⟩
theorem Eds.next (h : Eds al N i k es) (hk : k ≤ 5) : Eds al N (i + 1) 0 es:=⟨fun x hx=>by
 obtain ⟨h1,h2,h3,h4,h5⟩:=h.rg x hx
 exact ⟨h1,h2,h3,h4,.inl (by rcases h5 with h5 | ⟨h5,_⟩ <;> omega)⟩,h.so,by have:=h.ln; omega⟩
include hal in
theorem Eds.add (h : Eds al N i k es) (hk : k < al.length) {t : Int} (ht : 0 ≤ t ∧ t < N) : Eds al N i (k + 1) (es ++ [⟨(i : Int),al[k],t⟩]):=by
 refine ⟨fun x hx=>?_,?_,by have:=h.ln; simp only [List.length_append,List.length_cons,List.length_nil]; omega⟩
 ·rcases List.mem_append.1 hx with hx | hx
  ·exact h.up.rg x hx
  ·simp at hx; subst hx
   exact ⟨by simp only; omega,ht.1,ht.2,List.getElem_mem hk,.inr ⟨rfl,k,by omega,List.getElem?_eq_getElem hk⟩⟩
 ·rw [List.pairwise_append]
  refine ⟨h.so,by simp,fun x hx y hy=>?_⟩
  simp at hy; subst hy
  obtain ⟨_,_,_,_,h5⟩:=h.rg x hx
  rcases h5 with h5 | ⟨h5,j,h6,h7⟩
  ·exact .inl h5
  ·refine .inr ⟨h5,?_⟩
   obtain ⟨h8,h9⟩:=List.getElem?_eq_some_iff.1 h7
   rw [← h9]
   exact List.pairwise_iff_getElem.1 hal.so j k h8 hk h6
end
structure Qbh4 (g : Q3) : Prop where
 st : 0 ≤ g.States ∧ g.States < 256
 to : ∀ x ∈ [g.To.1.1,g.To.1.2.1,g.To.1.2.2.1,g.To.1.2.2.2.1,g.To.1.2.2.2.2,g.To.2.1.1,g.To.2.1.2.1,g.To.2.1.2.2.1,g.To.2.1.2.2.2.1,g.To.2.1.2.2.2.2,g.To.2.2.1.1,g.To.2.2.1.2.1,g.To.2.2.1.2.2.1,g.To.2.2.1.2.2.2.1,g.To.2.2.1.2.2.2.2,g.To.2.2.2.1.1,g.To.2.2.2.1.2.1,g.To.2.2.2.1.2.2.1,g.To.2.2.2.1.2.2.2.1,g.To.2.2.2.1.2.2.2.2,g.To.2.2.2.2.1,g.To.2.2.2.2.2.1,g.To.2.2.2.2.2.2.1,g.To.2.2.2.2.2.2.2.1,g.To.2.2.2.2.2.2.2.2],0 ≤ x ∧ x < 256
theorem Qbem {al : List Int} (hal : Evs al) (fuel : Nat) (hfu : 1099511627776 ≤ fuel) {L : List Int} (hL : L.length = 25) (hL2 : ∀ x ∈ L,0 ≤ x ∧ x < 256) {N : Int} (hN : 1 ≤ N ∧ N ≤ 5) {i : Nat} (hi : (i : Int) < N) {ms : List Int} {es : List Qe} (hes : Eds al N i 0 es) :
  ∃ es',Eds al N (i + 1) 0 es' ∧ Qcn (fun (k25 : Int × List Qe → Option (List Int × List Qe)) ((k23,a24) : Int × (List Qe))=>(((if (k23 < (al.length : Int)) then some (decide (k23 < 5)) else some false)).bind fun (x27 : Bool)=>(if x27 then ((((inO 5 (i : Int)).bind fun _=>((inO 5 k23).bind fun _=>((rowO L (Int.toNat (i : Int) * 5 + Int.toNat k23 * 1)).bind fun x31=>((remO .i64 (IntKind.wrap .i64 x31) (IntKind.wrap .i64 (N + 2))).bind fun s33=>(if (s33 < N) then ((getO al k23).bind fun x36=>((appO a24 [(Qe.mk (i : Int) x36 s33)]).bind fun x38=>some x38)) else some a24)))))).bind fun (a40 : List Qe)=>k25 ((IntKind.wrap .i64 (k23 + 1)),a40)) else some (ms,a24)))) fuel (0,es) = some (ms,es'):=by
 have hl:=hal.len
 have:=Qei (F:=fun (k25 : Int × List Qe → Option (List Int × List Qe)) ((k23,a24) : Int × (List Qe))=>(((if (k23 < (al.length : Int)) then some (decide (k23 < 5)) else some false)).bind fun (x27 : Bool)=>(if x27 then ((((inO 5 (i : Int)).bind fun _=>((inO 5 k23).bind fun _=>((rowO L (Int.toNat (i : Int) * 5 + Int.toNat k23 * 1)).bind fun x31=>((remO .i64 (IntKind.wrap .i64 x31) (IntKind.wrap .i64 (N + 2))).bind fun s33=>(if (s33 < N) then ((getO al k23).bind fun x36=>((appO a24 [(Qe.mk (i : Int) x36 s33)]).bind fun x38=>some x38)) else some a24)))))).bind fun (a40 : List Qe)=>k25 ((IntKind.wrap .i64 (k23 + 1)),a40)) else some (ms,a24))))
  (fun x=>∃ k : Nat,x.1 = (k : Int) ∧ k ≤ al.length ∧ Eds al N i k x.2) (fun x=>al.length - x.1.toNat) (fun _ r=>∃ es',r = some (ms,es') ∧ Eds al N (i + 1) 0 es') (by
   rintro kk ⟨k,es⟩ ⟨k,rfl,hk,he⟩ ih
   replace he : Eds al N i k es:=he
   replace hk : k ≤ al.length:=hk
   dsimp only
   by_cases hlt : k < al.length
   ·rw [if_pos (by omega)]
    simp only [Option.bind_some,show decide ((k : Int) < 5) = true from by simp; omega,if_true]
    rw [show inO 5 (i : Int) = some () from by unfold inO; rw [if_pos (by omega)],show inO 5 (k : Int) = some () from by unfold inO; rw [if_pos (by omega)]]
    simp only [Option.bind_some,Int.toNat_natCast]
    have hidx : i * 5 + k * 1 < L.length:=by omega
    have hx:=hL2 _ (List.getElem_mem hidx)
    rw [show rowO L (i * 5 + k * 1) = some L[i * 5 + k * 1] from by unfold rowO; exact List.getElem?_eq_getElem hidx]
    simp only [Option.bind_some]
    rw [Q5l (x:=L[i * 5 + k * 1]) (by omega) (by omega),Q5l (x:=N + 2) (by omega) (by omega),show remO .i64 L[i * 5 + k * 1] (N + 2) = some (L[i * 5 + k * 1].tmod (N + 2)) from by unfold remO; rw [if_neg (by omega)]]
    simp only [Option.bind_some]
    have hmod : 0 ≤ L[i * 5 + k * 1].tmod (N + 2):=Int.tmod_nonneg _ hx.1
    have hln:=he.ln
    by_cases hm : L[i * 5 + k * 1].tmod (N + 2) < N
    ·rw [if_pos hm,Qcf hlt]
     simp only [Option.bind_some]
     rw [Qdn (by simp only [List.length_cons,List.length_nil]; unfold lim; omega)]
     simp only [Option.bind_some]
     rw [Qbj (by omega)]
     exact ih _ ⟨k + 1,rfl,hlt,he.add hal hlt ⟨hmod,hm⟩⟩ (by simp only; omega)
    ·rw [if_neg hm]
     simp only [Option.bind_some]
     rw [Qbj (by omega)]
     exact ih _ ⟨k + 1,rfl,hlt,he.up⟩ (by simp only; omega)
   ·rw [if_neg (by omega)]
    exact ⟨es,rfl,he.next (by omega)⟩) fuel (0,es) ⟨0,rfl,Nat.zero_le _,hes⟩ (by simp only; omega)
 obtain ⟨es',h1,h2⟩:=this
 exact ⟨es',h2,h1⟩
theorem Qbde {al : List Int} (hal : Evs al) : Right ⟨al,0,[],[]⟩ :=
 ⟨fun x hx=>by have:=hal.rg x hx; omega,hal.so,⟨by simp,by simp⟩,by simp,.nil,by simp,.nil⟩
theorem Qbkz {al : List Int} (hal : Evs al) {g : Q3} (hg : Qbh4 g) : ∃ m,Right m ∧ m.Alphabet = al ∧ Qfn al g = some (Qfg m) ∧ m.States ≤ 5:=by
 have hl:=hal.len
 obtain ⟨hst,hto⟩:=hg
 unfold Qfn Qb3
 obtain ⟨fuel,hfu,hge⟩ : ∃ f,Qbn = f ∧ 1099511627776 ≤ f:=⟨_,rfl,Nat.le_refl _⟩
 rw [hfu,Qbek (by unfold lim; omega)]
 simp only [Option.bind_some]
 by_cases h250 : g.States ≥ 250
 ·rw [if_pos h250]
  exact ⟨⟨al,0,[],[]⟩,Qbde hal,rfl,rfl,by simp⟩
 rw [if_neg h250]
 have hL : [g.To.1.1,g.To.1.2.1,g.To.1.2.2.1,g.To.1.2.2.2.1,g.To.1.2.2.2.2,g.To.2.1.1,g.To.2.1.2.1,g.To.2.1.2.2.1,g.To.2.1.2.2.2.1,g.To.2.1.2.2.2.2,g.To.2.2.1.1,g.To.2.2.1.2.1,g.To.2.2.1.2.2.1,g.To.2.2.1.2.2.2.1,g.To.2.2.1.2.2.2.2,g.To.2.2.2.1.1,g.To.2.2.2.1.2.1,g.To.2.2.2.1.2.2.1,g.To.2.2.2.1.2.2.2.1,g.To.2.2.2.1.2.2.2.2,g.To.2.2.2.2.1,g.To.2.2.2.2.2.1,g.To.2.2.2.2.2.2.1,g.To.2.2.2.2.2.2.2.1,g.To.2.2.2.2.2.2.2.2].length = 25:=rfl
 generalize [g.To.1.1,g.To.1.2.1,g.To.1.2.2.1,g.To.1.2.2.2.1,g.To.1.2.2.2.2,g.To.2.1.1,g.To.2.1.2.1,g.To.2.1.2.2.1,g.To.2.1.2.2.2.1,g.To.2.1.2.2.2.2,g.To.2.2.1.1,g.To.2.2.1.2.1,g.To.2.2.1.2.2.1,g.To.2.2.1.2.2.2.1,g.To.2.2.1.2.2.2.2,g.To.2.2.2.1.1,g.To.2.2.2.1.2.1,g.To.2.2.2.1.2.2.1,g.To.2.2.2.1.2.2.2.1,g.To.2.2.2.1.2.2.2.2,g.To.2.2.2.2.1,g.To.2.2.2.2.2.1,g.To.2.2.2.2.2.2.1,g.To.2.2.2.2.2.2.2.1,g.To.2.2.2.2.2.2.2.2] = L at hto hL ⊢
 have hmod : 0 ≤ g.States.tmod 5 ∧ g.States.tmod 5 < 5:=⟨Int.tmod_nonneg _ hst.1,Int.tmod_lt_of_pos _ (by omega)⟩
 have hN : 1 ≤ IntKind.wrap .i64 (1 + (IntKind.wrap .i64 (Int.tmod g.States 5))) ∧ IntKind.wrap .i64 (1 + (IntKind.wrap .i64 (Int.tmod g.States 5))) ≤ 5:=by
  rw [Q5l (x:=g.States.tmod 5) (by omega) (by omega),Q5l (by omega) (by omega)]; omega
 generalize IntKind.wrap .i64 (1 + (IntKind.wrap .i64 (Int.tmod g.States 5))) = N at hN ⊢
 have hloop:=Qei (F:=(fun (k15 : Int × List Int × List Int × List Qe × Int × List Int × List Qe → Option (List Int × List Int × List Qe × Int × List Int × List Qe)) ((i8,c9,c10,c11,a12,a13,a14) : Int × (List Int) × (List Int) × (List Qe) × Int × (List Int) × (List Qe))=>(if (i8 < a12) then ((((((shrO .u8 g.Marks i8).bind fun s17=>(if ((andI .u8 s17 1) == 1) then ((appO a13 [i8]).bind fun x20=>some x20) else some a13))).bind fun (a22 : List Int)=>Qcn (fun k25 ((k23,a24) : Int × (List Qe))=>(((if (k23 < (al.length : Int)) then some (decide (k23 < 5)) else some false)).bind fun (x27 : Bool)=>(if x27 then ((((inO 5 i8).bind fun _=>((inO 5 k23).bind fun _=>((rowO L (Int.toNat i8 * 5 + Int.toNat k23 * 1)).bind fun x31=>((remO .i64 (IntKind.wrap .i64 x31) (IntKind.wrap .i64 (a12 + 2))).bind fun s33=>(if (s33 < a12) then ((getO al k23).bind fun x36=>((appO a24 [(Qe.mk i8 x36 s33)]).bind fun x38=>some x38)) else some a24)))))).bind fun (a40 : List Qe)=>k25 ((IntKind.wrap .i64 (k23 + 1)),a40)) else some (a22,a24)))) fuel (0,a14))).bind fun ((a41,a42) : (List Int) × (List Qe))=>k15 ((IntKind.wrap .i64 (i8 + 1)),c9,c10,c11,a12,a41,a42)) else some (c9,c10,c11,a12,a13,a14))))
  (fun x=>∃ (i : Nat) (ms : List Int) (es : List Qe),x = ((i : Int),[],[],[],N,ms,es) ∧ (i : Int) ≤ N ∧ Mks i ms ∧ Eds al N i 0 es) (fun x=>(N - x.1).toNat)
  (fun _ r=>∃ (i : Nat) (ms : List Int) (es : List Qe),r = some ([],[],[],N,ms,es) ∧ (i : Int) = N ∧ Mks i ms ∧ Eds al N i 0 es) (by
   rintro k _ ⟨i,ms,es,rfl,hi,hm,he⟩ ih
   dsimp only
   by_cases hlt : (i : Int) < N
   ·rw [if_pos hlt,show shrO .u8 g.Marks (i : Int) = some (g.Marks.fdiv (2 ^ (min (Int.toNat (i : Int)) (IntKind.bits .u8)))) from by unfold shrO; rw [if_neg (by omega)]]
    simp only [Option.bind_some]
    have hml:=hm.len
    by_cases hb : (andI .u8 (g.Marks.fdiv (2 ^ (min (Int.toNat (i : Int)) (IntKind.bits .u8)))) 1 == 1) = true
    ·rw [if_pos hb,Qdn (by simp only [List.length_cons,List.length_nil]; unfold lim; omega)]
     simp only [Option.bind_some]
     obtain ⟨es',h1,h2⟩:=Qbem hal fuel hge hL hto hN hlt (ms:=ms ++ [(i : Int)]) he
     rw [h2]
     simp only [Option.bind_some]
     rw [Qbj (by omega)]
     exact ih _ ⟨i + 1,_,_,rfl,by omega,hm.add,h1⟩ (by simp only; omega)
    ·rw [if_neg hb]
     simp only [Option.bind_some]
     obtain ⟨es',h1,h2⟩:=Qbem hal fuel hge hL hto hN hlt (ms:=ms) he
     rw [h2]
     simp only [Option.bind_some]
     rw [Qbj (by omega)]
     exact ih _ ⟨i + 1,_,_,rfl,by omega,hm.up,h1⟩ (by simp only; omega)
   ·rw [if_neg hlt]
    exact ⟨i,ms,es,rfl,by omega,hm,he⟩) fuel (0,[],[],[],N,[],[]) ⟨0,[],[],rfl,by omega,⟨by simp,.nil⟩,⟨by simp,.nil,by simp⟩⟩ (by simp only; omega)
 obtain ⟨i,ms,es,h1,h2,h3,h4⟩:=hloop
 rw [h1]
 simp only [Option.bind_some]
 have hr : Right ⟨al,N,ms,es⟩:=⟨fun x hx=>by have:=hal.rg x hx; omega,hal.so,⟨by simp only; omega,by simp only; omega⟩,fun x hx=>by have:=h3.rg x hx; simp only; omega,h3.so,fun x hx=>by
  obtain ⟨k1,k2,k3,k4,k5⟩:=h4.rg x hx
  refine ⟨k1,?_,k2,k3,k4⟩
  rcases k5 with k5 | ⟨_,j,k6,_⟩
  ·simp only; omega
  ·omega,h4.so⟩
 rw [Q7t hr]
 exact ⟨_,hr,rfl,rfl,by simp only; omega⟩
end Go.Abs
end
section
namespace Go.Proofs
open Go Go.Abs
theorem Qblw {x : Int} (h : wfI .u8 x) : 0 ≤ x ∧ x < 256:=by
 unfold wfI at h
 simp [Lit.wf,IntKind.min,IntKind.max,IntKind.bits,IntKind.signed] at h
 omega
theorem Qbl2 {g : Q3} (h : W_26 g) : Qbh4 g:=by
 unfold W_26 W_24 W_23 W_5 at h
 obtain ⟨h1,h2,⟨a1,a2,a3,a4,a5⟩,⟨b1,b2,b3,b4,b5⟩,⟨c1,c2,c3,c4,c5⟩,⟨d1,d2,d3,d4,d5⟩,⟨e1,e2,e3,e4,e5⟩⟩:=h
 refine ⟨Qblw h1,fun x hx=>?_⟩
 simp only [List.mem_cons,List.not_mem_nil,or_false] at hx
 rcases hx with rfl | rfl | rfl | rfl | rfl | rfl | rfl | rfl | rfl | rfl | rfl | rfl | rfl | rfl | rfl | rfl | rfl | rfl | rfl | rfl | rfl | rfl | rfl | rfl | rfl <;> exact Qblw (by assumption)
end Go.Proofs
end
section
namespace Go.Abs
open Go
theorem Qbb7 {α : Type} [DecidableEq α] {s t : List α} {ne : α → α → Bool} (hne : ∀ x y,ne x y = decide (x ≠ y)) (hl : s.length = t.length) (h : s.length < 1000000000000) :
  Qcn (fun k5 (i4 : Int)=>(if (i4 < (s.length : Int)) then ((getO s i4).bind fun x7=>((getO t i4).bind fun x9=>(if ne x7 x9 then some false else k5 (IntKind.wrap .i64 (i4 + 1))))) else some true)) Qbn 0 = some (decide (s = t)):=by
 refine Qbej (fun i : Int=>∃ n : Nat,i = n ∧ n ≤ s.length ∧ s.take n = t.take n) (fun i=>s.length - i.toNat) _ ⟨0,rfl,by omega,by simp⟩ (by unfold Qbn; omega) ?_
 rintro k _ ⟨n,rfl,hn,he⟩ ih
 by_cases hlt : n < s.length
 ·rw [if_pos (by omega),Qcf hlt,Qcf (by omega : n < t.length)]
  simp only [Option.bind_some,hne]
  by_cases hx : s[n] = t[n]
  ·rw [if_neg (by simp [hx]),Qbj (by omega)]
   exact ih _ ⟨n + 1,rfl,by omega,Qbb2 hlt (by omega) he hx⟩ (by omega)
  ·rw [if_pos (by simp [hx])]
   have : s ≠ t:=fun e=>hx (by subst e; rfl)
   simp [this]
 ·rw [if_neg (by omega)]
  have e : n = s.length:=by omega
  have : s = t:=by
   rw [e,List.take_length,hl,List.take_length] at he; exact he
  simp [this]
theorem Qbk0 (x y : Qe) : (!((x.From == y.From) && ((x.Event == y.Event) && ((x.To == y.To) && true)))) = decide (x ≠ y):=by
 cases x; cases y
 simp only [Qe.mk.injEq,Bool.and_true,ne_eq,decide_not]
 congr 1
 rw [Bool.eq_iff_iff]; simp
theorem Qblx {R : Type} (b : Bool) (A B : R) : (if b then A else B) = if (!b) then B else A:=by cases b <;> rfl
end Go.Abs
end
section
namespace Go.Abs
open Go
theorem Qbh5 : Qg5 = some true:=by kernel_rfl
theorem Q6h {s t : List Int} (h : s.length < 1000000000000) : Qbu s t = some (decide (s = t)):=by
 unfold Qbu Ql
 by_cases hl : s.length = t.length
 ·rw [if_neg (by simp [hl])]
  exact Qbb7 (ne:=fun x y=>x != y) (fun x y=>by rw [Bool.eq_iff_iff]; simp) hl h
 ·rw [if_pos (by simp; omega)]
  have : s ≠ t:=fun e=>hl (by rw [e])
  simp [this]
theorem Qbh6 {a b : Qb} (h : small a) : Qef a b = some (decide (a = b)):=by
 unfold Qef Q9
 rw [Q6h h.1,Q6h h.2.1]
 obtain ⟨al,s,m,e⟩:=a
 obtain ⟨al',s',m',e'⟩:=b
 have hlen : e.length ≠ e'.length → ¬ e = e':=fun h k=>h (by rw [k])
 have hlen2 : ((e.length : Int) != (e'.length : Int)) = decide (e.length ≠ e'.length):=by
  rw [Bool.eq_iff_iff]; simp; omega
 by_cases hl : e.length = e'.length
 ·have:=Qbb7 (ne:=fun x y=>!((x.From == y.From) && ((x.Event == y.Event) && ((x.To == y.To) && true)))) Qbk0 hl h.2.2
  simp only [← Qblx] at this
  rw [this]
  simp only [Option.bind_some,Qb.mk.injEq,hlen2]
  by_cases h1 : s = s' <;> by_cases h2 : al = al' <;> by_cases h3 : m = m' <;> simp [h1,h2,h3,hl]
 ·generalize Qcn _ Qbn 0 = L
  simp only [Option.bind_some,Qb.mk.injEq,hlen2]
  by_cases h1 : s = s' <;> by_cases h2 : al = al' <;> by_cases h3 : m = m' <;> simp [h1,h2,h3,hl,hlen hl]
end Go.Abs
end
section
namespace Go.Abs
open Go
set_option linter.unusedSimpArgs false
set_option linter.unusedVariables false
structure Num (a : Qb) (o num : List Int) : Prop where
 len : num.length = a.States.toNat
 at1 : ∀ s : Nat,s < a.States.toNat → num[s]? = some (if (s : Int) ∈ o then (o.idxOf (s : Int) : Int) else -1)
theorem Num.get {a : Qb} {o num : List Int} (h : Num a o num) {t : Int} (ht : 0 ≤ t ∧ t < a.States) : getO num t = some (if t ∈ o then (o.idxOf t : Int) else -1):=by
 rw [Qjf]
 refine ⟨ht.1,?_⟩
 have:=h.at1 t.toNat (by omega)
 rwa [show ((t.toNat : Nat) : Int) = t from by omega] at this
theorem Num.set {a : Qb} {o num : List Int} (h : Num a o num) {t : Int} (ht : 0 ≤ t ∧ t < a.States) (hn : t ∉ o) : ∃ num',setO num t (o.length : Int) = some num' ∧ Num a (o ++ [t]) num':=by
 refine ⟨num.set t.toNat (o.length : Int),by unfold setO; rw [if_pos ⟨ht.1,by rw [h.len]; omega⟩],by rw [List.length_set]; exact h.len,fun s hs=>?_⟩
 rw [List.getElem?_set]
 by_cases he : t.toNat = s
 ·subst he
  rw [if_pos rfl,if_pos (by rw [h.len]; omega),show ((t.toNat : Nat) : Int) = t from by omega,if_pos (by simp),List.idxOf_append,if_neg hn]
  simp
 ·rw [if_neg he,h.at1 s hs]
  have hne : (s : Int) ≠ t:=by omega
  by_cases hm : (s : Int) ∈ o
  ·rw [if_pos hm,if_pos (by simp [hm]),List.idxOf_append,if_pos hm]
  ·rw [if_neg hm,if_neg (by simp [hm,hne])]
section
variable {a : Qb} (h : Right a)
include h
end
end Go.Abs
end
section
namespace Go.Abs
open Go
set_option linter.unusedSimpArgs false
set_option linter.unusedVariables false
section
variable {a : Qb} (h : Right a)
include h
omit h in
theorem Q7v {w : List Int} {p : Int → Bool} {f : Int → Option Bool} (hf : ∀ x,f x = some (p x)) (hw : w.length < big) : Qcz w f = some (w.any p):=by
 have hb : w.length < 1000000000000:=hw
 unfold Qcz Qv Qgh Qbt
 obtain ⟨fuel,hfu,hge⟩ : ∃ f,Qbn = f ∧ 1099511627776 ≤ f:=⟨_,rfl,Nat.le_refl _⟩
 rw [hfu]
 have:=Qpm (F:=fun (k10 : Int → Option Int) (x9 : Int)=>(if (x9 < (w.length : Int)) then ((getO w x9).bind fun x12=>((f x12).bind fun x15=>(if x15 then some x9 else k10 (IntKind.wrap .i64 (x9 + 1))))) else some (-1))) (len:=w.length) (fuel:=fuel)
  (fun n=>some (if (w.drop n).any p then ((n + (w.drop n).findIdx p : Nat) : Int) else -1)) (by omega) (by
   intro k n hn ih
   rw [if_pos (by omega),Qcf hn,Qbj (by omega),ih]
   simp only [Option.bind_some,hf]
   rw [List.drop_eq_getElem_cons hn]
   cases hp : p w[n] with
   | true=>simp only [List.any_cons,hp,Bool.true_or,if_true,List.findIdx_cons,cond_true,Nat.add_zero]
   | false =>
    simp only [List.any_cons,hp,Bool.false_or,List.findIdx_cons,cond_false,Bool.false_eq_true,if_false]
    rw [show n + 1 + (w.drop (n + 1)).findIdx p = n + ((w.drop (n + 1)).findIdx p + 1) from by omega]) (by intro k; simp)
 rw [this]
 simp only [Option.bind_some,List.drop_zero,Nat.zero_add]
 cases w.any p <;> simp
end
end Go.Abs
end
section
namespace Go.Abs
open Go
set_option linter.unusedSimpArgs false
set_option linter.unusedVariables false
theorem Qbb8 : ∀ (ts o : List Int),o <+: ts.foldl ins o
 | [],o=>List.prefix_refl o
 | t :: ts,o=>(Qbh2 o t).trans (Qbb8 ts _)
theorem Q7w {P : Int → Prop} : ∀ (ts o : List Int),(∀ s ∈ o,P s) → (∀ t ∈ ts,P t) → ∀ s ∈ ts.foldl ins o,P s
 | [],o,h,_=>h
 | t :: ts,o,h,ht=>Q7w ts (ins o t) (fun s hs=>by
   rcases Q5m.1 hs with hs | rfl
   ·exact h s hs
   ·exact ht _ (by simp)) fun u hu=>ht u (by simp [hu])
theorem Q7x {a : Qb} {P : Int → Prop} (hP : ∀ s,P s → ∀ t ∈ Qgi a s,P t) : ∀ (fuel i : Nat) (o : List Int),(∀ s ∈ o,P s) → ∀ s ∈ bfs a fuel i o,P s
 | 0,i,o,h=>h
 | fuel + 1,i,o,h=>by
  unfold bfs
  cases hg : o[i]? with
  | none=>exact h
  | some s=>exact Q7x hP fuel (i + 1) _ (Q7w _ _ h (hP s (h s (List.mem_of_getElem? hg))))
theorem Qbh7 {a : Qb} : ∀ (fuel i : Nat) (o : List Int),o <+: bfs a fuel i o
 | 0,i,o=>List.prefix_refl o
 | fuel + 1,i,o=>by
  unfold bfs
  cases hg : o[i]? with
  | none=>exact List.prefix_refl o
  | some s=>exact (Qbb8 _ _).trans (Qbh7 fuel (i + 1) _)
theorem Qbau {a : Qb} {o : List Int} {i : Nat} (h : o[i]? = none) : ∀ fuel,bfs a fuel i o = o
 | 0=>rfl
 | fuel + 1=>by unfold bfs; rw [h]
theorem Qben {a : Qb} {f i : Nat} {o : List Int} {s : Int} (hg : o[i]? = some s) : bfs a (f + 1) i o = bfs a f (i + 1) ((Qgi a s).foldl ins o):=by
 simp only [bfs,hg]
theorem Qbeo {a : Qb} : ∀ (f g i : Nat) (o : List Int),(bfs a f i o).length < f + i → (bfs a f i o).length < g + i → bfs a g i o = bfs a f i o
 | 0,g,i,o,h1,_=>by
  have h1 : o.length < 0 + i:=h1
  rw [Qbau (List.getElem?_eq_none_iff.2 (by omega)) g]; rfl
 | f + 1,g,i,o,h1,h2=>by
  cases hg : o[i]? with
  | none=>rw [Qbau hg,Qbau hg]
  | some s =>
   have hlt:=(List.getElem?_eq_some_iff.1 hg).1
   have hle:=(Qbh7 (a:=a) (f + 1) i o).length_le
   cases g with
   | zero=>omega
   | succ g =>
    rw [Qben hg] at h1 h2 ⊢
    rw [Qben hg]
    exact Qbeo f g (i + 1) _ (by omega) (by omega)
structure Like (a b : Qb) (φ : Int → Int) : Prop where
 al : b.Alphabet = a.Alphabet
 st : 0 < b.States ↔ 0 < a.States
 zero : 0 < a.States → φ 0 = 0
 inj : ∀ s ∈ Qca a,∀ t ∈ Qca a,φ s = φ t → s = t
 out : ∀ s ∈ Qca a,outP b (φ s) = (outP a s).map fun x=>⟨φ s,x.Event,φ x.To⟩
 ma : ∀ s ∈ Qca a,(φ s ∈ b.Marked ↔ s ∈ a.Marked)
section
variable {F : List Int} {φ : Int → Int} (inj : ∀ s ∈ F,∀ t ∈ F,φ s = φ t → s = t)
include inj
theorem Q7y {o : List Int} (ho : ∀ s ∈ o,s ∈ F) {t : Int} (ht : t ∈ F) : φ t ∈ o.map φ ↔ t ∈ o:=by
 constructor
 ·intro h
  obtain ⟨s,hs,he⟩:=List.mem_map.1 h
  exact inj s (ho s hs) t ht he ▸ hs
 ·exact fun h=>List.mem_map.2 ⟨t,h,rfl⟩
theorem Qbk1 {o : List Int} (ho : ∀ s ∈ o,s ∈ F) {t : Int} (ht : t ∈ F) : ins (o.map φ) (φ t) = (ins o t).map φ:=by
 unfold ins
 by_cases h : t ∈ o
 ·rw [if_pos ((Q7y inj ho ht).2 h),if_pos h]
 ·rw [if_neg (fun hh=>h ((Q7y inj ho ht).1 hh)),if_neg h]; simp
theorem Qbb9 : ∀ (ts o : List Int),(∀ s ∈ o,s ∈ F) → (∀ t ∈ ts,t ∈ F) → (ts.map φ).foldl ins (o.map φ) = (ts.foldl ins o).map φ
 | [],o,_,_=>rfl
 | t :: ts,o,ho,ht=>by
  simp only [List.map_cons,List.foldl_cons]
  rw [Qbk1 inj ho (ht t (by simp))]
  exact Qbb9 ts _ (fun s hs=>by
   rcases Q5m.1 hs with hs | rfl
   ·exact ho s hs
   ·exact ht _ (by simp)) fun u hu=>ht u (by simp [hu])
end
section
variable {a b : Qb} {φ : Int → Int} (ha : Right a) (hb : Right b) (h : Like a b φ)
include ha h
theorem Q5n {s : Int} (hs : s ∈ Qca a) : ∀ t ∈ Qgi a s,t ∈ Qca a:=(Qia ha).2.2 s hs
theorem Qbfm {s : Int} (hs : s ∈ Qca a) : Qgi b (φ s) = (Qgi a s).map φ:=by
 unfold Qgi
 rw [h.out s hs]; simp
theorem Qbca : ∀ (f i : Nat) (o : List Int),(∀ s ∈ o,s ∈ Qca a) → bfs b f i (o.map φ) = (bfs a f i o).map φ
 | 0,i,o,_=>rfl
 | f + 1,i,o,ho=>by
  unfold bfs
  rw [List.getElem?_map]
  cases hg : o[i]? with
  | none=>rfl
  | some s =>
   have hs:=ho s (List.mem_of_getElem? hg)
   simp only [Option.map_some]
   rw [Qbfm ha h hs,Qbb9 h.inj _ _ ho (Q5n ha h hs)]
   exact Qbca f (i + 1) _ (Q7w _ _ ho (Q5n ha h hs))
theorem Qbdf : (if 0 < b.States then [0] else []) = (if 0 < a.States then [0] else ([] : List Int)).map φ:=by
 by_cases h0 : 0 < a.States
 ·rw [if_pos h0,if_pos (h.st.2 h0)]; simp [h.zero h0]
 ·rw [if_neg h0,if_neg (fun hh=>h0 (h.st.1 hh))]; rfl
theorem Q7z : ∀ s ∈ (if 0 < a.States then [0] else ([] : List Int)),s ∈ Qca a:=fun s hs=>(Qia ha).2.1.subset hs
include hb
theorem Qbdg : ∀ s ∈ Qca a,0 ≤ φ s ∧ φ s < b.States:=by
 have : ∀ s ∈ Qca a,s ∈ Qca a ∧ 0 ≤ φ s ∧ φ s < b.States:=by
  refine Q7x (P:=fun s=>s ∈ Qca a ∧ 0 ≤ φ s ∧ φ s < b.States) ?_ _ _ _ ?_
  ·rintro s ⟨h1,h2⟩ t ht
   refine ⟨Q5n ha h h1 t ht,?_⟩
   obtain ⟨x,hx,rfl⟩:=List.mem_map.1 ht
   have : (⟨φ s,x.Event,φ x.To⟩ : Qe) ∈ outP b (φ s):=by rw [h.out s h1]; exact List.mem_map.2 ⟨x,hx,rfl⟩
   have:=hb.ed0 _ (List.mem_filter.1 this).1
   simp only at this; omega
  ·intro s hs
   refine ⟨Q7z ha h s hs,?_⟩
   split at hs
   ·rename_i h0
    simp at hs; subst hs
    have:=h.st.2 h0
    rw [h.zero h0]; omega
   ·simp at hs
 exact fun s hs=>(this s hs).2
theorem Qbdh : Qca b = (Qca a).map φ:=by
 have hF:=(Qia ha).1
 have hl:=hF.len
 have key : bfs b (a.States.toNat + 1) 0 (if 0 < b.States then [0] else []) = (Qca a).map φ:=by
  rw [Qbdf ha h]
  exact Qbca ha h _ _ _ (Q7z ha h)
 have hn : Fnd b ((Qca a).map φ):=⟨by
  have hnd:=hF.nd
  have hinj:=h.inj
  unfold List.Nodup at hnd ⊢
  rw [List.pairwise_map]
  exact List.Pairwise.imp_of_mem (fun hx hy hne he=>hne (hinj _ hx _ hy he)) hnd,fun s hs=>by
  obtain ⟨t,ht,rfl⟩:=List.mem_map.1 hs
  exact Qbdg ha hb h t ht⟩
 have hl2:=hn.len
 rw [List.length_map] at hl2
 unfold Qca at hl hl2 ⊢
 have:=Qbeo (a:=b) (a.States.toNat + 1) (b.States.toNat + 1) 0 (if 0 < b.States then [0] else []) (by rw [key,List.length_map]; unfold Qca; omega) (by rw [key,List.length_map]; unfold Qca; omega)
 rw [this,key]; rfl
end
theorem Q9l {a : Qb} {F : List Int} : ∀ (l : List Int) (k j : Nat) (s : Int),l[j]? = some s → (Qhc a F k l).filter (fun x=>x.From == ((k + j : Nat) : Int)) = rowP a F (k + j) s
 | [],k,j,s,h=>by simp at h
 | s' :: l,k,j,s,h=>by
  simp only [Qhc,List.filter_append]
  cases j with
  | zero =>
   simp at h; subst h
   have e1 : (rowP a F k s').filter (fun x=>x.From == ((k + 0 : Nat) : Int)) = rowP a F k s':=List.filter_eq_self.2 fun x hx=>by
    obtain ⟨y,_,rfl⟩:=List.mem_map.1 hx; simp
   have e2 : (Qhc a F (k + 1) l).filter (fun x=>x.From == ((k + 0 : Nat) : Int)) = []:=List.filter_eq_nil_iff.2 fun x hx=>by
    have:=(Qv3 x hx).1; simp; omega
   rw [e1,e2]; simp
  | succ j =>
   simp at h
   have e1 : (rowP a F k s').filter (fun x=>x.From == ((k + (j + 1) : Nat) : Int)) = []:=List.filter_eq_nil_iff.2 fun x hx=>by
    obtain ⟨y,_,rfl⟩:=List.mem_map.1 hx; simp; omega
   have:=Q9l (a:=a) (F:=F) l (k + 1) j s h
   rw [e1,List.nil_append,show k + (j + 1) = k + 1 + j from by omega,this]
theorem Q5o {m : List Int} : ∀ (l : List Int) (k : Nat) (x : Int),x ∈ Qj8 m k l ↔ ∃ j s,l[j]? = some s ∧ s ∈ m ∧ x = ((k + j : Nat) : Int)
 | [],k,x=>by simp [Qj8]
 | s' :: l,k,x=>by
  simp only [Qj8,List.mem_append]
  rw [Q5o l (k + 1) x]
  constructor
  ·rintro (h | ⟨j,s,h1,h2,h3⟩)
   ·split at h
    ·rename_i hm; simp at h; exact ⟨0,s',by simp,hm,by simpa using h⟩
    ·simp at h
   ·exact ⟨j + 1,s,by simpa using h1,h2,by rw [h3]; congr 1; omega⟩
  ·rintro ⟨j,s,h1,h2,h3⟩
   cases j with
   | zero=>simp at h1; subst h1; left; rw [if_pos h2]; simpa using h3
   | succ j=>right; exact ⟨j,s,by simpa using h1,h2,by rw [h3]; congr 1; omega⟩
theorem Qpo {l : List Int} {s : Int} (h : s ∈ l) : l[l.idxOf s]? = some s:=by
 have hlt:=List.idxOf_lt_length_iff.2 h
 rw [List.getElem?_eq_getElem hlt,List.getElem_idxOf hlt]
theorem Qbh8 {l : List Int} {s t : Int} (hs : s ∈ l) (ht : t ∈ l) (h : l.idxOf s = l.idxOf t) : s = t:=by
 have h1:=Qpo hs
 rw [h,Qpo ht] at h1
 exact (Option.some.inj h1).symm
theorem Qbdi {a : Qb} (ha : Right a) : Like a (Qfg a) (fun s=>((Qca a).idxOf s : Int)):=by
 obtain ⟨hF,hpre,hcl⟩:=Qia ha
 refine ⟨rfl,?_,?_,?_,?_,?_⟩
 ·simp only [Qfg]
  constructor
  ·intro h
   have:=hF.len; omega
  ·intro h
   rw [if_pos h] at hpre
   have:=hpre.length_le; simp at this; omega
 ·intro h
  rw [if_pos h] at hpre
  obtain ⟨r,hr⟩:=hpre
  rw [← hr]; simp
 ·intro s hs t ht h
  exact Qbh8 hs ht (by omega)
 ·intro s hs
  have:=Q9l (a:=a) (F:=Qca a) (Qca a) 0 ((Qca a).idxOf s) s (Qpo hs)
  unfold outP Qfg
  simp only [Nat.zero_add] at this
  simp only
  rw [this]; rfl
 ·intro s hs
  show _ ∈ Qj8 a.Marked 0 (Qca a) ↔ _
  rw [Q5o]
  constructor
  ·rintro ⟨j,t,h1,h2,h3⟩
   have h4 : (Qca a).idxOf s = j:=by omega
   rw [← h4,Qpo hs] at h1
   cases h1; exact h2
  ·exact fun h=>⟨_,s,Qpo hs,h,by simp⟩
section
variable {a b : Qb} {φ : Int → Int} (ha : Right a) (hb : Right b) (h : Like a b φ)
include ha h
end
end Go.Abs
end
section
namespace Go.Abs
open Go
set_option linter.unusedSimpArgs false
set_option linter.unusedVariables false
theorem Qqy {α β : Type} {o : Option α} {x : α} {K : α → Option β} {r : Option β} (h : o = some x) (h2 : K x = r) : o.bind K = r:=by rw [h]; exact h2
theorem Qbk2 {α β : Type} {o : Option α} {x : α} {K : α → Option β} {Q : β → Prop} (h : o = some x) (h2 : ∃ y,K x = some y ∧ Q y) : ∃ y,o.bind K = some y ∧ Q y:=by rw [h]; exact h2
theorem Qbjd {α β : Type} {o : Option α} {K : α → Option β} {Q : β → Prop} (P : α → Prop) (h : ∃ x,o = some x ∧ P x) (h2 : ∀ x,P x → ∃ y,K x = some y ∧ Q y) : ∃ y,o.bind K = some y ∧ Q y:=by
 obtain ⟨x,h,hp⟩:=h
 rw [h]; exact h2 x hp
theorem Qbfn {X S R α : Type} {F : (X → Option R) → X → Option R} {l : List α} {fuel : Nat} (mk : Nat → S → X) (f : S → α → S) (fin : S → Option R) (I : Nat → S → Prop)
  (step : ∀ (k : X → Option R) (n : Nat) (h : n < l.length) (s : S),I n s → I (n + 1) (f s l[n]) ∧ F k (mk n s) = k (mk (n + 1) (f s l[n]))) (last : ∀ (k : X → Option R) (s : S),I l.length s → F k (mk l.length s) = fin s)
  (hf : l.length < fuel) (s0 : S) (h0 : I 0 s0) : Qcn F fuel (mk 0 s0) = fin (l.foldl f s0):=by
 have:=Qjg (F:=F) (len:=l.length) mk I (fun n s=>fin ((l.drop n).foldl f s)) (fun k n s hn hi ih=>by
  obtain ⟨h1,h2⟩:=step k n hn s hi
  rw [h2,ih _ h1,List.drop_eq_getElem_cons hn,List.foldl_cons]) (fun k s hi=>by rw [last k s hi]; simp) fuel 0 s0 (Nat.zero_le _) (by omega) h0
 simpa using this
theorem Qbdj {l m : List Int} (hl : l.Pairwise (· < ·)) (hm : m.Pairwise (· < ·)) (h : ∀ x,x ∈ l ↔ x ∈ m) : l = m:=by
 refine List.Perm.eq_of_pairwise (le:=(· < ·)) (fun a b _ _ h1 h2=>by omega) hl hm ?_
 rw [List.perm_ext_iff_of_nodup (hl.imp fun h=>by omega) (hm.imp fun h=>by omega)]
 exact h
theorem swoI : Go.Sort.SWO Qev:=⟨fun x=>by simp [Qev],fun x y z h1 h2=>by simp [Qev] at *; omega,fun x y z h1 h2=>by simp [Qev] at *; omega⟩
theorem Q70 {l : List Int} (h : l.Nodup) : (Qha Qev l).Pairwise (· < ·) ∧ ∀ x,x ∈ Qha Qev l ↔ x ∈ l:=by
 have hp:=Qh4 Qev l
 refine ⟨?_,fun x=>hp.mem_iff⟩
 have hs:=Qjb swoI l
 have hn:=(hp.nodup_iff).2 h
 exact (hs.and hn).imp fun ⟨h1,h2⟩=>by simp [Qev] at h1; omega
inductive Rch (a : Qb) (ev fr : List Int) : Int → Prop where
 | base {s : Int} : s ∈ fr → Rch a ev fr s
 | step {x : Qe} : Rch a ev fr x.From → x ∈ a.Edges → x.Event ∈ ev → Rch a ev fr x.To
def upto (n : Int) : List Int:=(List.range n.toNat).map fun (i : Nat)=>(i : Int)
theorem Qbep {n x : Int} : x ∈ upto n ↔ 0 ≤ x ∧ x < n:=by
 simp only [upto,List.mem_map,List.mem_range]
 constructor
 ·rintro ⟨i,hi,rfl⟩; omega
 ·rintro ⟨h1,h2⟩; exact ⟨x.toNat,by omega,by omega⟩
theorem Qbh9 (n : Int) : (upto n).Pairwise (· < ·):=by
 unfold upto
 rw [List.pairwise_map]
 exact List.pairwise_lt_range.imp fun h=>by omega
theorem Qny (n : Int) : (upto n).length = n.toNat:=by simp [upto]
theorem Qbje {n : Int} {i : Nat} (h : i < n.toNat) : (upto n)[i]'(by rw [Qny]; exact h) = (i : Int):=by simp [upto]
open Classical in
noncomputable def Qpp (a : Qb) (fr ev : List Int) : List Int:=(upto a.States).filter fun s=>decide (Rch a ev fr s)
theorem Q71 (a : Qb) (fr ev : List Int) : (Qpp a fr ev).Pairwise (· < ·):=(Qbh9 _).filter _
theorem Q5p {a : Qb} {fr ev : List Int} {s : Int} : s ∈ Qpp a fr ev ↔ (0 ≤ s ∧ s < a.States) ∧ Rch a ev fr s:=by
 classical
 simp only [Qpp,List.mem_filter,Qbep,decide_eq_true_eq]
theorem Rch.range {a : Qb} (h : Right a) {ev fr : List Int} (hf : ∀ s ∈ fr,0 ≤ s ∧ s < a.States) {s : Int} (hr : Rch a ev fr s) : 0 ≤ s ∧ s < a.States:=by
 induction hr with
 | base hs=>exact hf _ hs
 | step _ hx _ _=>have:=h.ed0 _ hx; exact ⟨this.2.2.1,this.2.2.2.1⟩
theorem Qer {a : Qb} (h : Right a) {fr ev : List Int} (hf : ∀ s ∈ fr,0 ≤ s ∧ s < a.States) {s : Int} : s ∈ Qpp a fr ev ↔ Rch a ev fr s:=by
 rw [Q5p]; exact ⟨fun h=>h.2,fun hr=>⟨hr.range h hf,hr⟩⟩
theorem Rch.mono {a : Qb} {ev fr fr' : List Int} (hf : ∀ s ∈ fr,Rch a ev fr' s) {s : Int} (hr : Rch a ev fr s) : Rch a ev fr' s:=by
 induction hr with
 | base hs=>exact hf _ hs
 | step _ hx he ih=>exact .step ih hx he
theorem Qbcb {a : Qb} (h : Right a) {fr ev l : List Int} (hf : ∀ s ∈ fr,0 ≤ s ∧ s < a.States) (hl : l.Pairwise (· < ·)) (h1 : ∀ s ∈ l,Rch a ev fr s) (h2 : ∀ s ∈ fr,s ∈ l)
  (h3 : ∀ x ∈ a.Edges,x.From ∈ l → x.Event ∈ ev → x.To ∈ l) : l = Qpp a fr ev:=by
 refine Qbdj hl (Q71 _ _ _) fun x=>?_
 rw [Qer h hf]
 refine ⟨h1 x,fun hr=>?_⟩
 induction hr with
 | base hs=>exact h2 _ hs
 | step _ hx he ih=>exact h3 _ hx ih he
def Qdk (a : Qb) (ev : List Int) : Qb:={ a with Edges:=a.Edges.filter fun x=>decide (x.Event ∈ ev) }
theorem Qlb {a : Qb} (h : Right a) (ev : List Int) : Right (Qdk a ev) :=
 ⟨h.al0,h.al,h.st,h.ma0,h.ma,fun x hx=>h.ed0 x (List.mem_filter.1 hx).1,h.ed.filter _⟩
theorem Qbfo (a : Qb) (ev : List Int) (s : Int) : Qgi (Qdk a ev) s = ((outP a s).filter fun x=>decide (x.Event ∈ ev)).map (·.To):=by
 simp only [Qgi,outP,Qdk,List.filter_filter]
 congr 1
 exact List.filter_congr fun x _=>Bool.and_comm _ _
theorem Qbeq {a : Qb} {s t : Int} : t ∈ Qgi a s ↔ ∃ x ∈ a.Edges,x.From = s ∧ x.To = t:=by
 simp only [Qgi,outP,List.mem_map,List.mem_filter,beq_iff_eq]
 constructor
 ·rintro ⟨x,⟨h1,h2⟩,h3⟩; exact ⟨x,h1,h2,h3⟩
 ·rintro ⟨x,h1,h2,h3⟩; exact ⟨x,⟨h1,h2⟩,h3⟩
theorem Qbcc {a : Qb} (h : Right a) {ev fr o : List Int} (hf : ∀ s ∈ fr,0 ≤ s ∧ s < a.States) (ho : ∀ s,s ∈ o ↔ s ∈ fr) (hn : o.Nodup) :
  Fnd (Qdk a ev) (bfs (Qdk a ev) (a.States.toNat + 1) 0 o) ∧ Qha Qev (bfs (Qdk a ev) (a.States.toNat + 1) 0 o) = Qpp a fr ev:=by
 have hr:=Qlb h ev
 have hfo : Fnd (Qdk a ev) o:=⟨hn,fun s hs=>hf s ((ho s).1 hs)⟩
 obtain ⟨q1,q2,q3⟩:=Qbat hr (a.States.toNat + 1) 0 o hfo (Nat.zero_le _) (by show a.States.toNat + 1 ≤ _; omega) (fun j s hj=>by omega)
 obtain ⟨r1,r2⟩:=Q70 q1.nd
 refine ⟨q1,Qbcb h hf r1 (fun s hs=>?_) (fun s hs=>?_) (fun x hx hfx hex=>?_)⟩
 ·have hs:=(r2 s).1 hs
  refine Q7x (a:=Qdk a ev) (P:=Rch a ev fr) (fun s hs t ht=>?_) _ 0 o (fun s hs=>.base ((ho s).1 hs)) s hs
  obtain ⟨x,hx,rfl,rfl⟩:=Qbeq.1 ht
  obtain ⟨hx,he⟩:=List.mem_filter.1 hx
  exact .step hs hx (by simpa using he)
 ·exact (r2 s).2 (q2.subset ((ho s).2 hs))
 ·exact (r2 _).2 (q3 _ ((r2 _).1 hfx) _ (Qbeq.2 ⟨x,List.mem_filter.2 ⟨hx,by simpa using hex⟩,rfl,rfl⟩))
theorem Q4s : ∀ (ts o : List Int) (x : Int),x ∈ ts.foldl ins o ↔ x ∈ o ∨ x ∈ ts
 | [],o,x=>by simp
 | t :: ts,o,x=>by
  simp only [List.foldl_cons,Q4s ts,Q5m,List.mem_cons]
  constructor
  ·rintro ((h | h) | h)
   ·exact .inl h
   ·exact .inr (.inl h)
   ·exact .inr (.inr h)
  ·rintro (h | h | h)
   ·exact .inl (.inl h)
   ·exact .inl (.inr h)
   ·exact .inr h
end Go.Abs
end
section
namespace Go.Abs
open Go
set_option linter.unusedSimpArgs false
set_option linter.unusedVariables false
def Qes (a : Qb) (onto : List Int) : List Int:=a.Alphabet.filter fun x=>decide (x ∈ onto)
def Qdq (a : Qb) (onto : List Int) : List Int:=a.Alphabet.filter fun x=>!decide (x ∈ onto)
def Q8n (a : Qb) : List (List Qe):=(upto a.States).map (outP a)
def obsP (a : Qb) (onto : List Int) : Qj:=⟨Q8n a,Qes a onto,Qdq a onto,a.Marked⟩
theorem Q4t (a : Qb) : (Q8n a).length = a.States.toNat:=by simp [Q8n,Qny]
theorem Qbcd (a : Qb) {s : Nat} (h : s < a.States.toNat) : (Q8n a)[s]? = some (outP a (s : Int)):=by
 simp only [Q8n,upto,List.getElem?_map,List.getElem?_range h,Option.map_some]
theorem Qber {a : Qb} {s : Int} (h : 0 ≤ s ∧ s < a.States) : getO (Q8n a) s = some (outP a s):=by
 rw [Qjf]
 refine ⟨h.1,?_⟩
 rw [Qbcd a (by omega)]
 congr 2; omega
theorem Q5q (onto : List Int) : ∀ (l k e : List Int),l.foldl (fun (s : List Int × List Int) x=>if x ∈ onto then (s.1 ++ [x],s.2) else (s.1,s.2 ++ [x])) (k,e) = (k ++ l.filter (fun x=>decide (x ∈ onto)),e ++ l.filter fun x=>!decide (x ∈ onto))
 | [],k,e=>by simp
 | x :: l,k,e=>by
  rw [List.foldl_cons]
  by_cases hx : x ∈ onto
  ·rw [if_pos hx,Q5q onto l]; simp [hx]
  ·rw [if_neg hx,Q5q onto l]; simp [hx]
theorem Qbfp {a : Qb} (h : Right a) {onto : List Int} (ho : onto.length < big) : Qee a onto = some (obsP a onto):=by
 have hs:=h.small
 have hst:=h.st
 unfold Qee Q8
 refine Qqy (x:=List.replicate a.States.toNat []) (by unfold mkO; rw [if_pos ⟨hst.1,by unfold lim; omega⟩]) ?_
 refine Qqy (x:=Q8n a) ?_ ?_
 ·refine (Qjg (len:=a.Edges.length) (fun n (c : List (List Qe))=>((n : Int),c)) (fun n c=>c.length = a.States.toNat ∧ ∀ s : Nat,s < a.States.toNat → c[s]? = some ((a.Edges.take n).filter fun x=>x.From == (s : Int))) (fun n c=>some (Q8n a)) ?_ ?_ Qbn 0 _ (Nat.zero_le _) (by unfold Qbn; omega) ⟨by simp,fun s hs=>by simp [hs]⟩)
  ·intro k n c hn ⟨i1,i2⟩ ih
   have he:=h.ed0 _ (List.getElem_mem hn)
   dsimp only
   rw [if_pos (by omega),Qcf hn]
   simp only [Option.bind_some]
   have hin : inO (Int.toNat a.States) a.Edges[n].From = some ():=by unfold inO; rw [if_pos ⟨he.1,by omega⟩]
   have hto : ((a.Edges[n].From.toNat : Nat) : Int) = a.Edges[n].From:=by omega
   have hg : getO c a.Edges[n].From = some ((a.Edges.take n).filter fun x=>x.From == a.Edges[n].From):=by
    rw [Qjf]; refine ⟨he.1,?_⟩
    rw [i2 _ (by omega),hto]
   have hfl : ((a.Edges.take n).filter fun x=>x.From == a.Edges[n].From).length ≤ a.Edges.length:=Nat.le_trans (List.length_filter_le _ _) (by rw [List.length_take]; omega)
   rw [hin,hg]
   simp only [Option.bind_some]
   rw [Qdn (by simp only [List.length_cons,List.length_nil]; unfold lim; omega)]
   simp only [Option.bind_some]
   unfold setO
   rw [if_pos ⟨he.1,by omega⟩,Qbj (by omega)]
   simp only [Option.bind_some]
   refine ih _ ⟨by simp [i1],fun s hs=>?_⟩
   rw [List.getElem?_set,List.take_succ_eq_append_getElem hn,List.filter_append]
   split
   ·rename_i hss
    subst hss
    rw [if_pos (by omega),hto]
    simp
   ·rename_i hss
    have : ¬ a.Edges[n].From = (s : Int):=by omega
    rw [i2 s hs]
    simp [this]
  ·intro k c ⟨i1,i2⟩
   dsimp only
   rw [if_neg (by omega)]
   congr 1
   refine List.ext_getElem? fun s=>?_
   by_cases hs : s < a.States.toNat
   ·rw [i2 s hs,Qbcd a hs,List.take_length]; rfl
   ·rw [List.getElem?_eq_none (by omega),List.getElem?_eq_none (by rw [Q4t]; omega)]
 ·refine Qqy (x:=([],[],[],[],Qes a onto,Qdq a onto)) ?_ ?_
  ·refine (Qbfn (l:=a.Alphabet) (fun n (s : List Int × List Int)=>((n : Int),[],[],[],[],s.1,s.2)) (fun (s : List Int × List Int) x=>if x ∈ onto then (s.1 ++ [x],s.2) else (s.1,s.2 ++ [x])) (fun s=>some ([],[],[],[],s.1,s.2)) (fun n s=>s.1.length ≤ n ∧ s.2.length ≤ n) ?_ ?_ (by unfold Qbn; omega) ([],[]) ⟨by simp,by simp⟩).trans ?_
   ·intro k n hn s ⟨i1,i2⟩
    by_cases hx : a.Alphabet[n] ∈ onto
    ·rw [if_pos hx]
     refine ⟨⟨by simp; omega,by simp; omega⟩,?_⟩
     dsimp only
     rw [if_pos (by omega),Qcf hn]
     simp only [Option.bind_some]
     rw [Qpn ho]
     simp only [Option.bind_some,hx,decide_true,if_true]
     rw [Qdn (by simp only [List.length_cons,List.length_nil]; unfold lim; omega),Qbj (by omega)]
     rfl
    ·rw [if_neg hx]
     refine ⟨⟨by simp; omega,by simp; omega⟩,?_⟩
     dsimp only
     rw [if_pos (by omega),Qcf hn]
     simp only [Option.bind_some]
     rw [Qpn ho]
     simp only [Option.bind_some,hx,decide_false,Bool.false_eq_true,if_false]
     rw [Qdn (by simp only [List.length_cons,List.length_nil]; unfold lim; omega),Qbj (by omega)]
     rfl
   ·intro k s _
    dsimp only
    rw [if_neg (by omega)]
   ·rw [Q5q]; rfl
  ·dsimp only
   unfold lenO
   rw [if_pos (by rw [Q4t])]
   rfl
structure Seen (n : Nat) (l : List Int) (c : List Bool) : Prop where
 len : c.length = n
 at1 : ∀ s : Nat,s < n → c[s]? = some (decide ((s : Int) ∈ l))
theorem Seen.start (n : Nat) : Seen n [] (List.replicate n false):=⟨by simp,fun s hs=>by simp [hs]⟩
theorem Qbj2 {n : Nat} {l : List Int} {c : List Bool} (h : Seen n l c) {x : Int} (hx : 0 ≤ x ∧ x < n) (hl : l.length < big) : ∃ c',Q2 x c l = some (c',ins l x) ∧ Seen n (ins l x) c':=by
 have hg : getO c x = some (decide (x ∈ l)):=by
  rw [Qjf]; refine ⟨hx.1,?_⟩
  rw [h.at1 _ (by omega)]; congr 2; rw [show ((x.toNat : Nat) : Int) = x from by omega]
 unfold Q2 Q1
 have hin : inO c.length x = some ():=by unfold inO; rw [if_pos ⟨hx.1,by rw [h.len]; omega⟩]
 rw [hin,hg]
 simp only [Option.bind_some]
 by_cases hm : x ∈ l
 ·rw [if_pos (by simp [hm])]
  exact ⟨c,by simp [ins,hm],by simpa [ins,hm] using h⟩
 ·rw [if_neg (by simp [hm])]
  unfold setO
  rw [if_pos ⟨hx.1,by rw [h.len]; omega⟩]
  simp only [Option.bind_some]
  rw [Qdn (by simp only [List.length_cons,List.length_nil]; unfold big at hl; unfold lim; omega)]
  refine ⟨c.set x.toNat true,by simp [ins,hm],?_⟩
  simp only [ins,hm,if_false]
  refine ⟨by simp [h.len],fun s hs=>?_⟩
  rw [List.getElem?_set]
  split
  ·rename_i e; subst e
   rw [if_pos (by rw [h.len]; exact hs)]
   simp; omega
  ·rename_i e
   rw [h.at1 s hs]
   have : ¬ (s : Int) = x:=by omega
   simp [this]
theorem Qbes {a : Qb} (h : Right a) {onto fr ev : List Int} (hf : ∀ s ∈ fr,0 ≤ s ∧ s < a.States) (hfl : fr.length < big) (hev : ev.length < big) :
  Qcs (obsP a onto) fr ev = some (Qpp a fr ev):=by
 have hst:=h.st
 have hsm:=h.small
 have hr:=Qlb h ev
 have hlen : ((obsP a onto).out_.length : Int) = a.States:=by show ((Q8n a).length : Int) = _; rw [Q4t]; omega
 unfold Qcs Qr
 rw [hlen]
 refine Qqy (x:=List.replicate a.States.toNat false) (by unfold mkO; rw [if_pos ⟨hst.1,by unfold lim; omega⟩]) ?_
 have hF0 : Fnd (Qdk a ev) (fr.foldl ins []):=(Qsn (a:=Qdk a ev) ⟨by simp,by simp⟩ hf).1
 have hlo : ∀ {o : List Int},Fnd (Qdk a ev) o → o.length ≤ a.States.toNat:=fun h=>h.len
 -- what is given
 obtain ⟨c1,hc1,h1⟩ : ∃ c1,Seen a.States.toNat (fr.foldl ins []) c1 ∧ Qcn (fun (k9 : Int × List Int × List Bool → Option (List Int × List Bool)) ((x6,l7,c8) : Int × (List Int) × (List Bool))=>(if (x6 < (fr.length : Int)) then ((getO fr x6).bind fun x11=>((lenO c8 (Int.toNat a.States)).bind fun _=>((Q2 x11 c8 l7).bind fun (c14,c15)=>k9 ((IntKind.wrap .i64 (x6 + 1)),c15,c14)))) else some (l7,c8))) Qbn (0,[],List.replicate a.States.toNat false) = some (fr.foldl ins [],c1):=by
  have:=Qei (F:=fun (k9 : Int × List Int × List Bool → Option (List Int × List Bool)) ((x6,l7,c8) : Int × (List Int) × (List Bool))=>(if (x6 < (fr.length : Int)) then ((getO fr x6).bind fun x11=>((lenO c8 (Int.toNat a.States)).bind fun _=>((Q2 x11 c8 l7).bind fun (c14,c15)=>k9 ((IntKind.wrap .i64 (x6 + 1)),c15,c14)))) else some (l7,c8)))
   (fun x=>∃ n : Nat,x.1 = (n : Int) ∧ n ≤ fr.length ∧ Fnd (Qdk a ev) x.2.1 ∧ Seen a.States.toNat x.2.1 x.2.2 ∧ (fr.drop n).foldl ins x.2.1 = fr.foldl ins []) (fun x=>fr.length - x.1.toNat)
   (fun x r=>∃ c1,Seen a.States.toNat (fr.foldl ins []) c1 ∧ r = some (fr.foldl ins [],c1)) (by
    rintro k ⟨_,l,c⟩ ⟨n,rfl,hn,hF,hS,he⟩ ih
    replace hF : Fnd (Qdk a ev) l:=hF
    replace hS : Seen a.States.toNat l c:=hS
    have hll:=hlo hF
    dsimp only at he ⊢
    by_cases hlt : n < fr.length
    ·rw [if_pos (by omega),Qcf hlt]
     simp only [Option.bind_some]
     have hx:=hf _ (List.getElem_mem hlt)
     obtain ⟨c',hadd,hS'⟩:=Qbj2 hS (x:=fr[n]) ⟨hx.1,by omega⟩ (by unfold big; omega)
     unfold lenO
     rw [if_pos hS.len]
     simp only [Option.bind_some]
     rw [hadd]
     simp only [Option.bind_some]
     rw [Qbj (by unfold big at hfl; omega)]
     rw [List.drop_eq_getElem_cons hlt,List.foldl_cons] at he
     exact ih _ ⟨n + 1,rfl,by omega,hF.ins hx,hS',he⟩ (by simp only; omega)
    ·rw [if_neg (by omega)]
     have : fr.drop n = []:=List.drop_eq_nil_of_le (by omega)
     rw [this] at he
     exact ⟨c,by rw [← he]; exact hS,by rw [← he]; rfl⟩) Qbn (0,[],List.replicate a.States.toNat false) ⟨0,rfl,by omega,⟨by simp,by simp⟩,Seen.start _,rfl⟩ (by simp only [Int.toNat_zero]; unfold Qbn; unfold big at hfl; omega)
  exact this
 refine Qqy h1 ?_
 dsimp only
 -- the search
 obtain ⟨c2,h2⟩ : ∃ c2,Qcn (fun (k22 : Int × List Int × List Bool → Option (List Int × List Bool)) ((i19,l20,c21) : Int × (List Int) × (List Bool))=>(if (i19 < (l20.length : Int)) then ((((getO l20 i19).bind fun x24=>((getO (obsP a onto).out_ x24).bind fun x26=>Qcn (fun (k31 : Int × List Int × List Bool → Option (List Int × List Bool)) ((x28,l29,c30) : Int × (List Int) × (List Bool))=>(if (x28 < (x26.length : Int)) then ((((getO x26 x28).bind fun x33=>((Q5 ev x33.Event).bind fun x36=>(if x36 then ((lenO c30 (Int.toNat a.States)).bind fun _=>((Q2 x33.To c30 l29).bind fun (c39,c40)=>some (c40,c39,x33.From,x33.Event,x33.To))) else some (l29,c30,x33.From,x33.Event,x33.To))))).bind fun ((l42,c43,c44,c45,c46) : (List Int) × (List Bool) × Int × Int × Int)=>k31 ((IntKind.wrap .i64 (x28 + 1)),l42,c43)) else some (l29,c30))) Qbn (0,l20,c21)))).bind fun ((l47,c48) : (List Int) × (List Bool))=>k22 ((IntKind.wrap .i64 (i19 + 1)),l47,c48)) else some (l20,c21))) Qbn (0,fr.foldl ins [],c1) = some (bfs (Qdk a ev) (a.States.toNat + 1) 0 (fr.foldl ins []),c2):=by
  have:=Qei (F:=fun (k22 : Int × List Int × List Bool → Option (List Int × List Bool)) ((i19,l20,c21) : Int × (List Int) × (List Bool))=>(if (i19 < (l20.length : Int)) then ((((getO l20 i19).bind fun x24=>((getO (obsP a onto).out_ x24).bind fun x26=>Qcn (fun (k31 : Int × List Int × List Bool → Option (List Int × List Bool)) ((x28,l29,c30) : Int × (List Int) × (List Bool))=>(if (x28 < (x26.length : Int)) then ((((getO x26 x28).bind fun x33=>((Q5 ev x33.Event).bind fun x36=>(if x36 then ((lenO c30 (Int.toNat a.States)).bind fun _=>((Q2 x33.To c30 l29).bind fun (c39,c40)=>some (c40,c39,x33.From,x33.Event,x33.To))) else some (l29,c30,x33.From,x33.Event,x33.To))))).bind fun ((l42,c43,c44,c45,c46) : (List Int) × (List Bool) × Int × Int × Int)=>k31 ((IntKind.wrap .i64 (x28 + 1)),l42,c43)) else some (l29,c30))) Qbn (0,l20,c21)))).bind fun ((l47,c48) : (List Int) × (List Bool))=>k22 ((IntKind.wrap .i64 (i19 + 1)),l47,c48)) else some (l20,c21)))
   (fun x=>∃ i : Nat,x.1 = (i : Int) ∧ i ≤ x.2.1.length ∧ Fnd (Qdk a ev) x.2.1 ∧ Seen a.States.toNat x.2.1 x.2.2) (fun x=>a.States.toNat + 1 - x.1.toNat)
   (fun x r=>∃ c2,r = some (bfs (Qdk a ev) (a.States.toNat + 1 - x.1.toNat) x.1.toNat x.2.1,c2)) (by
    rintro k ⟨_,l,c⟩ ⟨i,rfl,hi,hF,hS⟩ ih
    replace hi : i ≤ l.length:=hi
    replace hF : Fnd (Qdk a ev) l:=hF
    replace hS : Seen a.States.toNat l c:=hS
    have hll:=hlo hF
    dsimp only
    by_cases hlt : i < l.length
    ·rw [if_pos (by omega),Qcf hlt]
     have hx:=hF.rg _ (List.getElem_mem hlt)
     have hx : 0 ≤ l[i] ∧ l[i] < a.States:=hx
     simp only [Option.bind_some]
     rw [show getO (obsP a onto).out_ l[i] = _ from Qber hx]
     simp only [Option.bind_some]
     have hlo2 : (outP a l[i]).length ≤ a.Edges.length:=List.length_filter_le _ _
     obtain ⟨c',hF',hS',hin⟩ : ∃ c',Fnd (Qdk a ev) ((Qgi (Qdk a ev) l[i]).foldl ins l) ∧ Seen a.States.toNat ((Qgi (Qdk a ev) l[i]).foldl ins l) c' ∧ Qcn (fun (k31 : Int × List Int × List Bool → Option (List Int × List Bool)) ((x28,l29,c30) : Int × (List Int) × (List Bool))=>(if (x28 < ((outP a l[i]).length : Int)) then ((((getO (outP a l[i]) x28).bind fun x33=>((Q5 ev x33.Event).bind fun x36=>(if x36 then ((lenO c30 (Int.toNat a.States)).bind fun _=>((Q2 x33.To c30 l29).bind fun (c39,c40)=>some (c40,c39,x33.From,x33.Event,x33.To))) else some (l29,c30,x33.From,x33.Event,x33.To))))).bind fun ((l42,c43,c44,c45,c46) : (List Int) × (List Bool) × Int × Int × Int)=>k31 ((IntKind.wrap .i64 (x28 + 1)),l42,c43)) else some (l29,c30))) Qbn (0,l,c) = some ((Qgi (Qdk a ev) l[i]).foldl ins l,c'):=by
      rw [Qbfo]
      have:=Qei (F:=fun (k31 : Int × List Int × List Bool → Option (List Int × List Bool)) ((x28,l29,c30) : Int × (List Int) × (List Bool))=>(if (x28 < ((outP a l[i]).length : Int)) then ((((getO (outP a l[i]) x28).bind fun x33=>((Q5 ev x33.Event).bind fun x36=>(if x36 then ((lenO c30 (Int.toNat a.States)).bind fun _=>((Q2 x33.To c30 l29).bind fun (c39,c40)=>some (c40,c39,x33.From,x33.Event,x33.To))) else some (l29,c30,x33.From,x33.Event,x33.To))))).bind fun ((l42,c43,c44,c45,c46) : (List Int) × (List Bool) × Int × Int × Int)=>k31 ((IntKind.wrap .i64 (x28 + 1)),l42,c43)) else some (l29,c30)))
       (fun x=>∃ n : Nat,x.1 = (n : Int) ∧ n ≤ (outP a l[i]).length ∧ Fnd (Qdk a ev) x.2.1 ∧ Seen a.States.toNat x.2.1 x.2.2 ∧ ((((outP a l[i]).drop n).filter fun x=>decide (x.Event ∈ ev)).map (·.To)).foldl ins x.2.1 = (((outP a l[i]).filter fun x=>decide (x.Event ∈ ev)).map (·.To)).foldl ins l) (fun x=>(outP a l[i]).length - x.1.toNat)
       (fun x r=>∃ c1,Fnd (Qdk a ev) ((((outP a l[i]).filter fun x=>decide (x.Event ∈ ev)).map (·.To)).foldl ins l) ∧ Seen a.States.toNat ((((outP a l[i]).filter fun x=>decide (x.Event ∈ ev)).map (·.To)).foldl ins l) c1 ∧ r = some ((((outP a l[i]).filter fun x=>decide (x.Event ∈ ev)).map (·.To)).foldl ins l,c1)) (by
        rintro k ⟨_,l2,c2⟩ ⟨n,rfl,hn,hF,hS,he⟩ ih
        replace hF : Fnd (Qdk a ev) l2:=hF
        replace hS : Seen a.States.toNat l2 c2:=hS
        have hll:=hlo hF
        dsimp only at he ⊢
        by_cases hlt2 : n < (outP a l[i]).length
        ·rw [if_pos (by omega),Qcf hlt2]
         simp only [Option.bind_some]
         rw [Qpn hev]
         rw [List.drop_eq_getElem_cons hlt2,List.filter_cons] at he
         have hed : (outP a l[i])[n] ∈ a.Edges:=(List.mem_filter.1 (List.getElem_mem hlt2)).1
         have hto:=(h.ed0 _ hed).2.2
         by_cases hx : (outP a l[i])[n].Event ∈ ev
         ·simp only [Option.bind_some,hx,decide_true,if_true] at he ⊢
          obtain ⟨c',hadd,hS'⟩:=Qbj2 hS (x:=(outP a l[i])[n].To) ⟨hto.1,by omega⟩ (by unfold big; omega)
          unfold lenO
          rw [if_pos hS.len]
          simp only [Option.bind_some]
          rw [hadd]
          simp only [Option.bind_some]
          rw [Qbj (by omega)]
          exact ih _ ⟨n + 1,rfl,by omega,hF.ins ⟨hto.1,hto.2.1⟩,hS',he⟩ (by simp only; omega)
         ·simp only [Option.bind_some,hx,decide_false,Bool.false_eq_true,if_false] at he ⊢
          rw [Qbj (by omega)]
          exact ih _ ⟨n + 1,rfl,by omega,hF,hS,he⟩ (by simp only; omega)
        ·rw [if_neg (by omega)]
         have : (outP a l[i]).drop n = []:=List.drop_eq_nil_of_le (by omega)
         rw [this] at he
         simp only [List.filter_nil,List.map_nil,List.foldl_nil] at he
         exact ⟨c2,by rw [← he]; exact hF,by rw [← he]; exact hS,by rw [← he]⟩) Qbn (0,l,c) ⟨0,rfl,Nat.zero_le _,hF,hS,rfl⟩ (by simp only [Int.toNat_zero]; unfold Qbn; omega)
      exact this
     rw [hin]
     simp only [Option.bind_some]
     rw [Qbj (by omega)]
     have hpre:=(Qsn hF (Qv1 hr l[i])).2.1
     obtain ⟨c3,hc3⟩:=ih ((i + 1 : Nat),_,c') ⟨i + 1,rfl,by have:=hpre.length_le; simp only; omega,hF',hS'⟩ (by simp only; omega)
     refine ⟨c3,hc3.trans ?_⟩
     simp only [Int.toNat_natCast]
     rw [show a.States.toNat + 1 - i = (a.States.toNat + 1 - (i + 1)) + 1 from by omega,Qbel hlt]
    ·rw [if_neg (by omega)]
     obtain rfl : i = l.length:=by omega
     exact ⟨c,by simp only [Int.toNat_natCast,Qbh3]⟩) Qbn (0,fr.foldl ins [],c1) ⟨0,rfl,Nat.zero_le _,hF0,hc1⟩ (by simp only [Int.toNat_zero]; unfold Qbn; omega)
  simpa using this
 refine Qqy h2 ?_
 dsimp only
 obtain ⟨q1,q2⟩:=Qbcc h (ev:=ev) hf (o:=fr.foldl ins []) (fun s=>by rw [Q4s]; simp) hF0.nd
 have hql:=hlo q1
 unfold sortI
 rw [if_pos (by unfold lim; omega),q2]
 rfl
end Go.Abs
end
section
namespace Go.Abs
open Go
set_option linter.unusedSimpArgs false
set_option linter.unusedVariables false
def Qib (a : Qb) (est : List Int) (e : Int) : List Int:=est.flatMap fun s=>((outP a s).filter fun x=>x.Event == e).map (·.To)
noncomputable def Qej (a : Qb) (onto est : List Int) (e : Int) : List Int:=Qpp a (Qib a est e) (Qdq a onto)
noncomputable def Qj9 (a : Qb) (onto : List Int) : List Int:=if a.States = 0 then [] else Qpp a [0] (Qdq a onto)
structure Sts (a : Qb) (l : List Int) : Prop where
 rg : ∀ s ∈ l,0 ≤ s ∧ s < a.States
 so : l.Pairwise (· < ·)
theorem Sts.len {a : Qb} {l : List Int} (h : Sts a l) : l.length ≤ a.States.toNat:=by
 have:=Qfv (a:=0) (b:=a.States) h.so h.rg; omega
theorem Q9m (a : Qb) (fr ev : List Int) : Sts a (Qpp a fr ev):=⟨fun s hs=>(Q5p.1 hs).1,Q71 _ _ _⟩
theorem Q72 (a : Qb) (onto est : List Int) (e : Int) : Sts a (Qej a onto est e):=Q9m _ _ _
theorem Q0s (a : Qb) (onto : List Int) : Sts a (Qj9 a onto):=by
 unfold Qj9; split
 ·exact ⟨by simp,by simp⟩
 ·exact Q9m _ _ _
theorem Qjh {a : Qb} {est : List Int} {e t : Int} : t ∈ Qib a est e ↔ ∃ x ∈ a.Edges,x.From ∈ est ∧ x.Event = e ∧ x.To = t:=by
 simp only [Qib,outP,List.mem_flatMap,List.mem_map,List.mem_filter,beq_iff_eq]
 constructor
 ·rintro ⟨s,hs,x,⟨⟨h1,h2⟩,h3⟩,h4⟩; exact ⟨x,h1,by rw [h2]; exact hs,h3,h4⟩
 ·rintro ⟨x,h1,h2,h3,h4⟩; exact ⟨x.From,h2,x,⟨⟨h1,rfl⟩,h3⟩,h4⟩
theorem Qff {a : Qb} (h : Right a) {est : List Int} {e : Int} : ∀ s ∈ Qib a est e,0 ≤ s ∧ s < a.States:=by
 intro s hs
 obtain ⟨x,hx,_,_,rfl⟩:=Qjh.1 hs
 exact ⟨(h.ed0 x hx).2.2.1,(h.ed0 x hx).2.2.2.1⟩
theorem Qbet {α β : Type} {f : α → List β} {m : Nat} : ∀ {l : List α},(∀ x ∈ l,(f x).length ≤ m) → (l.flatMap f).length ≤ m * l.length
 | [],_=>by simp
 | x :: l,h=>by
  have h1:=h x (by simp)
  have h2:=Qbet (l:=l) fun y hy=>h y (by simp [hy])
  simp only [List.flatMap_cons,List.length_append,List.length_cons,Nat.mul_succ]; omega
theorem Qbk3 (a : Qb) (s e : Int) : ((outP a s).filter fun x=>x.Event == e).length ≤ a.Edges.length:=Nat.le_trans (List.length_filter_le _ _) (List.length_filter_le _ _)
theorem Qbce {a : Qb} (h : Right a) {est : List Int} (hl : est.length ≤ 5000) (e : Int) : (Qib a est e).length ≤ 131072 * 5000:=by
 have:=Qbet (f:=fun s=>((outP a s).filter fun x=>x.Event == e).map (·.To)) (m:=131072) (l:=est) fun s _=>by
  have:=Qbk3 a s e; have:=h.small.2.2.2; rw [List.length_map]; omega
 exact Nat.le_trans this (Nat.mul_le_mul_left _ hl)
theorem Q9n {a : Qb} (h : Right a) (onto : List Int) : (Qdq a onto).length < big:=by
 have:=h.small.2.1
 have : (Qdq a onto).length ≤ a.Alphabet.length:=List.length_filter_le _ _
 unfold big; omega
theorem Qbeu {a : Qb} (h : Right a) (onto : List Int) : (Qes a onto).length ≤ 32:=by
 have:=h.small.2.1
 have : (Qes a onto).length ≤ a.Alphabet.length:=List.length_filter_le _ _
 omega
theorem Qbfq {a : Qb} (h : Right a) {onto est : List Int} (he : ∀ s ∈ est,0 ≤ s ∧ s < a.States) (hl : est.length ≤ 5000) (e : Int) :
  Qdl (obsP a onto) est e = some (Qej a onto est e):=by
 have hsm:=h.small
 have hmax:=Qbce h hl e
 unfold Qdl Qbf
 refine Qqy (x:=Qib a est e) ?_ ?_
 ·refine (Qjg (len:=est.length) (fun n (l : List Int)=>(l,(n : Int))) (fun n l=>l = Qib a (est.take n) e) (fun n l=>some (Qib a est e)) ?_ ?_ Qbn 0 [] (Nat.zero_le _) (by unfold Qbn; omega) (by simp [Qib]))
  ·rintro k n l hn rfl ih
   have hx:=he _ (List.getElem_mem hn)
   dsimp only
   rw [if_pos (by omega),Qcf hn]
   simp only [Option.bind_some]
   rw [show getO (obsP a onto).out_ est[n] = _ from Qber hx]
   simp only [Option.bind_some]
   have hol : (outP a est[n]).length ≤ 131072:=Nat.le_trans (List.length_filter_le _ _) hsm.2.2.2
   have hml : (Qib a (est.take n) e).length ≤ 131072 * 5000:=Qbce h (by rw [List.length_take]; omega) e
   refine Qqy (x:=Qib a (est.take n) e ++ ((outP a est[n]).filter fun x=>x.Event == e).map (·.To)) ?_ ?_
   ·refine (Qjg (len:=(outP a est[n]).length) (fun m (l : List Int)=>(l,(m : Int))) (fun m l=>l = Qib a (est.take n) e ++ (((outP a est[n]).take m).filter fun x=>x.Event == e).map (·.To)) (fun m l=>some (Qib a (est.take n) e ++ ((outP a est[n]).filter fun x=>x.Event == e).map (·.To))) ?_ ?_ Qbn 0 _ (Nat.zero_le _) (by unfold Qbn; omega) (by simp))
    ·rintro k m l hm rfl ih
     dsimp only
     rw [if_pos (by omega),Qcf hm]
     simp only [Option.bind_some]
     have hfl : ((((outP a est[n]).take m).filter fun x=>x.Event == e).map (·.To)).length ≤ 131072:=by
      rw [List.length_map]
      exact Nat.le_trans (List.length_filter_le _ _) (by rw [List.length_take]; omega)
     by_cases hx : (outP a est[n])[m].Event = e
     ·rw [if_pos (by simp [hx]),Qdn (by rw [List.length_append]; simp only [List.length_cons,List.length_nil]; unfold lim; omega)]
      simp only [Option.bind_some]
      rw [Qbj (by omega)]
      refine ih _ ?_
      rw [List.take_succ_eq_append_getElem hm,List.filter_append,List.map_append,List.append_assoc]
      simp [hx]
     ·rw [if_neg (by simp [hx])]
      simp only [Option.bind_some]
      rw [Qbj (by omega)]
      refine ih _ ?_
      rw [List.take_succ_eq_append_getElem hm,List.filter_append,List.map_append]
      simp [hx]
    ·rintro k l rfl
     dsimp only
     rw [if_neg (by omega),List.take_length]
   ·rw [Qbj (by omega)]
    refine ih _ ?_
    rw [List.take_succ_eq_append_getElem hn]
    simp only [Qib,List.flatMap_append,List.flatMap_cons,List.flatMap_nil,List.append_nil]
  ·rintro k l rfl
   dsimp only
   rw [if_neg (by omega),List.take_length]
 ·rw [show (obsP a onto).erased_ = Qdq a onto from rfl,Qbes h (Qff h) (by unfold big; omega) (Q9n h onto)]
  rfl
theorem Qbjf {a : Qb} (h : Right a) (onto : List Int) : Qde (obsP a onto) = some (Qj9 a onto):=by
 have hst:=h.st
 unfold Qde Qbb
 have hlen : ((obsP a onto).out_.length : Int) = a.States:=by show ((Q8n a).length : Int) = _; rw [Q4t]; omega
 rw [hlen]
 unfold Qj9
 by_cases h0 : a.States = 0
 ·rw [if_pos (by simp [h0]),if_pos h0]
 ·rw [if_neg (by simp [h0]),if_neg h0,show (obsP a onto).erased_ = Qdq a onto from rfl,Qbes h (fun s hs=>by simp at hs; subst hs; omega) (by unfold big; simp) (Q9n h onto)]
  rfl
theorem Qbdk {a : Qb} (h : Right a) {onto est : List Int} (hl : est.length < big) : Qcx (obsP a onto) est = some (est.any fun x=>decide (x ∈ a.Marked)):=by
 have hm:=h.small.2.2.1
 unfold Qcx Q4
 rw [Q7v (p:=fun x=>decide (x ∈ a.Marked)) (fun x=>by
  unfold Qdj Qz
  rw [show (obsP a onto).marked_ = a.Marked from rfl,Qpn (by unfold big; omega)]; rfl) hl]
 rfl
theorem Qbcf {l : List Int} {n : Int} (hl : l.length < big) : Qg3 l n = some (Qe2 n none l):=Q3q hl
theorem Qbia {a : Qb} (h : small a) {ev : List Int} (hl : ev.length < big) : Qdd a ev = some (if Qvy a = 0 then Qe2 32 none ev else Qvy a):=by
 unfold Qdd Qx
 rw [Qbja h]
 simp only [Option.bind_some]
 by_cases h0 : Qvy a = 0
 ·rw [if_neg (by simp [h0]),if_pos h0,Qbcf hl]; rfl
 ·rw [if_pos (by simp [h0]),if_neg h0]
theorem Qbcg {a : Qb} (h : Right a) {ev : List Int} (hl : ev.length < big) : Qdd a ev = some (Qe2 32 none ev):=by
 rw [Qbia h.small.1 hl,if_pos (Qbh1.2 h)]
structure EvSet (l : List Int) : Prop where
 rg : ∀ x ∈ l,0 ≤ x ∧ x < 32
 so : l.Pairwise (· < ·)
theorem EvSet.err {l : List Int} (h : EvSet l) : Qe2 32 none l = 0:=Qh9.2 ⟨h.rg,h.so,fun y hy=>by cases hy⟩
theorem EvSet.len {l : List Int} (h : EvSet l) : l.length ≤ 32:=by have:=Qfv (a:=0) (b:=32) h.so h.rg; omega
theorem Evs.set {l : List Int} (h : Evs l) : EvSet l:=⟨fun x hx=>by have:=h.rg x hx; omega,h.so⟩
theorem Qbib {l : List Int} {N : Nat} (hn : l.Nodup) (hr : ∀ x ∈ l,0 ≤ x ∧ x < N) : l.length ≤ N:=by
 obtain ⟨h1,h2⟩:=Q70 hn
 have:=Qfv (a:=0) (b:=N) h1 fun x hx=>hr x ((h2 x).1 hx)
 rw [Qg9] at this; omega
end Go.Abs
end
section
namespace Go.Abs
open Go
set_option linter.unusedSimpArgs false
set_option linter.unusedVariables false
theorem bytes_beq (a b : ByteArray) : (a == b) = decide (a = b):=by
 cases a; cases b
 rw [Bool.eq_iff_iff]
 simp only [decide_eq_true_eq,ByteArray.mk.injEq]
 exact beq_iff_eq (α:=Array UInt8)
theorem Qv9 {x y : Int} (hx : 0 ≤ x ∧ x < 256) (hy : 0 ≤ y ∧ y < 256) (h : x.toNat.toUInt8 = y.toNat.toUInt8) : x = y:=by
 have:=congrArg UInt8.toNat h
 simp only [Nat.toUInt8,UInt8.toNat_ofNat'] at this
 omega
theorem Q52 {r : Int} (h0 : 1 ≤ r) (h1 : r ≤ 50000) :
  (r ≤ 127 ∧ Lib.encodeRuneZ r = [r]) ∨ (128 ≤ r ∧ r ≤ 2047 ∧ Lib.encodeRuneZ r = [192 + r / 64,128 + r % 64]) ∨ (2048 ≤ r ∧ Lib.encodeRuneZ r = [224 + r / 4096,128 + r / 64 % 64,128 + r % 64]):=by
 by_cases h2 : r ≤ 127
 ·exact .inl ⟨h2,Lib.encodeRuneZ_one (by omega) h2⟩
 ·by_cases h3 : r ≤ 2047
  ·exact .inr (.inl ⟨by omega,h3,Lib.encodeRuneZ_two (by omega) h3⟩)
  ·exact .inr (.inr ⟨by omega,Lib.encodeRuneZ_three (.inl ⟨by omega,by omega⟩)⟩)
theorem Qbfr {r q : Int} (hr : 1 ≤ r ∧ r ≤ 50000) (hq : 1 ≤ q ∧ q ≤ 50000) {s t : List UInt8} (h : Lib.encodeRune r ++ s = Lib.encodeRune q ++ t) : r = q ∧ s = t:=by
 unfold Lib.encodeRune at h
 rcases Q52 hr.1 hr.2 with ⟨a1,a2⟩ | ⟨a0,a1,a2⟩ | ⟨a1,a2⟩ <;> rcases Q52 hq.1 hq.2 with ⟨b1,b2⟩ | ⟨b0,b1,b2⟩ | ⟨b1,b2⟩ <;> rw [a2,b2] at h <;>
  simp only [List.map_cons,List.map_nil,List.cons_append,List.nil_append,List.cons.injEq] at h
 ·exact ⟨Qv9 (by omega) (by omega) h.1,h.2⟩
 ·have:=Qv9 (by omega) (by omega) h.1; omega
 ·have:=Qv9 (by omega) (by omega) h.1; omega
 ·have:=Qv9 (by omega) (by omega) h.1; omega
 ·have e1:=Qv9 (by omega) (by omega) h.1
  have e2:=Qv9 (by omega) (by omega) h.2.1
  exact ⟨by omega,h.2.2⟩
 ·have:=Qv9 (by omega) (by omega) h.1; omega
 ·have:=Qv9 (by omega) (by omega) h.1; omega
 ·have:=Qv9 (by omega) (by omega) h.1; omega
 ·have e1:=Qv9 (by omega) (by omega) h.1
  have e2:=Qv9 (by omega) (by omega) h.2.1
  have e3:=Qv9 (by omega) (by omega) h.2.2.1
  exact ⟨by omega,h.2.2.2⟩
theorem Qbch (r : Int) : Lib.encodeRune r ≠ []:=by
 unfold Lib.encodeRune Lib.encodeRuneZ
 split
 ·simp
 ·split
  ·simp
  ·split
   ·simp
   ·split <;> simp
theorem Qbev : ∀ {l m : List Int},(∀ x ∈ l,0 ≤ x ∧ x < 50000) → (∀ x ∈ m,0 ≤ x ∧ x < 50000) → (l.flatMap fun x=>Lib.encodeRune (x + 1)) = (m.flatMap fun x=>Lib.encodeRune (x + 1)) → l = m
 | [],[],_,_,_=>rfl
 | [],y :: m,_,_,h=>by
  simp only [List.flatMap_nil,List.flatMap_cons] at h
  exact absurd (List.append_eq_nil_iff.1 h.symm).1 (Qbch _)
 | x :: l,[],_,_,h=>by
  simp only [List.flatMap_nil,List.flatMap_cons] at h
  exact absurd (List.append_eq_nil_iff.1 h).1 (Qbch _)
 | x :: l,y :: m,hl,hm,h=>by
  simp only [List.flatMap_cons] at h
  have hx:=hl x (by simp); have hy:=hm y (by simp)
  obtain ⟨h1,h2⟩:=Qbfr ⟨by omega,by omega⟩ ⟨by omega,by omega⟩ h
  rw [Qbev (fun z hz=>hl z (by simp [hz])) (fun z hz=>hm z (by simp [hz])) h2,show x = y from by omega]
theorem Qbav {l m : List Int} (hl : ∀ x ∈ l,0 ≤ x ∧ x < 50000) (hm : ∀ x ∈ m,0 ≤ x ∧ x < 50000) (h : keyB l = keyB m) : l = m:=by
 unfold keyB at h
 have h:=congrArg (fun b : ByteArray=>b.data.toList) h
 simp only [List.toList_toArray] at h
 exact Qbev hl hm h
theorem Qbj3 {l : List Int} (hl : l.length ≤ lim) (hx : ∀ x ∈ l,0 ≤ x ∧ x < 50000) : keyS l = some (keyB l):=by
 unfold keyS; rw [if_pos ⟨hl,hx⟩]
structure KM (S : List (List Int)) (c : List (ByteArray × Int)) : Prop where
 has : ∀ n,(∀ x ∈ n,0 ≤ x ∧ x < 50000) → hasM c (keyB n) = decide (n ∈ S)
 get : ∀ n ∈ S,getM c (keyB n) 0 = (S.idxOf n : Int)
 rg : ∀ n ∈ S,∀ x ∈ n,0 ≤ x ∧ x < 50000
theorem Q73 {β : Type} {v : β} {k k' : ByteArray} : ∀ {m : List (ByteArray × β)},hasM (setM m k v) k' = (decide (k' = k) || hasM m k')
 | []=>by simp [setM,hasM,bytes_beq]
 | (q,w) :: m=>by
  have ih:=Q73 (v:=v) (k:=k) (k':=k') (m:=m)
  simp only [setM]
  by_cases h : k = q
  ·subst h
   simp only [bytes_beq,decide_true,if_true,Q7g]
   by_cases h2 : k' = k <;> simp [h2,bytes_beq]
  ·simp only [bytes_beq,h,decide_false,Bool.false_eq_true,if_false,Q7g]
   rw [ih]
   cases decide (k' = q) <;> cases decide (k' = k) <;> rfl
theorem Q74 {β : Type} {z v : β} {k k' : ByteArray} : ∀ {m : List (ByteArray × β)},getM (setM m k v) k' z = if k' = k then v else getM m k' z
 | []=>by simp [setM,getM,bytes_beq]
 | (q,w) :: m=>by
  have ih:=Q74 (z:=z) (v:=v) (k:=k) (k':=k') (m:=m)
  simp only [setM]
  by_cases h : k = q
  ·subst h
   simp only [bytes_beq,decide_true,if_true,getM]
   by_cases h2 : k' = k
   ·subst h2; simp
   ·simp [h2]
  ·simp only [bytes_beq,h,decide_false,Bool.false_eq_true,if_false,getM]
   by_cases h2 : k' = q
   ·subst h2
    have : ¬ k' = k:=fun e=>h e.symm
    simp [this]
   ·simp only [h2,decide_false,Bool.false_eq_true,if_false,ih]
theorem KM.first {n : List Int} (hn : ∀ x ∈ n,0 ≤ x ∧ x < 50000) : KM [n] (setM ([] : List (ByteArray × Int)) (keyB n) 0):=by
 refine ⟨fun m hm=>?_,fun m hm=>?_,fun m hm=>?_⟩
 ·rw [Q73]
  have : hasM ([] : List (ByteArray × Int)) (keyB m) = false:=rfl
  rw [this,Bool.or_false]
  apply decide_eq_decide.2
  rw [List.mem_singleton]
  exact ⟨fun h=>Qbav hm hn h,fun h=>by rw [h]⟩
 ·rw [List.mem_singleton] at hm; subst hm
  rw [Q74,if_pos rfl]; simp
 ·rw [List.mem_singleton] at hm; subst hm; exact hn
theorem KM.add {S : List (List Int)} {c : List (ByteArray × Int)} (h : KM S c) {n : List Int} (hn : ∀ x ∈ n,0 ≤ x ∧ x < 50000) (hm : n ∉ S) : KM (S ++ [n]) (setM c (keyB n) (S.length : Int)):=by
 refine ⟨fun m hm'=>?_,fun m hm'=>?_,fun m hm'=>?_⟩
 ·rw [Q73,h.has m hm',← Bool.decide_or]
  apply decide_eq_decide.2
  rw [List.mem_append,List.mem_singleton]
  constructor
  ·rintro (e | e)
   ·exact .inr (Qbav hm' hn e)
   ·exact .inl e
  ·rintro (e | e)
   ·exact .inr e
   ·exact .inl (by rw [e])
 ·rw [Q74]
  rw [List.mem_append,List.mem_singleton] at hm'
  rcases hm' with hm' | rfl
  ·rw [if_neg (fun e=>hm (by rw [← Qbav (h.rg m hm') hn e]; exact hm')),h.get m hm',List.idxOf_append,if_pos hm']
  ·rw [if_pos rfl,List.idxOf_append,if_neg hm]; simp
 ·rw [List.mem_append,List.mem_singleton] at hm'
  rcases hm' with hm' | rfl
  ·exact h.rg m hm'
  ·exact hn
end Go.Abs
end
section
namespace Go.Abs
open Go
set_option linter.unusedSimpArgs false
set_option linter.unusedVariables false
def insL (o : List (List Int)) (t : List Int) : List (List Int) := if t ∈ o then o else o ++ [t]
noncomputable def Qnz (a : Qb) (onto est : List Int) (l : List Int) : List (Int × List Int) := l.filterMap fun x => if Qej a onto est x = [] then none else some (x, Qej a onto est x)
noncomputable def rowN (a : Qb) (onto est : List Int) : List (Int × List Int) := Qnz a onto est (Qes a onto)
def Qyn (S : List (List Int)) (row : List (Int × List Int)) : List (List Int) := row.foldl (fun o p => insL o p.2) S
def rowE (S : List (List Int)) (i : Nat) (row : List (Int × List Int)) : List Qe := row.map fun p => ⟨(i : Int), p.1, (S.idxOf p.2 : Int)⟩
noncomputable def estB (a : Qb) (onto : List Int) : Nat → List (List Int)
  | 0 => [Qj9 a onto]
  | i + 1 => match (estB a onto i)[i]? with
    | some s => Qyn (estB a onto i) (rowN a onto s)
    | none => estB a onto i
noncomputable def edN (a : Qb) (onto : List Int) (S : List (List Int)) : Nat → List (List Int) → List Qe
  | _, [] => []
  | i, s :: t => rowE S i (rowN a onto s) ++ edN a onto S (i + 1) t
def mkN (a : Qb) : Nat → List (List Int) → List Int
  | _, [] => []
  | i, s :: t => (if s.any (fun x => decide (x ∈ a.Marked)) then [(i : Int)] else []) ++ mkN a (i + 1) t
noncomputable def autN (a : Qb) (onto : List Int) (S : List (List Int)) : Qb := ⟨Qes a onto, (S.length : Int), mkN a 0 S, edN a onto S 0 S⟩
theorem Qbaw {o : List (List Int)} {t x : List Int} : x ∈ insL o t ↔ x ∈ o ∨ x = t := by
  unfold insL; split
  · rename_i h
    exact ⟨.inl, fun e => e.elim id fun e => by rw [e]; exact h⟩
  · simp
theorem Qbew (o : List (List Int)) (t : List Int) : o <+: insL o t := by
  unfold insL; split
  · exact List.prefix_refl o
  · exact List.prefix_append o _
theorem Q9o {o : List (List Int)} (h : o.Nodup) (t : List Int) : (insL o t).Nodup := by
  unfold insL; split
  · exact h
  · rename_i hn
    rw [List.nodup_append]
    exact ⟨h, by simp, fun x hx y hy e => by simp at hy; subst hy; subst e; exact hn hx⟩
theorem Q75 : ∀ (row : List (Int × List Int)) (S : List (List Int)), S <+: Qyn S row
  | [], S => List.prefix_refl S
  | p :: row, S => (Qbew S p.2).trans (Q75 row (insL S p.2))
theorem Q76 : ∀ (row : List (Int × List Int)) {S : List (List Int)}, S.Nodup → (Qyn S row).Nodup
  | [], S, h => h
  | p :: row, S, h => Q76 row (Q9o h p.2)
theorem Q0e : ∀ (row : List (Int × List Int)) (S : List (List Int)) (x : List Int), x ∈ Qyn S row ↔ x ∈ S ∨ ∃ p ∈ row, p.2 = x
  | [], S, x => by simp [Qyn]
  | p :: row, S, x => by
    show x ∈ Qyn (insL S p.2) row ↔ _
    rw [Q0e row, Qbaw]
    simp only [List.mem_cons, exists_eq_or_imp]
    constructor
    · rintro ((h | h) | h)
      · exact .inl h
      · exact .inr (.inl h.symm)
      · exact .inr (.inr h)
    · rintro (h | h | h)
      · exact .inl (.inl h)
      · exact .inl (.inr h.symm)
      · exact .inr h
theorem Qbci : ∀ (row : List (Int × List Int)) (S : List (List Int)), (Qyn S row).length ≤ S.length + row.length
  | [], S => by simp [Qyn]
  | p :: row, S => by
    have := Qbci row (insL S p.2)
    have h2 : (insL S p.2).length ≤ S.length + 1 := by unfold insL; split <;> simp
    show (Qyn (insL S p.2) row).length ≤ _
    simp only [List.length_cons]; omega
theorem Q0f {a : Qb} {onto est l : List Int} {p : Int × List Int} : p ∈ Qnz a onto est l ↔ p.1 ∈ l ∧ p.2 = Qej a onto est p.1 ∧ p.2 ≠ [] := by
  obtain ⟨x, n⟩ := p
  simp only [Qnz, List.mem_filterMap]
  constructor
  · rintro ⟨y, hy, h⟩
    split at h
    · cases h
    · rename_i hne
      cases h; exact ⟨hy, rfl, hne⟩
  · rintro ⟨h1, h2, h3⟩
    refine ⟨x, h1, ?_⟩
    subst h2
    rw [if_neg h3]
theorem Qbcj {a : Qb} {onto est l : List Int} : (Qnz a onto est l).length ≤ l.length := List.length_filterMap_le _ _
theorem Q9p {o F : List (List Int)} (h : o <+: F) {t : List Int} (ht : t ∈ o) : F.idxOf t = o.idxOf t := by
  obtain ⟨r, rfl⟩ := h
  rw [List.idxOf_append, if_pos ht]
structure Ests (a : Qb) (S : List (List Int)) : Prop where
  nd : S.Nodup
  ok : ∀ s ∈ S, Sts a s ∧ s ≠ []
theorem Ests.grow {a : Qb} {S : List (List Int)} (h : Ests a S) (onto est l : List Int) : Ests a (Qyn S (Qnz a onto est l)) := by
  refine ⟨Q76 _ h.nd, fun s hs => ?_⟩
  rcases (Q0e _ _ _).1 hs with hs | ⟨p, hp, rfl⟩
  · exact h.ok s hs
  · obtain ⟨_, h2, h3⟩ := Q0f.1 hp
    exact ⟨by rw [h2]; exact Q72 _ _ _ _, h3⟩
theorem Qbjg {a : Qb} (h : 0 < a.States) (onto : List Int) : Qj9 a onto ≠ [] := by
  unfold Qj9
  rw [if_neg (by omega)]
  intro e
  have : (0 : Int) ∈ Qpp a [0] (Qdq a onto) := Q5p.2 ⟨by omega, .base (by simp)⟩
  rw [e] at this; simp at this
theorem Ests.first {a : Qb} (h : 0 < a.States) (onto : List Int) : Ests a [Qj9 a onto] :=
  ⟨by simp, fun s hs => by simp at hs; subst hs; exact ⟨Q0s _ _, Qbjg h onto⟩⟩
theorem Qso {a : Qb} (h : 0 < a.States) (onto : List Int) : ∀ i, Ests a (estB a onto i)
  | 0 => .first h onto
  | i + 1 => by
    unfold estB
    split
    · exact (Qso h onto i).grow _ _ _
    · exact Qso h onto i
theorem Qbck {a : Qb} {onto : List Int} (i : Nat) : estB a onto i <+: estB a onto (i + 1) := by
  conv => rhs; unfold estB
  split
  · exact Q75 _ _
  · exact List.prefix_refl _
theorem Qbax {a : Qb} {onto : List Int} {i j : Nat} (h : i ≤ j) : estB a onto i <+: estB a onto j := by
  induction j with
  | zero => obtain rfl : i = 0 := by omega
            exact List.prefix_refl _
  | succ j ih =>
    rcases Nat.lt_or_ge i (j + 1) with hlt | hge
    · exact (ih (by omega)).trans (Qbck j)
    · obtain rfl : i = j + 1 := by omega
      exact List.prefix_refl _
theorem Qbjh {a : Qb} {onto : List Int} {i j : Nat} (hij : i < j) {s : List Int} (hs : (estB a onto j)[i]? = some s) (hlt : i < (estB a onto i).length) : ∀ p ∈ rowN a onto s, p.2 ∈ estB a onto (i + 1) := by
  intro p hp
  have h1 : (estB a onto i)[i]? = some s := by
    rw [← hs]
    obtain ⟨r, hr⟩ := Qbax (a := a) (onto := onto) (Nat.le_of_lt hij)
    rw [← hr, List.getElem?_append_left hlt]
  unfold estB
  rw [h1]
  exact (Q0e _ _ _).2 (.inr ⟨p, hp, rfl⟩)
theorem Q9q {a : Qb} {onto : List Int} {S : List (List Int)} : ∀ (l m : List (List Int)) (i : Nat), edN a onto S i (l ++ m) = edN a onto S i l ++ edN a onto S (i + l.length) m
  | [], m, i => by simp [edN]
  | s :: l, m, i => by
    simp only [List.cons_append, edN, Q9q l m, List.length_cons, List.append_assoc]
    rw [show i + 1 + l.length = i + (l.length + 1) from by omega]
theorem Q9r {a : Qb} : ∀ (l m : List (List Int)) (i : Nat), mkN a i (l ++ m) = mkN a i l ++ mkN a (i + l.length) m
  | [], m, i => by simp [mkN]
  | s :: l, m, i => by
    simp only [List.cons_append, mkN, Q9r l m, List.length_cons, List.append_assoc]
    rw [show i + 1 + l.length = i + (l.length + 1) from by omega]
theorem Qbic {a : Qb} {onto : List Int} {S T : List (List Int)} (h : S <+: T) : ∀ (l : List (List Int)) (i : Nat), (∀ s ∈ l, ∀ p ∈ rowN a onto s, p.2 ∈ S) → edN a onto T i l = edN a onto S i l
  | [], i, _ => rfl
  | s :: l, i, hl => by
    simp only [edN]
    rw [Qbic h l (i + 1) fun t ht => hl t (by simp [ht])]
    congr 1
    refine List.map_congr_left fun p hp => ?_
    rw [Q9p h (hl s (by simp) p hp)]
theorem Qbid {a : Qb} (h : Right a) {onto : List Int} {S : List (List Int)} : ∀ (l : List (List Int)) (i : Nat), (edN a onto S i l).length ≤ 32 * l.length
  | [], i => by simp [edN]
  | s :: l, i => by
    have := Qbid h (onto := onto) (S := S) l (i + 1)
    have h1 : (rowN a onto s).length ≤ (Qes a onto).length := Qbcj
    have h2 := Qbeu h onto
    simp only [edN, rowE, List.length_append, List.length_map, List.length_cons]; omega
theorem Qbie {a : Qb} : ∀ (l : List (List Int)) (i : Nat), (mkN a i l).length ≤ l.length
  | [], i => by simp [mkN]
  | s :: l, i => by
    have := Qbie (a := a) l (i + 1)
    simp only [mkN, List.length_append, List.length_cons]
    split <;> simp <;> omega
theorem Sts.lt {a : Qb} (h : Right a) {l : List Int} (hl : Sts a l) : ∀ x ∈ l, 0 ≤ x ∧ x < 50000 := fun x hx => by
  have := hl.rg x hx; have := h.st; omega
end Go.Abs
end
section
namespace Go.Abs
open Go
set_option linter.unusedSimpArgs false
set_option linter.unusedVariables false
def Qbly (a : Qb) (onto : List Int) (r : Qb × List (List Int) × Int) : Prop :=
 (∃ n,(estB a onto n).length = n ∧ n ≤ 4096 ∧ r = (autN a onto (estB a onto n),estB a onto n,0)) ∨ (∃ n,4096 < (estB a onto n).length ∧ r = (⟨[],0,[],[]⟩,[],3))
theorem Qblz {α : Type} (l : List α) : ((l.length : Int) == 0) = decide (l = []):=by
 cases l with
 | nil=>rfl
 | cons x l=>simp; omega
theorem Q0t {a : Qb} (h : Right a) {onto : List Int} (ho : EvSet onto) :
  ∃ r,Qbw a onto = some r ∧ (if a.States = 0 then r = (⟨Qes a onto,0,[],[]⟩,[],0) else Qbly a onto r):=by
 have hol:=ho.len
 have hkl:=Qbeu h onto
 have hst:=h.st
 have hob : onto.length < big:=by unfold big; omega
 unfold Qbw Qw
 rw [Qbcg h hob,ho.err]
 simp only [Option.bind_some,show ((0 : Int) != 0) = false from rfl,Bool.false_eq_true,if_false]
 rw [Qbfp h hob]
 simp only [Option.bind_some]
 by_cases h0 : a.States = 0
 ·rw [if_pos (by simp [h0])]
  simp only [h0,if_true]
  exact ⟨_,rfl,rfl⟩
 ·have hpos : 0 < a.States:=by omega
  rw [if_neg (by simp [h0]),Qbjf h onto]
  simp only [h0,if_false]
  simp only [Option.bind_some]
  have hsl:=(Q0s a onto).len
  rw [Qbj3 (by unfold lim; omega) ((Q0s a onto).lt h)]
  simp only [Option.bind_some]
  refine Qei (fun x=>∃ (n : Nat) (c : List (ByteArray × Int)),n ≤ (estB a onto n).length ∧ (estB a onto n).length ≤ 4096 ∧ KM (estB a onto n) c ∧ (∀ i s,i < n → (estB a onto n)[i]? = some s → ∀ p ∈ rowN a onto s,p.2 ∈ estB a onto n) ∧
    x = (estB a onto n,(n : Int),[],[],[],mkN a 0 ((estB a onto n).take n),edN a onto (estB a onto n) 0 ((estB a onto n).take n),c)) (fun x=>5000 - x.2.1.toNat) (fun x r=>∃ y,r = some y ∧ Qbly a onto y) ?_ Qbn _ ?_ ?_
  ·rintro k _ ⟨n,c,hn,hlen,hK,hcl,rfl⟩ ih
   have hE:=Qso hpos onto n
   dsimp only
   by_cases hlt : n < (estB a onto n).length
   ·rw [if_pos (by omega),Qcf hlt]
    generalize hs : (estB a onto n)[n] = s
    have hg : (estB a onto n)[n]? = some s:=by rw [List.getElem?_eq_getElem hlt,hs]
    have hsS : Sts a s:=(hE.ok s (List.mem_of_getElem? hg)).1
    have hsl:=hsS.len
    simp only [Option.bind_some]
    rw [Qbdk h (by unfold big; omega)]
    simp only [Option.bind_some]
    have hml:=Qbie (a:=a) ((estB a onto n).take n) 0
    rw [List.length_take] at hml
    have hel:=Qbid h (onto:=onto) (S:=estB a onto n) ((estB a onto n).take n) 0
    rw [List.length_take] at hel
    have htake : (estB a onto n).take (n + 1) = (estB a onto n).take n ++ [s]:=by rw [List.take_succ_eq_append_getElem hlt,hs]
    have hpre:=Qbck (a:=a) (onto:=onto) n
    have hstep : estB a onto (n + 1) = Qyn (estB a onto n) (rowN a onto s):=by
     show (match (estB a onto n)[n]? with | some s=>_ | none=>_) = _
     rw [hg]
    have hlen' : (estB a onto (n + 1)).length ≤ (estB a onto n).length + 32:=by
     rw [hstep]
     have:=Qbci (rowN a onto s) (estB a onto n)
     have h2 : (rowN a onto s).length ≤ (Qes a onto).length:=Qbcj
     omega
    have htake2 : (estB a onto (n + 1)).take (n + 1) = (estB a onto n).take (n + 1):=by
     obtain ⟨r,hr⟩:=hpre
     rw [← hr,List.take_append_of_le_length (by omega)]
    refine Qbk2 (x:=mkN a 0 ((estB a onto n).take (n + 1))) ?_ ?_
    ·rw [htake,Q9r]
     simp only [mkN,List.append_nil,List.length_take,Nat.zero_add,Nat.min_eq_left (Nat.le_of_lt hlt)]
     by_cases hm : s.any (fun x=>decide (x ∈ a.Marked)) = true
     ·rw [if_pos hm,if_pos hm,Qdn (by simp only [List.length_cons,List.length_nil]; unfold lim; omega)]
      rfl
     ·rw [if_neg hm,if_neg hm,List.append_nil]
    refine Qbjd (fun y=>∃ c',KM (estB a onto (n + 1)) c' ∧ y = (estB a onto (n + 1),edN a onto (estB a onto n) 0 ((estB a onto n).take n) ++ rowE (estB a onto (n + 1)) n (rowN a onto s),c')) ?_ ?_
    ·-- the events of a state
     refine Qei (fun x=>∃ (m : Nat) (S : List (List Int)) (r : List Qe) (c : List (ByteArray × Int)),x = (S,(m : Int),r,c) ∧ m ≤ (Qes a onto).length ∧ S[n]? = some s ∧ Ests a S ∧ S.length ≤ 4096 + m ∧ r.length ≤ 32 * 4096 + m ∧ KM S c ∧
      Qyn S (Qnz a onto s ((Qes a onto).drop m)) = estB a onto (n + 1) ∧ r ++ rowE (estB a onto (n + 1)) n (Qnz a onto s ((Qes a onto).drop m)) = edN a onto (estB a onto n) 0 ((estB a onto n).take n) ++ rowE (estB a onto (n + 1)) n (rowN a onto s))
      (fun x=>(Qes a onto).length - x.2.1.toNat) (fun x r=>∃ y,r = some y ∧ ∃ c',KM (estB a onto (n + 1)) c' ∧ y = (estB a onto (n + 1),edN a onto (estB a onto n) 0 ((estB a onto n).take n) ++ rowE (estB a onto (n + 1)) n (rowN a onto s),c')) ?_ Qbn _ ?_ ?_
     ·rintro k _ ⟨m,S,r,c,rfl,hm,hgs,hES,hSl,hrl,hKS,hg1,hg2⟩ ih
      dsimp only
      by_cases hlm : m < (Qes a onto).length
      ·rw [show (obsP a onto).kept_ = Qes a onto from rfl,if_pos (by omega),Qcf hlm]
       have hgn : getO S (n : Int) = some s:=by rw [Qjf]; exact ⟨by omega,by simpa using hgs⟩
       simp only [Option.bind_some]
       rw [hgn]
       simp only [Option.bind_some]
       rw [Qbfq h hsS.rg (by omega)]
       simp only [Option.bind_some,Qblz]
       rw [List.drop_eq_getElem_cons hlm] at hg1 hg2
       generalize (Qes a onto)[m] = x at hg1 hg2 ⊢
       have hNS:=Q72 a onto s x
       have hcons : Qnz a onto s (x :: (Qes a onto).drop (m + 1)) = if Qej a onto s x = [] then Qnz a onto s ((Qes a onto).drop (m + 1)) else (x,Qej a onto s x) :: Qnz a onto s ((Qes a onto).drop (m + 1)):=by
        simp only [Qnz,List.filterMap_cons]
        split <;> simp_all
       rw [hcons] at hg1 hg2
       generalize hN : Qej a onto s x = N at hg1 hg2 hNS ⊢
       by_cases hne : N = []
       ·rw [if_pos hne] at hg1 hg2
        simp only [hne,decide_true,if_true,Option.bind_some]
        rw [Qbj (by omega)]
        exact ih _ ⟨m + 1,S,r,c,rfl,by omega,hgs,hES,by omega,by omega,hKS,hg1,hg2⟩ (by simp only; omega)
       ·rw [if_neg hne] at hg1 hg2
        have hNl:=hNS.len
        simp only [hne,decide_false,Bool.false_eq_true,if_false]
        rw [Qbj3 (by unfold lim; omega) (hNS.lt h)]
        simp only [Option.bind_some]
        rw [hKS.has N (hNS.lt h)]
        have hg1' : Qyn (insL S N) (Qnz a onto s ((Qes a onto).drop (m + 1))) = estB a onto (n + 1):=hg1
        have hfin : insL S N <+: estB a onto (n + 1):=by rw [← hg1']; exact Q75 _ _
        have hmemN : N ∈ insL S N:=Qbaw.2 (.inr rfl)
        have hidx : (estB a onto (n + 1)).idxOf N = (insL S N).idxOf N:=Q9p hfin hmemN
        have hg2' : (r ++ [(⟨(n : Int),x,((insL S N).idxOf N : Int)⟩ : Qe)]) ++ rowE (estB a onto (n + 1)) n (Qnz a onto s ((Qes a onto).drop (m + 1))) = edN a onto (estB a onto n) 0 ((estB a onto n).take n) ++ rowE (estB a onto (n + 1)) n (rowN a onto s):=by
         rw [← hg2,← hidx,List.append_assoc]
         rfl
        have hESi : Ests a (insL S N):=⟨Q9o hES.nd N,fun t ht=>by
         rcases Qbaw.1 ht with ht | rfl
         ·exact hES.ok t ht
         ·exact ⟨hNS,hne⟩⟩
        have hgsi : (insL S N)[n]? = some s:=by
         obtain ⟨q,hq⟩:=Qbew S N
         rw [← hq,List.getElem?_append_left (List.getElem?_eq_some_iff.1 hgs).1]; exact hgs
        have hli : (insL S N).length ≤ S.length + 1:=by unfold insL; split <;> simp
        by_cases hin : N ∈ S
        ·have hi : insL S N = S:=by unfold insL; rw [if_pos hin]
         rw [if_pos (by simp [hin]),hKS.get N hin]
         simp only [Option.bind_some]
         rw [Qdn (by simp only [List.length_cons,List.length_nil]; unfold lim; omega)]
         simp only [Option.bind_some]
         rw [Qbj (by omega)]
         rw [hi] at hg1' hg2'
         exact ih _ ⟨m + 1,S,_,c,rfl,by omega,hgs,hES,by omega,by rw [List.length_append]; simp only [List.length_cons,List.length_nil]; omega,hKS,hg1',hg2'⟩ (by simp only; omega)
        ·have hi : insL S N = S ++ [N]:=by unfold insL; rw [if_neg hin]
         have hix : (insL S N).idxOf N = S.length:=by rw [hi,List.idxOf_append,if_neg hin]; simp
         rw [if_neg (by simp [hin]),Qdn (by simp only [List.length_cons,List.length_nil]; unfold lim; omega)]
         simp only [Option.bind_some]
         rw [Qdn (by simp only [List.length_cons,List.length_nil]; unfold lim; omega)]
         simp only [Option.bind_some]
         rw [Qbj (by omega)]
         have hKadd:=hKS.add (hNS.lt h) hin
         rw [hix] at hg2'
         rw [hi] at hg1' hESi hgsi
         exact ih _ ⟨m + 1,S ++ [N],_,_,rfl,by omega,hgsi,hESi,by simp; omega,by rw [List.length_append]; simp only [List.length_cons,List.length_nil]; omega,hKadd,hg1',hg2'⟩ (by simp only; omega)
      ·rw [show (obsP a onto).kept_ = Qes a onto from rfl,if_neg (by omega)]
       have hd : (Qes a onto).drop m = []:=List.drop_eq_nil_of_le (by omega)
       rw [hd] at hg1 hg2
       have hg1 : S = estB a onto (n + 1):=hg1
       subst hg1
       simp only [Qnz,List.filterMap_nil,rowE,List.map_nil,List.append_nil] at hg2
       exact ⟨_,rfl,c,hKS,by rw [hg2]; rfl⟩
     ·exact ⟨0,_,_,c,rfl,Nat.zero_le _,hg,hE,by omega,by omega,hK,by rw [List.drop_zero,hstep]; rfl,by rw [List.drop_zero]; rfl⟩
     ·simp only [Int.toNat_zero]; unfold Qbn; omega
    ·rintro _ ⟨c',hK',rfl⟩
     dsimp only
     have hrows : ∀ i t,i < n + 1 → (estB a onto (n + 1))[i]? = some t → ∀ p ∈ rowN a onto t,p.2 ∈ estB a onto (n + 1):=by
      intro i t hi ht p hp
      obtain ⟨q,hq⟩:=id hpre
      rcases Nat.lt_or_ge i n with hin | hin
      ·rw [← hq,List.getElem?_append_left (by omega)] at ht
       exact hpre.subset (hcl i t hin ht p hp)
      ·obtain rfl : i = n:=by omega
       rw [← hq,List.getElem?_append_left hlt,hg] at ht
       cases ht
       rw [hstep]
       exact (Q0e _ _ _).2 (.inr ⟨p,hp,rfl⟩)
     have hed : edN a onto (estB a onto n) 0 ((estB a onto n).take n) ++ rowE (estB a onto (n + 1)) n (rowN a onto s) = edN a onto (estB a onto (n + 1)) 0 ((estB a onto (n + 1)).take (n + 1)):=by
      rw [htake2,htake,Q9q]
      simp only [edN,List.append_nil,List.length_take,Nat.zero_add,Nat.min_eq_left (Nat.le_of_lt hlt)]
      congr 1
      refine (Qbic hpre _ _ fun t ht p hp=>?_).symm
      obtain ⟨i,hi⟩:=List.getElem?_of_mem ht
      have hilt:=(List.getElem?_eq_some_iff.1 hi).1
      rw [List.length_take] at hilt
      rw [List.getElem?_take,if_pos (by omega)] at hi
      exact hcl i t (by omega) hi p hp
     rw [hed]
     by_cases hbig : 4096 < (estB a onto (n + 1)).length
     ·rw [if_pos (by omega)]
      exact ⟨_,rfl,.inr ⟨n + 1,hbig,rfl⟩⟩
     ·rw [if_neg (by omega),Qbj (by omega)]
      have:=hpre.length_le
      refine ih _ ⟨n + 1,c',by omega,by omega,hK',hrows,?_⟩ (by simp only; omega)
      rw [htake2]
   ·rw [if_neg (by omega)]
    have hnn : (estB a onto n).length = n:=by omega
    refine ⟨_,rfl,.inl ⟨n,hnn,by omega,?_⟩⟩
    rw [List.take_of_length_le (by omega)]
    rfl
  ·refine ⟨0,_,Nat.zero_le _,by simp [estB],.first ((Q0s a onto).lt h),fun i s hi=>by omega,rfl⟩
  ·simp only [Int.toNat_zero]; unfold Qbn; omega
end Go.Abs
end
section
namespace Go.Abs
open Go
set_option linter.unusedSimpArgs false
set_option linter.unusedVariables false
section
variable {a b : Qb} {φ : Int → Int} (ha : Right a) (hb : Right b) (h : Like a b φ)
include ha hb h
end
theorem Qbcl {a : Qb} {F : List Int} : ∀ (l : List Int) (i : Nat),l.Nodup → (Qhc a F i l).length ≤ (a.Edges.filter fun x=>decide (x.From ∈ l)).length
 | [],i,_=>by simp [Qhc]
 | s :: l,i,hn=>by
  have hn:=List.nodup_cons.1 hn
  simp only [Qhc,List.length_append]
  have ih:=Qbcl (a:=a) (F:=F) l (i + 1) hn.2
  have h1 : (rowP a F i s).length = (a.Edges.filter fun x=>x.From == s).length:=by simp [rowP,outP]
  have h2 : a.Edges.filter (fun x=>decide (x.From ∈ s :: l)) = a.Edges.filter (fun x=>x.From == s || decide (x.From ∈ l)):=by
   congr 1; funext x; rw [Bool.eq_iff_iff]; simp
  rw [h1,h2]
  have h3 : ∀ L : List Qe,(L.filter (fun x=>x.From == s)).length + (L.filter fun x=>decide (x.From ∈ l)).length = (L.filter (fun x=>x.From == s || decide (x.From ∈ l))).length:=by
   intro L
   induction L with
   | nil=>simp
   | cons x L ih =>
    by_cases hx : x.From = s
    ·have : ¬ x.From ∈ l:=by rw [hx]; exact hn.1
     simp [hx,hn.1] at ih ⊢; omega
    ·by_cases hm : x.From ∈ l <;> simp [hx,hm] at ih ⊢ <;> omega
  have:=h3 a.Edges
  omega
theorem Qbfs {a : Qb} (ha : Right a) : (Qfg a).States ≤ a.States ∧ (Qfg a).Edges.length ≤ a.Edges.length:=by
 have hF:=(Qia ha).1
 have:=hF.len
 have hst:=ha.st
 refine ⟨by simp only [Qfg]; omega,?_⟩
 exact Nat.le_trans (Qbcl _ _ hF.nd) (List.length_filter_le _ _)
end Go.Abs
end
section
namespace Go.Abs
open Go
set_option linter.unusedSimpArgs false
set_option linter.unusedVariables false
theorem Ql6? {n : Int} {i : Nat} (h : i < n.toNat) : (upto n)[i]? = some (i : Int):=by
 simp only [upto,List.getElem?_map,List.getElem?_range h,Option.map_some]
theorem Qbji {n x : Int} (h : 0 ≤ x ∧ x < n) : ((upto n).idxOf x : Int) = x:=by
 have hm:=Qbep.2 h
 have h1:=Qpo hm
 have hlt:=(List.getElem?_eq_some_iff.1 h1).1
 rw [Qny] at hlt
 rw [Ql6? hlt] at h1
 exact Option.some.inj h1
theorem Qbk4 {l : List Int} (h : l.Nodup) : l.map (fun s=>(l.idxOf s : Int)) = upto (l.length : Int):=by
 refine List.ext_getElem? fun i=>?_
 by_cases hi : i < l.length
 ·rw [Ql6? (by omega),List.getElem?_map,List.getElem?_eq_getElem hi]
  simp only [Option.map_some]
  congr 2
  have h1:=Qpo (List.getElem_mem hi)
  have hlt:=(List.getElem?_eq_some_iff.1 h1).1
  have h2 : l[l.idxOf l[i]] = l[i]:=by
   rw [List.getElem?_eq_getElem hlt] at h1; exact Option.some.inj h1
  rcases Nat.lt_trichotomy (l.idxOf l[i]) i with h3 | h3 | h3
  ·exact absurd h2 (List.pairwise_iff_getElem.1 h _ _ hlt hi h3)
  ·exact h3
  ·exact absurd h2.symm (List.pairwise_iff_getElem.1 h _ _ hi hlt h3)
 ·rw [List.getElem?_eq_none (by simp; omega),List.getElem?_eq_none (by rw [Qny]; omega)]
theorem Qbdl {a : Qb} (ha : Right a) : Qca (Qfg a) = upto (Qfg a).States:=by
 rw [Qbdh ha (Q0c ha) (Qbdi ha)]
 exact Qbk4 (Qia ha).1.nd
theorem Qbft {l : List Qe} (h : l.Pairwise Qir) (i : Int) : l.filter (fun x=>decide (i ≤ x.From)) = l.filter (fun x=>x.From == i) ++ l.filter fun x=>decide (i + 1 ≤ x.From):=by
 induction l with
 | nil=>rfl
 | cons x xs ih =>
  obtain ⟨h1,h2⟩:=List.pairwise_cons.1 h
  have ih:=ih h2
  have hge : ∀ y ∈ xs,x.From ≤ y.From:=fun y hy=>by have:=h1 y hy; unfold Qir at this; omega
  rcases Int.lt_trichotomy x.From i with hlt | heq | hgt
  ·rw [List.filter_cons_of_neg (by simp; omega),List.filter_cons_of_neg (by simp; omega),List.filter_cons_of_neg (by simp; omega),ih]
  ·rw [List.filter_cons_of_pos (by simp; omega),List.filter_cons_of_pos (by simp [heq]),List.filter_cons_of_neg (by simp; omega),ih]; rfl
  ·have e1 : (x :: xs).filter (fun x=>x.From == i) = []:=List.filter_eq_nil_iff.2 fun y hy=>by
    rcases List.mem_cons.1 hy with rfl | hy
    ·simp; omega
    ·have:=hge y hy; simp; omega
   rw [e1,List.nil_append]
   refine List.filter_congr fun y hy=>?_
   rcases List.mem_cons.1 hy with rfl | hy
   ·simp; omega
   ·have:=hge y hy; simp; omega
theorem Q77 {b : Qb} (hb : Right b) {n : Int} (hn : b.States = n) : ∀ (k i : Nat),i + k = n.toNat → Qhc b (upto n) i ((upto n).drop i) = b.Edges.filter fun x=>decide ((i : Int) ≤ x.From)
 | 0,i,h=>by
  rw [List.drop_eq_nil_of_le (by rw [Qny]; omega)]
  simp only [Qhc]
  refine (List.filter_eq_nil_iff.2 fun x hx=>?_).symm
  have:=hb.ed0 x hx
  simp; omega
 | k + 1,i,h=>by
  have hlt : i < (upto n).length:=by rw [Qny]; omega
  rw [List.drop_eq_getElem_cons hlt,Qbje (by omega)]
  simp only [Qhc]
  rw [Q77 hb hn k (i + 1) (by omega),Qbft hb.ed (i : Int)]
  congr 1
  unfold rowP outP
  conv=>rhs; rw [← List.map_id (b.Edges.filter fun x=>x.From == (i : Int))]
  refine List.map_congr_left fun x hx=>?_
  obtain ⟨h1,h2⟩:=List.mem_filter.1 hx
  have:=hb.ed0 x h1
  simp only [beq_iff_eq] at h2
  rw [Qbji ⟨this.2.2.1,by omega⟩,← h2]
  rfl
theorem Qbdm {m : List Int} {n : Int} (hr : ∀ x ∈ m,0 ≤ x ∧ x < n) (hs : m.Pairwise (· < ·)) : Qj8 m 0 (upto n) = m:=by
 refine Qbdj Qv2 hs fun x=>?_
 rw [Q5o]
 constructor
 ·rintro ⟨j,s,h1,h2,h3⟩
  have hlt:=(List.getElem?_eq_some_iff.1 h1).1
  rw [Qny] at hlt
  rw [Ql6? hlt] at h1
  cases h1
  rw [h3,Nat.zero_add]; exact h2
 ·intro hx
  have:=hr x hx
  exact ⟨x.toNat,x,by rw [Ql6? (by omega)]; congr 1; omega,hx,by omega⟩
def fndB (c : Qb) : Nat → List Int
 | 0=>[0]
 | i + 1=>match (fndB c i)[i]? with
  | some s=>(Qgi c s).foldl ins (fndB c i)
  | none=>fndB c i
theorem Q78 {c : Qb} {i : Nat} (h : (fndB c i)[i]? = none) : ∀ k,fndB c (i + k) = fndB c i
 | 0=>rfl
 | k + 1=>by
  rw [show fndB c (i + (k + 1)) = (match (fndB c (i + k))[i + k]? with | some s=>(Qgi c s).foldl ins (fndB c (i + k)) | none=>fndB c (i + k)) from rfl,Q78 h k]
  have : (fndB c i).length ≤ i:=List.getElem?_eq_none_iff.1 h
  rw [List.getElem?_eq_none (by omega)]
theorem Qbex (c : Qb) : ∀ (k i : Nat),bfs c k i (fndB c i) = fndB c (i + k)
 | 0,i=>rfl
 | k + 1,i=>by
  unfold bfs
  cases hg : (fndB c i)[i]? with
  | none=>exact (Q78 hg (k + 1)).symm
  | some s =>
   dsimp only
   have : (Qgi c s).foldl ins (fndB c i) = fndB c (i + 1):=by
    show _ = (match (fndB c i)[i]? with | some s=>_ | none=>_)
    rw [hg]
   rw [this,Qbex c k (i + 1)]
   congr 1; omega
theorem Qbfu {c : Qb} (h : 0 < c.States) : Qca c = fndB c (c.States.toNat + 1):=by
 unfold Qca
 rw [if_pos h]
 have:=Qbex c (c.States.toNat + 1) 0
 simpa [fndB] using this
def sing (l : List Int) : List (List Int):=l.map fun s=>[s]
theorem Qbjj {l : List Int} {s : Int} : [s] ∈ sing l ↔ s ∈ l:=by simp [sing]
theorem Qbjk (o : List Int) (t : Int) : insL (sing o) [t] = sing (ins o t):=by
 unfold insL ins
 simp only [Qbjj]
 split
 ·rfl
 ·simp [sing]
theorem Qbey (l : List Int) (i : Nat) : (sing l)[i]? = (l[i]?).map fun s=>[s]:=by simp [sing]
theorem Qbjl {l : List Int} (s : Int) : (sing l).idxOf [s] = l.idxOf s:=by
 induction l with
 | nil=>rfl
 | cons x l ih =>
  show ([x] :: sing l).idxOf [s] = _
  rw [List.idxOf_cons,List.idxOf_cons,ih]
  by_cases h : x = s
  ·subst h; simp
  ·have h2 : ¬ [x] = [s]:=by simpa using h
   have e1 : ([x] == [s]) = false:=by simpa using h
   have e2 : (x == s) = false:=by simpa using h
   rw [e1,e2]
def Qbk5 (b : Qb) (onto : List Int) : Prop:=∀ x ∈ b.Edges,x.Event ∉ onto → x.To = x.From
section
variable {b : Qb} (hb : Right b) {onto : List Int} (hs : Qbk5 b onto)
include hb hs
theorem Q3s {fr : List Int} (hf : Sts b fr) : Qpp b fr (Qdq b onto) = fr:=by
 refine (Qbcb hb hf.rg hf.so (fun s hs=>.base hs) (fun s h=>h) fun x hx hfx he=>?_).symm
 have : x.Event ∉ onto:=by
  have:=(List.mem_filter.1 he).2; simpa using this
 rw [hs x hx this]; exact hfx
theorem Q9s {s : Int} {e : Int} : Qej b onto [s] e = if 0 ≤ Qdg b s e then [Qdg b s e] else []:=by
 unfold Qej
 have hm : Qib b [s] e = ((outP b s).filter fun x=>x.Event == e).map (·.To):=by simp [Qib]
 have key : Qib b [s] e = if 0 ≤ Qdg b s e then [Qdg b s e] else []:=by
  rw [hm]
  by_cases h0 : 0 ≤ Qdg b s e
  ·rw [if_pos h0]
   obtain ⟨x,hx,hxe⟩:=(Qqc hb).1 h0
   have hstep:=Q0a hb hx
   rw [hxe] at hstep
   have hp : (outP b s).Pairwise Qir:=hb.ed.filter _
   have hfrom : ∀ y ∈ outP b s,y.From = s:=fun y hy=>by unfold outP at hy; simp at hy; exact hy.2
   have huniq : ∀ y ∈ outP b s,y.Event = e → y = x:=by
    intro y hy hye
    rcases List.mem_iff_getElem.1 hy with ⟨i,hi,rfl⟩
    rcases List.mem_iff_getElem.1 hx with ⟨j,hj,rfl⟩
    rcases Nat.lt_trichotomy i j with h | h | h
    ·have:=List.pairwise_iff_getElem.1 hp i j hi hj h
     have:=hfrom _ hy; have:=hfrom _ hx; unfold Qir at *; omega
    ·subst h; rfl
    ·have:=List.pairwise_iff_getElem.1 hp j i hj hi h
     have:=hfrom _ hy; have:=hfrom _ hx; unfold Qir at *; omega
   have hnd : (outP b s).Nodup:=hp.imp fun h e=>by subst e; unfold Qir at h; omega
   have : (outP b s).filter (fun x=>x.Event == e) = [x]:=by
    have h1 : ∀ y,y ∈ (outP b s).filter (fun x=>x.Event == e) ↔ y = x:=fun y=>by
     rw [List.mem_filter]
     constructor
     ·rintro ⟨h1,h2⟩; exact huniq y h1 (by simpa using h2)
     ·rintro rfl; exact ⟨hx,by simp [hxe]⟩
    have h2:=hnd.filter (fun x=>x.Event == e)
    generalize (outP b s).filter (fun x=>x.Event == e) = L at h1 h2
    match L,h1,h2 with
    | [],h1,_=>exact absurd ((h1 x).2 rfl) (by simp)
    | [y],h1,_=>rw [(h1 y).1 (by simp)]
    | y :: z :: r,h1,h2 =>
     have e1:=(h1 y).1 (by simp)
     have e2:=(h1 z).1 (by simp)
     have:=(List.nodup_cons.1 h2).1
     rw [e1,e2] at this; simp at this
   rw [this,hstep]; rfl
  ·rw [if_neg h0]
   have : (outP b s).filter (fun x=>x.Event == e) = []:=List.filter_eq_nil_iff.2 fun x hx=>by
    intro hxe
    exact h0 ((Qqc hb).2 ⟨x,hx,by simpa using hxe⟩)
   rw [this]; rfl
 rw [key]
 split
 ·rename_i h0
  rcases Q3r hb s e with hr | hr
  ·omega
  ·exact Q3s hb hs ⟨fun t ht=>by simp at ht; subst ht; exact ⟨hr.1,hr.2.1⟩,by simp⟩
 ·exact Q3s hb hs ⟨by simp,by simp⟩
end
end Go.Abs
end
section
namespace Go.Abs
open Go
set_option linter.unusedSimpArgs false
set_option linter.unusedVariables false
structure Proj (a : Qb) (onto : List Int) (S : List (List Int)) : Prop where
 es : Ests a S
 first : S[0]? = some (Qj9 a onto)
 cl : ∀ s ∈ S,∀ e ∈ Qes a onto,Qej a onto s e ≠ [] → Qej a onto s e ∈ S
 form : ∀ s ∈ S,∃ fr,(∀ t ∈ fr,0 ≤ t ∧ t < a.States) ∧ s = Qpp a fr (Qdq a onto)
theorem Q79 {a : Qb} (h : Right a) (h0 : 0 < a.States) (onto : List Int) : ∀ i,∀ s ∈ estB a onto i,∃ fr,(∀ t ∈ fr,0 ≤ t ∧ t < a.States) ∧ s = Qpp a fr (Qdq a onto)
 | 0,s,hs=>by
  simp only [estB,List.mem_singleton] at hs
  subst hs
  unfold Qj9
  rw [if_neg (by omega)]
  exact ⟨[0],fun t ht=>by simp at ht; subst ht; omega,rfl⟩
 | i + 1,s,hs=>by
  unfold estB at hs
  split at hs
  ·rcases (Q0e _ _ _).1 hs with hs | ⟨p,hp,rfl⟩
   ·exact Q79 h h0 onto i s hs
   ·obtain ⟨_,h2,_⟩:=Q0f.1 hp
    rw [h2]
    exact ⟨_,Qff h,rfl⟩
  ·exact Q79 h h0 onto i s hs
theorem Qbif {a : Qb} {onto : List Int} (i : Nat) : (estB a onto i)[0]? = some (Qj9 a onto):=by
 obtain ⟨r,hr⟩:=Qbax (a:=a) (onto:=onto) (Nat.zero_le i)
 rw [← hr]; rfl
theorem Qbig {a : Qb} (h : Right a) (h0 : 0 < a.States) {onto : List Int} {n : Nat} (hn : (estB a onto n).length = n) : Proj a onto (estB a onto n):=by
 refine ⟨Qso h0 onto n,Qbif n,fun s hs e he hne=>?_,Q79 h h0 onto n⟩
 obtain ⟨i,hi⟩:=List.getElem?_of_mem hs
 have hlt:=(List.getElem?_eq_some_iff.1 hi).1
 have hil : i < (estB a onto i).length:=by
  rcases Nat.lt_or_ge i (estB a onto i).length with hlt2 | hge
  ·exact hlt2
  ·exfalso
   -- the search has ended before
   have key : ∀ k,k ≤ i → (estB a onto i).length ≤ k → estB a onto n = estB a onto i ∨ k < i:=by
    intro k hk hkl
    by_cases hki : k = i
    ·left
     subst hki
     have : ∀ m,estB a onto (k + m) = estB a onto k:=by
      intro m
      induction m with
      | zero=>rfl
      | succ m ih =>
       rw [show estB a onto (k + (m + 1)) = (match (estB a onto (k + m))[k + m]? with | some s=>Qyn (estB a onto (k + m)) (rowN a onto s) | none=>estB a onto (k + m)) from rfl,ih,List.getElem?_eq_none (by omega)]
     rw [← this (n - k)]
     congr 1; omega
    ·right; omega
   rcases key i (Nat.le_refl i) hge with h1 | h1
   ·rw [h1] at hlt; omega
   ·omega
 have hp:=Qbjh (a:=a) (onto:=onto) (i:=i) (j:=n) (by omega) hi hil (e,Qej a onto s e) (Q0f.2 ⟨he,rfl,hne⟩)
 exact (Qbax (a:=a) (onto:=onto) (show i + 1 ≤ n by omega)).subset hp
section
variable {a : Qb} {onto : List Int} {S : List (List Int)}
theorem Qbez {i : Nat} {s : List Int} {x : Qe} : x ∈ rowE S i (rowN a onto s) ↔ x.From = i ∧ x.Event ∈ Qes a onto ∧ Qej a onto s x.Event ≠ [] ∧ x.To = (S.idxOf (Qej a onto s x.Event) : Int):=by
 simp only [rowE,List.mem_map]
 constructor
 ·rintro ⟨p,hp,rfl⟩
  obtain ⟨h1,h2,h3⟩:=Q0f.1 hp
  exact ⟨rfl,h1,by rw [← h2]; exact h3,by rw [← h2]⟩
 ·rintro ⟨h1,h2,h3,h4⟩
  refine ⟨(x.Event,Qej a onto s x.Event),Q0f.2 ⟨h2,rfl,h3⟩,?_⟩
  obtain ⟨f,e,t⟩:=x
  simp only at h1 h4 ⊢
  rw [h1,h4]
theorem Qv4 : ∀ (l : List (List Int)) (i : Nat) (x : Qe),x ∈ edN a onto S i l ↔ ∃ (j : Nat) (s : List Int),l[j]? = some s ∧ x.From = ((i + j : Nat) : Int) ∧ x.Event ∈ Qes a onto ∧ Qej a onto s x.Event ≠ [] ∧ x.To = (S.idxOf (Qej a onto s x.Event) : Int)
 | [],i,x=>by simp [edN]
 | s' :: l,i,x=>by
  simp only [edN,List.mem_append,Qbez]
  rw [Qv4 l (i + 1) x]
  constructor
  ·rintro (⟨h1,h2⟩ | ⟨j,s,h1,h2,h3⟩)
   ·exact ⟨0,s',rfl,by rw [h1,Nat.add_zero],h2⟩
   ·exact ⟨j + 1,s,by simpa using h1,by rw [h2]; congr 1; omega,h3⟩
  ·rintro ⟨j,s,h1,h2,h3⟩
   cases j with
   | zero=>simp at h1; subst h1; left; exact ⟨by simpa using h2,h3⟩
   | succ j=>right; exact ⟨j,s,by simpa using h1,by rw [h2]; congr 1; omega,h3⟩
theorem Qbay : ∀ (l : List (List Int)) (i : Nat) (x : Int),x ∈ mkN a i l ↔ ∃ (j : Nat) (s : List Int),l[j]? = some s ∧ (s.any fun t=>decide (t ∈ a.Marked)) = true ∧ x = ((i + j : Nat) : Int)
 | [],i,x=>by simp [mkN]
 | s' :: l,i,x=>by
  simp only [mkN,List.mem_append]
  rw [Qbay l (i + 1) x]
  constructor
  ·rintro (h | ⟨j,s,h1,h2,h3⟩)
   ·split at h
    ·rename_i hm; simp at h; exact ⟨0,s',rfl,hm,by simpa using h⟩
    ·simp at h
   ·exact ⟨j + 1,s,by simpa using h1,h2,by rw [h3]; congr 1; omega⟩
  ·rintro ⟨j,s,h1,h2,h3⟩
   cases j with
   | zero=>simp at h1; subst h1; left; rw [if_pos h2]; simpa using h3
   | succ j=>right; exact ⟨j,s,by simpa using h1,h2,by rw [h3]; congr 1; omega⟩
theorem Q9t : ∀ (l : List (List Int)) (i : Nat),(mkN a i l).Pairwise (· < ·)
 | [],i=>.nil
 | s :: l,i=>by
  simp only [mkN]
  rw [List.pairwise_append]
  refine ⟨by split <;> simp,Q9t l (i + 1),fun x hx y hy=>?_⟩
  obtain ⟨j,_,_,_,rfl⟩:=(Qbay l (i + 1) y).1 hy
  split at hx <;> simp at hx
  omega
theorem Q53 : ∀ (s l : List Int),(Qnz a onto s l).map (·.1) = l.filter fun e=>!decide (Qej a onto s e = [])
 | s,[]=>rfl
 | s,e :: l=>by
  have ih:=Q53 s l
  by_cases h : Qej a onto s e = []
  ·rw [List.filter_cons_of_neg (by simp [h]),← ih]
   simp only [Qnz,List.filterMap_cons,h,if_true]
  ·rw [List.filter_cons_of_pos (by simp [h]),← ih]
   simp only [Qnz,List.filterMap_cons,h,if_false,List.map_cons]
theorem Q9u (h : Right a) : ∀ (l : List (List Int)) (i : Nat),(edN a onto S i l).Pairwise Qir
 | [],i=>.nil
 | s :: l,i=>by
  simp only [edN]
  rw [List.pairwise_append]
  refine ⟨?_,Q9u h l (i + 1),fun x hx y hy=>?_⟩
  ·unfold rowE
   rw [List.pairwise_map]
   have h1 : ((rowN a onto s).map (·.1)).Pairwise (· < ·):=by
    unfold rowN
    rw [Q53]
    exact ((h.al.filter _).filter _)
   rw [List.pairwise_map] at h1
   exact h1.imp fun h=>.inr ⟨rfl,h⟩
  ·have hx:=(Qbez.1 hx).1
   obtain ⟨j,_,_,hy,_⟩:=(Qv4 l (i + 1) y).1 hy
   exact .inl (by omega)
variable (h : Right a) (hP : Proj a onto S)
include h hP
theorem Qv5 {s : List Int} {e : Int} (hs : s ∈ S) (he : e ∈ Qes a onto) (hne : Qej a onto s e ≠ []) : S[S.idxOf (Qej a onto s e)]? = some (Qej a onto s e):=by
 have hm:=hP.cl s hs e he hne
 have hlt : S.idxOf (Qej a onto s e) < S.length:=List.idxOf_lt_length_of_mem hm
 rw [List.getElem?_eq_getElem hlt,List.getElem_idxOf hlt]
theorem Qlc (hl : S.length ≤ 4096) : Right (autN a onto S):=by
 refine ⟨fun x hx=>h.al0 x (List.mem_filter.1 hx).1,h.al.filter _,⟨Int.natCast_nonneg _,by show (S.length : Int) ≤ 4096; omega⟩,fun x hx=>?_,Q9t S 0,fun x hx=>?_,Q9u h S 0⟩
 ·obtain ⟨j,s,h1,_,h3⟩:=(Qbay S 0 x).1 hx
  have:=(List.getElem?_eq_some_iff.1 h1).1
  show 0 ≤ x ∧ x < (S.length : Int)
  omega
 ·obtain ⟨j,s,h1,h2,h3,h4,h5⟩:=(Qv4 S 0 x).1 hx
  have hj:=(List.getElem?_eq_some_iff.1 h1).1
  have hi:=(List.getElem?_eq_some_iff.1 (Qv5 h hP (List.mem_of_getElem? h1) h3 h4)).1
  show 0 ≤ x.From ∧ x.From < (S.length : Int) ∧ 0 ≤ x.To ∧ x.To < (S.length : Int) ∧ x.Event ∈ Qes a onto
  exact ⟨by omega,by omega,by omega,by omega,h3⟩
theorem Qbcm (hl : S.length ≤ 4096) {k : Nat} {s : List Int} (hk : S[k]? = some s) {e : Int} (he : e ∈ Qes a onto) : Qdg (autN a onto S) (k : Int) e = if Qej a onto s e = [] then -1 else (S.idxOf (Qej a onto s e) : Int):=by
 have hR:=Qlc h hP hl
 by_cases hne : Qej a onto s e = []
 ·rw [if_pos hne]
  rcases Q3r hR (k : Int) e with hr | hr
  ·exact hr
  ·exfalso
   obtain ⟨x,hx,hxe⟩:=(Qqc hR).1 hr.1
   obtain ⟨hx1,hx2⟩:=List.mem_filter.1 hx
   obtain ⟨j,t,h1,h2,h3,h4,_⟩:=(Qv4 S 0 x).1 hx1
   simp only [beq_iff_eq] at hx2
   have : j = k:=by omega
   subst this
   rw [hk] at h1; cases h1
   rw [hxe] at h4; exact h4 hne
 ·rw [if_neg hne]
  have hm : (⟨(k : Int),e,(S.idxOf (Qej a onto s e) : Int)⟩ : Qe) ∈ (autN a onto S).Edges:=(Qv4 S 0 _).2 ⟨k,s,hk,by simp,he,hne,rfl⟩
  exact Q0a hR (x:=⟨(k : Int),e,(S.idxOf (Qej a onto s e) : Int)⟩) (List.mem_filter.2 ⟨hm,by simp⟩)
theorem Qv6 {k : Nat} {s : List Int} (hk : S[k]? = some s) : (k : Int) ∈ (autN a onto S).Marked ↔ ∃ t ∈ s,t ∈ a.Marked:=by
 show (k : Int) ∈ mkN a 0 S ↔ _
 rw [Qbay]
 constructor
 ·rintro ⟨j,t,h1,h2,h3⟩
  have : j = k:=by omega
  subst this
  rw [hk] at h1; cases h1
  simpa using h2
 ·intro hm
  exact ⟨k,s,hk,by simpa using hm,by simp⟩
theorem Qbdn {s : List Int} (hs : s ∈ S) {x : Qe} (hx : x ∈ a.Edges) (hf : x.From ∈ s) (he : x.Event ∉ onto) : x.To ∈ s:=by
 obtain ⟨fr,hfr,rfl⟩:=hP.form s hs
 have hev : x.Event ∈ Qdq a onto:=List.mem_filter.2 ⟨(h.ed0 x hx).2.2.2.2,by simpa using he⟩
 exact (Qer h hfr).2 (.step ((Qer h hfr).1 hf) hx hev)
end
def Qbcn (l : List Int) : Nat:=l.foldr (fun x n=>n ||| 2 ^ x.toNat) 0
theorem Q0u : ∀ {l : List Int},(∀ x ∈ l,0 ≤ x) → ∀ k : Nat,(Qbcn l).testBit k = decide ((k : Int) ∈ l)
 | [],_,k=>by simp [Qbcn]
 | x :: l,h,k=>by
  have ih:=Q0u (l:=l) (fun y hy=>h y (by simp [hy])) k
  have hx:=h x (by simp)
  show ((Qbcn l) ||| 2 ^ x.toNat).testBit k = _
  rw [Nat.testBit_or,ih,Nat.testBit_two_pow]
  rw [Bool.eq_iff_iff]
  simp only [Bool.or_eq_true,decide_eq_true_eq,List.mem_cons]
  constructor
  ·rintro (h | h)
   ·exact .inr h
   ·left; omega
  ·rintro (h | h)
   ·right; omega
   ·exact .inl h
theorem Qbjm {l : List Int} {n : Nat} (h : ∀ x ∈ l,0 ≤ x ∧ x < n) : Qbcn l < 2 ^ n:=by
 refine Nat.lt_pow_two_of_testBit _ fun i hi=>?_
 rw [Q0u (fun x hx=>(h x hx).1)]
 simp only [decide_eq_false_iff_not]
 intro hm; have:=h _ hm; omega
theorem Qbe0 {a : Qb} {S : List (List Int)} (hS : Ests a S) {n : Nat} (hn : a.States ≤ n) : S.length ≤ 2 ^ n:=by
 have h1 : (S.map fun s=>((Qbcn s : Nat) : Int)).Nodup:=by
  refine List.Pairwise.map _ (S:=fun a b=>a ≠ b) (fun p q h=>h) ?_
  refine List.Pairwise.imp_of_mem (fun {s t} hs ht hne e=>hne ?_) hS.nd
  have hs:=(hS.ok s hs).1; have ht:=(hS.ok t ht).1
  have e : Qbcn s = Qbcn t:=by omega
  refine Qbdj hs.so ht.so fun x=>?_
  by_cases hx : 0 ≤ x
  ·have k1:=Q0u (fun y hy=>(hs.rg y hy).1) x.toNat
   have k2:=Q0u (fun y hy=>(ht.rg y hy).1) x.toNat
   rw [e,k2] at k1
   have:=decide_eq_decide.1 k1
   rw [show ((x.toNat : Nat) : Int) = x from by omega] at this
   exact this.symm
  ·exact ⟨fun h=>absurd (hs.rg x h).1 hx,fun h=>absurd (ht.rg x h).1 hx⟩
 have hb : ∀ x ∈ (S.map fun s=>((Qbcn s : Nat) : Int)),0 ≤ x ∧ x < ((2 ^ n : Nat) : Int):=fun x hx=>by
  obtain ⟨s,hs,rfl⟩:=List.mem_map.1 hx
  have:=Qbjm (l:=s) (n:=n) fun y hy=>by have:=(hS.ok s hs).1.rg y hy; omega
  omega
 obtain ⟨h3,h4⟩:=Q70 h1
 generalize 2 ^ n = N at hb ⊢
 have:=Qfv (a:=0) (b:=(N : Int)) h3 fun x hx=>hb x ((h4 x).1 hx)
 rw [Qg9,List.length_map] at this
 omega
end Go.Abs
end
section
namespace Go.Abs
open Go
set_option linter.unusedSimpArgs false
set_option linter.unusedVariables false
def InU (S : List (List Int)) (X : List Int) (t : Int) : Prop:=∃ k : Nat,(k : Int) ∈ X ∧ ∃ s,S[k]? = some s ∧ t ∈ s
section
variable {a : Qb} (h : Right a) {onto part : List Int} {S : List (List Int)} (hP : Proj a onto S) (hl : S.length ≤ 4096) (hsub : ∀ e ∈ part,e ∈ onto)
include h hP hl hsub
theorem Q5r {e : Int} (he : e ∈ Qdq a onto) : e ∈ Qdq a part:=by
 obtain ⟨h1,h2⟩:=List.mem_filter.1 he
 refine List.mem_filter.2 ⟨h1,?_⟩
 simp only [Bool.not_eq_true',decide_eq_false_iff_not] at h2 ⊢
 exact fun h=>h2 (hsub e h)
theorem Q8a {e : Int} : e ∈ Qdq (autN a onto S) part ↔ e ∈ Qes a onto ∧ e ∉ part:=by
 show e ∈ (Qes a onto).filter _ ↔ _
 rw [List.mem_filter]; simp
theorem Qbe1 {frp fr : List Int} (hfr : ∀ t ∈ fr,0 ≤ t ∧ t < a.States) (hbase : ∀ t,InU S frp t → Rch a (Qdq a part) fr t) {k : Int} (hk : Rch (autN a onto S) (Qdq (autN a onto S) part) frp k) : ∀ t,(∃ s,S[k.toNat]? = some s ∧ t ∈ s) → 0 ≤ k → Rch a (Qdq a part) fr t:=by
 induction hk with
 | base hk =>
  rintro t ⟨s,hs,ht⟩ h0
  exact hbase t ⟨_,by rw [Int.toNat_of_nonneg h0]; exact hk,s,hs,ht⟩
 | @step x _ hx he ih =>
  rintro t ⟨s',hs',ht⟩ h0
  obtain ⟨j,s,h1,h2,h3,h4,h5⟩:=(Qv4 S 0 x).1 hx
  have hto : x.To.toNat = S.idxOf (Qej a onto s x.Event):=by omega
  rw [hto,Qv5 h hP (List.mem_of_getElem? h1) h3 h4] at hs'
  cases hs'
  have ih:=fun t ht=>ih t ⟨s,by rw [h2]; simpa using h1,ht⟩ (by omega)
  have hr : Rch a (Qdq a onto) (Qib a s x.Event) t:=(Qer h (Qff h)).1 ht
  have hxe:=(Q8a h hP hl hsub).1 he
  have hee : x.Event ∈ Qdq a part:=List.mem_filter.2 ⟨(List.mem_filter.1 hxe.1).1,by simpa using hxe.2⟩
  clear ht hto
  induction hr with
  | base hm =>
   obtain ⟨y,hy,hyf,hye,rfl⟩:=Qjh.1 hm
   exact .step (ih _ hyf) hy (by rw [hye]; exact hee)
  | step _ hy hye ih2=>exact .step ih2 hy (Q5r h hP hl hsub hye)
theorem Q9v {frp fr : List Int} (hbase : ∀ t ∈ fr,∃ k : Nat,Rch (autN a onto S) (Qdq (autN a onto S) part) frp k ∧ ∃ s,S[k]? = some s ∧ t ∈ s) {t : Int} (ht : Rch a (Qdq a part) fr t) :
  ∃ k : Nat,Rch (autN a onto S) (Qdq (autN a onto S) part) frp k ∧ ∃ s,S[k]? = some s ∧ t ∈ s:=by
 induction ht with
 | base ht=>exact hbase _ ht
 | @step x _ hx he ih =>
  obtain ⟨k,hk,s,hs,hf⟩:=ih
  have hsm:=List.mem_of_getElem? hs
  have hal:=(h.ed0 x hx).2.2.2.2
  have hnp : x.Event ∉ part:=by have:=(List.mem_filter.1 he).2; simpa using this
  by_cases hon : x.Event ∈ onto
  ·have hke : x.Event ∈ Qes a onto:=List.mem_filter.2 ⟨hal,by simpa using hon⟩
   have hin : x.To ∈ Qej a onto s x.Event:=(Qer h (Qff h)).2 (.base (Qjh.2 ⟨x,hx,hf,rfl,rfl⟩))
   have hne : Qej a onto s x.Event ≠ []:=fun e=>by rw [e] at hin; simp at hin
   refine ⟨S.idxOf (Qej a onto s x.Event),?_,_,Qv5 h hP hsm hke hne,hin⟩
   exact .step (x:=⟨(k : Int),x.Event,(S.idxOf (Qej a onto s x.Event) : Int)⟩) hk ((Qv4 S 0 _).2 ⟨k,s,hs,by simp,hke,hne,rfl⟩) ((Q8a h hP hl hsub).2 ⟨hke,hnp⟩)
  ·exact ⟨k,hk,s,hs,Qbdn h hP hsm hx hf hon⟩
theorem Qbfv {X Y : List Int} (hX : ∀ k ∈ X,0 ≤ k ∧ k < (S.length : Int)) (hY : ∀ t ∈ Y,0 ≤ t ∧ t < a.States) (hXY : ∀ t,t ∈ Y ↔ InU S X t) {e : Int} (he : e ∈ part) (hal : e ∈ a.Alphabet) (t : Int) :
  t ∈ Qej a part Y e ↔ InU S (Qej (autN a onto S) part X e) t:=by
 have hR:=Qlc h hP hl
 have hke : e ∈ Qes a onto:=List.mem_filter.2 ⟨hal,by simpa using hsub e he⟩
 unfold Qej
 rw [Qer h (Qff h)]
 constructor
 ·intro hr
  obtain ⟨k,hk,s,hs,hts⟩:=Q9v h hP hl hsub (frp:=Qib (autN a onto S) X e) (fun t ht=>by
   obtain ⟨x,hx,hf,hxe,rfl⟩:=Qjh.1 ht
   obtain ⟨k,hk,s,hs,hfs⟩:=(hXY _).1 hf
   have hsm:=List.mem_of_getElem? hs
   have hin : x.To ∈ Qej a onto s e:=(Qer h (Qff h)).2 (.base (Qjh.2 ⟨x,hx,hfs,hxe,rfl⟩))
   have hne : Qej a onto s e ≠ []:=fun e=>by rw [e] at hin; simp at hin
   exact ⟨S.idxOf (Qej a onto s e),.base (Qjh.2 ⟨⟨(k : Int),e,(S.idxOf (Qej a onto s e) : Int)⟩,(Qv4 S 0 _).2 ⟨k,s,hs,by simp,hke,hne,rfl⟩,hk,rfl,rfl⟩),_,Qv5 h hP hsm hke hne,hin⟩) hr
  exact ⟨k,(Qer hR (Qff hR)).2 hk,s,hs,hts⟩
 ·rintro ⟨k,hk,s,hs,hts⟩
  refine Qbe1 h hP hl hsub (Qff h) (fun t ht=>?_) ((Qer hR (Qff hR)).1 hk) t ⟨s,by simpa using hs,hts⟩ (by omega)
  obtain ⟨k,hk,s,hs,hts⟩:=ht
  obtain ⟨x,hx,hf,hxe,hxt⟩:=Qjh.1 hk
  obtain ⟨j,s0,h1,h2,h3,h4,h5⟩:=(Qv4 S 0 x).1 hx
  rw [hxe] at h3 h4 h5
  have hkk : k = S.idxOf (Qej a onto s0 e):=by omega
  rw [hkk,Qv5 h hP (List.mem_of_getElem? h1) h3 h4] at hs
  cases hs
  have hin : ∀ t ∈ s0,t ∈ Y:=fun t ht=>(hXY t).2 ⟨j,by rw [h2] at hf; simpa using hf,s0,h1,ht⟩
  have hr : Rch a (Qdq a onto) (Qib a s0 e) t:=(Qer h (Qff h)).1 hts
  clear hts
  induction hr with
  | base hm =>
   obtain ⟨y,hy,hyf,hye,rfl⟩:=Qjh.1 hm
   exact .base (Qjh.2 ⟨y,hy,hin _ hyf,hye,rfl⟩)
  | step _ hy hye ih2=>exact .step ih2 hy (Q5r h hP hl hsub hye)
theorem Qbdo (h0 : 0 < a.States) (t : Int) : t ∈ Qj9 a part ↔ InU S (Qj9 (autN a onto S) part) t:=by
 have hR:=Qlc h hP hl
 have hS0:=hP.first
 have hlen:=(List.getElem?_eq_some_iff.1 hS0).1
 have hst : Qj9 a onto = Qpp a [0] (Qdq a onto):=by unfold Qj9; rw [if_neg (by omega)]
 have hpst : (autN a onto S).States = (S.length : Int):=rfl
 have hfr : ∀ t ∈ ([0] : List Int),0 ≤ t ∧ t < a.States:=fun t ht=>by simp at ht; subst ht; omega
 have hfrp : ∀ t ∈ ([0] : List Int),0 ≤ t ∧ t < (autN a onto S).States:=fun t ht=>by simp at ht; subst ht; omega
 unfold Qj9
 rw [if_neg (by omega),if_neg (by omega),Qer h hfr]
 constructor
 ·intro hr
  obtain ⟨k,hk,s,hs,hts⟩:=Q9v h hP hl hsub (frp:=[0]) (fun t ht=>by
   simp at ht; subst ht
   exact ⟨0,.base (by simp),_,hS0,by rw [hst]; exact (Qer h hfr).2 (.base (by simp))⟩) hr
  exact ⟨k,(Qer hR hfrp).2 hk,s,hs,hts⟩
 ·rintro ⟨k,hk,s,hs,hts⟩
  refine Qbe1 h hP hl hsub hfr (fun t ht=>?_) ((Qer hR hfrp).1 hk) t ⟨s,by simpa using hs,hts⟩ (by omega)
  obtain ⟨k,hk,s,hs,hts⟩:=ht
  have : k = 0:=by simp at hk; omega
  subst this
  rw [hS0] at hs; cases hs
  rw [hst] at hts
  have hr : Rch a (Qdq a onto) [0] t:=(Qer h hfr).1 hts
  clear hts
  induction hr with
  | base hm=>exact .base hm
  | step _ hy hye ih2=>exact .step ih2 hy (Q5r h hP hl hsub hye)
end
end Go.Abs
end
section
namespace Go.Abs
open Go
set_option linter.unusedSimpArgs false
set_option linter.unusedVariables false
structure Qbk6 (q r : Qb) (J : Int → Int → Prop) : Prop where
 al : q.Alphabet = r.Alphabet
 st : 0 < q.States ↔ 0 < r.States
 zero : 0 < q.States → J 0 0
 rg : ∀ x y,J x y → (0 ≤ x ∧ x < q.States) ∧ 0 ≤ y ∧ y < r.States
 ma : ∀ x y,J x y → (x ∈ q.Marked ↔ y ∈ r.Marked)
 step : ∀ x y,J x y → ∀ e ∈ q.Alphabet,(Qdg q x e < 0 ↔ Qdg r y e < 0) ∧ (0 ≤ Qdg q x e → J (Qdg q x e) (Qdg r y e))
theorem Qbih {q r : Qb} (hq : Right q) (hr : Right r) {l : List (Int × Int)} (hn : l.Nodup) (hl : ∀ p ∈ l,(0 ≤ p.1 ∧ p.1 < q.States) ∧ 0 ≤ p.2 ∧ p.2 < r.States) : l.length ≤ 16777216:=by
 have h1:=hq.st; have h2:=hr.st
 have hnd : (l.map fun p=>p.1 * 4096 + p.2).Nodup:=by
  refine List.Pairwise.map _ (S:=fun a b=>a ≠ b) (fun p q h=>h) ?_
  refine List.Pairwise.imp_of_mem (fun {p p'} hp hp' hne e=>hne ?_) hn
  have:=hl p hp; have:=hl p' hp'
  exact Prod.ext (by omega) (by omega)
 have:=Qbib (N:=16777216) hnd fun x hx=>by
  obtain ⟨p,hp,rfl⟩:=List.mem_map.1 hx
  have:=hl p hp; omega
 simpa using this
theorem Q8b {q r : Qb} (hq : Right q) (hr : Right r) {J : Int → Int → Prop} (hB : Qbk6 q r J) : Qc1 q r = some true:=by
 have hqs:=hq.small; have hrs:=hr.small
 have hqst:=hq.st; have hrst:=hr.st
 unfold Qc1 Q7
 rw [Q6h (by omega)]
 have e1 : ((decide (q.States > 0)) == (decide (r.States > 0))) = true:=by
  have:=hB.st
  by_cases h0 : 0 < q.States
  ·have:=this.1 h0; simp [h0,this]
  ·have h1 : ¬ 0 < r.States:=fun h=>h0 (this.2 h)
   simp [h0,h1]
 simp only [Option.bind_some,hB.al,decide_true,if_true,e1,Bool.not_true,Bool.false_eq_true,if_false]
 obtain ⟨l0,hl0,hl0n,hl0J⟩ : ∃ l0,(if (q.States > 0) then ((appO [] [((0 : Int),(0 : Int))]).bind fun x9=>some x9) else some []) = some l0 ∧ l0.Nodup ∧ ∀ p ∈ l0,J p.1 p.2:=by
  by_cases h0 : 0 < q.States
  ·refine ⟨[(0,0)],?_,by simp,fun p hp=>by simp at hp; subst hp; exact hB.zero h0⟩
   rw [if_pos h0,Qdn (by simp only [List.length_cons,List.length_nil]; unfold lim; omega)]; rfl
  ·exact ⟨[],by rw [if_neg h0],by simp,by simp⟩
 rw [hl0]
 simp only [Option.bind_some]
 have hlen : ∀ {l : List (Int × Int)},l.Nodup → (∀ p ∈ l,J p.1 p.2) → l.length ≤ 16777216:=fun hn hJ=>Qbih hq hr hn fun p hp=>hB.rg _ _ (hJ p hp)
 refine Qei (fun x=>∃ (l : List (Int × Int)) (i : Nat),x = (l,(i : Int)) ∧ i ≤ l.length ∧ l.Nodup ∧ ∀ p ∈ l,J p.1 p.2) (fun x=>16777217 - x.2.toNat) (fun x r=>r = some true) ?_ Qbn _ ⟨l0,0,rfl,Nat.zero_le _,hl0n,hl0J⟩ (by simp only [Int.toNat_zero]; unfold Qbn; omega)
 rintro k _ ⟨l,i,rfl,hi,hn,hJ⟩ ih
 have hll:=hlen hn hJ
 dsimp only
 by_cases hlt : i < l.length
 ·rw [if_pos (by omega),Qcf hlt]
  have hpg : l[i]? = some l[i]:=List.getElem?_eq_getElem hlt
  generalize l[i] = p at hpg ⊢
  have hp:=hJ p (List.mem_of_getElem? hpg)
  have hprg:=hB.rg _ _ hp
  simp only [Option.bind_some]
  rw [Qbj1 (by unfold big; omega),Qbj1 (by unfold big; omega)]
  simp only [Option.bind_some]
  rw [if_pos (beq_iff_eq.2 (decide_eq_decide.2 (hB.ma _ _ hp)))]
  refine Qei (fun x=>∃ (m : List (Int × Int)) (n : Nat),x = (m,(n : Int)) ∧ n ≤ r.Alphabet.length ∧ l <+: m ∧ m.Nodup ∧ ∀ p ∈ m,J p.1 p.2) (fun x=>r.Alphabet.length - x.2.toNat) (fun x r=>r = some true) ?_ Qbn _ ⟨l,0,rfl,Nat.zero_le _,List.prefix_refl l,hn,hJ⟩ (by simp only [Int.toNat_zero]; unfold Qbn; omega)
  rintro k2 _ ⟨m,n,rfl,hnn,hpre,hmn,hmJ⟩ ih2
  have hml:=hlen hmn hmJ
  have hpm:=Q0r hpre hpg
  have hgm : getO m (i : Int) = some p:=by rw [Qjf]; exact ⟨by omega,by simpa using hpm⟩
  dsimp only
  by_cases hln : n < r.Alphabet.length
  ·rw [if_pos (by omega)]
   unfold letJ
   rw [hgm,Qcf hln]
   have hea : r.Alphabet[n] ∈ q.Alphabet:=by rw [hB.al]; exact List.getElem_mem hln
   generalize r.Alphabet[n] = e at hea ⊢
   simp only [Option.bind_some]
   rw [Q0q hqs.1]
   simp only [Option.bind_some]
   rw [Q0q hrs.1]
   simp only [Option.bind_some]
   obtain ⟨hs1,hs2⟩:=hB.step _ _ hp e hea
   rw [if_pos (beq_iff_eq.2 (decide_eq_decide.2 hs1))]
   generalize hx : Qdg q p.1 e = x at hs1 hs2 ⊢
   generalize hy : Qdg r p.2 e = y at hs1 hs2 ⊢
   have hseen : Qcn (fun (k44 : Bool × Int → Option Bool) ((seen42,m43) : Bool × Int)=>(if (m43 < (m.length : Int)) then (((if seen42 then some true else ((getO m m43).bind fun x47=>some ((x47.1 == x) && ((x47.2 == y) && true))))).bind fun (seen49 : Bool)=>k44 (seen49,(IntKind.wrap .i64 (m43 + 1)))) else some seen42)) Qbn (decide (x < 0),0) = some (decide (x < 0) || m.any fun z=>decide (z = (x,y))):=by
    refine (Qjg (len:=m.length) (fun j (s : Bool)=>(s,(j : Int))) (fun j s=>s = (decide (x < 0) || (m.take j).any fun z=>decide (z = (x,y)))) (fun j s=>some (decide (x < 0) || m.any fun z=>decide (z = (x,y)))) ?_ ?_ Qbn 0 _ (Nat.zero_le _) (by unfold Qbn; omega) (by simp))
    ·rintro k j s hj rfl ih
     dsimp only
     rw [if_pos (by omega),Qcf hj]
     simp only [Option.bind_some]
     rw [Qbj (by omega)]
     have htk : (m.take (j + 1)).any (fun z=>decide (z = (x,y))) = ((m.take j).any (fun z=>decide (z = (x,y))) || decide (m[j] = (x,y))):=by
      rw [List.take_succ_eq_append_getElem hj,List.any_append]; simp
     refine Qqy (x:=(decide (x < 0) || (m.take (j + 1)).any fun z=>decide (z = (x,y)))) ?_ (ih _ rfl)
     rw [htk]
     generalize (m.take j).any (fun z=>decide (z = (x,y))) = b
     generalize m[j] = z
     by_cases hb : (decide (x < 0) || b) = true
     ·rw [if_pos hb]; rw [← Bool.or_assoc,hb]; rfl
     ·rw [if_neg hb,← Bool.or_assoc]
      simp only [Bool.not_eq_true] at hb
      rw [hb]
      obtain ⟨z1,z2⟩:=z
      by_cases h1 : z1 = x <;> by_cases h2 : z2 = y <;> simp [h1,h2]
    ·rintro k s rfl
     dsimp only
     rw [if_neg (by omega),List.take_length]
   refine Qqy hseen ?_
   ·rw [Qbj (by omega)]
    by_cases hany : (decide (x < 0) || m.any fun z=>decide (z = (x,y))) = true
    ·rw [if_pos hany]
     exact ih2 _ ⟨m,n + 1,rfl,by omega,hpre,hmn,hmJ⟩ (by simp only; omega)
    ·simp only [Bool.not_eq_true,Bool.or_eq_false_iff,decide_eq_false_iff_not] at hany
     rw [if_neg (by simp only [hany.2,Bool.or_false,decide_eq_true_eq]; exact hany.1),Qdn (by simp only [List.length_cons,List.length_nil]; unfold lim; omega)]
     simp only [Option.bind_some]
     have hxy:=hs2 (by omega)
     refine ih2 _ ⟨m ++ [(x,y)],n + 1,rfl,by omega,hpre.trans (List.prefix_append _ _),?_,fun z hz=>?_⟩ (by simp only; omega)
     ·rw [List.nodup_append]
      refine ⟨hmn,by simp,fun z hz w hw e=>?_⟩
      simp at hw; subst hw; subst e
      have:=List.any_eq_false.1 hany.2 _ hz
      simp at this
     ·rcases List.mem_append.1 hz with hz | hz
      ·exact hmJ z hz
      ·simp at hz; subst hz; exact hxy
  ·rw [if_neg (by omega),Qbj (by omega)]
   exact ih _ ⟨m,i + 1,rfl,by have:=hpre.length_le; omega,hmn,hmJ⟩ (by simp only; omega)
 ·rw [if_neg (by omega)]
end Go.Abs
end
section
namespace Go.Abs
open Go
set_option linter.unusedSimpArgs false
set_option linter.unusedVariables false
theorem Q6i {c : Qb} (h : Right c) (h0 : 0 < c.States) : ∀ i,Fnd c (fndB c i)
 | 0=>⟨by simp [fndB],fun s hs=>by simp [fndB] at hs; subst hs; omega⟩
 | i + 1=>by
  unfold fndB
  split
  ·exact (Qsn (Q6i h h0 i) (Qv1 h _)).1
  ·exact Q6i h h0 i
theorem Qbjn {c : Qb} (h : Right c) (h0 : 0 < c.States) {n : Nat} (hn : (fndB c n).length = n) : fndB c n = Qca c:=by
 have hl:=(Q6i h h0 n).len
 rw [Qbfu h0,show c.States.toNat + 1 = n + (c.States.toNat + 1 - n) from by omega,Q78 (List.getElem?_eq_none (by omega))]
theorem Qbl0 {a : Qb} (h : Right a) (s : Int) : outP a s = (a.Alphabet.filter fun e=>decide (0 ≤ Qdg a s e)).map fun e=>⟨s,e,Qdg a s e⟩:=by
 rw [← Qv0 h s,List.map_map]
 conv=>lhs; rw [← List.map_id (outP a s)]
 refine List.map_congr_left fun x hx=>?_
 have hf : x.From = s:=by unfold outP at hx; simp at hx; exact hx.2
 have hst:=Q0a h hx
 simp only [Function.comp,hst]
 rw [← hf]; rfl
theorem Q9w (b : Qb) (onto : List Int) (s e : Int) : Qdg (Qdk b onto) s e = if e ∈ onto then Qdg b s e else -1:=by
 have key : ∀ l : List Qe,(l.filter fun x=>decide (x.Event ∈ onto)).find? (fun x=>x.From == s && x.Event == e) = if e ∈ onto then l.find? (fun x=>x.From == s && x.Event == e) else none:=by
  intro l
  induction l with
  | nil=>simp
  | cons x l ih =>
   by_cases hx : x.Event ∈ onto
   ·rw [List.filter_cons_of_pos (by simpa using hx),List.find?_cons,List.find?_cons,ih]
    by_cases hq : (x.From == s && x.Event == e) = true
    ·have : e ∈ onto:=by simp only [Bool.and_eq_true,beq_iff_eq] at hq; rw [← hq.2]; exact hx
     rw [hq,if_pos this,if_pos this]
    ·simp only [Bool.not_eq_true] at hq
     rw [hq]
   ·rw [List.filter_cons_of_neg (by simpa using hx),ih,List.find?_cons]
    by_cases he : e ∈ onto
    ·have : (x.From == s && x.Event == e) = false:=by
      rw [Bool.eq_false_iff]; intro hq
      simp only [Bool.and_eq_true,beq_iff_eq] at hq
      exact hx (by rw [hq.2]; exact he)
     rw [if_pos he,if_pos he,this]
    ·rw [if_neg he,if_neg he]
 unfold Qdg Qdk
 simp only [key]
 by_cases h : e ∈ onto
 ·rw [if_pos h,if_pos h]
 ·rw [if_neg h,if_neg h]
section
variable {b : Qb} (hb : Right b) {onto : List Int} (hs : Qbk5 b onto)
include hb hs
theorem Qbco (s : Int) : ∀ l : List Int,Qnz b onto [s] (l.filter fun x=>decide (x ∈ onto)) = (l.filter fun e=>decide (0 ≤ Qdg (Qdk b onto) s e)).map fun e=>(e,[Qdg (Qdk b onto) s e])
 | []=>rfl
 | x :: l=>by
  have ih:=Qbco s l
  by_cases hx : x ∈ onto
  ·have e1 : Qdg (Qdk b onto) s x = Qdg b s x:=by rw [Q9w,if_pos hx]
   rw [List.filter_cons_of_pos (by simpa using hx)]
   by_cases h0 : 0 ≤ Qdg b s x
   ·have : Qnz b onto [s] (x :: l.filter fun x=>decide (x ∈ onto)) = (x,[Qdg b s x]) :: Qnz b onto [s] (l.filter fun x=>decide (x ∈ onto)):=by
     simp only [Qnz,List.filterMap_cons,Q9s hb hs,h0,if_true]
     rw [if_neg (by simp)]
    rw [this,ih,List.filter_cons_of_pos (by rw [e1]; simpa using h0),List.map_cons,e1]
   ·have : Qnz b onto [s] (x :: l.filter fun x=>decide (x ∈ onto)) = Qnz b onto [s] (l.filter fun x=>decide (x ∈ onto)):=by
     simp only [Qnz,List.filterMap_cons,Q9s hb hs,h0,if_false,if_true]
    rw [this,ih,List.filter_cons_of_neg (by rw [e1]; simpa using h0)]
  ·have e1 : Qdg (Qdk b onto) s x = -1:=by rw [Q9w,if_neg hx]
   rw [List.filter_cons_of_neg (by simpa using hx),ih,List.filter_cons_of_neg (by rw [e1]; simp)]
theorem Q9x (s : Int) : rowN b onto [s] = (b.Alphabet.filter fun e=>decide (0 ≤ Qdg (Qdk b onto) s e)).map fun e=>(e,[Qdg (Qdk b onto) s e]):=Qbco hb hs s b.Alphabet
theorem Qbfw (s : Int) (o : List Int) : Qyn (sing o) (rowN b onto [s]) = sing ((Qgi (Qdk b onto) s).foldl ins o):=by
 rw [Q9x hb hs,Q0d (Qlb hb onto)]
 show Qyn _ ((b.Alphabet.filter _).map _) = sing ((List.map _ (b.Alphabet.filter _)).foldl ins o)
 generalize b.Alphabet.filter (fun e=>decide (0 ≤ Qdg (Qdk b onto) s e)) = l
 induction l generalizing o with
 | nil=>rfl
 | cons x l ih =>
  show Qyn (insL (sing o) [Qdg (Qdk b onto) s x]) _ = _
  rw [Qbjk,ih]; rfl
theorem Q5s (h0 : 0 < b.States) : ∀ i,estB b onto i = sing (fndB (Qdk b onto) i)
 | 0=>by
  have : Qj9 b onto = [0]:=by
   unfold Qj9
   rw [if_neg (by omega)]
   exact Q3s hb hs ⟨fun t ht=>by simp at ht; subst ht; omega,by simp⟩
  simp [estB,fndB,sing,this]
 | i + 1=>by
  rw [show estB b onto (i + 1) = (match (estB b onto i)[i]? with | some s=>Qyn (estB b onto i) (rowN b onto s) | none=>estB b onto i) from rfl,Q5s h0 i,Qbey]
  rw [show fndB (Qdk b onto) (i + 1) = (match (fndB (Qdk b onto) i)[i]? with | some s=>(Qgi (Qdk b onto) s).foldl ins (fndB (Qdk b onto) i) | none=>fndB (Qdk b onto) i) from rfl]
  cases (fndB (Qdk b onto) i)[i]? with
  | none=>rfl
  | some s=>exact Qbfw hb hs s _
theorem Q8c (F : List Int) : ∀ (l : List Int) (i : Nat),edN b onto (sing F) i (sing l) = Qhc (Qdk b onto) F i l
 | [],i=>rfl
 | s :: l,i=>by
  show rowE (sing F) i (rowN b onto [s]) ++ edN b onto (sing F) (i + 1) (sing l) = _
  rw [Q8c F l (i + 1)]
  simp only [Qhc]
  congr 1
  unfold rowE rowP
  rw [Q9x hb hs,Qbl0 (Qlb hb onto),List.map_map,List.map_map]
  refine List.map_congr_left fun e _=>?_
  simp only [Function.comp,Qbjl]
omit hb hs in
theorem Q8d : ∀ (l : List Int) (i : Nat),mkN b i (sing l) = Qj8 b.Marked i l
 | [],i=>rfl
 | s :: l,i=>by
  show (if [s].any (fun x=>decide (x ∈ b.Marked)) then [(i : Int)] else []) ++ mkN b (i + 1) (sing l) = _
  rw [Q8d l (i + 1)]
  simp only [Qj8,List.any_cons,List.any_nil,Bool.or_false,decide_eq_true_eq]
theorem Qbcp (ho : EvSet onto) (h0 : 0 < b.States) : Qbw b onto = some (⟨Qes b onto,((Qca (Qdk b onto)).length : Int),Qj8 b.Marked 0 (Qca (Qdk b onto)),Qhc (Qdk b onto) (Qca (Qdk b onto)) 0 (Qca (Qdk b onto))⟩,sing (Qca (Qdk b onto)),0):=by
 have hst:=hb.st
 have hr:=Qlb hb onto
 obtain ⟨r,hr1,hr2⟩:=Q0t hb ho
 rw [if_neg (by omega)] at hr2
 rw [hr1]
 congr 1
 rcases hr2 with ⟨n,h1,_,rfl⟩ | ⟨n,h1,rfl⟩
 ·rw [Q5s hb hs h0] at h1 ⊢
  have h2 : (fndB (Qdk b onto) n).length = n:=by simpa [sing] using h1
  rw [Qbjn hr h0 h2]
  unfold autN
  rw [Q8c hb hs,Q8d]
  simp [sing]
 ·exfalso
  rw [Q5s hb hs h0] at h1
  have h2:=(Q6i hr h0 n).len
  have h3 : (Qdk b onto).States = b.States:=rfl
  simp only [sing,List.length_map] at h1
  omega
theorem Qbcq (ho : EvSet onto) (h0 : 0 < b.States) (hf : Qca (Qdk b onto) = upto b.States) :
  Qbw b onto = some (⟨Qes b onto,b.States,b.Marked,(Qdk b onto).Edges⟩,sing (upto b.States),0):=by
 have hst:=hb.st
 have hr:=Qlb hb onto
 rw [Qbcp hb hs ho h0,hf,Qny,Qbdm hb.ma0 hb.ma]
 have h1:=Q77 hr (n:=b.States) rfl b.States.toNat 0 (by omega)
 rw [List.drop_zero] at h1
 rw [h1]
 have h2 : ((Qdk b onto).Edges.filter fun x=>decide (((0 : Nat) : Int) ≤ x.From)) = (Qdk b onto).Edges:=List.filter_eq_self.2 fun x hx=>by
  have:=hr.ed0 x hx; simp; omega
 rw [h2]
 simp only [Option.some.injEq,Prod.mk.injEq,Qb.mk.injEq,true_and,and_true]
 omega
end
end Go.Abs
end
section
namespace Go.Abs
open Go
set_option linter.unusedSimpArgs false
set_option linter.unusedVariables false
theorem Qbcr {a b : Qb} (h : ∀ s,Qgi a s = Qgi b s) : ∀ (f i : Nat) (o : List Int),bfs a f i o = bfs b f i o
 | 0,i,o=>rfl
 | f + 1,i,o=>by
  unfold bfs
  cases o[i]? with
  | none=>rfl
  | some s=>dsimp only; rw [h s,Qbcr h f]
theorem Qbdp {a b : Qb} (hs : a.States = b.States) (h : ∀ s,Qgi a s = Qgi b s) : Qca a = Qca b:=by
 unfold Qca; rw [hs,Qbcr h]
theorem Qbfx {a b : Qb} (h : a.Edges = b.Edges) (s : Int) : Qgi a s = Qgi b s:=by
 unfold Qgi outP; rw [h]
end Go.Abs
end
section
namespace Go.Abs
open Go
set_option linter.unusedSimpArgs false
set_option linter.unusedVariables false
def evT (s : Nat) : Bool:=match Qcb (s : Int) with
 | some l=>decide (l = (upto 5).filter fun x=>s.testBit x.toNat)
 | none=>false
theorem Qbk7 : (List.range 256).all evT = true:=by kernel_rfl
theorem Q8e {s : Nat} (h : s < 256) : Qcb (s : Int) = some ((upto 5).filter fun x=>s.testBit x.toNat):=by
 have h1:=List.all_eq_true.1 Qbk7 s (List.mem_range.2 h)
 unfold evT at h1
 split at h1
 ·rename_i l hl; rw [hl]; simp only [decide_eq_true_eq] at h1; rw [h1]
 ·cases h1
theorem Qbl1 {x y : Nat} (hx : x < 256) (hy : y < 256) : andI .u8 (x : Int) (y : Int) = ((x &&& y : Nat) : Int) ∧ x &&& y < 256:=by
 have hle : x &&& y ≤ x:=Nat.and_le_left
 have e1 : (BitVec.ofInt 8 (x : Int)).toNat = x:=by simp [BitVec.toNat_ofInt]; omega
 have e2 : (BitVec.ofInt 8 (y : Int)).toNat = y:=by simp [BitVec.toNat_ofInt]; omega
 refine ⟨?_,by omega⟩
 unfold andI
 show IntKind.wrap .u8 ((BitVec.ofInt 8 (x : Int) &&& BitVec.ofInt 8 (y : Int)).toNat : Int) = _
 rw [BitVec.toNat_and,e1,e2]
 exact Qbkx (by omega) (by omega)
theorem Q4u {a : Qb} (h : Right a) (h0 : 0 < a.States) (h12 : a.States ≤ 12) {onto : List Int} (ho : EvSet onto) :
  ∃ S,Qbw a onto = some (autN a onto S,S,0) ∧ Proj a onto S ∧ S.length ≤ 4096:=by
 obtain ⟨r,h1,h2⟩:=Q0t h ho
 rw [if_neg (by omega)] at h2
 rcases h2 with ⟨n,h3,h4,rfl⟩ | ⟨n,h3,rfl⟩
 ·exact ⟨_,h1,Qbig h h0 h3,by omega⟩
 ·exfalso
  have:=Qbe0 (Qso h0 onto n) (n:=12) h12
  omega
section
variable {a : Qb} (h : Right a) {onto part : List Int} {S1 S2 S3 : List (List Int)} (h1 : Proj a onto S1) (l1 : S1.length ≤ 4096) (h2 : Proj (autN a onto S1) part S2) (l2 : S2.length ≤ 4096) (h3 : Proj a part S3) (l3 : S3.length ≤ 4096) (hsub : ∀ e ∈ part,e ∈ onto)
include h h1 l1 h2 l2 h3 l3 hsub
theorem Qbdq (h0 : 0 < a.States) : Qbk6 (autN (autN a onto S1) part S2) (autN a part S3) (fun x y=>0 ≤ x ∧ 0 ≤ y ∧ ∃ X Y,S2[x.toNat]? = some X ∧ S3[y.toNat]? = some Y ∧ ∀ t,t ∈ Y ↔ InU S1 X t):=by
 have hp:=Qlc h h1 l1
 have hal : Qes (autN a onto S1) part = Qes a part:=by
  show (a.Alphabet.filter _).filter _ = a.Alphabet.filter _
  rw [List.filter_filter]
  refine List.filter_congr fun e _=>?_
  by_cases he : e ∈ part
  ·simp [he,hsub e he]
  ·simp [he]
 have hf2:=(List.getElem?_eq_some_iff.1 h2.first).1
 have hf3:=(List.getElem?_eq_some_iff.1 h3.first).1
 refine ⟨hal,?_,fun _=>⟨Int.le_refl _,Int.le_refl _,_,_,h2.first,h3.first,Qbdo h h1 l1 hsub h0⟩,?_,?_,?_⟩
 ·show 0 < (S2.length : Int) ↔ 0 < (S3.length : Int)
  omega
 ·rintro x y ⟨hx,hy,X,Y,hX,hY,_⟩
  have k1:=(List.getElem?_eq_some_iff.1 hX).1
  have k2:=(List.getElem?_eq_some_iff.1 hY).1
  show (0 ≤ x ∧ x < (S2.length : Int)) ∧ 0 ≤ y ∧ y < (S3.length : Int)
  omega
 ·rintro x y ⟨hx,hy,X,Y,hX,hY,hXY⟩
  have e1:=Qv6 hp h2 hX
  have e2:=Qv6 h h3 hY
  rw [Int.toNat_of_nonneg hx] at e1
  rw [Int.toNat_of_nonneg hy] at e2
  rw [e1,e2]
  have hXr:=(h2.es.ok X (List.mem_of_getElem? hX)).1.rg
  constructor
  ·rintro ⟨k,hk,hkm⟩
   have hkr:=hXr k hk
   have hkr2 : k < (S1.length : Int):=hkr.2
   obtain ⟨s,hs⟩ : ∃ s,S1[k.toNat]? = some s:=⟨_,List.getElem?_eq_getElem (by omega)⟩
   have:=Qv6 h h1 hs
   rw [Int.toNat_of_nonneg hkr.1] at this
   obtain ⟨t,ht,htm⟩:=this.1 hkm
   exact ⟨t,(hXY t).2 ⟨k.toNat,by rw [Int.toNat_of_nonneg hkr.1]; exact hk,s,hs,ht⟩,htm⟩
  ·rintro ⟨t,ht,htm⟩
   obtain ⟨k,hk,s,hs,hts⟩:=(hXY t).1 ht
   exact ⟨k,hk,(Qv6 h h1 hs).2 ⟨t,hts,htm⟩⟩
 ·rintro x y ⟨hx,hy,X,Y,hX,hY,hXY⟩ e he
  have he2 : e ∈ Qes (autN a onto S1) part:=he
  have he3 : e ∈ Qes a part:=by rw [← hal]; exact he2
  have hpart : e ∈ part:=by have:=(List.mem_filter.1 he3).2; simpa using this
  have hea : e ∈ a.Alphabet:=(List.mem_filter.1 he3).1
  have k1:=Qbcm hp h2 l2 hX he2
  have k2:=Qbcm h h3 l3 hY he3
  rw [Int.toNat_of_nonneg hx] at k1
  rw [Int.toNat_of_nonneg hy] at k2
  have hXr:=(h2.es.ok X (List.mem_of_getElem? hX)).1.rg
  have hYr:=(h3.es.ok Y (List.mem_of_getElem? hY)).1.rg
  have hnx:=Qbfv h h1 l1 hsub (X:=X) (Y:=Y) hXr hYr hXY hpart hea
  have hemp : Qej (autN a onto S1) part X e = [] ↔ Qej a part Y e = []:=by
   constructor
   ·intro hn
    cases hc : Qej a part Y e with
    | nil=>rfl
    | cons t r =>
     obtain ⟨k,hk,_⟩:=(hnx t).1 (by rw [hc]; simp)
     rw [hn] at hk; simp at hk
   ·intro hn
    cases hc : Qej (autN a onto S1) part X e with
    | nil=>rfl
    | cons k r =>
     have hkr:=(Q72 (autN a onto S1) part X e).rg k (by rw [hc]; simp)
     have hkr2 : k < (S1.length : Int):=hkr.2
     obtain ⟨s,hs⟩ : ∃ s,S1[k.toNat]? = some s:=⟨_,List.getElem?_eq_getElem (by omega)⟩
     have hne:=(h1.es.ok s (List.mem_of_getElem? hs)).2
     cases s with
     | nil=>exact absurd rfl hne
     | cons t s' =>
      have:=(hnx t).2 ⟨k.toNat,by rw [Int.toNat_of_nonneg hkr.1,hc]; simp,_,hs,by simp⟩
      rw [hn] at this; simp at this
  rw [k1,k2]
  by_cases hn : Qej (autN a onto S1) part X e = []
  ·rw [if_pos hn,if_pos (hemp.1 hn)]
   exact ⟨Iff.rfl,fun h=>by omega⟩
  ·have hn2 : Qej a part Y e ≠ []:=fun h=>hn (hemp.2 h)
   rw [if_neg hn,if_neg hn2]
   refine ⟨by omega,fun _=>⟨Int.natCast_nonneg _,Int.natCast_nonneg _,_,_,by rw [Int.toNat_natCast]; exact Qv5 hp h2 (List.mem_of_getElem? hX) he2 hn,by rw [Int.toNat_natCast]; exact Qv5 h h3 (List.mem_of_getElem? hY) he3 hn2,hnx⟩⟩
end
theorem Qbfy {a : Qb} (h : Right a) (h0 : a.States = 0) : a.Marked = [] ∧ a.Edges = []:=by
 constructor
 ·cases hM : a.Marked with
  | nil=>rfl
  | cons x t=>have:=h.ma0 x (by rw [hM]; simp); omega
 ·cases hE : a.Edges with
  | nil=>rfl
  | cons x t=>have:=h.ed0 x (by rw [hE]; simp); omega
theorem Qqd {a : Qb} (h : Right a) (h0 : a.States = 0) {onto : List Int} (ho : EvSet onto) : Qbw a onto = some (⟨Qes a onto,0,[],[]⟩,[],0):=by
 obtain ⟨r,h1,h2⟩:=Q0t h ho
 rw [if_pos h0] at h2
 rw [h1,h2]
theorem Qbe2 {a : Qb} : Qes a a.Alphabet = a.Alphabet:=List.filter_eq_self.2 fun x hx=>by simpa using hx
theorem Qbdr {m : Qb} (hm : Right m) (h0 : 0 < (Qfg m).States) : Qbw (Qfg m) (Qfg m).Alphabet = some (Qfg m,sing (upto (Qfg m).States),0):=by
 have ha:=Q0c hm
 have hf:=Qbdl hm
 generalize Qfg m = a at ha hf h0 ⊢
 have hs : Qbk5 a a.Alphabet:=fun x hx hn=>absurd (ha.ed0 x hx).2.2.2.2 hn
 have hE : (Qdk a a.Alphabet).Edges = a.Edges:=List.filter_eq_self.2 fun x hx=>by simpa using (ha.ed0 x hx).2.2.2.2
 have hr : Qca (Qdk a a.Alphabet) = upto a.States:=by
  rw [← hf]; exact Qbdp rfl (Qbfx hE)
 rw [Qbcq ha hs ⟨ha.al0,ha.al⟩ h0 hr,Qbe2,hE]
theorem Qbe3 (s : Int × Int × Int) (g : Q3) (hs1 : 0 ≤ s.1 ∧ s.1 < 256) (hs2 : 0 ≤ s.2.1 ∧ s.2.1 < 256) (hs3 : 0 ≤ s.2.2 ∧ s.2.2 < 256) (hg : Qbh4 g) : Qdp s g = some true:=by
 unfold Qdp Qcv
 rw [Qbh5]
 simp only [Option.bind_some,if_true]
 obtain ⟨ev,hE,hev⟩:=Q7u hs1.1 hs1.2
 obtain ⟨m,hm,_,hM,hm5⟩:=Qbkz hev hg
 have ha:=Q0c hm
 have h5 : (Qfg m).States ≤ 5:=Int.le_trans (Qbfs hm).1 hm5
 rw [hE]
 simp only [Option.bind_some]
 rw [hM]
 simp only [Option.bind_some]
 obtain ⟨s1,s2,s3⟩:=s
 simp only at hs1 hs2 hs3 ⊢
 obtain ⟨n2,rfl⟩ : ∃ n : Nat,s2 = n:=⟨s2.toNat,by omega⟩
 obtain ⟨n3,rfl⟩ : ∃ n : Nat,s3 = n:=⟨s3.toNat,by omega⟩
 have hb2 : n2 < 256:=by omega
 obtain ⟨hand,hb23⟩:=Qbl1 hb2 (show n3 < 256 by omega)
 obtain ⟨on,hEo,hon⟩:=Q7u hs2.1 hs2.2
 obtain ⟨pa,hEp,hpa⟩:=Q7u (s:=((n2 &&& n3 : Nat) : Int)) (by omega) (by omega)
 have hsub : ∀ e ∈ pa,e ∈ on:=by
  rw [Q8e hb2] at hEo
  rw [Q8e hb23] at hEp
  cases hEo; cases hEp
  intro e he
  obtain ⟨k1,k2⟩:=List.mem_filter.1 he
  rw [Nat.testBit_and,Bool.and_eq_true] at k2
  exact List.mem_filter.2 ⟨k1,k2.1⟩
 rw [hEo]
 simp only [Option.bind_some]
 rw [hand,hEp]
 simp only [Option.bind_some]
 have hos:=hon.set
 have hps:=hpa.set
 have hst:=ha.st
 by_cases h0 : (Qfg m).States = 0
 ·have hae : EvSet (Qfg m).Alphabet:=⟨ha.al0,ha.al⟩
  obtain ⟨zM,zE⟩:=Qbfy ha h0
  generalize Qfg m = a at ha h0 hae zM zE h5 hst ⊢
  rw [Qqd ha h0 hos]
  simp only [Option.bind_some]
  have hz : ∀ on : List Int,EvSet on → Right (⟨Qes a on,0,[],[]⟩ : Qb):=fun on _=>⟨fun x hx=>ha.al0 x (List.mem_filter.1 hx).1,ha.al.filter _,⟨Int.le_refl _,by show (0:Int) ≤ 4096; decide⟩,by simp,by simp,by simp,by simp⟩
  rw [Qqd (hz on hos) rfl hps]
  simp only [Option.bind_some]
  rw [Qqd ha h0 hps]
  simp only [Option.bind_some]
  rw [Qqd ha h0 hae,Qbe2]
  simp only [Option.bind_some]
  rw [if_neg (by decide)]
  simp only [Option.bind_some,Bool.false_eq_true,if_false,show ((0 : Int) != 0) = false from rfl]
  have hal : Qes (⟨Qes a on,0,[],[]⟩ : Qb) pa = Qes a pa:=by
   show (a.Alphabet.filter _).filter _ = a.Alphabet.filter _
   rw [List.filter_filter]
   refine List.filter_congr fun e _=>?_
   by_cases he : e ∈ pa
   ·simp [he,hsub e he]
   ·simp [he]
  rw [hal]
  have hB : Qbk6 (⟨Qes a pa,0,[],[]⟩ : Qb) ⟨Qes a pa,0,[],[]⟩ (fun _ _=>False):=⟨rfl,Iff.rfl,fun h=>absurd h (Int.lt_irrefl 0),fun _ _ h=>h.elim,fun _ _ h=>h.elim,fun _ _ h=>h.elim⟩
  rw [Q8b (hz pa hps) (hz pa hps) hB]
  simp only [Option.bind_some,if_true]
  have hsame : (⟨a.Alphabet,0,[],[]⟩ : Qb) = a:=by
   obtain ⟨al,st,ma,ed⟩:=a
   simp only at h0 zM zE; subst h0 zM zE; rfl
  rw [hsame,Qbh6 ha.small.1]
  simp only [Option.bind_some,decide_true,if_true]
  rw [h0]
  obtain ⟨f,hf⟩ : ∃ f,Qbn = f + 1:=⟨1099511627775,rfl⟩
  rw [hf]
  rfl
 ·have hpos : 0 < (Qfg m).States:=by omega
  have hX:=Qbdr hm hpos
  generalize Qfg m = a at ha h0 hpos h5 hst hX ⊢
  obtain ⟨S1,e1,p1,l1⟩:=Q4u ha hpos (by omega) hos
  rw [e1]
  simp only [Option.bind_some]
  have hR1:=Qlc ha p1 l1
  have hpp : 0 < (autN a on S1).States:=by
   have:=(List.getElem?_eq_some_iff.1 p1.first).1
   show 0 < (S1.length : Int); omega
  obtain ⟨r,e2,e2'⟩:=Q0t hR1 hps
  rw [if_neg (by omega)] at e2'
  rw [e2]
  simp only [Option.bind_some]
  obtain ⟨S3,e3,p3,l3⟩:=Q4u ha hpos (by omega) hps
  rw [e3]
  simp only [Option.bind_some]
  rw [hX]
  simp only [Option.bind_some]
  rcases e2' with ⟨n,k1,k2,rfl⟩ | ⟨n,k1,rfl⟩
  ·have p2:=Qbig hR1 hpp k1
   have l2 : (estB (autN a on S1) pa n).length ≤ 4096:=by omega
   generalize estB (autN a on S1) pa n = S2 at p2 l2 ⊢
   simp only
   rw [if_neg (by decide)]
   simp only [Option.bind_some,Bool.false_eq_true,if_false,show ((0 : Int) != 0) = false from rfl]
   rw [Q8b (Qlc hR1 p2 l2) (Qlc ha p3 l3) (Qbdq ha p1 l1 p2 l2 p3 l3 hsub hpos)]
   simp only [Option.bind_some,if_true]
   rw [Qbh6 ha.small.1]
   simp only [Option.bind_some,decide_true,if_true]
   have hlen : ((sing (upto a.States)).length : Int) = a.States:=by simp [sing,Qny]; omega
   rw [hlen]
   simp only [bne_self_eq_false,Bool.false_eq_true,if_false]
   refine Qbej (fun i : Int=>∃ n : Nat,i = n ∧ n ≤ a.States.toNat) (fun i=>a.States.toNat - i.toNat) _ ⟨0,rfl,by omega⟩ (by simp only [Int.toNat_zero]; unfold Qbn; omega) ?_
   rintro k _ ⟨j,rfl,hj⟩ ih
   by_cases hlt : j < a.States.toNat
   ·have hg : getO (sing (upto a.States)) (j : Int) = some [(j : Int)]:=by
     rw [Qjf]; refine ⟨by omega,?_⟩
     rw [Int.toNat_natCast,Qbey,Ql6? hlt]; rfl
    rw [if_pos (by omega),hg]
    simp only [Option.bind_some]
    rw [Q6h (by simp)]
    simp only [Option.bind_some,decide_true,if_true]
    rw [Qbj (by omega)]
    exact ih _ ⟨j + 1,rfl,by omega⟩ (by omega)
   ·rw [if_neg (by omega)]
  ·simp only
   rw [if_pos (by decide)]
   have h12 : 12 < (autN a on S1).States:=by
    rcases Int.lt_or_le 12 (autN a on S1).States with h | h
    ·exact h
    ·exfalso
     have:=Qbe0 (Qso hpp pa n) (n:=12) (by omega)
     omega
   simp only [Option.bind_some]
   rw [if_pos (by simpa using h12)]
end Go.Abs
end
