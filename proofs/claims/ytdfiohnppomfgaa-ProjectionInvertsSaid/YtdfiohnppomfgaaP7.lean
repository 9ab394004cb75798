/-
  Part 7 of the proof: see the last text.
-/
import Derived.Test.YtdfiohnppomfgaaP6
import Derived.KernelRfl
set_option linter.unusedVariables false
set_option linter.unusedSimpArgs false
set_option linter.unusedSectionVars false
section
namespace Go.Abs
open Go
set_option linter.unusedSimpArgs false
set_option linter.unusedVariables false
def Qdx (x y : Qe) : Prop:=x.From < y.From ∨ x.From = y.From ∧ x.Event < y.Event
instance (x y : Qe) : Decidable (Qdx x y):=by unfold Qdx; infer_instance
structure Right (a : Qa) : Prop where
 al0 : ∀ x ∈ a.Alphabet,0 ≤ x ∧ x < 32
 al : a.Alphabet.Pairwise (· < ·)
 st : 0 ≤ a.States ∧ a.States ≤ 4096
 ma0 : ∀ x ∈ a.Marked,0 ≤ x ∧ x < a.States
 ma : a.Marked.Pairwise (· < ·)
 ed0 : ∀ x ∈ a.Edges,0 ≤ x.From ∧ x.From < a.States ∧ 0 ≤ x.To ∧ x.To < a.States ∧ x.Event ∈ a.Alphabet
 ed : a.Edges.Pairwise Qdx
theorem Qho {n : Int} : ∀ {l : List Int} {p : Option Int},Qdw n p l = 0 ↔ (∀ x ∈ l,0 ≤ x ∧ x < n) ∧ l.Pairwise (· < ·) ∧ ∀ y,p = some y → ∀ x ∈ l,y < x
 | [],p=>by simp [Qdw]
 | x :: xs,p=>by
  rw [Qdw]
  split
  ·rename_i h
   refine ⟨fun h=>by omega,fun hh=>?_⟩
   have:=hh.1 x (by simp); omega
  ·rename_i h
   split
   ·rename_i h2
    obtain ⟨y,hy,hxy⟩:=h2
    refine ⟨fun h=>by omega,fun hh=>?_⟩
    have:=hh.2.2 y hy x (by simp); omega
   ·rename_i h2
    rw [Qho]
    constructor
    ·rintro ⟨k1,k2,k3⟩
     refine ⟨fun z hz=>?_,List.pairwise_cons.2 ⟨fun z hz=>k3 x rfl z hz,k2⟩,fun y hy z hz=>?_⟩
     ·rcases List.mem_cons.1 hz with rfl | hz
      ·omega
      ·exact k1 z hz
     ·have hyx : y < x:=by
       rcases Int.lt_or_le y x with h | h
       ·exact h
       ·exact absurd ⟨y,hy,h⟩ h2
      rcases List.mem_cons.1 hz with rfl | hz
      ·exact hyx
      ·have:=k3 x rfl z hz; omega
    ·rintro ⟨k1,k2,k3⟩
     obtain ⟨k4,k5⟩:=List.pairwise_cons.1 k2
     exact ⟨fun z hz=>k1 z (by simp [hz]),k5,fun y hy z hz=>by cases hy; exact k4 z hz⟩
theorem Qvx {al : List Int} {n : Int} : ∀ {l : List Qe} {p : Option Qe},Qig al n p l = 0 ↔ (∀ x ∈ l,0 ≤ x.From ∧ x.From < n ∧ 0 ≤ x.To ∧ x.To < n ∧ x.Event ∈ al) ∧ l.Pairwise Qdx ∧ ∀ y,p = some y → ∀ x ∈ l,Qdx y x
 | [],p=>by simp [Qig]
 | x :: xs,p=>by
  have tr : ∀ a b c : Qe,Qdx a b → Qdx b c → Qdx a c:=fun a b c h k=>by unfold Qdx at *; omega
  rw [Qig]
  split
  ·rename_i h
   refine ⟨fun h=>by omega,fun hh=>?_⟩
   have:=hh.1 x (by simp); omega
  ·rename_i h
   split
   ·rename_i h2
    refine ⟨fun h=>by omega,fun hh=>?_⟩
    exact absurd (hh.1 x (by simp)).2.2.2.2 h2
   ·rename_i hal
    split
    ·rename_i h2
     obtain ⟨y,hy,hxy⟩:=h2
     refine ⟨fun h=>by omega,fun hh=>?_⟩
     have:=hh.2.2 y hy x (by simp)
     unfold Qdx at this; omega
    ·rename_i h2
     rw [Qvx]
     constructor
     ·rintro ⟨k1,k2,k3⟩
      refine ⟨fun z hz=>?_,List.pairwise_cons.2 ⟨fun z hz=>k3 x rfl z hz,k2⟩,fun y hy z hz=>?_⟩
      ·rcases List.mem_cons.1 hz with rfl | hz
       ·exact ⟨by omega,by omega,by omega,by omega,Decidable.not_not.1 hal⟩
       ·exact k1 z hz
      ·have hyx : Qdx y x:=by
        apply Decidable.byContradiction
        intro h
        exact h2 ⟨y,hy,by unfold Qdx at h; omega⟩
       rcases List.mem_cons.1 hz with rfl | hz
       ·exact hyx
       ·exact tr _ _ _ hyx (k3 x rfl z hz)
     ·rintro ⟨k1,k2,k3⟩
      obtain ⟨k4,k5⟩:=List.pairwise_cons.1 k2
      exact ⟨fun z hz=>k1 z (by simp [hz]),k5,fun y hy z hz=>by cases hy; exact k4 z hz⟩
theorem Qbb8 {a : Qa} : Qvw a = 0 ↔ Right a:=by
 unfold Qvw
 constructor
 ·intro h
  split at h
  ·rename_i h1; exact absurd h h1
  rename_i h1
  split at h
  ·omega
  split at h
  ·omega
  split at h
  ·rename_i h4; exact absurd h h4
  rename_i h4
  have q1:=Qho.1 (Decidable.not_not.1 h1)
  have q2:=Qho.1 (Decidable.not_not.1 h4)
  have q3:=Qvx.1 h
  exact ⟨q1.1,q1.2.1,⟨by omega,by omega⟩,q2.1,q2.2.1,q3.1,q3.2.1⟩
 ·intro h
  have q1 : Qdw 32 none a.Alphabet = 0:=Qho.2 ⟨h.al0,h.al,fun y hy=>by cases hy⟩
  have q2 : Qdw a.States none a.Marked = 0:=Qho.2 ⟨h.ma0,h.ma,fun y hy=>by cases hy⟩
  have q3 : Qig a.Alphabet a.States none a.Edges = 0:=Qvx.2 ⟨h.ed0,h.ed,fun y hy=>by cases hy⟩
  have:=h.st
  rw [if_neg (by simp [q1]),if_neg (by omega),if_neg (by omega),if_neg (by simp [q2]),q3]
def outP (a : Qa) (s : Int) : List Qe:=a.Edges.filter fun x=>x.From == s
def Qdc (a : Qa) (s e : Int) : Int:=match a.Edges.find? fun x=>x.From == s && x.Event == e with
 | some x=>x.To
 | none=>-1
theorem Qbh4 {l : List Qe} (h : l.Pairwise Qdx) (s : Int) : l.Pairwise fun a b=>decide (b.From < s) = true → decide (a.From < s) = true :=
 h.imp fun h=>by unfold Qdx at h; simp; omega
theorem Qbki {l : List Qe} {s : Int} {cmp : Qe → Int → Option Int} (hcmp : ∀ x ∈ l,cmp x s = some (x.From - s)) (hs : l.Pairwise Qdx) (hl : l.length < big) :
  ∃ b,Qc6 l s cmp = some (((l.filter fun x=>decide (x.From < s)).length : Int),b):=by
 have hc:=fun n h=>Q5o (p:=fun x : Qe=>decide (x.From < s)) (Qbh4 hs s) n h
 have hcl : (l.filter fun x=>decide (x.From < s)).length ≤ l.length:=List.length_filter_le _ _
 generalize (l.filter fun x=>decide (x.From < s)).length = c at hc hcl
 have hb : l.length < 1000000000000:=hl
 unfold Qc6 Q2
 have hloop:=Qdv (F:=fun (k13 : Int × Int → Option Int) ((i11,j12) : Int × Int)=>(if (i11 < j12) then ((getO l (IntKind.wrap .i64 (Int.fdiv (IntKind.wrap .u64 (IntKind.wrap .i64 (i11 + j12))) (2 ^ (min (Int.toNat 1) (IntKind.bits .u64)))))).bind fun x15=>((cmp x15 s).bind fun x18=>(if (x18 < 0) then k13 ((IntKind.wrap .i64 ((IntKind.wrap .i64 (Int.fdiv (IntKind.wrap .u64 (IntKind.wrap .i64 (i11 + j12))) (2 ^ (min (Int.toNat 1) (IntKind.bits .u64))))) + 1)),j12) else k13 (i11,(IntKind.wrap .i64 (Int.fdiv (IntKind.wrap .u64 (IntKind.wrap .i64 (i11 + j12))) (2 ^ (min (Int.toNat 1) (IntKind.bits .u64))))))))) else some i11))
  (fun x=>∃ i j : Nat,x = ((i : Int),(j : Int)) ∧ i ≤ c ∧ c ≤ j ∧ j ≤ l.length) (fun x=>(x.2 - x.1).toNat) (fun _ r=>r = some (c : Int)) (by
   rintro k _ ⟨i,j,rfl,h1,h2,h3⟩ ih
   dsimp only
   by_cases hij : i < j
   ·rw [if_pos (by omega),Qbkh (by omega) (by omega)]
    have hm : (i + j) / 2 < l.length:=by omega
    rw [Qbw hm]
    simp only [Option.bind_some]
    rw [hcmp _ (List.getElem_mem hm)]
    simp only [Option.bind_some]
    have hcm:=hc ((i + j) / 2) hm
    by_cases hlt : l[(i + j) / 2].From < s
    ·rw [if_pos (by omega),Q8 (by omega)]
     have : (i + j) / 2 < c:=hcm.1 (by simpa using hlt)
     exact ih _ ⟨_,_,rfl,by omega,h2,h3⟩ (by simp only; omega)
    ·rw [if_neg (by omega)]
     have : ¬ (i + j) / 2 < c:=fun h=>hlt (by simpa using hcm.2 h)
     exact ih _ ⟨_,_,rfl,h1,by omega,by omega⟩ (by simp only; omega)
   ·rw [if_neg (by omega)]
    have : i = c:=by omega
    rw [this]) Qbl (0,(l.length : Int)) ⟨0,l.length,rfl,by omega,hcl,Nat.le_refl _⟩ (by unfold Qbl; simp only; omega)
 rw [hloop]
 simp only [Option.bind_some]
 by_cases hlt : c < l.length
 ·rw [if_pos (by omega),Qbw hlt]
  simp only [Option.bind_some]
  rw [hcmp _ (List.getElem_mem hlt)]
  exact ⟨_,rfl⟩
 ·rw [if_neg (by omega)]
  exact ⟨_,rfl⟩
theorem Qbb9 : ∀ {l : List Qe} (s : Int),l.Pairwise Qdx → (l.take (l.filter fun x=>decide (x.From < s + 1)).length).drop (l.filter fun x=>decide (x.From < s)).length = l.filter fun x=>x.From == s
 | [],s,_=>by simp
 | x :: xs,s,h=>by
  obtain ⟨h1,h2⟩:=List.pairwise_cons.1 h
  have ih:=Qbb9 s h2
  have hge : ∀ y ∈ xs,x.From ≤ y.From:=fun y hy=>by have:=h1 y hy; unfold Qdx at this; omega
  by_cases hx : x.From < s
  ·have e1 : decide (x.From < s) = true:=by simpa using hx
   have e2 : decide (x.From < s + 1) = true:=by simp; omega
   have e3 : (x.From == s) = false:=by simp; omega
   simp only [List.filter_cons,e1,e2,e3,if_true,List.length_cons,List.take_succ_cons,List.drop_succ_cons,Bool.false_eq_true,if_false]
   exact ih
  ·have hz : xs.filter (fun x=>decide (x.From < s)) = []:=List.filter_eq_nil_iff.2 fun y hy=>by have:=hge y hy; simp; omega
   have e1 : decide (x.From < s) = false:=by simpa using hx
   by_cases hq : x.From = s
   ·have e2 : decide (x.From < s + 1) = true:=by simp; omega
    have e3 : (x.From == s) = true:=by simp [hq]
    simp only [List.filter_cons,e1,e2,e3,if_true,List.length_cons,List.take_succ_cons,Bool.false_eq_true,if_false,hz,List.length_nil,List.drop_zero]
    rw [hz,List.length_nil,List.drop_zero] at ih
    rw [ih]
   ·have e2 : decide (x.From < s + 1) = false:=by simp; omega
    have e3 : (x.From == s) = false:=by simp [hq]
    have hz1 : xs.filter (fun x=>decide (x.From < s + 1)) = []:=List.filter_eq_nil_iff.2 fun y hy=>by have:=hge y hy; simp; omega
    have hz2 : xs.filter (fun x=>x.From == s) = []:=List.filter_eq_nil_iff.2 fun y hy=>by have:=hge y hy; simp; omega
    simp only [List.filter_cons,e1,e2,e3,Bool.false_eq_true,if_false,hz,hz1,hz2,List.length_nil,List.take_zero,List.drop_zero]
section
variable {a : Qa} (h : Right a) (hs : small a)
include h hs
theorem Qbmd {s : Int} (h0 : -1000000000000 < s) (h1 : s < 1000000000000) : Qf3 a s = some (outP a s):=by
 unfold Qf3 Qdg
 have hst:=h.st
 have hw : ∀ t : Int,-1000000000002 < t → t < 1000000000002 → ∀ x ∈ a.Edges,IntKind.wrap .i64 (x.From - t) = x.From - t:=fun t k1 k2 x hx=>by
  have:=h.ed0 x hx; exact Ql9 (by omega) (by omega)
 have e1 : IntKind.wrap .i64 (s + 1) = s + 1:=Ql9 (by omega) (by omega)
 obtain ⟨b1,k1⟩:=Qbki (s:=s) (cmp:=Qht) (fun x hx=>by unfold Qht Qcy; rw [hw s (by omega) (by omega) x hx]) h.ed hs.2.2
 obtain ⟨b2,k2⟩:=Qbki (s:=s + 1) (cmp:=Qhu) (fun x hx=>by unfold Qhu Qcz; rw [hw (s + 1) (by omega) (by omega) x hx]) h.ed hs.2.2
 rw [k1,e1]
 simp only [Option.bind_some]
 rw [k2]
 simp only [Option.bind_some]
 have hle : (a.Edges.filter fun x=>decide (x.From < s)).length ≤ (a.Edges.filter fun x=>decide (x.From < s + 1)).length :=
  by rw [← List.countP_eq_length_filter,← List.countP_eq_length_filter]; exact List.countP_mono_left fun x _ hx=>by simp at hx ⊢; omega
 rw [Qbjn hle (List.length_filter_le _ _),Qbb9 s h.ed]
 rfl
omit h in
theorem Q5p {s e : Int} : Qby a s e = some (Qdc a s e):=by
 have hb : a.Edges.length < 1000000000000:=hs.2.2
 unfold Qby Qu
 refine (Qlg (len:=a.Edges.length) (fun k=>some (match (a.Edges.drop k).find? (fun x=>x.From == s && x.Event == e) with | some x=>x.To | none=>-1)) (by unfold Qbl; omega) ?_ ?_).trans (by simp [Qdc])
 ·intro k i hi ih
  rw [if_pos (by omega),Qbw hi,Q8 (by omega),ih,List.drop_eq_getElem_cons hi]
  simp only [Option.bind_some,List.find?_cons]
  cases h1 : a.Edges[i].From == s <;> cases h2 : a.Edges[i].Event == e <;> simp [h1,h2]
 ·intro k; simp
end
theorem Q3m {a : Qa} (h : Right a) (s e : Int) : Qdc a s e = -1 ∨ 0 ≤ Qdc a s e ∧ Qdc a s e < a.States ∧ 0 ≤ s ∧ s < a.States ∧ e ∈ a.Alphabet:=by
 unfold Qdc
 split
 ·rename_i x hx
  have hm:=List.mem_of_find?_eq_some hx
  have hp:=List.find?_some hx
  obtain ⟨k1,k2,k3,k4,k5⟩:=h.ed0 x hm
  simp at hp
  exact .inr ⟨k3,k4,by omega,by omega,hp.2 ▸ k5⟩
 ·exact .inl rfl
theorem Qpx {a : Qa} (h : Right a) {s e : Int} : 0 ≤ Qdc a s e ↔ ∃ x ∈ outP a s,x.Event = e:=by
 unfold Qdc outP
 split
 ·rename_i x hx
  have hm:=List.mem_of_find?_eq_some hx
  have hp:=List.find?_some hx
  simp at hp
  refine ⟨fun _=>⟨x,by simp [hm,hp.1],hp.2⟩,fun _=>(h.ed0 x hm).2.2.1⟩
 ·rename_i hx
  have:=List.find?_eq_none.1 hx
  refine ⟨fun h=>by omega,?_⟩
  rintro ⟨x,h1,h2⟩
  simp at h1
  exact absurd (by simp [h1.2,h2]) (this x h1.1)
theorem Qvy {a : Qa} (h : Right a) (s : Int) : (outP a s).map (·.Event) = a.Alphabet.filter fun e=>decide (0 ≤ Qdc a s e):=by
 refine Qbfj ?_ (h.al.filter _) fun e=>?_
 ·rw [List.pairwise_map]
  have h1 : (outP a s).Pairwise Qdx:=h.ed.filter _
  have h2 : ∀ x ∈ outP a s,x.From = s:=fun x hx=>by unfold outP at hx; simp at hx; exact hx.2
  exact List.Pairwise.imp_of_mem (fun {x y} hx hy hk=>by have:=h2 x hx; have:=h2 y hy; unfold Qdx at hk; omega) h1
 ·simp only [List.mem_map,List.mem_filter,decide_eq_true_eq,Qpx h]
  constructor
  ·rintro ⟨x,hx,rfl⟩
   refine ⟨?_,x,hx,rfl⟩
   unfold outP at hx; simp at hx; exact (h.ed0 x hx.1).2.2.2.2
  ·rintro ⟨_,x,hx,rfl⟩; exact ⟨x,hx,rfl⟩
theorem Qsk {a : Qa} (h : Right a) {s : Int} {x : Qe} (hx : x ∈ outP a s) : Qdc a s x.Event = x.To:=by
 unfold outP at hx
 simp at hx
 unfold Qdc
 split
 ·rename_i y hy
  have hm:=List.mem_of_find?_eq_some hy
  have hp:=List.find?_some hy
  simp at hp
  have : x = y:=by
   rcases Classical.em (x = y) with e | hne
   ·exact e
   ·exfalso
    have hk : Qdx x y ∨ Qdx y x:=by
     have:=List.pairwise_iff_getElem.1 h.ed
     obtain ⟨i,hi,rfl⟩:=List.getElem_of_mem hx.1
     obtain ⟨j,hj,rfl⟩:=List.getElem_of_mem hm
     rcases Nat.lt_trichotomy i j with hij | hij | hij
     ·exact .inl (this i j hi hj hij)
     ·subst hij; exact absurd rfl hne
     ·exact .inr (this j i hj hi hij)
    unfold Qdx at hk; omega
  rw [this]
 ·rename_i hn
  exact absurd (by simp [hx.2]) (List.find?_eq_none.1 hn x hx.1)
end Go.Abs
end
section
namespace Go.Abs
open Go
set_option linter.unusedSimpArgs false
set_option linter.unusedVariables false
theorem Right.small {a : Qa} (h : Right a) : small a ∧ a.Alphabet.length ≤ 32 ∧ a.Marked.length ≤ 4096 ∧ a.Edges.length ≤ 131072:=by
 have h1:=Qf4 h.al h.al0
 have h2:=Qf4 h.ma h.ma0
 have h3 : (a.Edges.map fun x=>x.From * 32 + x.Event).Pairwise (· < ·):=by
  rw [List.pairwise_map]
  refine List.Pairwise.imp_of_mem (fun {x y} hx hy hk=>?_) h.ed
  have:=h.al0 _ (h.ed0 x hx).2.2.2.2
  have:=h.al0 _ (h.ed0 y hy).2.2.2.2
  unfold Qdx at hk; omega
 have h4:=Qf4 (a:=0) (b:=131072) h3 (by
  intro z hz
  obtain ⟨x,hx,rfl⟩:=List.mem_map.1 hz
  have:=h.al0 _ (h.ed0 x hx).2.2.2.2
  have:=h.ed0 x hx
  have:=h.st
  omega)
 rw [List.length_map] at h4
 have:=h.st
 refine ⟨⟨?_,?_,?_⟩,?_,?_,?_⟩ <;> (try unfold big) <;> omega
theorem Qbdi {a : Qa} (h : Right a) : Qep a = some 0:=by rw [Qbeo h.small.1,Qbb8.2 h]
end Go.Abs
end
section
namespace Go.Abs
open Go
set_option linter.unusedSimpArgs false
set_option linter.unusedVariables false
def ins (o : List Int) (t : Int) : List Int:=if t ∈ o then o else o ++ [t]
def Qdq (a : Qa) (s : Int) : List Int:=(outP a s).map (·.To)
def bfs (a : Qa) : Nat → Nat → List Int → List Int
 | 0,_,o=>o
 | fuel + 1,i,o=>match o[i]? with
  | some s=>bfs a fuel (i + 1) ((Qdq a s).foldl ins o)
  | none=>o
def Qbs (a : Qa) : List Int:=bfs a (a.States.toNat + 1) 0 (if 0 < a.States then [0] else [])
structure Fnd (a : Qa) (o : List Int) : Prop where
 nd : o.Nodup
 rg : ∀ s ∈ o,0 ≤ s ∧ s < a.States
theorem Fnd.len {a : Qa} {o : List Int} (h : Fnd a o) : o.length ≤ a.States.toNat:=by
 have hO : Go.Sort.SWO Qd6:=⟨fun x=>by simp [Qd6],fun x y z h1 h2=>by simp [Qd6] at *; omega,fun x y z h1 h2=>by simp [Qd6] at *; omega⟩
 have hp:=Qhj Qd6 o
 have hs:=Qhs hO o
 have hn : (Qgi Qd6 o).Nodup:=(hp.nodup_iff).2 h.nd
 have hlt : (Qgi Qd6 o).Pairwise (· < ·):=by
  have : (Qgi Qd6 o).Pairwise fun x y=>Qd6 y x = false ∧ x ≠ y:=hs.and hn
  exact this.imp fun ⟨h1,h2⟩=>by simp [Qd6] at h1; omega
 have:=Qf4 hlt (a:=0) (b:=a.States) fun x hx=>h.rg x (hp.mem_iff.1 hx)
 rw [Qjj] at this
 simpa using this
theorem Q0b {o : List Int} {t x : Int} : x ∈ ins o t ↔ x ∈ o ∨ x = t:=by
 unfold ins; split
 ·rename_i h; constructor
  ·exact .inl
  ·rintro (h' | rfl)
   ·exact h'
   ·exact h
 ·simp
theorem Qbh5 (o : List Int) (t : Int) : o <+: ins o t:=by
 unfold ins; split
 ·exact List.prefix_refl o
 ·exact List.prefix_append o [t]
theorem Fnd.ins {a : Qa} {o : List Int} (h : Fnd a o) {t : Int} (ht : 0 ≤ t ∧ t < a.States) : Fnd a (ins o t):=by
 refine ⟨?_,fun s hs=>?_⟩
 ·unfold Go.Abs.ins; split
  ·exact h.nd
  ·rename_i hn
   rw [List.nodup_append]
   exact ⟨h.nd,by simp,fun x hx y hy=>by simp at hy; subst hy; exact fun e=>hn (e ▸ hx)⟩
 ·rcases Q0b.1 hs with hs | rfl
  ·exact h.rg s hs
  ·exact ht
theorem Qlh {a : Qa} : ∀ {ts o : List Int},Fnd a o → (∀ t ∈ ts,0 ≤ t ∧ t < a.States) → Fnd a (ts.foldl ins o) ∧ o <+: ts.foldl ins o ∧ (∀ t ∈ ts,t ∈ ts.foldl ins o) ∧ ∀ x ∈ ts.foldl ins o,x ∈ o ∨ x ∈ ts
 | [],o,h,_=>⟨h,List.prefix_refl o,by simp,fun x hx=>.inl hx⟩
 | t :: ts,o,h,ht=>by
  obtain ⟨h1,h2,h3,h4⟩:=Qlh (ts:=ts) (h.ins (ht t (by simp))) fun t ht'=>ht t (by simp [ht'])
  refine ⟨h1,(Qbh5 o t).trans h2,fun x hx=>?_,fun x hx=>?_⟩
  ·rcases List.mem_cons.1 hx with rfl | hx
   ·exact h2.subset (Q0b.2 (.inr rfl))
   ·exact h3 x hx
  ·rcases h4 x hx with h5 | h5
   ·rcases Q0b.1 h5 with h6 | rfl
    ·exact .inl h6
    ·exact .inr (by simp)
   ·exact .inr (by simp [h5])
theorem Qkm {a : Qa} (h : Right a) (s : Int) : ∀ t ∈ Qdq a s,0 ≤ t ∧ t < a.States:=by
 intro t ht
 unfold Qdq outP at ht
 obtain ⟨x,hx,rfl⟩:=List.mem_map.1 ht
 have:=h.ed0 x ((List.mem_filter.1 hx).1)
 omega
theorem Qnf {α : Type} {l m : List α} (h : l <+: m) {i : Nat} {x : α} (hx : l[i]? = some x) : m[i]? = some x:=by
 obtain ⟨t,rfl⟩:=h
 have:=(List.getElem?_eq_some_iff.1 hx).1
 rw [List.getElem?_append_left this]; exact hx
theorem Q6l {a : Qa} (h : Right a) : ∀ (fuel i : Nat) (o : List Int),Fnd a o → i ≤ o.length → a.States.toNat + 1 ≤ fuel + i → (∀ j s,j < i → o[j]? = some s → ∀ t ∈ Qdq a s,t ∈ o) →
  Fnd a (bfs a fuel i o) ∧ o <+: bfs a fuel i o ∧ ∀ s ∈ bfs a fuel i o,∀ t ∈ Qdq a s,t ∈ bfs a fuel i o
 | 0,i,o,hf,hi,hfu,_=>by have:=hf.len; omega
 | fuel + 1,i,o,hf,hi,hfu,hc=>by
  unfold bfs
  cases hg : o[i]? with
  | none =>
   dsimp only
   refine ⟨hf,List.prefix_refl o,fun s hs t ht=>?_⟩
   obtain ⟨j,hj⟩:=List.getElem?_of_mem hs
   have hlt:=(List.getElem?_eq_some_iff.1 hj).1
   exact hc j s (by have:=List.getElem?_eq_none_iff.1 hg; omega) hj t ht
  | some s =>
   dsimp only
   obtain ⟨h1,h2,h3,_⟩:=Qlh hf (Qkm h s)
   have hlen : i < o.length:=(List.getElem?_eq_some_iff.1 hg).1
   have hle:=h2.length_le
   obtain ⟨k1,k2,k3⟩:=Q6l h fuel (i + 1) ((Qdq a s).foldl ins o) h1 (by omega) (by omega) (fun j s' hj hs' t ht=>by
    by_cases hji : j < i
    ·have hjl : j < o.length:=by omega
     have : o[j]? = some s':=by
      have:=Qnf h2 (List.getElem?_eq_getElem hjl)
      rw [hs'] at this; rw [List.getElem?_eq_getElem hjl]; exact this.symm
     exact h2.subset (hc j s' hji this t ht)
    ·obtain rfl : j = i:=by omega
     have:=Qnf h2 hg
     rw [hs'] at this; cases this
     exact h3 t ht)
   exact ⟨k1,h2.trans k2,k3⟩
theorem Qi4 {a : Qa} (h : Right a) : Fnd a (Qbs a) ∧ (if 0 < a.States then [0] else []) <+: Qbs a ∧ ∀ s ∈ Qbs a,∀ t ∈ Qdq a s,t ∈ Qbs a :=
 Q6l h _ 0 _ ⟨by split <;> simp,fun s hs=>by split at hs <;> simp at hs; subst hs; omega⟩ (Nat.zero_le _) (by omega) fun j s hj=>by omega
def Qhp (m : List Int) : Nat → List Int → List Int
 | _,[]=>[]
 | i,s :: t=>(if s ∈ m then [(i : Int)] else []) ++ Qhp m (i + 1) t
def rowP (a : Qa) (F : List Int) (i : Nat) (s : Int) : List Qe:=(outP a s).map fun x=>⟨(i : Int),x.Event,(F.idxOf x.To : Int)⟩
def Qf5 (a : Qa) (F : List Int) : Nat → List Int → List Qe
 | _,[]=>[]
 | i,s :: t=>rowP a F i s ++ Qf5 a F (i + 1) t
def Qfg (a : Qa) : Qa:=⟨a.Alphabet,((Qbs a).length : Int),Qhp a.Marked 0 (Qbs a),Qf5 a (Qbs a) 0 (Qbs a)⟩
theorem Q0c {m : List Int} : ∀ {l : List Int} {i : Nat},∀ x ∈ Qhp m i l,(i : Int) ≤ x ∧ x < (i + l.length : Nat)
 | [],i,x,hx=>by simp [Qhp] at hx
 | s :: t,i,x,hx=>by
  simp only [Qhp,List.mem_append] at hx
  rcases hx with hx | hx
  ·split at hx <;> simp at hx
   subst hx; simp only [List.length_cons]; omega
  ·have:=Q0c x hx; simp only [List.length_cons]; omega
theorem Qvz {m : List Int} : ∀ {l : List Int} {i : Nat},(Qhp m i l).Pairwise (· < ·)
 | [],i=>.nil
 | s :: t,i=>by
  simp only [Qhp]
  rw [List.pairwise_append]
  refine ⟨by split <;> simp,Qvz,fun x hx y hy=>?_⟩
  have:=Q0c y hy
  split at hx <;> simp at hx
  omega
theorem Qv0 {a : Qa} {F : List Int} : ∀ {l : List Int} {i : Nat},∀ x ∈ Qf5 a F i l,(i : Int) ≤ x.From ∧ x.From < (i + l.length : Nat) ∧ ∃ s ∈ l,∃ y ∈ outP a s,x.Event = y.Event ∧ x.To = (F.idxOf y.To : Int)
 | [],i,x,hx=>by simp [Qf5] at hx
 | s :: t,i,x,hx=>by
  simp only [Qf5,List.mem_append] at hx
  rcases hx with hx | hx
  ·obtain ⟨y,hy,rfl⟩:=List.mem_map.1 hx
   simp only [List.length_cons]
   exact ⟨by omega,by omega,s,by simp,y,hy,rfl,rfl⟩
  ·obtain ⟨h1,h2,s',h3,h4⟩:=Qv0 x hx
   simp only [List.length_cons]
   exact ⟨by omega,by omega,s',by simp [h3],h4⟩
theorem Q4p {a : Qa} (h : Right a) {F : List Int} : ∀ {l : List Int} {i : Nat},(Qf5 a F i l).Pairwise Qdx
 | [],i=>.nil
 | s :: t,i=>by
  simp only [Qf5]
  rw [List.pairwise_append]
  refine ⟨?_,Q4p h,fun x hx y hy=>?_⟩
  ·unfold rowP
   rw [List.pairwise_map]
   have h1 : (outP a s).Pairwise Qdx:=h.ed.filter _
   have h2 : ∀ x ∈ outP a s,x.From = s:=fun x hx=>by unfold outP at hx; simp at hx; exact hx.2
   exact List.Pairwise.imp_of_mem (fun {x y} hx hy hk=>by have:=h2 x hx; have:=h2 y hy; unfold Qdx at hk; exact .inr ⟨rfl,by show x.Event < y.Event; omega⟩) h1
  ·obtain ⟨z,_,rfl⟩:=List.mem_map.1 hx
   have:=(Qv0 y hy).1
   unfold Qdx; simp only; omega
theorem Qpy {a : Qa} (h : Right a) : Right (Qfg a):=by
 obtain ⟨h1,h2,h3⟩:=Qi4 h
 have hl:=h1.len
 have hst:=h.st
 refine ⟨h.al0,h.al,⟨by simp only [Qfg]; omega,by simp only [Qfg]; omega⟩,fun x hx=>?_,Qvz,fun x hx=>?_,Q4p h⟩
 ·have:=Q0c x hx; simp only [Qfg]; omega
 ·obtain ⟨k1,k2,s,hs,y,hy,k3,k4⟩:=Qv0 x hx
  have hy' : y.To ∈ Qbs a:=h3 s hs y.To (List.mem_map.2 ⟨y,hy,rfl⟩)
  have:=List.idxOf_lt_length_iff.2 hy'
  simp only [Qfg]
  refine ⟨by omega,by omega,by omega,by omega,?_⟩
  rw [k3]
  unfold outP at hy
  exact (h.ed0 y ((List.mem_filter.1 hy).1)).2.2.2.2
end Go.Abs
end
section
namespace Go.Abs
open Go
set_option linter.unusedSimpArgs false
set_option linter.unusedVariables false
theorem Qbep {l : List Int} (hl : l.length ≤ lim) : Qd7 l = some ⟨l,0,[],[]⟩:=by
 unfold Qd7 Q0
 rw [Qb8 (by simpa using hl)]; rfl
theorem Qbdj {l : List Int} {v : Int} (hl : l.length < big) : Qd8 l v = some (if v ∈ l then (l.idxOf v : Int) else -1):=by
 have hb : l.length < 1000000000000:=hl
 unfold Qd8 Qb5
 refine (Qlg (len:=l.length) (fun k=>some (if v ∈ l.drop k then ((k + (l.drop k).idxOf v : Nat) : Int) else -1)) (by unfold Qbl; omega) ?_ ?_).trans (by simp)
 ·intro k i hi ih
  rw [if_pos (by omega),Qbw hi,Q8 (by omega),ih,List.drop_eq_getElem_cons hi]
  simp only [Option.bind_some,List.mem_cons,List.idxOf_cons]
  by_cases h : v = l[i]
  ·simp [← h]
  ·have h' : ¬ l[i] = v:=fun e=>h e.symm
   have hbq : (l[i] == v) = false:=by simp [h']
   by_cases h2 : v ∈ l.drop (i + 1) <;> simp [h,h2,hbq]
   omega
 ·intro k; simp
theorem Qpz {a : Qa} (h : Right a) (s : Int) : Qdq a s = (a.Alphabet.filter fun e=>decide (0 ≤ Qdc a s e)).map (Qdc a s):=by
 rw [← Qvy h,List.map_map]
 unfold Qdq
 exact List.map_congr_left fun x hx=>(Qsk h hx).symm
theorem Q9r {a : Qa} (s : Int) : ∀ (al o : List Int),al.foldl (fun o e=>if 0 ≤ Qdc a s e then ins o (Qdc a s e) else o) o = ((al.filter fun e=>decide (0 ≤ Qdc a s e)).map (Qdc a s)).foldl ins o
 | [],o=>rfl
 | e :: al,o=>by
  by_cases hx : 0 ≤ Qdc a s e <;> simp [List.filter_cons,hx,Q9r s al]
theorem Qbaz {a : Qa} {fuel i : Nat} {o : List Int} (hi : i < o.length) : bfs a (fuel + 1) i o = bfs a fuel (i + 1) ((Qdq a o[i]).foldl ins o):=by
 conv=>lhs; unfold bfs
 rw [List.getElem?_eq_getElem hi]
theorem Qbdk {a : Qa} {fuel : Nat} {o : List Int} : bfs a fuel o.length o = o:=by
 cases fuel with
 | zero=>rfl
 | succ n=>unfold bfs; simp
section
variable {a : Qa} (h : Right a)
include h
theorem Qbfl (fuel : Nat) (hfu : 1099511627776 ≤ fuel) {s : Int} {o : List Int} {i : Nat} (hf : Fnd a o) (hi : o[i]? = some s) :
  Qch (fun k12 ((out10,k11) : (List Int) × Int)=>(if (k11 < (a.Alphabet.length : Int)) then ((((getO out10 (i : Int)).bind fun x14=>((getO a.Alphabet k11).bind fun x16=>((Qby a x14 x16).bind fun x19=>(((if (x19 ≥ 0) then ((Qcw out10 x19).bind fun x22=>some (!x22)) else some false)).bind fun (x23 : Bool)=>(if x23 then ((appO out10 [x19]).bind fun x25=>some x25) else some out10)))))).bind fun (out27 : List Int)=>k12 (out27,(IntKind.wrap .i64 (k11 + 1)))) else some out10)) fuel (o,0) = some ((Qdq a s).foldl ins o):=by
 have hs:=h.small.1
 have hst:=h.st
 have hb : a.Alphabet.length < 1000000000000:=hs.1
 rw [Qpz h,← Q9r]
 refine (Qff (len:=a.Alphabet.length) (fun n (acc : List Int)=>(acc,(n : Int))) (fun n acc=>Fnd a acc ∧ acc[i]? = some s) (fun n acc=>some ((a.Alphabet.drop n).foldl (fun o e=>if 0 ≤ Qdc a s e then ins o (Qdc a s e) else o) acc)) ?_ ?_ fuel 0 o (Nat.zero_le _) (by omega) ⟨hf,hi⟩).trans (by simp)
 ·intro k n acc hn ⟨k1,k2⟩ ih
  have hlen:=k1.len
  have hg : getO acc (i : Int) = some s:=by rw [Qo0]; exact ⟨by omega,by simpa using k2⟩
  dsimp only
  rw [if_pos (by omega),hg,Qbw hn]
  simp only [Option.bind_some]
  rw [Q5p hs,Q8 (by omega)]
  simp only [Option.bind_some]
  rw [Qbh3 (by unfold big; omega),List.drop_eq_getElem_cons hn,List.foldl_cons]
  rcases Q3m h s a.Alphabet[n] with hr | hr
  ·rw [hr]; simp only [show ¬ ((-1 : Int) ≥ 0) from by omega,show ¬ ((0 : Int) ≤ -1) from by omega,if_false,Option.bind_some,Bool.false_eq_true]
   exact ih _ ⟨k1,k2⟩
  ·have hge : Qdc a s a.Alphabet[n] ≥ 0:=hr.1
   by_cases hm : Qdc a s a.Alphabet[n] ∈ acc
   ·simp only [hge,hm,decide_true,Bool.not_true,if_true,Option.bind_some,Bool.false_eq_true,if_false,hr.1,ins]
    exact ih _ ⟨k1,k2⟩
   ·simp only [hge,hm,decide_false,Bool.not_false,if_true,Option.bind_some,hr.1,ins,if_false]
    rw [Qb8 (by simp only [List.length_cons,List.length_nil]; unfold lim; omega)]
    simp only [Option.bind_some]
    have hi':=k1.ins (t:=Qdc a s a.Alphabet[n]) ⟨hr.1,hr.2.1⟩
    unfold ins at hi'
    rw [if_neg hm] at hi'
    exact ih _ ⟨hi',Qnf (List.prefix_append acc _) k2⟩
 ·intro k acc _
  dsimp only
  rw [if_neg (by omega)]; simp
theorem Qbdl : Qfe a = some (Qbs a):=by
 have hs:=h.small.1
 have hst:=h.st
 unfold Qfe Qb4
 obtain ⟨fuel,hfu,hge⟩ : ∃ f,Qbl = f ∧ 1099511627776 ≤ f:=⟨_,rfl,Nat.le_refl _⟩
 rw [hfu]
 have hloop : ∀ o : List Int,Fnd a o → Qch (fun (k8 : List Int × Int → Option (List Int)) ((out6,i7) : (List Int) × Int)=>(if (i7 < (out6.length : Int)) then ((Qch (fun k12 ((out10,k11) : (List Int) × Int)=>(if (k11 < (a.Alphabet.length : Int)) then ((((getO out10 i7).bind fun x14=>((getO a.Alphabet k11).bind fun x16=>((Qby a x14 x16).bind fun x19=>(((if (x19 ≥ 0) then ((Qcw out10 x19).bind fun x22=>some (!x22)) else some false)).bind fun (x23 : Bool)=>(if x23 then ((appO out10 [x19]).bind fun x25=>some x25) else some out10)))))).bind fun (out27 : List Int)=>k12 (out27,(IntKind.wrap .i64 (k11 + 1)))) else some out10)) fuel (out6,0)).bind fun (out28 : List Int)=>k8 (out28,(IntKind.wrap .i64 (i7 + 1)))) else some out6)) fuel (o,0) = some (bfs a (a.States.toNat + 1) 0 o):=by
  intro o ho
  have:=Qdv (F:=fun (k8 : List Int × Int → Option (List Int)) ((out6,i7) : (List Int) × Int)=>(if (i7 < (out6.length : Int)) then ((Qch (fun k12 ((out10,k11) : (List Int) × Int)=>(if (k11 < (a.Alphabet.length : Int)) then ((((getO out10 i7).bind fun x14=>((getO a.Alphabet k11).bind fun x16=>((Qby a x14 x16).bind fun x19=>(((if (x19 ≥ 0) then ((Qcw out10 x19).bind fun x22=>some (!x22)) else some false)).bind fun (x23 : Bool)=>(if x23 then ((appO out10 [x19]).bind fun x25=>some x25) else some out10)))))).bind fun (out27 : List Int)=>k12 (out27,(IntKind.wrap .i64 (k11 + 1)))) else some out10)) fuel (out6,0)).bind fun (out28 : List Int)=>k8 (out28,(IntKind.wrap .i64 (i7 + 1)))) else some out6))
   (fun x=>∃ i : Nat,x.2 = (i : Int) ∧ i ≤ x.1.length ∧ Fnd a x.1) (fun x=>a.States.toNat + 1 - x.2.toNat) (fun x r=>r = some (bfs a (a.States.toNat + 1 - x.2.toNat) x.2.toNat x.1)) (by
    rintro k ⟨o,i⟩ ⟨i,rfl,hi,hf⟩ ih
    replace hi : i ≤ o.length:=hi
    replace hf : Fnd a o:=hf
    have hl:=hf.len
    dsimp only
    by_cases hlt : i < o.length
    ·rw [if_pos (by omega),Qbfl h fuel hge hf (List.getElem?_eq_getElem hlt),Option.bind_some,Q8 (by omega)]
     obtain ⟨q1,q2,_,_⟩:=Qlh hf (Qkm h o[i])
     have hle:=q2.length_le
     rw [ih _ ⟨i + 1,rfl,by simp only; omega,q1⟩ (by simp only; omega)]
     simp only [Int.toNat_natCast]
     rw [show a.States.toNat + 1 - i = (a.States.toNat + 1 - (i + 1)) + 1 from by omega,Qbaz hlt]
    ·rw [if_neg (by omega)]
     obtain rfl : i = o.length:=by omega
     simp only [Int.toNat_natCast,Qbdk]) fuel (o,0) ⟨0,rfl,Nat.zero_le _,ho⟩ (by simp only; omega)
  simpa using this
 by_cases h0 : 0 < a.States
 ·rw [if_pos (by omega),Qb8 (by simp only [List.length_cons,List.length_nil]; unfold lim; omega)]
  simp only [Option.bind_some]
  rw [show ([] ++ [0] : List Int) = [0] from rfl,hloop [0] ⟨by simp,fun s hs=>by simp at hs; subst hs; omega⟩]
  simp only [Option.bind_some,Qbs,if_pos h0]
 ·rw [if_neg (by omega)]
  simp only [Option.bind_some]
  rw [hloop [] ⟨by simp,fun s hs=>by simp at hs⟩]
  simp only [Option.bind_some,Qbs,if_neg h0]
theorem Q9s (fuel : Nat) (hfu : 1099511627776 ≤ fuel) {F : List Int} (hF : Fnd a F) (hcl : ∀ s ∈ F,∀ t ∈ Qdq a s,t ∈ F) {s : Int} {i : Nat} (hi : F[i]? = some s) (ms : List Int) (es : List Qe) (hes : es.length ≤ 200000) :
  Qch (fun (k24 : Int × List Qe → Option (List Int × List Qe)) ((k22,out23) : Int × (List Qe))=>(if (k22 < (a.Alphabet.length : Int)) then ((((getO F (i : Int)).bind fun x26=>((getO a.Alphabet k22).bind fun x28=>((Qby a x26 x28).bind fun x31=>(if (x31 ≥ 0) then ((getO a.Alphabet k22).bind fun x33=>((Qd8 F x31).bind fun x36=>((appO out23 [(Qe.mk (i : Int) x33 x36)]).bind fun x37=>some x37))) else some out23))))).bind fun (out39 : List Qe)=>k24 ((IntKind.wrap .i64 (k22 + 1)),out39)) else some (ms,out23))) fuel (0,es) = some (ms,es ++ rowP a F i s):=by
 have hs:=h.small.1
 have hst:=h.st
 have hal:=h.small.2.1
 have hb : a.Alphabet.length < 1000000000000:=hs.1
 have hFl:=hF.len
 have hrow : rowP a F i s = (a.Alphabet.filter fun e=>decide (0 ≤ Qdc a s e)).map fun e=>⟨(i : Int),e,(F.idxOf (Qdc a s e) : Int)⟩:=by
  rw [← Qvy h,List.map_map]
  unfold rowP
  exact List.map_congr_left fun x hx=>by simp only [Function.comp]; rw [Qsk h hx]
 rw [hrow]
 refine (Qff (len:=a.Alphabet.length) (fun n (acc : List Qe)=>((n : Int),acc)) (fun n acc=>acc.length ≤ 200000 + n) (fun n acc=>some (ms,acc ++ ((a.Alphabet.drop n).filter fun e=>decide (0 ≤ Qdc a s e)).map fun e=>⟨(i : Int),e,(F.idxOf (Qdc a s e) : Int)⟩)) ?_ ?_ fuel 0 es (Nat.zero_le _) (by omega) (by omega)).trans (by simp)
 ·intro k n acc hn k1 ih
  have hg : getO F (i : Int) = some s:=by rw [Qo0]; exact ⟨by omega,by simpa using hi⟩
  dsimp only
  rw [if_pos (by omega),hg,Qbw hn]
  simp only [Option.bind_some]
  rw [Q5p hs,Q8 (by omega)]
  simp only [Option.bind_some]
  rw [List.drop_eq_getElem_cons hn,List.filter_cons]
  by_cases hr : 0 ≤ Qdc a s a.Alphabet[n]
  ·have hm : Qdc a s a.Alphabet[n] ∈ F:=hcl s (List.mem_of_getElem? hi) _ (by rw [Qpz h]; exact List.mem_map.2 ⟨_,List.mem_filter.2 ⟨List.getElem_mem hn,by simpa using hr⟩,rfl⟩)
   rw [if_pos hr,Qbdj (by unfold big; omega),if_pos hm]
   simp only [Option.bind_some]
   rw [Qb8 (by simp only [List.length_cons,List.length_nil]; unfold lim; omega)]
   simp only [Option.bind_some]
   rw [ih _ (by simp only [List.length_append,List.length_cons,List.length_nil]; omega)]
   simp only [hr,decide_true,if_true,List.map_cons,List.append_assoc,List.cons_append,List.nil_append]
  ·rw [if_neg (by omega)]
   simp only [Option.bind_some]
   rw [ih _ (by omega)]
   simp only [hr,decide_false,Bool.false_eq_true,if_false]
 ·intro k acc _
  dsimp only
  rw [if_neg (by omega)]; simp
theorem Qbeq {F : List Int} {i : Nat} {s : Int} : (rowP a F i s).length ≤ 32:=by
 have:=h.small.2.1
 have h1 : (rowP a F i s).length = ((outP a s).map (·.Event)).length:=by simp [rowP]
 rw [h1,Qvy h]
 exact Nat.le_trans (List.length_filter_le _ _) this
theorem Q0d : Qc5 a = some (Qfg a):=by
 have hs:=h.small.1
 have hst:=h.st
 have hal:=h.small.2.1
 have hb : a.Alphabet.length < 1000000000000:=hs.1
 obtain ⟨hF,_,hcl⟩:=Qi4 h
 have hFl:=hF.len
 unfold Qc5 Qw
 obtain ⟨fuel,hfu,hge⟩ : ∃ f,Qbl = f ∧ 1099511627776 ≤ f:=⟨_,rfl,Nat.le_refl _⟩
 rw [hfu,Qbdl h,Option.bind_some,Qbep (by unfold lim; omega),Option.bind_some]
 unfold Qfg
 generalize Qbs a = F at hF hcl hFl
 show Option.bind (Qch _ fuel (((0 : Nat) : Int),[],[],[],[],[])) _ = _
 rw [Qff (len:=F.length) (R:=List Int × List Int × List Qe × List Int × List Qe) (fun n (acc : List Int × List Qe)=>((n : Int),([] : List Int),([] : List Int),([] : List Qe),acc.1,acc.2)) (fun n acc=>acc.1.length ≤ n ∧ acc.2.length ≤ 32 * n)
  (fun n acc=>some (([] : List Int),([] : List Int),([] : List Qe),acc.1 ++ Qhp a.Marked n (F.drop n),acc.2 ++ Qf5 a F n (F.drop n))) ?_ ?_ fuel 0 ([],[]) (Nat.zero_le _) (by omega) ⟨Nat.zero_le _,Nat.zero_le _⟩]
 ·simp
 ·rintro k n ⟨ms,es⟩ hn ⟨k1,k2⟩ ih
  replace k1 : ms.length ≤ n:=k1
  replace k2 : es.length ≤ 32 * n:=k2
  have hg:=List.getElem?_eq_getElem hn
  dsimp only
  rw [if_pos (by omega),Qbw hn]
  simp only [Option.bind_some]
  rw [Qbh3 hs.2.1]
  simp only [Option.bind_some]
  have hrl:=Qbeq h (F:=F) (i:=n) (s:=F[n])
  rw [List.drop_eq_getElem_cons hn]
  simp only [Qhp,Qf5]
  by_cases hm : F[n] ∈ a.Marked
  ·simp only [hm,decide_true,if_true]
   rw [Qb8 (by simp only [List.length_cons,List.length_nil]; unfold lim; omega)]
   simp only [Option.bind_some]
   have:=Q9s h fuel hge hF hcl hg (ms ++ [(n : Int)]) es (by omega)
   rw [Qbw hn] at this
   simp only [Option.bind_some] at this
   rw [this]
   simp only [Option.bind_some]
   rw [Q8 (by omega),ih (ms ++ [(n : Int)],es ++ rowP a F n F[n]) ⟨by simp only [List.length_append,List.length_cons,List.length_nil]; omega,by simp only [List.length_append]; omega⟩]
   simp only [List.append_assoc]
  ·simp only [hm,decide_false,Bool.false_eq_true,if_false,Option.bind_some]
   have:=Q9s h fuel hge hF hcl hg ms es (by omega)
   rw [Qbw hn] at this
   simp only [Option.bind_some] at this
   rw [this]
   simp only [Option.bind_some]
   rw [Q8 (by omega),ih (ms,es ++ rowP a F n F[n]) ⟨by simp only; omega,by simp only [List.length_append]; omega⟩]
   simp only [List.append_assoc,List.nil_append]
 ·rintro k ⟨ms,es⟩ _
  dsimp only
  rw [if_neg (by omega)]
  simp [Qhp,Qf5]
end
end Go.Abs
end
section
namespace Go.Abs
open Go
set_option linter.unusedSimpArgs false
set_option linter.unusedVariables false
structure Evs (l : List Int) : Prop where
 rg : ∀ x ∈ l,0 ≤ x ∧ x < 5
 so : l.Pairwise (· < ·)
theorem Evs.len {l : List Int} (h : Evs l) : l.length ≤ 5:=by have:=Qf4 h.so h.rg; simpa using this
def Qbjp : List Int → Bool
 | []=>true
 | x :: xs=>xs.all (fun y=>decide (x < y)) && Qbjp xs
theorem Qbca : ∀ {l : List Int},Qbjp l = true → l.Pairwise (· < ·)
 | [],_=>.nil
 | x :: xs,h=>by
  simp only [Qbjp,Bool.and_eq_true,List.all_eq_true,decide_eq_true_eq] at h
  exact List.pairwise_cons.2 ⟨h.1,Qbca h.2⟩
def evB (s : Nat) : Bool:=match Qdt (s : Int) with
 | some l=>Qbjp l && l.all fun x=>decide (0 ≤ x) && decide (x < 5)
 | none=>false
theorem Qblf : (List.range 256).all evB = true:=by kernel_rfl
theorem Qbh6 {s : Int} (h0 : 0 ≤ s) (h1 : s < 256) : ∃ l,Qdt s = some l ∧ Evs l:=by
 have:=List.all_eq_true.1 Qblf s.toNat (List.mem_range.2 (by omega))
 unfold evB at this
 rw [show ((s.toNat : Nat) : Int) = s from by omega] at this
 split at this
 ·rename_i l hl
  simp only [Bool.and_eq_true,List.all_eq_true,decide_eq_true_eq] at this
  exact ⟨l,hl,fun x hx=>this.2 x hx,Qbca this.1⟩
 ·cases this
structure Mks (n : Nat) (ms : List Int) : Prop where
 rg : ∀ x ∈ ms,0 ≤ x ∧ x < n
 so : ms.Pairwise (· < ·)
structure Eds (al : List Int) (N : Int) (i k : Nat) (es : List Qe) : Prop where
 rg : ∀ x ∈ es,0 ≤ x.From ∧ 0 ≤ x.To ∧ x.To < N ∧ x.Event ∈ al ∧ (x.From < i ∨ x.From = i ∧ ∃ j : Nat,j < k ∧ al[j]? = some x.Event)
 so : es.Pairwise Qdx
 ln : es.length ≤ 5 * i + k
theorem Mks.up {n : Nat} {ms : List Int} (h : Mks n ms) : Mks (n + 1) ms:=⟨fun x hx=>by have:=h.rg x hx; omega,h.so⟩
theorem Mks.add {n : Nat} {ms : List Int} (h : Mks n ms) : Mks (n + 1) (ms ++ [(n : Int)]):=by
 refine ⟨fun x hx=>?_,?_⟩
 ·rcases List.mem_append.1 hx with hx | hx
  ·have:=h.rg x hx; omega
  ·simp at hx; omega
 ·rw [List.pairwise_append]
  exact ⟨h.so,by simp,fun x hx y hy=>by simp at hy; have:=h.rg x hx; omega⟩
theorem Mks.len {n : Nat} {ms : List Int} (h : Mks n ms) : ms.length ≤ n:=by have:=Qf4 h.so h.rg; simpa using this
section
variable {al : List Int} (hal : Evs al) {N : Int} {i k : Nat} {es : List Qe}
theorem Eds.up (h : Eds al N i k es) : Eds al N i (k + 1) es:=⟨fun x hx=>by
 obtain ⟨h1,h2,h3,h4,h5⟩:=h.rg x hx
 refine ⟨h1,h2,h3,h4,?_⟩
 rcases h5 with h5 | ⟨h5,j,h6,h7⟩
 ·exact .inl h5
 ·exact .inr ⟨h5,j,by omega,h7⟩,h.so,by have:=h.ln; omega⟩
theorem Eds.next (h : Eds al N i k es) (hk : k ≤ 5) : Eds al N (i + 1) 0 es:=⟨fun x hx=>by
 obtain ⟨h1,h2,h3,h4,h5⟩:=h.rg x hx
 exact ⟨h1,h2,h3,h4,.inl (by rcases h5 with h5 | ⟨h5,_⟩ <;> omega)⟩,h.so,by have:=h.ln; omega⟩
include hal in
theorem Eds.add (h : Eds al N i k es) (hk : k < al.length) {t : Int} (ht : 0 ≤ t ∧ t < N) : Eds al N i (k + 1) (es ++ [⟨(i : Int),al[k],t⟩]):=by
 refine ⟨fun x hx=>?_,?_,by have:=h.ln; simp only [List.length_append,List.length_cons,List.length_nil]; omega⟩
 ·rcases List.mem_append.1 hx with hx | hx
  ·exact h.up.rg x hx
  ·simp at hx; subst hx
   exact ⟨by simp only; omega,ht.1,ht.2,List.getElem_mem hk,.inr ⟨rfl,k,by omega,List.getElem?_eq_getElem hk⟩⟩
 ·rw [List.pairwise_append]
  refine ⟨h.so,by simp,fun x hx y hy=>?_⟩
  simp at hy; subst hy
  obtain ⟨_,_,_,_,h5⟩:=h.rg x hx
  rcases h5 with h5 | ⟨h5,j,h6,h7⟩
  ·exact .inl h5
  ·refine .inr ⟨h5,?_⟩
   obtain ⟨h8,h9⟩:=List.getElem?_eq_some_iff.1 h7
   rw [← h9]
   exact List.pairwise_iff_getElem.1 hal.so j k h8 hk h6
end
structure Qbh7 (g : Q4) : Prop where
 st : 0 ≤ g.States ∧ g.States < 256
 to : ∀ x ∈ [g.To.1.1,g.To.1.2.1,g.To.1.2.2.1,g.To.1.2.2.2.1,g.To.1.2.2.2.2,g.To.2.1.1,g.To.2.1.2.1,g.To.2.1.2.2.1,g.To.2.1.2.2.2.1,g.To.2.1.2.2.2.2,g.To.2.2.1.1,g.To.2.2.1.2.1,g.To.2.2.1.2.2.1,g.To.2.2.1.2.2.2.1,g.To.2.2.1.2.2.2.2,g.To.2.2.2.1.1,g.To.2.2.2.1.2.1,g.To.2.2.2.1.2.2.1,g.To.2.2.2.1.2.2.2.1,g.To.2.2.2.1.2.2.2.2,g.To.2.2.2.2.1,g.To.2.2.2.2.2.1,g.To.2.2.2.2.2.2.1,g.To.2.2.2.2.2.2.2.1,g.To.2.2.2.2.2.2.2.2],0 ≤ x ∧ x < 256
theorem Qber {al : List Int} (hal : Evs al) (fuel : Nat) (hfu : 1099511627776 ≤ fuel) {L : List Int} (hL : L.length = 25) (hL2 : ∀ x ∈ L,0 ≤ x ∧ x < 256) {N : Int} (hN : 1 ≤ N ∧ N ≤ 5) {i : Nat} (hi : (i : Int) < N) {ms : List Int} {es : List Qe} (hes : Eds al N i 0 es) :
  ∃ es',Eds al N (i + 1) 0 es' ∧ Qch (fun (k25 : Int × List Qe → Option (List Int × List Qe)) ((k23,a24) : Int × (List Qe))=>(((if (k23 < (al.length : Int)) then some (decide (k23 < 5)) else some false)).bind fun (x27 : Bool)=>(if x27 then ((((inO 5 (i : Int)).bind fun _=>((inO 5 k23).bind fun _=>((rowO L (Int.toNat (i : Int) * 5 + Int.toNat k23 * 1)).bind fun x31=>((remO .i64 (IntKind.wrap .i64 x31) (IntKind.wrap .i64 (N + 2))).bind fun s33=>(if (s33 < N) then ((getO al k23).bind fun x36=>((appO a24 [(Qe.mk (i : Int) x36 s33)]).bind fun x38=>some x38)) else some a24)))))).bind fun (a40 : List Qe)=>k25 ((IntKind.wrap .i64 (k23 + 1)),a40)) else some (ms,a24)))) fuel (0,es) = some (ms,es'):=by
 have hl:=hal.len
 have:=Qdv (F:=fun (k25 : Int × List Qe → Option (List Int × List Qe)) ((k23,a24) : Int × (List Qe))=>(((if (k23 < (al.length : Int)) then some (decide (k23 < 5)) else some false)).bind fun (x27 : Bool)=>(if x27 then ((((inO 5 (i : Int)).bind fun _=>((inO 5 k23).bind fun _=>((rowO L (Int.toNat (i : Int) * 5 + Int.toNat k23 * 1)).bind fun x31=>((remO .i64 (IntKind.wrap .i64 x31) (IntKind.wrap .i64 (N + 2))).bind fun s33=>(if (s33 < N) then ((getO al k23).bind fun x36=>((appO a24 [(Qe.mk (i : Int) x36 s33)]).bind fun x38=>some x38)) else some a24)))))).bind fun (a40 : List Qe)=>k25 ((IntKind.wrap .i64 (k23 + 1)),a40)) else some (ms,a24))))
  (fun x=>∃ k : Nat,x.1 = (k : Int) ∧ k ≤ al.length ∧ Eds al N i k x.2) (fun x=>al.length - x.1.toNat) (fun _ r=>∃ es',r = some (ms,es') ∧ Eds al N (i + 1) 0 es') (by
   rintro kk ⟨k,es⟩ ⟨k,rfl,hk,he⟩ ih
   replace he : Eds al N i k es:=he
   replace hk : k ≤ al.length:=hk
   dsimp only
   by_cases hlt : k < al.length
   ·rw [if_pos (by omega)]
    simp only [Option.bind_some,show decide ((k : Int) < 5) = true from by simp; omega,if_true]
    rw [show inO 5 (i : Int) = some () from by unfold inO; rw [if_pos (by omega)],show inO 5 (k : Int) = some () from by unfold inO; rw [if_pos (by omega)]]
    simp only [Option.bind_some,Int.toNat_natCast]
    have hidx : i * 5 + k * 1 < L.length:=by omega
    have hx:=hL2 _ (List.getElem_mem hidx)
    rw [show rowO L (i * 5 + k * 1) = some L[i * 5 + k * 1] from by unfold rowO; exact List.getElem?_eq_getElem hidx]
    simp only [Option.bind_some]
    rw [Ql9 (x:=L[i * 5 + k * 1]) (by omega) (by omega),Ql9 (x:=N + 2) (by omega) (by omega),show remO .i64 L[i * 5 + k * 1] (N + 2) = some (L[i * 5 + k * 1].tmod (N + 2)) from by unfold remO; rw [if_neg (by omega)]]
    simp only [Option.bind_some]
    have hmod : 0 ≤ L[i * 5 + k * 1].tmod (N + 2):=Int.tmod_nonneg _ hx.1
    have hln:=he.ln
    by_cases hm : L[i * 5 + k * 1].tmod (N + 2) < N
    ·rw [if_pos hm,Qbw hlt]
     simp only [Option.bind_some]
     rw [Qb8 (by simp only [List.length_cons,List.length_nil]; unfold lim; omega)]
     simp only [Option.bind_some]
     rw [Q8 (by omega)]
     exact ih _ ⟨k + 1,rfl,hlt,he.add hal hlt ⟨hmod,hm⟩⟩ (by simp only; omega)
    ·rw [if_neg hm]
     simp only [Option.bind_some]
     rw [Q8 (by omega)]
     exact ih _ ⟨k + 1,rfl,hlt,he.up⟩ (by simp only; omega)
   ·rw [if_neg (by omega)]
    exact ⟨es,rfl,he.next (by omega)⟩) fuel (0,es) ⟨0,rfl,Nat.zero_le _,hes⟩ (by simp only; omega)
 obtain ⟨es',h1,h2⟩:=this
 exact ⟨es',h2,h1⟩
theorem Qbdm {al : List Int} (hal : Evs al) : Right ⟨al,0,[],[]⟩ :=
 ⟨fun x hx=>by have:=hal.rg x hx; omega,hal.so,⟨by simp,by simp⟩,by simp,.nil,by simp,.nil⟩
theorem Qblg {al : List Int} (hal : Evs al) {g : Q4} (hg : Qbh7 g) : ∃ m,Right m ∧ m.Alphabet = al ∧ Qfy al g = some (Qfg m) ∧ m.States ≤ 5:=by
 have hl:=hal.len
 obtain ⟨hst,hto⟩:=hg
 unfold Qfy Qca
 obtain ⟨fuel,hfu,hge⟩ : ∃ f,Qbl = f ∧ 1099511627776 ≤ f:=⟨_,rfl,Nat.le_refl _⟩
 rw [hfu,Qbep (by unfold lim; omega)]
 simp only [Option.bind_some]
 by_cases h250 : g.States ≥ 250
 ·rw [if_pos h250]
  exact ⟨⟨al,0,[],[]⟩,Qbdm hal,rfl,rfl,by simp⟩
 rw [if_neg h250]
 have hL : [g.To.1.1,g.To.1.2.1,g.To.1.2.2.1,g.To.1.2.2.2.1,g.To.1.2.2.2.2,g.To.2.1.1,g.To.2.1.2.1,g.To.2.1.2.2.1,g.To.2.1.2.2.2.1,g.To.2.1.2.2.2.2,g.To.2.2.1.1,g.To.2.2.1.2.1,g.To.2.2.1.2.2.1,g.To.2.2.1.2.2.2.1,g.To.2.2.1.2.2.2.2,g.To.2.2.2.1.1,g.To.2.2.2.1.2.1,g.To.2.2.2.1.2.2.1,g.To.2.2.2.1.2.2.2.1,g.To.2.2.2.1.2.2.2.2,g.To.2.2.2.2.1,g.To.2.2.2.2.2.1,g.To.2.2.2.2.2.2.1,g.To.2.2.2.2.2.2.2.1,g.To.2.2.2.2.2.2.2.2].length = 25:=rfl
 generalize [g.To.1.1,g.To.1.2.1,g.To.1.2.2.1,g.To.1.2.2.2.1,g.To.1.2.2.2.2,g.To.2.1.1,g.To.2.1.2.1,g.To.2.1.2.2.1,g.To.2.1.2.2.2.1,g.To.2.1.2.2.2.2,g.To.2.2.1.1,g.To.2.2.1.2.1,g.To.2.2.1.2.2.1,g.To.2.2.1.2.2.2.1,g.To.2.2.1.2.2.2.2,g.To.2.2.2.1.1,g.To.2.2.2.1.2.1,g.To.2.2.2.1.2.2.1,g.To.2.2.2.1.2.2.2.1,g.To.2.2.2.1.2.2.2.2,g.To.2.2.2.2.1,g.To.2.2.2.2.2.1,g.To.2.2.2.2.2.2.1,g.To.2.2.2.2.2.2.2.1,g.To.2.2.2.2.2.2.2.2] = L at hto hL ⊢
 have hmod : 0 ≤ g.States.tmod 5 ∧ g.States.tmod 5 < 5:=⟨Int.tmod_nonneg _ hst.1,Int.tmod_lt_of_pos _ (by omega)⟩
 have hN : 1 ≤ IntKind.wrap .i64 (1 + (IntKind.wrap .i64 (Int.tmod g.States 5))) ∧ IntKind.wrap .i64 (1 + (IntKind.wrap .i64 (Int.tmod g.States 5))) ≤ 5:=by
  rw [Ql9 (x:=g.States.tmod 5) (by omega) (by omega),Ql9 (by omega) (by omega)]; omega
 generalize IntKind.wrap .i64 (1 + (IntKind.wrap .i64 (Int.tmod g.States 5))) = N at hN ⊢
 have hloop:=Qdv (F:=(fun (k15 : Int × List Int × List Int × List Qe × Int × List Int × List Qe → Option (List Int × List Int × List Qe × Int × List Int × List Qe)) ((i8,c9,c10,c11,a12,a13,a14) : Int × (List Int) × (List Int) × (List Qe) × Int × (List Int) × (List Qe))=>(if (i8 < a12) then ((((((shrO .u8 g.Marks i8).bind fun s17=>(if ((andI .u8 s17 1) == 1) then ((appO a13 [i8]).bind fun x20=>some x20) else some a13))).bind fun (a22 : List Int)=>Qch (fun k25 ((k23,a24) : Int × (List Qe))=>(((if (k23 < (al.length : Int)) then some (decide (k23 < 5)) else some false)).bind fun (x27 : Bool)=>(if x27 then ((((inO 5 i8).bind fun _=>((inO 5 k23).bind fun _=>((rowO L (Int.toNat i8 * 5 + Int.toNat k23 * 1)).bind fun x31=>((remO .i64 (IntKind.wrap .i64 x31) (IntKind.wrap .i64 (a12 + 2))).bind fun s33=>(if (s33 < a12) then ((getO al k23).bind fun x36=>((appO a24 [(Qe.mk i8 x36 s33)]).bind fun x38=>some x38)) else some a24)))))).bind fun (a40 : List Qe)=>k25 ((IntKind.wrap .i64 (k23 + 1)),a40)) else some (a22,a24)))) fuel (0,a14))).bind fun ((a41,a42) : (List Int) × (List Qe))=>k15 ((IntKind.wrap .i64 (i8 + 1)),c9,c10,c11,a12,a41,a42)) else some (c9,c10,c11,a12,a13,a14))))
  (fun x=>∃ (i : Nat) (ms : List Int) (es : List Qe),x = ((i : Int),[],[],[],N,ms,es) ∧ (i : Int) ≤ N ∧ Mks i ms ∧ Eds al N i 0 es) (fun x=>(N - x.1).toNat)
  (fun _ r=>∃ (i : Nat) (ms : List Int) (es : List Qe),r = some ([],[],[],N,ms,es) ∧ (i : Int) = N ∧ Mks i ms ∧ Eds al N i 0 es) (by
   rintro k _ ⟨i,ms,es,rfl,hi,hm,he⟩ ih
   dsimp only
   by_cases hlt : (i : Int) < N
   ·rw [if_pos hlt,show shrO .u8 g.Marks (i : Int) = some (g.Marks.fdiv (2 ^ (min (Int.toNat (i : Int)) (IntKind.bits .u8)))) from by unfold shrO; rw [if_neg (by omega)]]
    simp only [Option.bind_some]
    have hml:=hm.len
    by_cases hb : (andI .u8 (g.Marks.fdiv (2 ^ (min (Int.toNat (i : Int)) (IntKind.bits .u8)))) 1 == 1) = true
    ·rw [if_pos hb,Qb8 (by simp only [List.length_cons,List.length_nil]; unfold lim; omega)]
     simp only [Option.bind_some]
     obtain ⟨es',h1,h2⟩:=Qber hal fuel hge hL hto hN hlt (ms:=ms ++ [(i : Int)]) he
     rw [h2]
     simp only [Option.bind_some]
     rw [Q8 (by omega)]
     exact ih _ ⟨i + 1,_,_,rfl,by omega,hm.add,h1⟩ (by simp only; omega)
    ·rw [if_neg hb]
     simp only [Option.bind_some]
     obtain ⟨es',h1,h2⟩:=Qber hal fuel hge hL hto hN hlt (ms:=ms) he
     rw [h2]
     simp only [Option.bind_some]
     rw [Q8 (by omega)]
     exact ih _ ⟨i + 1,_,_,rfl,by omega,hm.up,h1⟩ (by simp only; omega)
   ·rw [if_neg hlt]
    exact ⟨i,ms,es,rfl,by omega,hm,he⟩) fuel (0,[],[],[],N,[],[]) ⟨0,[],[],rfl,by omega,⟨by simp,.nil⟩,⟨by simp,.nil,by simp⟩⟩ (by simp only; omega)
 obtain ⟨i,ms,es,h1,h2,h3,h4⟩:=hloop
 rw [h1]
 simp only [Option.bind_some]
 have hr : Right ⟨al,N,ms,es⟩:=⟨fun x hx=>by have:=hal.rg x hx; omega,hal.so,⟨by simp only; omega,by simp only; omega⟩,fun x hx=>by have:=h3.rg x hx; simp only; omega,h3.so,fun x hx=>by
  obtain ⟨k1,k2,k3,k4,k5⟩:=h4.rg x hx
  refine ⟨k1,?_,k2,k3,k4⟩
  rcases k5 with k5 | ⟨_,j,k6,_⟩
  ·simp only; omega
  ·omega,h4.so⟩
 rw [Q0d hr]
 exact ⟨_,hr,rfl,rfl,by simp only; omega⟩
end Go.Abs
end
section
namespace Go.Proofs
open Go Go.Abs
theorem Qbme {x : Int} (h : wfI .u8 x) : 0 ≤ x ∧ x < 256:=by
 unfold wfI at h
 simp [Lit.wf,IntKind.min,IntKind.max,IntKind.bits,IntKind.signed] at h
 omega
theorem Qbmj {g : Q4} (h : W_26 g) : Qbh7 g:=by
 unfold W_26 W_24 W_23 W_5 at h
 obtain ⟨h1,h2,⟨a1,a2,a3,a4,a5⟩,⟨b1,b2,b3,b4,b5⟩,⟨c1,c2,c3,c4,c5⟩,⟨d1,d2,d3,d4,d5⟩,⟨e1,e2,e3,e4,e5⟩⟩:=h
 refine ⟨Qbme h1,fun x hx=>?_⟩
 simp only [List.mem_cons,List.not_mem_nil,or_false] at hx
 rcases hx with rfl | rfl | rfl | rfl | rfl | rfl | rfl | rfl | rfl | rfl | rfl | rfl | rfl | rfl | rfl | rfl | rfl | rfl | rfl | rfl | rfl | rfl | rfl | rfl | rfl <;> exact Qbme (by assumption)
end Go.Proofs
end
section
namespace Go.Abs
open Go
theorem Qbcb {α : Type} [DecidableEq α] {s t : List α} {ne : α → α → Bool} (hne : ∀ x y,ne x y = decide (x ≠ y)) (hl : s.length = t.length) (h : s.length < 1000000000000) :
  Qch (fun k5 (i4 : Int)=>(if (i4 < (s.length : Int)) then ((getO s i4).bind fun x7=>((getO t i4).bind fun x9=>(if ne x7 x9 then some false else k5 (IntKind.wrap .i64 (i4 + 1))))) else some true)) Qbl 0 = some (decide (s = t)):=by
 refine Qbjl (fun i : Int=>∃ n : Nat,i = n ∧ n ≤ s.length ∧ s.take n = t.take n) (fun i=>s.length - i.toNat) _ ⟨0,rfl,by omega,by simp⟩ (by unfold Qbl; omega) ?_
 rintro k _ ⟨n,rfl,hn,he⟩ ih
 by_cases hlt : n < s.length
 ·rw [if_pos (by omega),Qbw hlt,Qbw (by omega : n < t.length)]
  simp only [Option.bind_some,hne]
  by_cases hx : s[n] = t[n]
  ·rw [if_neg (by simp [hx]),Q8 (by omega)]
   exact ih _ ⟨n + 1,rfl,by omega,Qbb7 hlt (by omega) he hx⟩ (by omega)
  ·rw [if_pos (by simp [hx])]
   have : s ≠ t:=fun e=>hx (by subst e; rfl)
   simp [this]
 ·rw [if_neg (by omega)]
  have e : n = s.length:=by omega
  have : s = t:=by
   rw [e,List.take_length,hl,List.take_length] at he; exact he
  simp [this]
theorem Qblh (x y : Qe) : (!((x.From == y.From) && ((x.Event == y.Event) && ((x.To == y.To) && true)))) = decide (x ≠ y):=by
 cases x; cases y
 simp only [Qe.mk.injEq,Bool.and_true,ne_eq,decide_not]
 congr 1
 rw [Bool.eq_iff_iff]; simp
theorem Qbmf {R : Type} (b : Bool) (A B : R) : (if b then A else B) = if (!b) then B else A:=by cases b <;> rfl
end Go.Abs
end
section
namespace Go.Abs
open Go
theorem Qbh8 : Qhm = some true:=by kernel_rfl
theorem Qbes {s t : List Int} (h : s.length < 1000000000000) : Qcs s t = some (decide (s = t)):=by
 unfold Qcs Qq
 by_cases hl : s.length = t.length
 ·rw [if_neg (by simp [hl])]
  exact Qbcb (ne:=fun x y=>x != y) (fun x y=>by rw [Bool.eq_iff_iff]; simp) hl h
 ·rw [if_pos (by simp; omega)]
  have : s ≠ t:=fun e=>hl (by rw [e])
  simp [this]
theorem Qbh9 {a b : Qa} (h : small a) : Qem a b = some (decide (a = b)):=by
 unfold Qem Q5
 rw [Qbes h.1,Qbes h.2.1]
 obtain ⟨al,s,m,e⟩:=a
 obtain ⟨al',s',m',e'⟩:=b
 have hlen : e.length ≠ e'.length → ¬ e = e':=fun h k=>h (by rw [k])
 have hlen2 : ((e.length : Int) != (e'.length : Int)) = decide (e.length ≠ e'.length):=by
  rw [Bool.eq_iff_iff]; simp; omega
 by_cases hl : e.length = e'.length
 ·have:=Qbcb (ne:=fun x y=>!((x.From == y.From) && ((x.Event == y.Event) && ((x.To == y.To) && true)))) Qblh hl h.2.2
  simp only [← Qbmf] at this
  rw [this]
  simp only [Option.bind_some,Qa.mk.injEq,hlen2]
  by_cases h1 : s = s' <;> by_cases h2 : al = al' <;> by_cases h3 : m = m' <;> simp [h1,h2,h3,hl]
 ·generalize Qch _ Qbl 0 = L
  simp only [Option.bind_some,Qa.mk.injEq,hlen2]
  by_cases h1 : s = s' <;> by_cases h2 : al = al' <;> by_cases h3 : m = m' <;> simp [h1,h2,h3,hl,hlen hl]
end Go.Abs
end
section
namespace Go.Abs
open Go
set_option linter.unusedSimpArgs false
set_option linter.unusedVariables false
theorem Qbli (x y : Int) : Qie x y = some (decide (x < y)):=by
 unfold Qie Qd0 Qov Qc3
 simp
theorem Qbjq (x : Int) : Qg1 x = some false:=by
 unfold Qg1 Qcc
 simp
theorem Qbia {l : List Int} (h : l.Pairwise (· < ·)) (v : Int) : l.Pairwise fun a b=>decide (b < v) = true → decide (a < v) = true :=
 h.imp fun h=>by simp; omega
theorem Qbib {l : List Int} {v : Int} (hs : l.Pairwise (· < ·)) (hl : l.length < big) : ∃ n,Qck l v = some (n,decide (v ∈ l)):=by
 have hc:=fun n h=>Q5o (p:=fun x : Int=>decide (x < v)) (Qbia hs v) n h
 have hcl : (l.filter fun x=>decide (x < v)).length ≤ l.length:=List.length_filter_le _ _
 generalize (l.filter fun x=>decide (x < v)).length = c at hc hcl
 have hb : l.length < 1000000000000:=hl
 unfold Qck Qbi
 obtain ⟨fuel,hfu,hge⟩ : ∃ f,Qbl = f ∧ 1099511627776 ≤ f:=⟨_,rfl,Nat.le_refl _⟩
 rw [hfu]
 have hloop:=Qdv (F:=fun (k5 : Int × Int → Option Int) ((i3,j4) : Int × Int)=>(if (i3 < j4) then ((getO l (IntKind.wrap .i64 (Int.fdiv (IntKind.wrap .u64 (IntKind.wrap .i64 (i3 + j4))) (2 ^ (min (Int.toNat 1) (IntKind.bits .u64)))))).bind fun x7=>((Qie x7 v).bind fun x10=>(if x10 then k5 ((IntKind.wrap .i64 ((IntKind.wrap .i64 (Int.fdiv (IntKind.wrap .u64 (IntKind.wrap .i64 (i3 + j4))) (2 ^ (min (Int.toNat 1) (IntKind.bits .u64))))) + 1)),j4) else k5 (i3,(IntKind.wrap .i64 (Int.fdiv (IntKind.wrap .u64 (IntKind.wrap .i64 (i3 + j4))) (2 ^ (min (Int.toNat 1) (IntKind.bits .u64))))))))) else some i3))
  (fun x=>∃ i j : Nat,x = ((i : Int),(j : Int)) ∧ i ≤ c ∧ c ≤ j ∧ j ≤ l.length) (fun x=>(x.2 - x.1).toNat) (fun _ r=>r = some (c : Int)) (by
   rintro k _ ⟨i,j,rfl,h1,h2,h3⟩ ih
   dsimp only
   by_cases hij : i < j
   ·rw [if_pos (by omega),Qbkh (by omega) (by omega)]
    have hm : (i + j) / 2 < l.length:=by omega
    rw [Qbw hm]
    simp only [Option.bind_some]
    rw [Qbli]
    simp only [Option.bind_some]
    have hcm:=hc ((i + j) / 2) hm
    by_cases hlt : l[(i + j) / 2] < v
    ·rw [if_pos (by simpa using hlt),Q8 (by omega)]
     have : (i + j) / 2 < c:=hcm.1 (by simpa using hlt)
     exact ih _ ⟨_,_,rfl,by omega,h2,h3⟩ (by simp only; omega)
    ·rw [if_neg (by simpa using hlt)]
     have : ¬ (i + j) / 2 < c:=fun h=>hlt (by simpa using hcm.2 h)
     exact ih _ ⟨_,_,rfl,h1,by omega,by omega⟩ (by simp only; omega)
   ·rw [if_neg (by omega)]
    have : i = c:=by omega
    rw [this]) fuel (0,(l.length : Int)) ⟨0,l.length,rfl,by omega,hcl,Nat.le_refl _⟩ (by simp only; omega)
 rw [hloop]
 simp only [Option.bind_some]
 have hmem : v ∈ l ↔ ∃ h : c < l.length,l[c] = v:=by
  constructor
  ·intro hv
   obtain ⟨j,hj,rfl⟩:=List.getElem_of_mem hv
   have h1 : ¬ j < c:=fun h=>by have:=(hc j hj).2 h; simp at this
   have h2 : c < l.length:=by omega
   refine ⟨h2,?_⟩
   have h3 : ¬ l[c] < l[j]:=fun h=>by have:=(hc c h2).1 (by simpa using h); omega
   rcases Nat.lt_or_ge c j with h | h
   ·have:=List.pairwise_iff_getElem.1 hs c j h2 hj h; omega
   ·have : c = j:=by omega
    subst this; rfl
  ·rintro ⟨h,rfl⟩; exact List.getElem_mem h
 by_cases hlt : c < l.length
 ·rw [if_pos (by omega),Qbw hlt]
  simp only [Option.bind_some]
  by_cases he : l[c] = v
  ·rw [if_pos (by simpa using he)]
   exact ⟨_,by rw [decide_eq_true (hmem.2 ⟨hlt,he⟩)]⟩
  ·rw [if_neg (by simpa using he),Qbjq]
   exact ⟨_,by rw [decide_eq_false (fun h=>he (hmem.1 h).2)]; rfl⟩
 ·rw [if_neg (by omega)]
  exact ⟨_,by rw [decide_eq_false (fun h=>hlt (hmem.1 h).1)]⟩
theorem Qbjr {l : List Int} (hl : l.length ≤ lim) : Qfb l = some l:=by
 unfold Qfb Qbh
 rw [Qb8 (by simpa using hl)]
 cases l <;> simp [nilO]
structure Num (a : Qa) (o num : List Int) : Prop where
 len : num.length = a.States.toNat
 at1 : ∀ s : Nat,s < a.States.toNat → num[s]? = some (if (s : Int) ∈ o then (o.idxOf (s : Int) : Int) else -1)
theorem Q72 {o F : List Int} (h : o <+: F) {t : Int} (ht : t ∈ o) : F.idxOf t = o.idxOf t:=by
 obtain ⟨r,rfl⟩:=h
 rw [List.idxOf_append,if_pos ht]
theorem Num.get {a : Qa} {o num : List Int} (h : Num a o num) {t : Int} (ht : 0 ≤ t ∧ t < a.States) : getO num t = some (if t ∈ o then (o.idxOf t : Int) else -1):=by
 rw [Qo0]
 refine ⟨ht.1,?_⟩
 have:=h.at1 t.toNat (by omega)
 rwa [show ((t.toNat : Nat) : Int) = t from by omega] at this
theorem Num.set {a : Qa} {o num : List Int} (h : Num a o num) {t : Int} (ht : 0 ≤ t ∧ t < a.States) (hn : t ∉ o) : ∃ num',setO num t (o.length : Int) = some num' ∧ Num a (o ++ [t]) num':=by
 refine ⟨num.set t.toNat (o.length : Int),by unfold setO; rw [if_pos ⟨ht.1,by rw [h.len]; omega⟩],by rw [List.length_set]; exact h.len,fun s hs=>?_⟩
 rw [List.getElem?_set]
 by_cases he : t.toNat = s
 ·subst he
  rw [if_pos rfl,if_pos (by rw [h.len]; omega),show ((t.toNat : Nat) : Int) = t from by omega,if_pos (by simp),List.idxOf_append,if_neg hn]
  simp
 ·rw [if_neg he,h.at1 s hs]
  have hne : (s : Int) ≠ t:=by omega
  by_cases hm : (s : Int) ∈ o
  ·rw [if_pos hm,if_pos (by simp [hm]),List.idxOf_append,if_pos hm]
  ·rw [if_neg hm,if_neg (by simp [hm,hne])]
section
variable {a : Qa} (h : Right a)
include h
theorem Qbic (fuel : Nat) (hfu : 1099511627776 ≤ fuel) {l : List Qe} (hl : l.length ≤ 200000) (hto : ∀ x ∈ l,0 ≤ x.To ∧ x.To < a.States) {i : Nat} {ms o : List Int} {es : List Qe} {num : List Int} (ho : Fnd a o) (hn : Num a o num) (hes : es.length ≤ 200000) :
  ∃ num',Num a ((l.map (·.To)).foldl ins o) num' ∧ Qch (fun (k47 : List Int × Int × List Qe × List Int → Option (List Int × List Int × List Qe × List Int)) ((order43,x44,r45,c46) : (List Int) × Int × (List Qe) × (List Int))=>(if (x44 < (l.length : Int)) then ((getO l x44).bind fun x49=>((((inO (Int.toNat a.States) x49.To).bind fun u51=>((getO c46 x49.To).bind fun x53=>(if (x53 < 0) then ((inO (Int.toNat a.States) x49.To).bind fun u56=>((setO c46 x49.To (order43.length : Int)).bind fun x58=>((appO order43 [x49.To]).bind fun x60=>some (x60,x58)))) else some (order43,c46))))).bind fun ((order62,c63) : (List Int) × (List Int))=>((inO (Int.toNat a.States) x49.To).bind fun u64=>((getO c63 x49.To).bind fun x66=>((appO r45 [(Qe.mk (i : Int) x49.Event x66)]).bind fun x68=>k47 (order62,(IntKind.wrap .i64 (x44 + 1)),x68,c63)))))) else some (order43,ms,r45,c46))) fuel (o,0,es,num) = some ((l.map (·.To)).foldl ins o,ms,es ++ l.map (fun x=>⟨(i : Int),x.Event,(((l.map (·.To)).foldl ins o).idxOf x.To : Int)⟩),num'):=by
 have hst:=h.st
 have key:=Qdv (F:=(fun (k47 : List Int × Int × List Qe × List Int → Option (List Int × List Int × List Qe × List Int)) ((order43,x44,r45,c46) : (List Int) × Int × (List Qe) × (List Int))=>(if (x44 < (l.length : Int)) then ((getO l x44).bind fun x49=>((((inO (Int.toNat a.States) x49.To).bind fun u51=>((getO c46 x49.To).bind fun x53=>(if (x53 < 0) then ((inO (Int.toNat a.States) x49.To).bind fun u56=>((setO c46 x49.To (order43.length : Int)).bind fun x58=>((appO order43 [x49.To]).bind fun x60=>some (x60,x58)))) else some (order43,c46))))).bind fun ((order62,c63) : (List Int) × (List Int))=>((inO (Int.toNat a.States) x49.To).bind fun u64=>((getO c63 x49.To).bind fun x66=>((appO r45 [(Qe.mk (i : Int) x49.Event x66)]).bind fun x68=>k47 (order62,(IntKind.wrap .i64 (x44 + 1)),x68,c63)))))) else some (order43,ms,r45,c46))))
  (fun x=>∃ (j : Nat) (o : List Int) (es : List Qe) (num : List Int),x = (o,(j : Int),es,num) ∧ j ≤ l.length ∧ Fnd a o ∧ Num a o num ∧ es.length ≤ 200000 + j) (fun x=>l.length - x.2.1.toNat)
  (fun x r=>∀ (j : Nat) (o : List Int) (es : List Qe) (num : List Int),x = (o,(j : Int),es,num) → ∃ num',Num a (((l.drop j).map (·.To)).foldl ins o) num' ∧ r = some (((l.drop j).map (·.To)).foldl ins o,ms,es ++ (l.drop j).map (fun x=>⟨(i : Int),x.Event,((((l.drop j).map (·.To)).foldl ins o).idxOf x.To : Int)⟩),num')) (by
   rintro k _ ⟨j,o,es,num,rfl,hj,hf,hnm,hel⟩ ih j' o' es' num' he
   obtain ⟨rfl,he2⟩:=Prod.mk.inj he
   obtain ⟨hjj,he3⟩:=Prod.mk.inj he2
   obtain ⟨rfl,rfl⟩:=Prod.mk.inj he3
   obtain rfl : j = j':=by omega
   have hfl:=hf.len
   dsimp only
   by_cases hlt : j < l.length
   ·have ht:=hto _ (List.getElem_mem hlt)
    rw [if_pos (by omega),Qbw hlt]
    simp only [Option.bind_some]
    rw [show inO (Int.toNat a.States) l[j].To = some () from by unfold inO; rw [if_pos (by omega)]]
    simp only [Option.bind_some]
    rw [hnm.get ht]
    simp only [Option.bind_some]
    have hfi:=hf.ins ht
    have hmem : l[j].To ∈ ins o l[j].To:=Q0b.2 (.inr rfl)
    have hpre : ins o l[j].To <+: ((l.drop (j + 1)).map (·.To)).foldl ins (ins o l[j].To) :=
     (Qlh hfi fun t ht'=>by obtain ⟨x,hx,rfl⟩:=List.mem_map.1 ht'; exact hto x (List.mem_of_mem_drop hx)).2.1
    rw [List.drop_eq_getElem_cons hlt]
    simp only [List.map_cons,List.foldl_cons]
    by_cases hm : l[j].To ∈ o
    ·have e1 : ins o l[j].To = o:=by unfold ins; rw [if_pos hm]
     rw [if_pos hm,if_neg (by omega)]
     simp only [Option.bind_some]
     rw [hnm.get ht,if_pos hm]
     simp only [Option.bind_some]
     rw [Qb8 (by simp only [List.length_cons,List.length_nil]; unfold lim; omega)]
     simp only [Option.bind_some]
     rw [Q8 (by omega)]
     rw [e1] at hpre ⊢
     obtain ⟨num',q1,q2⟩:=ih _ ⟨j + 1,o,es ++ [⟨(i : Int),l[j].Event,(o.idxOf l[j].To : Int)⟩],num,rfl,by omega,hf,hnm,by simp only [List.length_append,List.length_cons,List.length_nil]; omega⟩ (by simp only; omega) (j + 1) _ _ _ rfl
     refine ⟨num',q1,?_⟩
     rw [q2,Q72 hpre hm]
     simp only [List.append_assoc,List.cons_append,List.nil_append]
    ·have e1 : ins o l[j].To = o ++ [l[j].To]:=by unfold ins; rw [if_neg hm]
     rw [if_neg hm,if_pos (by omega)]
     obtain ⟨num1,w1,w2⟩:=hnm.set ht hm
     rw [w1]
     simp only [Option.bind_some]
     rw [Qb8 (by simp only [List.length_cons,List.length_nil]; unfold lim; omega)]
     simp only [Option.bind_some]
     rw [w2.get ht,if_pos (by simp)]
     simp only [Option.bind_some]
     rw [Qb8 (by simp only [List.length_cons,List.length_nil]; unfold lim; omega)]
     simp only [Option.bind_some]
     rw [Q8 (by omega)]
     rw [e1] at hpre hfi hmem ⊢
     obtain ⟨num',q1,q2⟩:=ih _ ⟨j + 1,o ++ [l[j].To],es ++ [⟨(i : Int),l[j].Event,((o ++ [l[j].To]).idxOf l[j].To : Int)⟩],num1,rfl,by omega,hfi,w2,by simp only [List.length_append,List.length_cons,List.length_nil]; omega⟩ (by simp only; omega) (j + 1) _ _ _ rfl
     refine ⟨num',q1,?_⟩
     rw [q2,Q72 hpre hmem]
     simp only [List.append_assoc,List.cons_append,List.nil_append]
   ·rw [if_neg (by omega)]
    obtain rfl : j = l.length:=by omega
    exact ⟨num,by simpa using hnm,by simp⟩) fuel (o,0,es,num) ⟨0,o,es,num,rfl,Nat.zero_le _,ho,hn,by omega⟩ (by simp only; omega) 0 o es num rfl
 obtain ⟨num',q1,q2⟩:=key
 exact ⟨num',by simpa using q1,by simpa using q2⟩
theorem Qbfm (fuel : Nat) (hfu : 1099511627776 ≤ fuel) {num : List Int} (h0 : 0 < a.States) (hn : Num a [0] num) :
  ∃ num',Qch (fun (k28 : List Int × Int × List Int × List Int × List Qe × List Int × List Qe × List Int → Option (List Int × List Int × List Int × List Qe × List Int × List Qe × List Int)) ((order20,i21,c22,c23,c24,r25,r26,c27) : (List Int) × Int × (List Int) × (List Int) × (List Qe) × (List Int) × (List Qe) × (List Int))=>(if (i21 < (order20.length : Int)) then ((((((getO order20 i21).bind fun x30=>((Qck a.Marked x30).bind fun (r33,r34)=>(if r34 then ((appO r25 [i21]).bind fun x36=>some x36) else some r25)))).bind fun (r38 : List Int)=>((getO order20 i21).bind fun x39=>((Qf3 a x39).bind fun x42=>Qch (fun k47 ((order43,x44,r45,c46) : (List Int) × Int × (List Qe) × (List Int))=>(if (x44 < (x42.length : Int)) then ((getO x42 x44).bind fun x49=>((((inO (Int.toNat a.States) x49.To).bind fun u51=>((getO c46 x49.To).bind fun x53=>(if (x53 < 0) then ((inO (Int.toNat a.States) x49.To).bind fun u56=>((setO c46 x49.To (order43.length : Int)).bind fun x58=>((appO order43 [x49.To]).bind fun x60=>some (x60,x58)))) else some (order43,c46))))).bind fun ((order62,c63) : (List Int) × (List Int))=>((inO (Int.toNat a.States) x49.To).bind fun u64=>((getO c63 x49.To).bind fun x66=>((appO r45 [(Qe.mk i21 x49.Event x66)]).bind fun x68=>k47 (order62,(IntKind.wrap .i64 (x44 + 1)),x68,c63)))))) else some (order43,r38,r45,c46))) fuel (order20,0,r26,c27))))).bind fun ((order70,r71,r72,c73) : (List Int) × (List Int) × (List Qe) × (List Int))=>k28 (order70,(IntKind.wrap .i64 (i21 + 1)),c22,c23,c24,r71,r72,c73)) else some (order20,c22,c23,c24,r25,r26,c27))) fuel ([0],0,[],[],[],[],[],num) = some (Qbs a,[],[],[],Qhp a.Marked 0 (Qbs a),Qf5 a (Qbs a) 0 (Qbs a),num'):=by
 have hst:=h.st
 have hs:=h.small.1
 have hsb:=h.small.2
 have key:=Qdv (F:=(fun (k28 : List Int × Int × List Int × List Int × List Qe × List Int × List Qe × List Int → Option (List Int × List Int × List Int × List Qe × List Int × List Qe × List Int)) ((order20,i21,c22,c23,c24,r25,r26,c27) : (List Int) × Int × (List Int) × (List Int) × (List Qe) × (List Int) × (List Qe) × (List Int))=>(if (i21 < (order20.length : Int)) then ((((((getO order20 i21).bind fun x30=>((Qck a.Marked x30).bind fun (r33,r34)=>(if r34 then ((appO r25 [i21]).bind fun x36=>some x36) else some r25)))).bind fun (r38 : List Int)=>((getO order20 i21).bind fun x39=>((Qf3 a x39).bind fun x42=>Qch (fun k47 ((order43,x44,r45,c46) : (List Int) × Int × (List Qe) × (List Int))=>(if (x44 < (x42.length : Int)) then ((getO x42 x44).bind fun x49=>((((inO (Int.toNat a.States) x49.To).bind fun u51=>((getO c46 x49.To).bind fun x53=>(if (x53 < 0) then ((inO (Int.toNat a.States) x49.To).bind fun u56=>((setO c46 x49.To (order43.length : Int)).bind fun x58=>((appO order43 [x49.To]).bind fun x60=>some (x60,x58)))) else some (order43,c46))))).bind fun ((order62,c63) : (List Int) × (List Int))=>((inO (Int.toNat a.States) x49.To).bind fun u64=>((getO c63 x49.To).bind fun x66=>((appO r45 [(Qe.mk i21 x49.Event x66)]).bind fun x68=>k47 (order62,(IntKind.wrap .i64 (x44 + 1)),x68,c63)))))) else some (order43,r38,r45,c46))) fuel (order20,0,r26,c27))))).bind fun ((order70,r71,r72,c73) : (List Int) × (List Int) × (List Qe) × (List Int))=>k28 (order70,(IntKind.wrap .i64 (i21 + 1)),c22,c23,c24,r71,r72,c73)) else some (order20,c22,c23,c24,r25,r26,c27))))
  (fun x=>∃ (i : Nat) (o ms : List Int) (es : List Qe) (num : List Int),x = (o,(i : Int),[],[],[],ms,es,num) ∧ i ≤ o.length ∧ Fnd a o ∧ Num a o num ∧ ms.length ≤ i ∧ es.length ≤ 32 * i ∧ (∀ j s,j < i → o[j]? = some s → ∀ t ∈ Qdq a s,t ∈ o)) (fun x=>a.States.toNat + 1 - x.2.1.toNat)
  (fun x r=>∀ (i : Nat) (o ms : List Int) (es : List Qe) (num : List Int),x = (o,(i : Int),[],[],[],ms,es,num) → ∃ num',r = some (bfs a (a.States.toNat + 1 - i) i o,[],[],[],ms ++ Qhp a.Marked i ((bfs a (a.States.toNat + 1 - i) i o).drop i),es ++ Qf5 a (bfs a (a.States.toNat + 1 - i) i o) i ((bfs a (a.States.toNat + 1 - i) i o).drop i),num')) (by
   rintro k _ ⟨i,o,ms,es,num,rfl,hi,hf,hnm,hml,hel,hcl⟩ ih i' o' ms' es' num' he
   obtain ⟨rfl,he2⟩:=Prod.mk.inj he
   obtain ⟨hii,he3⟩:=Prod.mk.inj he2
   obtain ⟨_,he4⟩:=Prod.mk.inj he3
   obtain ⟨_,he5⟩:=Prod.mk.inj he4
   obtain ⟨_,he6⟩:=Prod.mk.inj he5
   obtain ⟨rfl,he7⟩:=Prod.mk.inj he6
   obtain ⟨rfl,rfl⟩:=Prod.mk.inj he7
   obtain rfl : i = i':=by omega
   have hfl:=hf.len
   dsimp only
   by_cases hlt : i < o.length
   ·have hrg:=hf.rg _ (List.getElem_mem hlt)
    rw [if_pos (by omega),Qbw hlt]
    simp only [Option.bind_some]
    obtain ⟨n,hsr⟩:=Qbib (v:=o[i]) h.ma hs.2.1
    rw [hsr]
    simp only [Option.bind_some]
    rw [Qbmd h hs (by omega) (by omega)]
    have hto : ∀ x ∈ outP a o[i],0 ≤ x.To ∧ x.To < a.States:=fun x hx=>by
     unfold outP at hx
     have:=h.ed0 x (List.mem_filter.1 hx).1; omega
    have hol : (outP a o[i]).length ≤ 200000:=Nat.le_trans (List.length_filter_le _ _) (by omega)
    have hrow:=Qbeq h (F:=o) (i:=i) (s:=o[i])
    have hrl : (outP a o[i]).length ≤ 32:=by simpa [rowP] using hrow
    obtain ⟨q1,q2,q3,_⟩:=Qlh hf (Qkm h o[i])
    have hle:=q2.length_le
    have hcl' : ∀ j s,j < i + 1 → ((Qdq a o[i]).foldl ins o)[j]? = some s → ∀ t ∈ Qdq a s,t ∈ (Qdq a o[i]).foldl ins o:=by
     intro j s hj hs' t ht
     by_cases hji : j < i
     ·have hjl : j < o.length:=by omega
      have : o[j]? = some s:=by
       have:=Qnf q2 (List.getElem?_eq_getElem hjl)
       rw [hs'] at this; rw [List.getElem?_eq_getElem hjl]; exact this.symm
      exact q2.subset (hcl j s hji this t ht)
     ·obtain rfl : j = i:=by omega
      have:=Qnf q2 (List.getElem?_eq_getElem hlt)
      rw [hs'] at this; cases this
      exact q3 t ht
    have hF:=Q6l h (a.States.toNat + 1 - (i + 1)) (i + 1) ((Qdq a o[i]).foldl ins o) q1 (by omega) (by omega) hcl'
    have hget : (bfs a (a.States.toNat + 1 - (i + 1)) (i + 1) ((Qdq a o[i]).foldl ins o))[i]? = some o[i]:=Qnf (q2.trans hF.2.1) (List.getElem?_eq_getElem hlt)
    rw [show a.States.toNat + 1 - i = (a.States.toNat + 1 - (i + 1)) + 1 from by omega,Qbaz hlt]
    have hdrop : (bfs a (a.States.toNat + 1 - (i + 1)) (i + 1) ((Qdq a o[i]).foldl ins o)).drop i = o[i] :: (bfs a (a.States.toNat + 1 - (i + 1)) (i + 1) ((Qdq a o[i]).foldl ins o)).drop (i + 1):=by
     obtain ⟨w1,w2⟩:=List.getElem?_eq_some_iff.1 hget
     rw [List.drop_eq_getElem_cons w1,w2]
    rw [hdrop]
    simp only [Qhp,Qf5]
    have hidx : ∀ x ∈ outP a o[i],(bfs a (a.States.toNat + 1 - (i + 1)) (i + 1) ((Qdq a o[i]).foldl ins o)).idxOf x.To = ((Qdq a o[i]).foldl ins o).idxOf x.To:=fun x hx =>
     Q72 hF.2.1 (q3 x.To (List.mem_map.2 ⟨x,hx,rfl⟩))
    have hrow2 : rowP a (bfs a (a.States.toNat + 1 - (i + 1)) (i + 1) ((Qdq a o[i]).foldl ins o)) i o[i] = (outP a o[i]).map fun x=>⟨(i : Int),x.Event,(((Qdq a o[i]).foldl ins o).idxOf x.To : Int)⟩ :=
     List.map_congr_left fun x hx=>by rw [hidx x hx]
    rw [hrow2]
    generalize hFe : bfs a (a.States.toNat + 1 - (i + 1)) (i + 1) ((Qdq a o[i]).foldl ins o) = F at *
    have hstep : ∀ ms1 : List Int,ms1.length ≤ i + 1 → ∃ num',(Option.bind (Qch (fun (k47 : List Int × Int × List Qe × List Int → Option (List Int × List Int × List Qe × List Int)) ((order43,x44,r45,c46) : (List Int) × Int × (List Qe) × (List Int))=>(if (x44 < ((outP a o[i]).length : Int)) then ((getO (outP a o[i]) x44).bind fun x49=>((((inO (Int.toNat a.States) x49.To).bind fun u51=>((getO c46 x49.To).bind fun x53=>(if (x53 < 0) then ((inO (Int.toNat a.States) x49.To).bind fun u56=>((setO c46 x49.To (order43.length : Int)).bind fun x58=>((appO order43 [x49.To]).bind fun x60=>some (x60,x58)))) else some (order43,c46))))).bind fun ((order62,c63) : (List Int) × (List Int))=>((inO (Int.toNat a.States) x49.To).bind fun u64=>((getO c63 x49.To).bind fun x66=>((appO r45 [(Qe.mk (i : Int) x49.Event x66)]).bind fun x68=>k47 (order62,(IntKind.wrap .i64 (x44 + 1)),x68,c63)))))) else some (order43,ms1,r45,c46))) fuel (o,0,es,num)) fun x=>k (x.1,IntKind.wrap .i64 ((i : Int) + 1),[],[],[],x.2.1,x.2.2.1,x.2.2.2)) = some (F,[],[],[],ms1 ++ Qhp a.Marked (i + 1) (F.drop (i + 1)),(es ++ (outP a o[i]).map (fun x=>⟨(i : Int),x.Event,(((Qdq a o[i]).foldl ins o).idxOf x.To : Int)⟩)) ++ Qf5 a F (i + 1) (F.drop (i + 1)),num'):=by
     intro ms1 hms1
     obtain ⟨num1,n1,n2⟩:=Qbic h fuel hfu hol hto (ms:=ms1) (i:=i) hf hnm (es:=es) (by omega)
     rw [n2]
     simp only [Option.bind_some]
     rw [Q8 (by omega)]
     have hel2 : (es ++ (outP a o[i]).map (fun x=>(⟨(i : Int),x.Event,(((Qdq a o[i]).foldl ins o).idxOf x.To : Int)⟩ : Qe))).length ≤ 32 * (i + 1):=by simp only [List.length_append,List.length_map]; omega
     have hfin:=ih _ ⟨i + 1,(Qdq a o[i]).foldl ins o,ms1,_,num1,rfl,by omega,q1,n1,hms1,hel2,hcl'⟩ (by simp only; omega) (i + 1) _ ms1 _ num1 rfl
     rw [hFe] at hfin
     exact hfin
    by_cases hm : o[i] ∈ a.Marked
    ·simp only [hm,decide_true,if_true]
     rw [Qb8 (by simp only [List.length_cons,List.length_nil]; unfold lim; omega)]
     simp only [Option.bind_some]
     obtain ⟨num1,n1⟩:=hstep (ms ++ [(i : Int)]) (by simp only [List.length_append,List.length_cons,List.length_nil]; omega)
     refine ⟨num1,Eq.trans ?_ (n1.trans ?_)⟩
     ·rfl
     ·simp only [List.append_assoc]
    ·simp only [hm,decide_false,Bool.false_eq_true,if_false,Option.bind_some]
     obtain ⟨num1,n1⟩:=hstep ms (by omega)
     refine ⟨num1,Eq.trans ?_ (n1.trans ?_)⟩
     ·rfl
     ·simp only [List.append_assoc,List.nil_append]
   ·rw [if_neg (by omega)]
    obtain rfl : i = o.length:=by omega
    rw [Qbdk]
    exact ⟨num,by simp [Qhp,Qf5]⟩) fuel ([0],0,[],[],[],[],[],num) ⟨0,[0],[],[],num,rfl,by simp,⟨by simp,fun s hs=>by simp at hs; omega⟩,hn,by simp,by simp,fun j s hj=>by omega⟩ (by simp only; omega) 0 [0] [] [] num rfl
 obtain ⟨num',hk⟩:=key
 refine ⟨num',?_⟩
 rw [hk]
 simp [Qbs,h0]
theorem Q8r : Qfc a = some (Qfg a):=by
 have hst:=h.st
 have hsb:=h.small.2
 unfold Qfc Qb1
 obtain ⟨fuel,hfu,hge⟩ : ∃ f,Qbl = f ∧ 1099511627776 ≤ f:=⟨_,rfl,Nat.le_refl _⟩
 rw [hfu,Qbjr (by unfold lim; omega),Option.bind_some]
 by_cases h0 : a.States = 0
 ·rw [if_pos (by simpa using h0)]
  unfold Qfg Qbs
  rw [if_neg (by omega)]
  rw [h0]; rfl
 ·rw [if_neg (by simpa using h0),show mkO a.States (0 : Int) = some (List.replicate a.States.toNat 0) from by unfold mkO; rw [if_pos ⟨by omega,by unfold lim; omega⟩],Option.bind_some]
  have hfill:=Qff (len:=a.States.toNat) (F:=fun (k9 : Int × List Int → Option (List Int)) ((x7,c8) : Int × (List Int))=>(if (x7 < ((Int.toNat a.States) : Int)) then ((inO (Int.toNat a.States) x7).bind fun u11=>((setO c8 x7 (-1)).bind fun x13=>k9 ((IntKind.wrap .i64 (x7 + 1)),x13))) else some c8))
   (fun n (c : List Int)=>((n : Int),c)) (fun n c=>c.length = a.States.toNat ∧ c.take n = List.replicate n (-1)) (fun _ _=>some (List.replicate a.States.toNat (-1))) (by
    rintro k n c hn ⟨k1,k2⟩ ih
    dsimp only
    rw [if_pos (by omega),show inO (Int.toNat a.States) (n : Int) = some () from by unfold inO; rw [if_pos (by omega)],Option.bind_some,show setO c (n : Int) (-1) = some (c.set n (-1)) from by unfold setO; rw [if_pos ⟨by omega,by rw [k1]; simpa using hn⟩]; rfl,Option.bind_some,Q8 (by omega)]
    refine ih _ ⟨by rw [List.length_set]; exact k1,?_⟩
    rw [List.take_add_one,List.take_set_of_le (Nat.le_refl _),k2,List.getElem?_set_self (by omega)]
    rw [List.replicate_succ']; rfl) (by
    rintro k c ⟨k1,k2⟩
    dsimp only
    rw [if_neg (by omega)]
    rw [← k1,List.take_length,k1] at k2
    rw [k2]) fuel 0 (List.replicate a.States.toNat 0) (Nat.zero_le _) (by omega) ⟨by simp,by simp⟩
  refine (congrArg (fun w=>Option.bind w _) hfill).trans ?_
  rw [Option.bind_some,show inO (Int.toNat a.States) 0 = some () from by unfold inO; rw [if_pos (by omega)],Option.bind_some]
  have hn : Num a [0] ((List.replicate a.States.toNat (-1)).set 0 0):=⟨by simp,fun s hs=>by
   rw [List.getElem?_set]
   cases s with
   | zero=>simp; omega
   | succ s=>simp [hs]; omega⟩
  rw [show setO (List.replicate a.States.toNat (-1 : Int)) 0 0 = some ((List.replicate a.States.toNat (-1)).set 0 0) from by unfold setO; rw [if_pos ⟨by omega,by simp; omega⟩]; rfl,Option.bind_some]
  obtain ⟨num',hk⟩:=Qbfm h fuel hge (by omega) hn
  rw [hk]
  rfl
end
end Go.Abs
end
section
namespace Go.Abs
open Go
set_option linter.unusedSimpArgs false
set_option linter.unusedVariables false
section
variable {a : Qa} (h : Right a)
include h
omit h in
theorem Q73 {w : List Int} {p : Int → Bool} {f : Int → Option Bool} (hf : ∀ x,f x = some (p x)) (hw : w.length < big) : Qc4 w f = some (w.any p):=by
 have hb : w.length < 1000000000000:=hw
 unfold Qc4 Qv Qgx Qbv
 obtain ⟨fuel,hfu,hge⟩ : ∃ f,Qbl = f ∧ 1099511627776 ≤ f:=⟨_,rfl,Nat.le_refl _⟩
 rw [hfu]
 have:=Qlg (F:=fun (k10 : Int → Option Int) (x9 : Int)=>(if (x9 < (w.length : Int)) then ((getO w x9).bind fun x12=>((f x12).bind fun x15=>(if x15 then some x9 else k10 (IntKind.wrap .i64 (x9 + 1))))) else some (-1))) (len:=w.length) (fuel:=fuel)
  (fun n=>some (if (w.drop n).any p then ((n + (w.drop n).findIdx p : Nat) : Int) else -1)) (by omega) (by
   intro k n hn ih
   rw [if_pos (by omega),Qbw hn,Q8 (by omega),ih]
   simp only [Option.bind_some,hf]
   rw [List.drop_eq_getElem_cons hn]
   cases hp : p w[n] with
   | true=>simp only [List.any_cons,hp,Bool.true_or,if_true,List.findIdx_cons,cond_true,Nat.add_zero]
   | false =>
    simp only [List.any_cons,hp,Bool.false_or,List.findIdx_cons,cond_false,Bool.false_eq_true,if_false]
    rw [show n + 1 + (w.drop (n + 1)).findIdx p = n + ((w.drop (n + 1)).findIdx p + 1) from by omega]) (by intro k; simp)
 rw [this]
 simp only [Option.bind_some,List.drop_zero,Nat.zero_add]
 cases w.any p <;> simp
end
end Go.Abs
end
section
namespace Go.Abs
open Go
set_option linter.unusedSimpArgs false
set_option linter.unusedVariables false
theorem Qbcc : ∀ (ts o : List Int),o <+: ts.foldl ins o
 | [],o=>List.prefix_refl o
 | t :: ts,o=>(Qbh5 o t).trans (Qbcc ts _)
theorem Q4q {P : Int → Prop} : ∀ (ts o : List Int),(∀ s ∈ o,P s) → (∀ t ∈ ts,P t) → ∀ s ∈ ts.foldl ins o,P s
 | [],o,h,_=>h
 | t :: ts,o,h,ht=>Q4q ts (ins o t) (fun s hs=>by
   rcases Q0b.1 hs with hs | rfl
   ·exact h s hs
   ·exact ht _ (by simp)) fun u hu=>ht u (by simp [hu])
theorem Q74 {a : Qa} {P : Int → Prop} (hP : ∀ s,P s → ∀ t ∈ Qdq a s,P t) : ∀ (fuel i : Nat) (o : List Int),(∀ s ∈ o,P s) → ∀ s ∈ bfs a fuel i o,P s
 | 0,i,o,h=>h
 | fuel + 1,i,o,h=>by
  unfold bfs
  cases hg : o[i]? with
  | none=>exact h
  | some s=>exact Q74 hP fuel (i + 1) _ (Q4q _ _ h (hP s (h s (List.mem_of_getElem? hg))))
theorem Qbid {a : Qa} : ∀ (fuel i : Nat) (o : List Int),o <+: bfs a fuel i o
 | 0,i,o=>List.prefix_refl o
 | fuel + 1,i,o=>by
  unfold bfs
  cases hg : o[i]? with
  | none=>exact List.prefix_refl o
  | some s=>exact (Qbcc _ _).trans (Qbid fuel (i + 1) _)
theorem Qba0 {a : Qa} {o : List Int} {i : Nat} (h : o[i]? = none) : ∀ fuel,bfs a fuel i o = o
 | 0=>rfl
 | fuel + 1=>by unfold bfs; rw [h]
theorem Qbet {a : Qa} {f i : Nat} {o : List Int} {s : Int} (hg : o[i]? = some s) : bfs a (f + 1) i o = bfs a f (i + 1) ((Qdq a s).foldl ins o):=by
 simp only [bfs,hg]
theorem Qbeu {a : Qa} : ∀ (f g i : Nat) (o : List Int),(bfs a f i o).length < f + i → (bfs a f i o).length < g + i → bfs a g i o = bfs a f i o
 | 0,g,i,o,h1,_=>by
  have h1 : o.length < 0 + i:=h1
  rw [Qba0 (List.getElem?_eq_none_iff.2 (by omega)) g]; rfl
 | f + 1,g,i,o,h1,h2=>by
  cases hg : o[i]? with
  | none=>rw [Qba0 hg,Qba0 hg]
  | some s =>
   have hlt:=(List.getElem?_eq_some_iff.1 hg).1
   have hle:=(Qbid (a:=a) (f + 1) i o).length_le
   cases g with
   | zero=>omega
   | succ g =>
    rw [Qbet hg] at h1 h2 ⊢
    rw [Qbet hg]
    exact Qbeu f g (i + 1) _ (by omega) (by omega)
structure Like (a b : Qa) (φ : Int → Int) : Prop where
 al : b.Alphabet = a.Alphabet
 st : 0 < b.States ↔ 0 < a.States
 zero : 0 < a.States → φ 0 = 0
 inj : ∀ s ∈ Qbs a,∀ t ∈ Qbs a,φ s = φ t → s = t
 out : ∀ s ∈ Qbs a,outP b (φ s) = (outP a s).map fun x=>⟨φ s,x.Event,φ x.To⟩
 ma : ∀ s ∈ Qbs a,(φ s ∈ b.Marked ↔ s ∈ a.Marked)
section
variable {F : List Int} {φ : Int → Int} (inj : ∀ s ∈ F,∀ t ∈ F,φ s = φ t → s = t)
include inj
theorem Q75 {o : List Int} (ho : ∀ s ∈ o,s ∈ F) {t : Int} (ht : t ∈ F) : φ t ∈ o.map φ ↔ t ∈ o:=by
 constructor
 ·intro h
  obtain ⟨s,hs,he⟩:=List.mem_map.1 h
  exact inj s (ho s hs) t ht he ▸ hs
 ·exact fun h=>List.mem_map.2 ⟨t,h,rfl⟩
theorem Qblj {o : List Int} (ho : ∀ s ∈ o,s ∈ F) {t : Int} (ht : t ∈ F) : ins (o.map φ) (φ t) = (ins o t).map φ:=by
 unfold ins
 by_cases h : t ∈ o
 ·rw [if_pos ((Q75 inj ho ht).2 h),if_pos h]
 ·rw [if_neg (fun hh=>h ((Q75 inj ho ht).1 hh)),if_neg h]; simp
theorem Qbcd : ∀ (ts o : List Int),(∀ s ∈ o,s ∈ F) → (∀ t ∈ ts,t ∈ F) → (ts.map φ).foldl ins (o.map φ) = (ts.foldl ins o).map φ
 | [],o,_,_=>rfl
 | t :: ts,o,ho,ht=>by
  simp only [List.map_cons,List.foldl_cons]
  rw [Qblj inj ho (ht t (by simp))]
  exact Qbcd ts _ (fun s hs=>by
   rcases Q0b.1 hs with hs | rfl
   ·exact ho s hs
   ·exact ht _ (by simp)) fun u hu=>ht u (by simp [hu])
end
section
variable {a b : Qa} {φ : Int → Int} (ha : Right a) (hb : Right b) (h : Like a b φ)
include ha h
theorem Q5q {s : Int} (hs : s ∈ Qbs a) : ∀ t ∈ Qdq a s,t ∈ Qbs a:=(Qi4 ha).2.2 s hs
theorem Qbfn {s : Int} (hs : s ∈ Qbs a) : Qdq b (φ s) = (Qdq a s).map φ:=by
 unfold Qdq
 rw [h.out s hs]; simp
theorem Qbce : ∀ (f i : Nat) (o : List Int),(∀ s ∈ o,s ∈ Qbs a) → bfs b f i (o.map φ) = (bfs a f i o).map φ
 | 0,i,o,_=>rfl
 | f + 1,i,o,ho=>by
  unfold bfs
  rw [List.getElem?_map]
  cases hg : o[i]? with
  | none=>rfl
  | some s =>
   have hs:=ho s (List.mem_of_getElem? hg)
   simp only [Option.map_some]
   rw [Qbfn ha h hs,Qbcd h.inj _ _ ho (Q5q ha h hs)]
   exact Qbce f (i + 1) _ (Q4q _ _ ho (Q5q ha h hs))
theorem Qbdn : (if 0 < b.States then [0] else []) = (if 0 < a.States then [0] else ([] : List Int)).map φ:=by
 by_cases h0 : 0 < a.States
 ·rw [if_pos h0,if_pos (h.st.2 h0)]; simp [h.zero h0]
 ·rw [if_neg h0,if_neg (fun hh=>h0 (h.st.1 hh))]; rfl
theorem Q76 : ∀ s ∈ (if 0 < a.States then [0] else ([] : List Int)),s ∈ Qbs a:=fun s hs=>(Qi4 ha).2.1.subset hs
include hb
theorem Qbdo : ∀ s ∈ Qbs a,0 ≤ φ s ∧ φ s < b.States:=by
 have : ∀ s ∈ Qbs a,s ∈ Qbs a ∧ 0 ≤ φ s ∧ φ s < b.States:=by
  refine Q74 (P:=fun s=>s ∈ Qbs a ∧ 0 ≤ φ s ∧ φ s < b.States) ?_ _ _ _ ?_
  ·rintro s ⟨h1,h2⟩ t ht
   refine ⟨Q5q ha h h1 t ht,?_⟩
   obtain ⟨x,hx,rfl⟩:=List.mem_map.1 ht
   have : (⟨φ s,x.Event,φ x.To⟩ : Qe) ∈ outP b (φ s):=by rw [h.out s h1]; exact List.mem_map.2 ⟨x,hx,rfl⟩
   have:=hb.ed0 _ (List.mem_filter.1 this).1
   simp only at this; omega
  ·intro s hs
   refine ⟨Q76 ha h s hs,?_⟩
   split at hs
   ·rename_i h0
    simp at hs; subst hs
    have:=h.st.2 h0
    rw [h.zero h0]; omega
   ·simp at hs
 exact fun s hs=>(this s hs).2
theorem Qbdp : Qbs b = (Qbs a).map φ:=by
 have hF:=(Qi4 ha).1
 have hl:=hF.len
 have key : bfs b (a.States.toNat + 1) 0 (if 0 < b.States then [0] else []) = (Qbs a).map φ:=by
  rw [Qbdn ha h]
  exact Qbce ha h _ _ _ (Q76 ha h)
 have hn : Fnd b ((Qbs a).map φ):=⟨by
  have hnd:=hF.nd
  have hinj:=h.inj
  unfold List.Nodup at hnd ⊢
  rw [List.pairwise_map]
  exact List.Pairwise.imp_of_mem (fun hx hy hne he=>hne (hinj _ hx _ hy he)) hnd,fun s hs=>by
  obtain ⟨t,ht,rfl⟩:=List.mem_map.1 hs
  exact Qbdo ha hb h t ht⟩
 have hl2:=hn.len
 rw [List.length_map] at hl2
 unfold Qbs at hl hl2 ⊢
 have:=Qbeu (a:=b) (a.States.toNat + 1) (b.States.toNat + 1) 0 (if 0 < b.States then [0] else []) (by rw [key,List.length_map]; unfold Qbs; omega) (by rw [key,List.length_map]; unfold Qbs; omega)
 rw [this,key]; rfl
end
theorem Q9t {a : Qa} {F : List Int} : ∀ (l : List Int) (k j : Nat) (s : Int),l[j]? = some s → (Qf5 a F k l).filter (fun x=>x.From == ((k + j : Nat) : Int)) = rowP a F (k + j) s
 | [],k,j,s,h=>by simp at h
 | s' :: l,k,j,s,h=>by
  simp only [Qf5,List.filter_append]
  cases j with
  | zero =>
   simp at h; subst h
   have e1 : (rowP a F k s').filter (fun x=>x.From == ((k + 0 : Nat) : Int)) = rowP a F k s':=List.filter_eq_self.2 fun x hx=>by
    obtain ⟨y,_,rfl⟩:=List.mem_map.1 hx; simp
   have e2 : (Qf5 a F (k + 1) l).filter (fun x=>x.From == ((k + 0 : Nat) : Int)) = []:=List.filter_eq_nil_iff.2 fun x hx=>by
    have:=(Qv0 x hx).1; simp; omega
   rw [e1,e2]; simp
  | succ j =>
   simp at h
   have e1 : (rowP a F k s').filter (fun x=>x.From == ((k + (j + 1) : Nat) : Int)) = []:=List.filter_eq_nil_iff.2 fun x hx=>by
    obtain ⟨y,_,rfl⟩:=List.mem_map.1 hx; simp; omega
   have:=Q9t (a:=a) (F:=F) l (k + 1) j s h
   rw [e1,List.nil_append,show k + (j + 1) = k + 1 + j from by omega,this]
theorem Q5r {m : List Int} : ∀ (l : List Int) (k : Nat) (x : Int),x ∈ Qhp m k l ↔ ∃ j s,l[j]? = some s ∧ s ∈ m ∧ x = ((k + j : Nat) : Int)
 | [],k,x=>by simp [Qhp]
 | s' :: l,k,x=>by
  simp only [Qhp,List.mem_append]
  rw [Q5r l (k + 1) x]
  constructor
  ·rintro (h | ⟨j,s,h1,h2,h3⟩)
   ·split at h
    ·rename_i hm; simp at h; exact ⟨0,s',by simp,hm,by simpa using h⟩
    ·simp at h
   ·exact ⟨j + 1,s,by simpa using h1,h2,by rw [h3]; congr 1; omega⟩
  ·rintro ⟨j,s,h1,h2,h3⟩
   cases j with
   | zero=>simp at h1; subst h1; left; rw [if_pos h2]; simpa using h3
   | succ j=>right; exact ⟨j,s,by simpa using h1,h2,by rw [h3]; congr 1; omega⟩
theorem Qo1 {l : List Int} {s : Int} (h : s ∈ l) : l[l.idxOf s]? = some s:=by
 have hlt:=List.idxOf_lt_length_iff.2 h
 rw [List.getElem?_eq_getElem hlt,List.getElem_idxOf hlt]
theorem Qbie {l : List Int} {s t : Int} (hs : s ∈ l) (ht : t ∈ l) (h : l.idxOf s = l.idxOf t) : s = t:=by
 have h1:=Qo1 hs
 rw [h,Qo1 ht] at h1
 exact (Option.some.inj h1).symm
theorem Qbdq {a : Qa} (ha : Right a) : Like a (Qfg a) (fun s=>((Qbs a).idxOf s : Int)):=by
 obtain ⟨hF,hpre,hcl⟩:=Qi4 ha
 refine ⟨rfl,?_,?_,?_,?_,?_⟩
 ·simp only [Qfg]
  constructor
  ·intro h
   have:=hF.len; omega
  ·intro h
   rw [if_pos h] at hpre
   have:=hpre.length_le; simp at this; omega
 ·intro h
  rw [if_pos h] at hpre
  obtain ⟨r,hr⟩:=hpre
  rw [← hr]; simp
 ·intro s hs t ht h
  exact Qbie hs ht (by omega)
 ·intro s hs
  have:=Q9t (a:=a) (F:=Qbs a) (Qbs a) 0 ((Qbs a).idxOf s) s (Qo1 hs)
  unfold outP Qfg
  simp only [Nat.zero_add] at this
  simp only
  rw [this]; rfl
 ·intro s hs
  show _ ∈ Qhp a.Marked 0 (Qbs a) ↔ _
  rw [Q5r]
  constructor
  ·rintro ⟨j,t,h1,h2,h3⟩
   have h4 : (Qbs a).idxOf s = j:=by omega
   rw [← h4,Qo1 hs] at h1
   cases h1; exact h2
  ·exact fun h=>⟨_,s,Qo1 hs,h,by simp⟩
section
variable {a b : Qa} {φ : Int → Int} (ha : Right a) (hb : Right b) (h : Like a b φ)
include ha h
end
end Go.Abs
end
section
namespace Go.Abs
open Go
set_option linter.unusedSimpArgs false
set_option linter.unusedVariables false
theorem Qi1 {α β : Type} {o : Option α} {x : α} {K : α → Option β} {r : Option β} (h : o = some x) (h2 : K x = r) : o.bind K = r:=by rw [h]; exact h2
theorem Qblk {α β : Type} {o : Option α} {x : α} {K : α → Option β} {Q : β → Prop} (h : o = some x) (h2 : ∃ y,K x = some y ∧ Q y) : ∃ y,o.bind K = some y ∧ Q y:=by rw [h]; exact h2
theorem Qbjs {α β : Type} {o : Option α} {K : α → Option β} {Q : β → Prop} (P : α → Prop) (h : ∃ x,o = some x ∧ P x) (h2 : ∀ x,P x → ∃ y,K x = some y ∧ Q y) : ∃ y,o.bind K = some y ∧ Q y:=by
 obtain ⟨x,h,hp⟩:=h
 rw [h]; exact h2 x hp
theorem Qbfo {X S R α : Type} {F : (X → Option R) → X → Option R} {l : List α} {fuel : Nat} (mk : Nat → S → X) (f : S → α → S) (fin : S → Option R) (I : Nat → S → Prop)
  (step : ∀ (k : X → Option R) (n : Nat) (h : n < l.length) (s : S),I n s → I (n + 1) (f s l[n]) ∧ F k (mk n s) = k (mk (n + 1) (f s l[n]))) (last : ∀ (k : X → Option R) (s : S),I l.length s → F k (mk l.length s) = fin s)
  (hf : l.length < fuel) (s0 : S) (h0 : I 0 s0) : Qch F fuel (mk 0 s0) = fin (l.foldl f s0):=by
 have:=Qff (F:=F) (len:=l.length) mk I (fun n s=>fin ((l.drop n).foldl f s)) (fun k n s hn hi ih=>by
  obtain ⟨h1,h2⟩:=step k n hn s hi
  rw [h2,ih _ h1,List.drop_eq_getElem_cons hn,List.foldl_cons]) (fun k s hi=>by rw [last k s hi]; simp) fuel 0 s0 (Nat.zero_le _) (by omega) h0
 simpa using this
theorem Qba1 {l m : List Int} (hl : l.Pairwise (· < ·)) (hm : m.Pairwise (· < ·)) (h : ∀ x,x ∈ l ↔ x ∈ m) : l = m:=by
 refine List.Perm.eq_of_pairwise (le:=(· < ·)) (fun a b _ _ h1 h2=>by omega) hl hm ?_
 rw [List.perm_ext_iff_of_nodup (hl.imp fun h=>by omega) (hm.imp fun h=>by omega)]
 exact h
theorem swoI : Go.Sort.SWO Qd6:=⟨fun x=>by simp [Qd6],fun x y z h1 h2=>by simp [Qd6] at *; omega,fun x y z h1 h2=>by simp [Qd6] at *; omega⟩
theorem Qbif {l : List Int} (h : l.Nodup) : (Qgi Qd6 l).Pairwise (· < ·) ∧ ∀ x,x ∈ Qgi Qd6 l ↔ x ∈ l:=by
 have hp:=Qhj Qd6 l
 refine ⟨?_,fun x=>hp.mem_iff⟩
 have hs:=Qhs swoI l
 have hn:=(hp.nodup_iff).2 h
 exact (hs.and hn).imp fun ⟨h1,h2⟩=>by simp [Qd6] at h1; omega
inductive Rch (a : Qa) (ev fr : List Int) : Int → Prop where
 | base {s : Int} : s ∈ fr → Rch a ev fr s
 | step {x : Qe} : Rch a ev fr x.From → x ∈ a.Edges → x.Event ∈ ev → Rch a ev fr x.To
def upto (n : Int) : List Int:=(List.range n.toNat).map fun (i : Nat)=>(i : Int)
theorem Q4r {n x : Int} : x ∈ upto n ↔ 0 ≤ x ∧ x < n:=by
 simp only [upto,List.mem_map,List.mem_range]
 constructor
 ·rintro ⟨i,hi,rfl⟩; omega
 ·rintro ⟨h1,h2⟩; exact ⟨x.toNat,by omega,by omega⟩
theorem Q4s (n : Int) : (upto n).Pairwise (· < ·):=by
 unfold upto
 rw [List.pairwise_map]
 exact List.pairwise_lt_range.imp fun h=>by omega
theorem Qe0 (n : Int) : (upto n).length = n.toNat:=by simp [upto]
theorem Q6m {n : Int} {i : Nat} (h : i < n.toNat) : (upto n)[i]'(by rw [Qe0]; exact h) = (i : Int):=by simp [upto]
open Classical in
noncomputable def Qv3 (a : Qa) (fr ev : List Int) : List Int:=(upto a.States).filter fun s=>decide (Rch a ev fr s)
theorem Q77 (a : Qa) (fr ev : List Int) : (Qv3 a fr ev).Pairwise (· < ·):=(Q4s _).filter _
theorem Q5s {a : Qa} {fr ev : List Int} {s : Int} : s ∈ Qv3 a fr ev ↔ (0 ≤ s ∧ s < a.States) ∧ Rch a ev fr s:=by
 classical
 simp only [Qv3,List.mem_filter,Q4r,decide_eq_true_eq]
theorem Rch.range {a : Qa} (h : Right a) {ev fr : List Int} (hf : ∀ s ∈ fr,0 ≤ s ∧ s < a.States) {s : Int} (hr : Rch a ev fr s) : 0 ≤ s ∧ s < a.States:=by
 induction hr with
 | base hs=>exact hf _ hs
 | step _ hx _ _=>have:=h.ed0 _ hx; exact ⟨this.2.2.1,this.2.2.2.1⟩
theorem Qbig {a : Qa} (h : Right a) {fr ev : List Int} (hf : ∀ s ∈ fr,0 ≤ s ∧ s < a.States) {s : Int} : s ∈ Qv3 a fr ev ↔ Rch a ev fr s:=by
 rw [Q5s]; exact ⟨fun h=>h.2,fun hr=>⟨hr.range h hf,hr⟩⟩
theorem Rch.mono {a : Qa} {ev fr fr' : List Int} (hf : ∀ s ∈ fr,Rch a ev fr' s) {s : Int} (hr : Rch a ev fr s) : Rch a ev fr' s:=by
 induction hr with
 | base hs=>exact hf _ hs
 | step _ hx he ih=>exact .step ih hx he
theorem Qbcf {a : Qa} (h : Right a) {fr ev l : List Int} (hf : ∀ s ∈ fr,0 ≤ s ∧ s < a.States) (hl : l.Pairwise (· < ·)) (h1 : ∀ s ∈ l,Rch a ev fr s) (h2 : ∀ s ∈ fr,s ∈ l)
  (h3 : ∀ x ∈ a.Edges,x.From ∈ l → x.Event ∈ ev → x.To ∈ l) : l = Qv3 a fr ev:=by
 refine Qba1 hl (Q77 _ _ _) fun x=>?_
 rw [Qbig h hf]
 refine ⟨h1 x,fun hr=>?_⟩
 induction hr with
 | base hs=>exact h2 _ hs
 | step _ hx he ih=>exact h3 _ hx ih he
def Qdr (a : Qa) (ev : List Int) : Qa:={ a with Edges:=a.Edges.filter fun x=>decide (x.Event ∈ ev) }
theorem Qkn {a : Qa} (h : Right a) (ev : List Int) : Right (Qdr a ev) :=
 ⟨h.al0,h.al,h.st,h.ma0,h.ma,fun x hx=>h.ed0 x (List.mem_filter.1 hx).1,h.ed.filter _⟩
theorem Qbfp (a : Qa) (ev : List Int) (s : Int) : Qdq (Qdr a ev) s = ((outP a s).filter fun x=>decide (x.Event ∈ ev)).map (·.To):=by
 simp only [Qdq,outP,Qdr,List.filter_filter]
 congr 1
 exact List.filter_congr fun x _=>Bool.and_comm _ _
theorem Qbev {a : Qa} {s t : Int} : t ∈ Qdq a s ↔ ∃ x ∈ a.Edges,x.From = s ∧ x.To = t:=by
 simp only [Qdq,outP,List.mem_map,List.mem_filter,beq_iff_eq]
 constructor
 ·rintro ⟨x,⟨h1,h2⟩,h3⟩; exact ⟨x,h1,h2,h3⟩
 ·rintro ⟨x,h1,h2,h3⟩; exact ⟨x,⟨h1,h2⟩,h3⟩
theorem Qbcg {a : Qa} (h : Right a) {ev fr o : List Int} (hf : ∀ s ∈ fr,0 ≤ s ∧ s < a.States) (ho : ∀ s,s ∈ o ↔ s ∈ fr) (hn : o.Nodup) :
  Fnd (Qdr a ev) (bfs (Qdr a ev) (a.States.toNat + 1) 0 o) ∧ Qgi Qd6 (bfs (Qdr a ev) (a.States.toNat + 1) 0 o) = Qv3 a fr ev:=by
 have hr:=Qkn h ev
 have hfo : Fnd (Qdr a ev) o:=⟨hn,fun s hs=>hf s ((ho s).1 hs)⟩
 obtain ⟨q1,q2,q3⟩:=Q6l hr (a.States.toNat + 1) 0 o hfo (Nat.zero_le _) (by show a.States.toNat + 1 ≤ _; omega) (fun j s hj=>by omega)
 obtain ⟨r1,r2⟩:=Qbif q1.nd
 refine ⟨q1,Qbcf h hf r1 (fun s hs=>?_) (fun s hs=>?_) (fun x hx hfx hex=>?_)⟩
 ·have hs:=(r2 s).1 hs
  refine Q74 (a:=Qdr a ev) (P:=Rch a ev fr) (fun s hs t ht=>?_) _ 0 o (fun s hs=>.base ((ho s).1 hs)) s hs
  obtain ⟨x,hx,rfl,rfl⟩:=Qbev.1 ht
  obtain ⟨hx,he⟩:=List.mem_filter.1 hx
  exact .step hs hx (by simpa using he)
 ·exact (r2 s).2 (q2.subset ((ho s).2 hs))
 ·exact (r2 _).2 (q3 _ ((r2 _).1 hfx) _ (Qbev.2 ⟨x,List.mem_filter.2 ⟨hx,by simpa using hex⟩,rfl,rfl⟩))
theorem Q4t : ∀ (ts o : List Int) (x : Int),x ∈ ts.foldl ins o ↔ x ∈ o ∨ x ∈ ts
 | [],o,x=>by simp
 | t :: ts,o,x=>by
  simp only [List.foldl_cons,Q4t ts,Q0b,List.mem_cons]
  constructor
  ·rintro ((h | h) | h)
   ·exact .inl h
   ·exact .inr (.inl h)
   ·exact .inr (.inr h)
  ·rintro (h | h | h)
   ·exact .inl (.inl h)
   ·exact .inl (.inr h)
   ·exact .inr h
end Go.Abs
end
section
namespace Go.Abs
open Go
set_option linter.unusedSimpArgs false
set_option linter.unusedVariables false
def Qli (a : Qa) (onto : List Int) : List Int:=a.Alphabet.filter fun x=>decide (x ∈ onto)
def Qqv (a : Qa) (onto : List Int) : List Int:=a.Alphabet.filter fun x=>!decide (x ∈ onto)
def Q8s (a : Qa) : List (List Qe):=(upto a.States).map (outP a)
def obsP (a : Qa) (onto : List Int) : Qj:=⟨Q8s a,Qli a onto,Qqv a onto,a.Marked⟩
theorem Q4u (a : Qa) : (Q8s a).length = a.States.toNat:=by simp [Q8s,Qe0]
theorem Qbch (a : Qa) {s : Nat} (h : s < a.States.toNat) : (Q8s a)[s]? = some (outP a (s : Int)):=by
 simp only [Q8s,upto,List.getElem?_map,List.getElem?_range h,Option.map_some]
theorem Qbew {a : Qa} {s : Int} (h : 0 ≤ s ∧ s < a.States) : getO (Q8s a) s = some (outP a s):=by
 rw [Qo0]
 refine ⟨h.1,?_⟩
 rw [Qbch a (by omega)]
 congr 2; omega
theorem Q5t (onto : List Int) : ∀ (l k e : List Int),l.foldl (fun (s : List Int × List Int) x=>if x ∈ onto then (s.1 ++ [x],s.2) else (s.1,s.2 ++ [x])) (k,e) = (k ++ l.filter (fun x=>decide (x ∈ onto)),e ++ l.filter fun x=>!decide (x ∈ onto))
 | [],k,e=>by simp
 | x :: l,k,e=>by
  rw [List.foldl_cons]
  by_cases hx : x ∈ onto
  ·rw [if_pos hx,Q5t onto l]; simp [hx]
  ·rw [if_neg hx,Q5t onto l]; simp [hx]
theorem Qbfq {a : Qa} (h : Right a) {onto : List Int} (ho : onto.length < big) : Qek a onto = some (obsP a onto):=by
 have hs:=h.small
 have hst:=h.st
 unfold Qek Q9
 refine Qi1 (x:=List.replicate a.States.toNat []) (by unfold mkO; rw [if_pos ⟨hst.1,by unfold lim; omega⟩]) ?_
 refine Qi1 (x:=Q8s a) ?_ ?_
 ·refine (Qff (len:=a.Edges.length) (fun n (c : List (List Qe))=>((n : Int),c)) (fun n c=>c.length = a.States.toNat ∧ ∀ s : Nat,s < a.States.toNat → c[s]? = some ((a.Edges.take n).filter fun x=>x.From == (s : Int))) (fun n c=>some (Q8s a)) ?_ ?_ Qbl 0 _ (Nat.zero_le _) (by unfold Qbl; omega) ⟨by simp,fun s hs=>by simp [hs]⟩)
  ·intro k n c hn ⟨i1,i2⟩ ih
   have he:=h.ed0 _ (List.getElem_mem hn)
   dsimp only
   rw [if_pos (by omega),Qbw hn]
   simp only [Option.bind_some]
   have hin : inO (Int.toNat a.States) a.Edges[n].From = some ():=by unfold inO; rw [if_pos ⟨he.1,by omega⟩]
   have hto : ((a.Edges[n].From.toNat : Nat) : Int) = a.Edges[n].From:=by omega
   have hg : getO c a.Edges[n].From = some ((a.Edges.take n).filter fun x=>x.From == a.Edges[n].From):=by
    rw [Qo0]; refine ⟨he.1,?_⟩
    rw [i2 _ (by omega),hto]
   have hfl : ((a.Edges.take n).filter fun x=>x.From == a.Edges[n].From).length ≤ a.Edges.length:=Nat.le_trans (List.length_filter_le _ _) (by rw [List.length_take]; omega)
   rw [hin,hg]
   simp only [Option.bind_some]
   rw [Qb8 (by simp only [List.length_cons,List.length_nil]; unfold lim; omega)]
   simp only [Option.bind_some]
   unfold setO
   rw [if_pos ⟨he.1,by omega⟩,Q8 (by omega)]
   simp only [Option.bind_some]
   refine ih _ ⟨by simp [i1],fun s hs=>?_⟩
   rw [List.getElem?_set,List.take_succ_eq_append_getElem hn,List.filter_append]
   split
   ·rename_i hss
    subst hss
    rw [if_pos (by omega),hto]
    simp
   ·rename_i hss
    have : ¬ a.Edges[n].From = (s : Int):=by omega
    rw [i2 s hs]
    simp [this]
  ·intro k c ⟨i1,i2⟩
   dsimp only
   rw [if_neg (by omega)]
   congr 1
   refine List.ext_getElem? fun s=>?_
   by_cases hs : s < a.States.toNat
   ·rw [i2 s hs,Qbch a hs,List.take_length]; rfl
   ·rw [List.getElem?_eq_none (by omega),List.getElem?_eq_none (by rw [Q4u]; omega)]
 ·refine Qi1 (x:=([],[],[],[],Qli a onto,Qqv a onto)) ?_ ?_
  ·refine (Qbfo (l:=a.Alphabet) (fun n (s : List Int × List Int)=>((n : Int),[],[],[],[],s.1,s.2)) (fun (s : List Int × List Int) x=>if x ∈ onto then (s.1 ++ [x],s.2) else (s.1,s.2 ++ [x])) (fun s=>some ([],[],[],[],s.1,s.2)) (fun n s=>s.1.length ≤ n ∧ s.2.length ≤ n) ?_ ?_ (by unfold Qbl; omega) ([],[]) ⟨by simp,by simp⟩).trans ?_
   ·intro k n hn s ⟨i1,i2⟩
    by_cases hx : a.Alphabet[n] ∈ onto
    ·rw [if_pos hx]
     refine ⟨⟨by simp; omega,by simp; omega⟩,?_⟩
     dsimp only
     rw [if_pos (by omega),Qbw hn]
     simp only [Option.bind_some]
     rw [Qkl ho]
     simp only [Option.bind_some,hx,decide_true,if_true]
     rw [Qb8 (by simp only [List.length_cons,List.length_nil]; unfold lim; omega),Q8 (by omega)]
     rfl
    ·rw [if_neg hx]
     refine ⟨⟨by simp; omega,by simp; omega⟩,?_⟩
     dsimp only
     rw [if_pos (by omega),Qbw hn]
     simp only [Option.bind_some]
     rw [Qkl ho]
     simp only [Option.bind_some,hx,decide_false,Bool.false_eq_true,if_false]
     rw [Qb8 (by simp only [List.length_cons,List.length_nil]; unfold lim; omega),Q8 (by omega)]
     rfl
   ·intro k s _
    dsimp only
    rw [if_neg (by omega)]
   ·rw [Q5t]; rfl
  ·dsimp only
   unfold lenO
   rw [if_pos (by rw [Q4u])]
   rfl
structure Seen (n : Nat) (l : List Int) (c : List Bool) : Prop where
 len : c.length = n
 at1 : ∀ s : Nat,s < n → c[s]? = some (decide ((s : Int) ∈ l))
theorem Seen.start (n : Nat) : Seen n [] (List.replicate n false):=⟨by simp,fun s hs=>by simp [hs]⟩
theorem Qbkj {n : Nat} {l : List Int} {c : List Bool} (h : Seen n l c) {x : Int} (hx : 0 ≤ x ∧ x < n) (hl : l.length < big) : ∃ c',Q3 x c l = some (c',ins l x) ∧ Seen n (ins l x) c':=by
 have hg : getO c x = some (decide (x ∈ l)):=by
  rw [Qo0]; refine ⟨hx.1,?_⟩
  rw [h.at1 _ (by omega)]; congr 2; rw [show ((x.toNat : Nat) : Int) = x from by omega]
 unfold Q3 Q1
 have hin : inO c.length x = some ():=by unfold inO; rw [if_pos ⟨hx.1,by rw [h.len]; omega⟩]
 rw [hin,hg]
 simp only [Option.bind_some]
 by_cases hm : x ∈ l
 ·rw [if_pos (by simp [hm])]
  exact ⟨c,by simp [ins,hm],by simpa [ins,hm] using h⟩
 ·rw [if_neg (by simp [hm])]
  unfold setO
  rw [if_pos ⟨hx.1,by rw [h.len]; omega⟩]
  simp only [Option.bind_some]
  rw [Qb8 (by simp only [List.length_cons,List.length_nil]; unfold big at hl; unfold lim; omega)]
  refine ⟨c.set x.toNat true,by simp [ins,hm],?_⟩
  simp only [ins,hm,if_false]
  refine ⟨by simp [h.len],fun s hs=>?_⟩
  rw [List.getElem?_set]
  split
  ·rename_i e; subst e
   rw [if_pos (by rw [h.len]; exact hs)]
   simp; omega
  ·rename_i e
   rw [h.at1 s hs]
   have : ¬ (s : Int) = x:=by omega
   simp [this]
theorem Qbex {a : Qa} (h : Right a) {onto fr ev : List Int} (hf : ∀ s ∈ fr,0 ≤ s ∧ s < a.States) (hfl : fr.length < big) (hev : ev.length < big) :
  Qcv (obsP a onto) fr ev = some (Qv3 a fr ev):=by
 have hst:=h.st
 have hsm:=h.small
 have hr:=Qkn h ev
 have hlen : ((obsP a onto).out_.length : Int) = a.States:=by show ((Q8s a).length : Int) = _; rw [Q4u]; omega
 unfold Qcv Qr
 rw [hlen]
 refine Qi1 (x:=List.replicate a.States.toNat false) (by unfold mkO; rw [if_pos ⟨hst.1,by unfold lim; omega⟩]) ?_
 have hF0 : Fnd (Qdr a ev) (fr.foldl ins []):=(Qlh (a:=Qdr a ev) ⟨by simp,by simp⟩ hf).1
 have hlo : ∀ {o : List Int},Fnd (Qdr a ev) o → o.length ≤ a.States.toNat:=fun h=>h.len
 -- what is given
 obtain ⟨c1,hc1,h1⟩ : ∃ c1,Seen a.States.toNat (fr.foldl ins []) c1 ∧ Qch (fun (k9 : Int × List Int × List Bool → Option (List Int × List Bool)) ((x6,l7,c8) : Int × (List Int) × (List Bool))=>(if (x6 < (fr.length : Int)) then ((getO fr x6).bind fun x11=>((lenO c8 (Int.toNat a.States)).bind fun _=>((Q3 x11 c8 l7).bind fun (c14,c15)=>k9 ((IntKind.wrap .i64 (x6 + 1)),c15,c14)))) else some (l7,c8))) Qbl (0,[],List.replicate a.States.toNat false) = some (fr.foldl ins [],c1):=by
  have:=Qdv (F:=fun (k9 : Int × List Int × List Bool → Option (List Int × List Bool)) ((x6,l7,c8) : Int × (List Int) × (List Bool))=>(if (x6 < (fr.length : Int)) then ((getO fr x6).bind fun x11=>((lenO c8 (Int.toNat a.States)).bind fun _=>((Q3 x11 c8 l7).bind fun (c14,c15)=>k9 ((IntKind.wrap .i64 (x6 + 1)),c15,c14)))) else some (l7,c8)))
   (fun x=>∃ n : Nat,x.1 = (n : Int) ∧ n ≤ fr.length ∧ Fnd (Qdr a ev) x.2.1 ∧ Seen a.States.toNat x.2.1 x.2.2 ∧ (fr.drop n).foldl ins x.2.1 = fr.foldl ins []) (fun x=>fr.length - x.1.toNat)
   (fun x r=>∃ c1,Seen a.States.toNat (fr.foldl ins []) c1 ∧ r = some (fr.foldl ins [],c1)) (by
    rintro k ⟨_,l,c⟩ ⟨n,rfl,hn,hF,hS,he⟩ ih
    replace hF : Fnd (Qdr a ev) l:=hF
    replace hS : Seen a.States.toNat l c:=hS
    have hll:=hlo hF
    dsimp only at he ⊢
    by_cases hlt : n < fr.length
    ·rw [if_pos (by omega),Qbw hlt]
     simp only [Option.bind_some]
     have hx:=hf _ (List.getElem_mem hlt)
     obtain ⟨c',hadd,hS'⟩:=Qbkj hS (x:=fr[n]) ⟨hx.1,by omega⟩ (by unfold big; omega)
     unfold lenO
     rw [if_pos hS.len]
     simp only [Option.bind_some]
     rw [hadd]
     simp only [Option.bind_some]
     rw [Q8 (by unfold big at hfl; omega)]
     rw [List.drop_eq_getElem_cons hlt,List.foldl_cons] at he
     exact ih _ ⟨n + 1,rfl,by omega,hF.ins hx,hS',he⟩ (by simp only; omega)
    ·rw [if_neg (by omega)]
     have : fr.drop n = []:=List.drop_eq_nil_of_le (by omega)
     rw [this] at he
     exact ⟨c,by rw [← he]; exact hS,by rw [← he]; rfl⟩) Qbl (0,[],List.replicate a.States.toNat false) ⟨0,rfl,by omega,⟨by simp,by simp⟩,Seen.start _,rfl⟩ (by simp only [Int.toNat_zero]; unfold Qbl; unfold big at hfl; omega)
  exact this
 refine Qi1 h1 ?_
 dsimp only
 -- the search
 obtain ⟨c2,h2⟩ : ∃ c2,Qch (fun (k22 : Int × List Int × List Bool → Option (List Int × List Bool)) ((i19,l20,c21) : Int × (List Int) × (List Bool))=>(if (i19 < (l20.length : Int)) then ((((getO l20 i19).bind fun x24=>((getO (obsP a onto).out_ x24).bind fun x26=>Qch (fun (k31 : Int × List Int × List Bool → Option (List Int × List Bool)) ((x28,l29,c30) : Int × (List Int) × (List Bool))=>(if (x28 < (x26.length : Int)) then ((((getO x26 x28).bind fun x33=>((Q7 ev x33.Event).bind fun x36=>(if x36 then ((lenO c30 (Int.toNat a.States)).bind fun _=>((Q3 x33.To c30 l29).bind fun (c39,c40)=>some (c40,c39,x33.From,x33.Event,x33.To))) else some (l29,c30,x33.From,x33.Event,x33.To))))).bind fun ((l42,c43,c44,c45,c46) : (List Int) × (List Bool) × Int × Int × Int)=>k31 ((IntKind.wrap .i64 (x28 + 1)),l42,c43)) else some (l29,c30))) Qbl (0,l20,c21)))).bind fun ((l47,c48) : (List Int) × (List Bool))=>k22 ((IntKind.wrap .i64 (i19 + 1)),l47,c48)) else some (l20,c21))) Qbl (0,fr.foldl ins [],c1) = some (bfs (Qdr a ev) (a.States.toNat + 1) 0 (fr.foldl ins []),c2):=by
  have:=Qdv (F:=fun (k22 : Int × List Int × List Bool → Option (List Int × List Bool)) ((i19,l20,c21) : Int × (List Int) × (List Bool))=>(if (i19 < (l20.length : Int)) then ((((getO l20 i19).bind fun x24=>((getO (obsP a onto).out_ x24).bind fun x26=>Qch (fun (k31 : Int × List Int × List Bool → Option (List Int × List Bool)) ((x28,l29,c30) : Int × (List Int) × (List Bool))=>(if (x28 < (x26.length : Int)) then ((((getO x26 x28).bind fun x33=>((Q7 ev x33.Event).bind fun x36=>(if x36 then ((lenO c30 (Int.toNat a.States)).bind fun _=>((Q3 x33.To c30 l29).bind fun (c39,c40)=>some (c40,c39,x33.From,x33.Event,x33.To))) else some (l29,c30,x33.From,x33.Event,x33.To))))).bind fun ((l42,c43,c44,c45,c46) : (List Int) × (List Bool) × Int × Int × Int)=>k31 ((IntKind.wrap .i64 (x28 + 1)),l42,c43)) else some (l29,c30))) Qbl (0,l20,c21)))).bind fun ((l47,c48) : (List Int) × (List Bool))=>k22 ((IntKind.wrap .i64 (i19 + 1)),l47,c48)) else some (l20,c21)))
   (fun x=>∃ i : Nat,x.1 = (i : Int) ∧ i ≤ x.2.1.length ∧ Fnd (Qdr a ev) x.2.1 ∧ Seen a.States.toNat x.2.1 x.2.2) (fun x=>a.States.toNat + 1 - x.1.toNat)
   (fun x r=>∃ c2,r = some (bfs (Qdr a ev) (a.States.toNat + 1 - x.1.toNat) x.1.toNat x.2.1,c2)) (by
    rintro k ⟨_,l,c⟩ ⟨i,rfl,hi,hF,hS⟩ ih
    replace hi : i ≤ l.length:=hi
    replace hF : Fnd (Qdr a ev) l:=hF
    replace hS : Seen a.States.toNat l c:=hS
    have hll:=hlo hF
    dsimp only
    by_cases hlt : i < l.length
    ·rw [if_pos (by omega),Qbw hlt]
     have hx:=hF.rg _ (List.getElem_mem hlt)
     have hx : 0 ≤ l[i] ∧ l[i] < a.States:=hx
     simp only [Option.bind_some]
     rw [show getO (obsP a onto).out_ l[i] = _ from Qbew hx]
     simp only [Option.bind_some]
     have hlo2 : (outP a l[i]).length ≤ a.Edges.length:=List.length_filter_le _ _
     obtain ⟨c',hF',hS',hin⟩ : ∃ c',Fnd (Qdr a ev) ((Qdq (Qdr a ev) l[i]).foldl ins l) ∧ Seen a.States.toNat ((Qdq (Qdr a ev) l[i]).foldl ins l) c' ∧ Qch (fun (k31 : Int × List Int × List Bool → Option (List Int × List Bool)) ((x28,l29,c30) : Int × (List Int) × (List Bool))=>(if (x28 < ((outP a l[i]).length : Int)) then ((((getO (outP a l[i]) x28).bind fun x33=>((Q7 ev x33.Event).bind fun x36=>(if x36 then ((lenO c30 (Int.toNat a.States)).bind fun _=>((Q3 x33.To c30 l29).bind fun (c39,c40)=>some (c40,c39,x33.From,x33.Event,x33.To))) else some (l29,c30,x33.From,x33.Event,x33.To))))).bind fun ((l42,c43,c44,c45,c46) : (List Int) × (List Bool) × Int × Int × Int)=>k31 ((IntKind.wrap .i64 (x28 + 1)),l42,c43)) else some (l29,c30))) Qbl (0,l,c) = some ((Qdq (Qdr a ev) l[i]).foldl ins l,c'):=by
      rw [Qbfp]
      have:=Qdv (F:=fun (k31 : Int × List Int × List Bool → Option (List Int × List Bool)) ((x28,l29,c30) : Int × (List Int) × (List Bool))=>(if (x28 < ((outP a l[i]).length : Int)) then ((((getO (outP a l[i]) x28).bind fun x33=>((Q7 ev x33.Event).bind fun x36=>(if x36 then ((lenO c30 (Int.toNat a.States)).bind fun _=>((Q3 x33.To c30 l29).bind fun (c39,c40)=>some (c40,c39,x33.From,x33.Event,x33.To))) else some (l29,c30,x33.From,x33.Event,x33.To))))).bind fun ((l42,c43,c44,c45,c46) : (List Int) × (List Bool) × Int × Int × Int)=>k31 ((IntKind.wrap .i64 (x28 + 1)),l42,c43)) else some (l29,c30)))
       (fun x=>∃ n : Nat,x.1 = (n : Int) ∧ n ≤ (outP a l[i]).length ∧ Fnd (Qdr a ev) x.2.1 ∧ Seen a.States.toNat x.2.1 x.2.2 ∧ ((((outP a l[i]).drop n).filter fun x=>decide (x.Event ∈ ev)).map (·.To)).foldl ins x.2.1 = (((outP a l[i]).filter fun x=>decide (x.Event ∈ ev)).map (·.To)).foldl ins l) (fun x=>(outP a l[i]).length - x.1.toNat)
       (fun x r=>∃ c1,Fnd (Qdr a ev) ((((outP a l[i]).filter fun x=>decide (x.Event ∈ ev)).map (·.To)).foldl ins l) ∧ Seen a.States.toNat ((((outP a l[i]).filter fun x=>decide (x.Event ∈ ev)).map (·.To)).foldl ins l) c1 ∧ r = some ((((outP a l[i]).filter fun x=>decide (x.Event ∈ ev)).map (·.To)).foldl ins l,c1)) (by
        rintro k ⟨_,l2,c2⟩ ⟨n,rfl,hn,hF,hS,he⟩ ih
        replace hF : Fnd (Qdr a ev) l2:=hF
        replace hS : Seen a.States.toNat l2 c2:=hS
        have hll:=hlo hF
        dsimp only at he ⊢
        by_cases hlt2 : n < (outP a l[i]).length
        ·rw [if_pos (by omega),Qbw hlt2]
         simp only [Option.bind_some]
         rw [Qkl hev]
         rw [List.drop_eq_getElem_cons hlt2,List.filter_cons] at he
         have hed : (outP a l[i])[n] ∈ a.Edges:=(List.mem_filter.1 (List.getElem_mem hlt2)).1
         have hto:=(h.ed0 _ hed).2.2
         by_cases hx : (outP a l[i])[n].Event ∈ ev
         ·simp only [Option.bind_some,hx,decide_true,if_true] at he ⊢
          obtain ⟨c',hadd,hS'⟩:=Qbkj hS (x:=(outP a l[i])[n].To) ⟨hto.1,by omega⟩ (by unfold big; omega)
          unfold lenO
          rw [if_pos hS.len]
          simp only [Option.bind_some]
          rw [hadd]
          simp only [Option.bind_some]
          rw [Q8 (by omega)]
          exact ih _ ⟨n + 1,rfl,by omega,hF.ins ⟨hto.1,hto.2.1⟩,hS',he⟩ (by simp only; omega)
         ·simp only [Option.bind_some,hx,decide_false,Bool.false_eq_true,if_false] at he ⊢
          rw [Q8 (by omega)]
          exact ih _ ⟨n + 1,rfl,by omega,hF,hS,he⟩ (by simp only; omega)
        ·rw [if_neg (by omega)]
         have : (outP a l[i]).drop n = []:=List.drop_eq_nil_of_le (by omega)
         rw [this] at he
         simp only [List.filter_nil,List.map_nil,List.foldl_nil] at he
         exact ⟨c2,by rw [← he]; exact hF,by rw [← he]; exact hS,by rw [← he]⟩) Qbl (0,l,c) ⟨0,rfl,Nat.zero_le _,hF,hS,rfl⟩ (by simp only [Int.toNat_zero]; unfold Qbl; omega)
      exact this
     rw [hin]
     simp only [Option.bind_some]
     rw [Q8 (by omega)]
     have hpre:=(Qlh hF (Qkm hr l[i])).2.1
     obtain ⟨c3,hc3⟩:=ih ((i + 1 : Nat),_,c') ⟨i + 1,rfl,by have:=hpre.length_le; simp only; omega,hF',hS'⟩ (by simp only; omega)
     refine ⟨c3,hc3.trans ?_⟩
     simp only [Int.toNat_natCast]
     rw [show a.States.toNat + 1 - i = (a.States.toNat + 1 - (i + 1)) + 1 from by omega,Qbaz hlt]
    ·rw [if_neg (by omega)]
     obtain rfl : i = l.length:=by omega
     exact ⟨c,by simp only [Int.toNat_natCast,Qbdk]⟩) Qbl (0,fr.foldl ins [],c1) ⟨0,rfl,Nat.zero_le _,hF0,hc1⟩ (by simp only [Int.toNat_zero]; unfold Qbl; omega)
  simpa using this
 refine Qi1 h2 ?_
 dsimp only
 obtain ⟨q1,q2⟩:=Qbcg h (ev:=ev) hf (o:=fr.foldl ins []) (fun s=>by rw [Q4t]; simp) hF0.nd
 have hql:=hlo q1
 unfold sortI
 rw [if_pos (by unfold lim; omega),q2]
 rfl
end Go.Abs
end
section
namespace Go.Abs
open Go
set_option linter.unusedSimpArgs false
set_option linter.unusedVariables false
def Qlj (a : Qa) (est : List Int) (e : Int) : List Int:=est.flatMap fun s=>((outP a s).filter fun x=>x.Event == e).map (·.To)
noncomputable def Q8t (a : Qa) (onto est : List Int) (e : Int) : List Int:=Qv3 a (Qlj a est e) (Qqv a onto)
noncomputable def Q2g (a : Qa) (onto : List Int) : List Int:=if a.States = 0 then [] else Qv3 a [0] (Qqv a onto)
structure Sts (a : Qa) (l : List Int) : Prop where
 rg : ∀ s ∈ l,0 ≤ s ∧ s < a.States
 so : l.Pairwise (· < ·)
theorem Sts.len {a : Qa} {l : List Int} (h : Sts a l) : l.length ≤ a.States.toNat:=by
 have:=Qf4 (a:=0) (b:=a.States) h.so h.rg; omega
theorem Q9u (a : Qa) (fr ev : List Int) : Sts a (Qv3 a fr ev):=⟨fun s hs=>(Q5s.1 hs).1,Q77 _ _ _⟩
theorem Qbci (a : Qa) (onto est : List Int) (e : Int) : Sts a (Q8t a onto est e):=Q9u _ _ _
theorem Q0o (a : Qa) (onto : List Int) : Sts a (Q2g a onto):=by
 unfold Q2g; split
 ·exact ⟨by simp,by simp⟩
 ·exact Q9u _ _ _
theorem Qbih {a : Qa} {est : List Int} {e t : Int} : t ∈ Qlj a est e ↔ ∃ x ∈ a.Edges,x.From ∈ est ∧ x.Event = e ∧ x.To = t:=by
 simp only [Qlj,outP,List.mem_flatMap,List.mem_map,List.mem_filter,beq_iff_eq]
 constructor
 ·rintro ⟨s,hs,x,⟨⟨h1,h2⟩,h3⟩,h4⟩; exact ⟨x,h1,by rw [h2]; exact hs,h3,h4⟩
 ·rintro ⟨x,h1,h2,h3,h4⟩; exact ⟨x.From,h2,x,⟨⟨h1,rfl⟩,h3⟩,h4⟩
theorem Qbdr {a : Qa} (h : Right a) {est : List Int} {e : Int} : ∀ s ∈ Qlj a est e,0 ≤ s ∧ s < a.States:=by
 intro s hs
 obtain ⟨x,hx,_,_,rfl⟩:=Qbih.1 hs
 exact ⟨(h.ed0 x hx).2.2.1,(h.ed0 x hx).2.2.2.1⟩
theorem Q6n {α β : Type} {f : α → List β} {m : Nat} : ∀ {l : List α},(∀ x ∈ l,(f x).length ≤ m) → (l.flatMap f).length ≤ m * l.length
 | [],_=>by simp
 | x :: l,h=>by
  have h1:=h x (by simp)
  have h2:=Q6n (l:=l) fun y hy=>h y (by simp [hy])
  simp only [List.flatMap_cons,List.length_append,List.length_cons,Nat.mul_succ]; omega
theorem Qbll (a : Qa) (s e : Int) : ((outP a s).filter fun x=>x.Event == e).length ≤ a.Edges.length:=Nat.le_trans (List.length_filter_le _ _) (List.length_filter_le _ _)
theorem Qbcj {a : Qa} (h : Right a) {est : List Int} (hl : est.length ≤ 5000) (e : Int) : (Qlj a est e).length ≤ 131072 * 5000:=by
 have:=Q6n (f:=fun s=>((outP a s).filter fun x=>x.Event == e).map (·.To)) (m:=131072) (l:=est) fun s _=>by
  have:=Qbll a s e; have:=h.small.2.2.2; rw [List.length_map]; omega
 exact Nat.le_trans this (Nat.mul_le_mul_left _ hl)
theorem Q9v {a : Qa} (h : Right a) (onto : List Int) : (Qqv a onto).length < big:=by
 have:=h.small.2.1
 have : (Qqv a onto).length ≤ a.Alphabet.length:=List.length_filter_le _ _
 unfold big; omega
theorem Qbey {a : Qa} (h : Right a) (onto : List Int) : (Qli a onto).length ≤ 32:=by
 have:=h.small.2.1
 have : (Qli a onto).length ≤ a.Alphabet.length:=List.length_filter_le _ _
 omega
theorem Qblm {a : Qa} (h : Right a) {onto est : List Int} (he : ∀ s ∈ est,0 ≤ s ∧ s < a.States) (hl : est.length ≤ 5000) (e : Int) :
  Qds (obsP a onto) est e = some (Q8t a onto est e):=by
 have hsm:=h.small
 have hmax:=Qbcj h hl e
 unfold Qds Qbg
 refine Qi1 (x:=Qlj a est e) ?_ ?_
 ·refine (Qff (len:=est.length) (fun n (l : List Int)=>(l,(n : Int))) (fun n l=>l = Qlj a (est.take n) e) (fun n l=>some (Qlj a est e)) ?_ ?_ Qbl 0 [] (Nat.zero_le _) (by unfold Qbl; omega) (by simp [Qlj]))
  ·rintro k n l hn rfl ih
   have hx:=he _ (List.getElem_mem hn)
   dsimp only
   rw [if_pos (by omega),Qbw hn]
   simp only [Option.bind_some]
   rw [show getO (obsP a onto).out_ est[n] = _ from Qbew hx]
   simp only [Option.bind_some]
   have hol : (outP a est[n]).length ≤ 131072:=Nat.le_trans (List.length_filter_le _ _) hsm.2.2.2
   have hml : (Qlj a (est.take n) e).length ≤ 131072 * 5000:=Qbcj h (by rw [List.length_take]; omega) e
   refine Qi1 (x:=Qlj a (est.take n) e ++ ((outP a est[n]).filter fun x=>x.Event == e).map (·.To)) ?_ ?_
   ·refine (Qff (len:=(outP a est[n]).length) (fun m (l : List Int)=>(l,(m : Int))) (fun m l=>l = Qlj a (est.take n) e ++ (((outP a est[n]).take m).filter fun x=>x.Event == e).map (·.To)) (fun m l=>some (Qlj a (est.take n) e ++ ((outP a est[n]).filter fun x=>x.Event == e).map (·.To))) ?_ ?_ Qbl 0 _ (Nat.zero_le _) (by unfold Qbl; omega) (by simp))
    ·rintro k m l hm rfl ih
     dsimp only
     rw [if_pos (by omega),Qbw hm]
     simp only [Option.bind_some]
     have hfl : ((((outP a est[n]).take m).filter fun x=>x.Event == e).map (·.To)).length ≤ 131072:=by
      rw [List.length_map]
      exact Nat.le_trans (List.length_filter_le _ _) (by rw [List.length_take]; omega)
     by_cases hx : (outP a est[n])[m].Event = e
     ·rw [if_pos (by simp [hx]),Qb8 (by rw [List.length_append]; simp only [List.length_cons,List.length_nil]; unfold lim; omega)]
      simp only [Option.bind_some]
      rw [Q8 (by omega)]
      refine ih _ ?_
      rw [List.take_succ_eq_append_getElem hm,List.filter_append,List.map_append,List.append_assoc]
      simp [hx]
     ·rw [if_neg (by simp [hx])]
      simp only [Option.bind_some]
      rw [Q8 (by omega)]
      refine ih _ ?_
      rw [List.take_succ_eq_append_getElem hm,List.filter_append,List.map_append]
      simp [hx]
    ·rintro k l rfl
     dsimp only
     rw [if_neg (by omega),List.take_length]
   ·rw [Q8 (by omega)]
    refine ih _ ?_
    rw [List.take_succ_eq_append_getElem hn]
    simp only [Qlj,List.flatMap_append,List.flatMap_cons,List.flatMap_nil,List.append_nil]
  ·rintro k l rfl
   dsimp only
   rw [if_neg (by omega),List.take_length]
 ·rw [show (obsP a onto).erased_ = Qqv a onto from rfl,Qbex h (Qbdr h) (by unfold big; omega) (Q9v h onto)]
  rfl
theorem Qbjt {a : Qa} (h : Right a) (onto : List Int) : Qdj (obsP a onto) = some (Q2g a onto):=by
 have hst:=h.st
 unfold Qdj Qbc
 have hlen : ((obsP a onto).out_.length : Int) = a.States:=by show ((Q8s a).length : Int) = _; rw [Q4u]; omega
 rw [hlen]
 unfold Q2g
 by_cases h0 : a.States = 0
 ·rw [if_pos (by simp [h0]),if_pos h0]
 ·rw [if_neg (by simp [h0]),if_neg h0,show (obsP a onto).erased_ = Qqv a onto from rfl,Qbex h (fun s hs=>by simp at hs; subst hs; omega) (by unfold big; simp) (Q9v h onto)]
  rfl
theorem Qbds {a : Qa} (h : Right a) {onto est : List Int} (hl : est.length < big) : Qc2 (obsP a onto) est = some (est.any fun x=>decide (x ∈ a.Marked)):=by
 have hm:=h.small.2.2.1
 unfold Qc2 Q6
 rw [Q73 (p:=fun x=>decide (x ∈ a.Marked)) (fun x=>by
  unfold Qdp Qz
  rw [show (obsP a onto).marked_ = a.Marked from rfl,Qkl (by unfold big; omega)]; rfl) hl]
 rfl
theorem Qbck {l : List Int} {n : Int} (hl : l.length < big) : Qhk l n = some (Qdw n none l):=Q3l hl
theorem Qbii {a : Qa} (h : small a) {ev : List Int} (hl : ev.length < big) : Qdi a ev = some (if Qvw a = 0 then Qdw 32 none ev else Qvw a):=by
 unfold Qdi Qx
 rw [Qbeo h]
 simp only [Option.bind_some]
 by_cases h0 : Qvw a = 0
 ·rw [if_neg (by simp [h0]),if_pos h0,Qbck hl]; rfl
 ·rw [if_pos (by simp [h0]),if_neg h0]
theorem Q56 {a : Qa} (h : Right a) {ev : List Int} (hl : ev.length < big) : Qdi a ev = some (Qdw 32 none ev):=by
 rw [Qbii h.small.1 hl,if_pos (Qbb8.2 h)]
structure EvSet (l : List Int) : Prop where
 rg : ∀ x ∈ l,0 ≤ x ∧ x < 32
 so : l.Pairwise (· < ·)
theorem EvSet.err {l : List Int} (h : EvSet l) : Qdw 32 none l = 0:=Qho.2 ⟨h.rg,h.so,fun y hy=>by cases hy⟩
theorem Qbij {l : List Int} : Qdw 32 none l = 0 ↔ EvSet l:=⟨fun h=>by obtain ⟨h1,h2,_⟩:=Qho.1 h; exact ⟨h1,h2⟩,EvSet.err⟩
theorem EvSet.len {l : List Int} (h : EvSet l) : l.length ≤ 32:=by have:=Qf4 (a:=0) (b:=32) h.so h.rg; omega
theorem Evs.set {l : List Int} (h : Evs l) : EvSet l:=⟨fun x hx=>by have:=h.rg x hx; omega,h.so⟩
end Go.Abs
end
section
namespace Go.Abs
open Go
set_option linter.unusedSimpArgs false
set_option linter.unusedVariables false
theorem bytes_beq (a b : ByteArray) : (a == b) = decide (a = b):=by
 cases a; cases b
 rw [Bool.eq_iff_iff]
 simp only [decide_eq_true_eq,ByteArray.mk.injEq]
 exact beq_iff_eq (α:=Array UInt8)
theorem Qv4 {x y : Int} (hx : 0 ≤ x ∧ x < 256) (hy : 0 ≤ y ∧ y < 256) (h : x.toNat.toUInt8 = y.toNat.toUInt8) : x = y:=by
 have:=congrArg UInt8.toNat h
 simp only [Nat.toUInt8,UInt8.toNat_ofNat'] at this
 omega
theorem Q57 {r : Int} (h0 : 1 ≤ r) (h1 : r ≤ 50000) :
  (r ≤ 127 ∧ Lib.encodeRuneZ r = [r]) ∨ (128 ≤ r ∧ r ≤ 2047 ∧ Lib.encodeRuneZ r = [192 + r / 64,128 + r % 64]) ∨ (2048 ≤ r ∧ Lib.encodeRuneZ r = [224 + r / 4096,128 + r / 64 % 64,128 + r % 64]):=by
 by_cases h2 : r ≤ 127
 ·exact .inl ⟨h2,Lib.encodeRuneZ_one (by omega) h2⟩
 ·by_cases h3 : r ≤ 2047
  ·exact .inr (.inl ⟨by omega,h3,Lib.encodeRuneZ_two (by omega) h3⟩)
  ·exact .inr (.inr ⟨by omega,Lib.encodeRuneZ_three (.inl ⟨by omega,by omega⟩)⟩)
theorem Qbfr {r q : Int} (hr : 1 ≤ r ∧ r ≤ 50000) (hq : 1 ≤ q ∧ q ≤ 50000) {s t : List UInt8} (h : Lib.encodeRune r ++ s = Lib.encodeRune q ++ t) : r = q ∧ s = t:=by
 unfold Lib.encodeRune at h
 rcases Q57 hr.1 hr.2 with ⟨a1,a2⟩ | ⟨a0,a1,a2⟩ | ⟨a1,a2⟩ <;> rcases Q57 hq.1 hq.2 with ⟨b1,b2⟩ | ⟨b0,b1,b2⟩ | ⟨b1,b2⟩ <;> rw [a2,b2] at h <;>
  simp only [List.map_cons,List.map_nil,List.cons_append,List.nil_append,List.cons.injEq] at h
 ·exact ⟨Qv4 (by omega) (by omega) h.1,h.2⟩
 ·have:=Qv4 (by omega) (by omega) h.1; omega
 ·have:=Qv4 (by omega) (by omega) h.1; omega
 ·have:=Qv4 (by omega) (by omega) h.1; omega
 ·have e1:=Qv4 (by omega) (by omega) h.1
  have e2:=Qv4 (by omega) (by omega) h.2.1
  exact ⟨by omega,h.2.2⟩
 ·have:=Qv4 (by omega) (by omega) h.1; omega
 ·have:=Qv4 (by omega) (by omega) h.1; omega
 ·have:=Qv4 (by omega) (by omega) h.1; omega
 ·have e1:=Qv4 (by omega) (by omega) h.1
  have e2:=Qv4 (by omega) (by omega) h.2.1
  have e3:=Qv4 (by omega) (by omega) h.2.2.1
  exact ⟨by omega,h.2.2.2⟩
theorem Qbcl (r : Int) : Lib.encodeRune r ≠ []:=by
 unfold Lib.encodeRune Lib.encodeRuneZ
 split
 ·simp
 ·split
  ·simp
  ·split
   ·simp
   ·split <;> simp
theorem Qbez : ∀ {l m : List Int},(∀ x ∈ l,0 ≤ x ∧ x < 50000) → (∀ x ∈ m,0 ≤ x ∧ x < 50000) → (l.flatMap fun x=>Lib.encodeRune (x + 1)) = (m.flatMap fun x=>Lib.encodeRune (x + 1)) → l = m
 | [],[],_,_,_=>rfl
 | [],y :: m,_,_,h=>by
  simp only [List.flatMap_nil,List.flatMap_cons] at h
  exact absurd (List.append_eq_nil_iff.1 h.symm).1 (Qbcl _)
 | x :: l,[],_,_,h=>by
  simp only [List.flatMap_nil,List.flatMap_cons] at h
  exact absurd (List.append_eq_nil_iff.1 h).1 (Qbcl _)
 | x :: l,y :: m,hl,hm,h=>by
  simp only [List.flatMap_cons] at h
  have hx:=hl x (by simp); have hy:=hm y (by simp)
  obtain ⟨h1,h2⟩:=Qbfr ⟨by omega,by omega⟩ ⟨by omega,by omega⟩ h
  rw [Qbez (fun z hz=>hl z (by simp [hz])) (fun z hz=>hm z (by simp [hz])) h2,show x = y from by omega]
theorem Qba2 {l m : List Int} (hl : ∀ x ∈ l,0 ≤ x ∧ x < 50000) (hm : ∀ x ∈ m,0 ≤ x ∧ x < 50000) (h : keyB l = keyB m) : l = m:=by
 unfold keyB at h
 have h:=congrArg (fun b : ByteArray=>b.data.toList) h
 simp only [List.toList_toArray] at h
 exact Qbez hl hm h
theorem Qbkk {l : List Int} (hl : l.length ≤ lim) (hx : ∀ x ∈ l,0 ≤ x ∧ x < 50000) : keyS l = some (keyB l):=by
 unfold keyS; rw [if_pos ⟨hl,hx⟩]
structure KM (S : List (List Int)) (c : List (ByteArray × Int)) : Prop where
 has : ∀ n,(∀ x ∈ n,0 ≤ x ∧ x < 50000) → hasM c (keyB n) = decide (n ∈ S)
 get : ∀ n ∈ S,getM c (keyB n) 0 = (S.idxOf n : Int)
 rg : ∀ n ∈ S,∀ x ∈ n,0 ≤ x ∧ x < 50000
theorem Q78 {β : Type} {v : β} {k k' : ByteArray} : ∀ {m : List (ByteArray × β)},hasM (setM m k v) k' = (decide (k' = k) || hasM m k')
 | []=>by simp [setM,hasM,bytes_beq]
 | (q,w) :: m=>by
  have ih:=Q78 (v:=v) (k:=k) (k':=k') (m:=m)
  simp only [setM]
  by_cases h : k = q
  ·subst h
   simp only [bytes_beq,decide_true,if_true,Q7m]
   by_cases h2 : k' = k <;> simp [h2,bytes_beq]
  ·simp only [bytes_beq,h,decide_false,Bool.false_eq_true,if_false,Q7m]
   rw [ih]
   cases decide (k' = q) <;> cases decide (k' = k) <;> rfl
theorem Q79 {β : Type} {z v : β} {k k' : ByteArray} : ∀ {m : List (ByteArray × β)},getM (setM m k v) k' z = if k' = k then v else getM m k' z
 | []=>by simp [setM,getM,bytes_beq]
 | (q,w) :: m=>by
  have ih:=Q79 (z:=z) (v:=v) (k:=k) (k':=k') (m:=m)
  simp only [setM]
  by_cases h : k = q
  ·subst h
   simp only [bytes_beq,decide_true,if_true,getM]
   by_cases h2 : k' = k
   ·subst h2; simp
   ·simp [h2]
  ·simp only [bytes_beq,h,decide_false,Bool.false_eq_true,if_false,getM]
   by_cases h2 : k' = q
   ·subst h2
    have : ¬ k' = k:=fun e=>h e.symm
    simp [this]
   ·simp only [h2,decide_false,Bool.false_eq_true,if_false,ih]
theorem KM.first {n : List Int} (hn : ∀ x ∈ n,0 ≤ x ∧ x < 50000) : KM [n] (setM ([] : List (ByteArray × Int)) (keyB n) 0):=by
 refine ⟨fun m hm=>?_,fun m hm=>?_,fun m hm=>?_⟩
 ·rw [Q78]
  have : hasM ([] : List (ByteArray × Int)) (keyB m) = false:=rfl
  rw [this,Bool.or_false]
  apply decide_eq_decide.2
  rw [List.mem_singleton]
  exact ⟨fun h=>Qba2 hm hn h,fun h=>by rw [h]⟩
 ·rw [List.mem_singleton] at hm; subst hm
  rw [Q79,if_pos rfl]; simp
 ·rw [List.mem_singleton] at hm; subst hm; exact hn
theorem KM.add {S : List (List Int)} {c : List (ByteArray × Int)} (h : KM S c) {n : List Int} (hn : ∀ x ∈ n,0 ≤ x ∧ x < 50000) (hm : n ∉ S) : KM (S ++ [n]) (setM c (keyB n) (S.length : Int)):=by
 refine ⟨fun m hm'=>?_,fun m hm'=>?_,fun m hm'=>?_⟩
 ·rw [Q78,h.has m hm',← Bool.decide_or]
  apply decide_eq_decide.2
  rw [List.mem_append,List.mem_singleton]
  constructor
  ·rintro (e | e)
   ·exact .inr (Qba2 hm' hn e)
   ·exact .inl e
  ·rintro (e | e)
   ·exact .inr e
   ·exact .inl (by rw [e])
 ·rw [Q79]
  rw [List.mem_append,List.mem_singleton] at hm'
  rcases hm' with hm' | rfl
  ·rw [if_neg (fun e=>hm (by rw [← Qba2 (h.rg m hm') hn e]; exact hm')),h.get m hm',List.idxOf_append,if_pos hm']
  ·rw [if_pos rfl,List.idxOf_append,if_neg hm]; simp
 ·rw [List.mem_append,List.mem_singleton] at hm'
  rcases hm' with hm' | rfl
  ·exact h.rg m hm'
  ·exact hn
end Go.Abs
end
section
namespace Go.Abs
open Go
set_option linter.unusedSimpArgs false
set_option linter.unusedVariables false
def insL (o : List (List Int)) (t : List Int) : List (List Int) := if t ∈ o then o else o ++ [t]
noncomputable def Qqw (a : Qa) (onto est : List Int) (l : List Int) : List (Int × List Int) := l.filterMap fun x => if Q8t a onto est x = [] then none else some (x, Q8t a onto est x)
noncomputable def rowN (a : Qa) (onto est : List Int) : List (Int × List Int) := Qqw a onto est (Qli a onto)
def Q0e (S : List (List Int)) (row : List (Int × List Int)) : List (List Int) := row.foldl (fun o p => insL o p.2) S
def rowE (S : List (List Int)) (i : Nat) (row : List (Int × List Int)) : List Qe := row.map fun p => ⟨(i : Int), p.1, (S.idxOf p.2 : Int)⟩
noncomputable def estB (a : Qa) (onto : List Int) : Nat → List (List Int)
  | 0 => [Q2g a onto]
  | i + 1 => match (estB a onto i)[i]? with
    | some s => Q0e (estB a onto i) (rowN a onto s)
    | none => estB a onto i
noncomputable def edN (a : Qa) (onto : List Int) (S : List (List Int)) : Nat → List (List Int) → List Qe
  | _, [] => []
  | i, s :: t => rowE S i (rowN a onto s) ++ edN a onto S (i + 1) t
def mkN (a : Qa) : Nat → List (List Int) → List Int
  | _, [] => []
  | i, s :: t => (if s.any (fun x => decide (x ∈ a.Marked)) then [(i : Int)] else []) ++ mkN a (i + 1) t
noncomputable def autN (a : Qa) (onto : List Int) (S : List (List Int)) : Qa := ⟨Qli a onto, (S.length : Int), mkN a 0 S, edN a onto S 0 S⟩
theorem Qba3 {o : List (List Int)} {t x : List Int} : x ∈ insL o t ↔ x ∈ o ∨ x = t := by
  unfold insL; split
  · rename_i h
    exact ⟨.inl, fun e => e.elim id fun e => by rw [e]; exact h⟩
  · simp
theorem Qbe0 (o : List (List Int)) (t : List Int) : o <+: insL o t := by
  unfold insL; split
  · exact List.prefix_refl o
  · exact List.prefix_append o _
theorem Q9w {o : List (List Int)} (h : o.Nodup) (t : List Int) : (insL o t).Nodup := by
  unfold insL; split
  · exact h
  · rename_i hn
    rw [List.nodup_append]
    exact ⟨h, by simp, fun x hx y hy e => by simp at hy; subst hy; subst e; exact hn hx⟩
theorem Q8a : ∀ (row : List (Int × List Int)) (S : List (List Int)), S <+: Q0e S row
  | [], S => List.prefix_refl S
  | p :: row, S => (Qbe0 S p.2).trans (Q8a row (insL S p.2))
theorem Q8b : ∀ (row : List (Int × List Int)) {S : List (List Int)}, S.Nodup → (Q0e S row).Nodup
  | [], S, h => h
  | p :: row, S, h => Q8b row (Q9w h p.2)
theorem Q8c : ∀ (row : List (Int × List Int)) (S : List (List Int)) (x : List Int), x ∈ Q0e S row ↔ x ∈ S ∨ ∃ p ∈ row, p.2 = x
  | [], S, x => by simp [Q0e]
  | p :: row, S, x => by
    show x ∈ Q0e (insL S p.2) row ↔ _
    rw [Q8c row, Qba3]
    simp only [List.mem_cons, exists_eq_or_imp]
    constructor
    · rintro ((h | h) | h)
      · exact .inl h
      · exact .inr (.inl h.symm)
      · exact .inr (.inr h)
    · rintro (h | h | h)
      · exact .inl (.inl h)
      · exact .inl (.inr h.symm)
      · exact .inr h
theorem Qbcm : ∀ (row : List (Int × List Int)) (S : List (List Int)), (Q0e S row).length ≤ S.length + row.length
  | [], S => by simp [Q0e]
  | p :: row, S => by
    have := Qbcm row (insL S p.2)
    have h2 : (insL S p.2).length ≤ S.length + 1 := by unfold insL; split <;> simp
    show (Q0e (insL S p.2) row).length ≤ _
    simp only [List.length_cons]; omega
theorem Qbik {a : Qa} {onto est l : List Int} {p : Int × List Int} : p ∈ Qqw a onto est l ↔ p.1 ∈ l ∧ p.2 = Q8t a onto est p.1 ∧ p.2 ≠ [] := by
  obtain ⟨x, n⟩ := p
  simp only [Qqw, List.mem_filterMap]
  constructor
  · rintro ⟨y, hy, h⟩
    split at h
    · cases h
    · rename_i hne
      cases h; exact ⟨hy, rfl, hne⟩
  · rintro ⟨h1, h2, h3⟩
    refine ⟨x, h1, ?_⟩
    subst h2
    rw [if_neg h3]
theorem Qbcn {a : Qa} {onto est l : List Int} : (Qqw a onto est l).length ≤ l.length := List.length_filterMap_le _ _
theorem Q9x {o F : List (List Int)} (h : o <+: F) {t : List Int} (ht : t ∈ o) : F.idxOf t = o.idxOf t := by
  obtain ⟨r, rfl⟩ := h
  rw [List.idxOf_append, if_pos ht]
structure Ests (a : Qa) (S : List (List Int)) : Prop where
  nd : S.Nodup
  ok : ∀ s ∈ S, Sts a s ∧ s ≠ []
theorem Ests.grow {a : Qa} {S : List (List Int)} (h : Ests a S) (onto est l : List Int) : Ests a (Q0e S (Qqw a onto est l)) := by
  refine ⟨Q8b _ h.nd, fun s hs => ?_⟩
  rcases (Q8c _ _ _).1 hs with hs | ⟨p, hp, rfl⟩
  · exact h.ok s hs
  · obtain ⟨_, h2, h3⟩ := Qbik.1 hp
    exact ⟨by rw [h2]; exact Qbci _ _ _ _, h3⟩
theorem Qbju {a : Qa} (h : 0 < a.States) (onto : List Int) : Q2g a onto ≠ [] := by
  unfold Q2g
  rw [if_neg (by omega)]
  intro e
  have : (0 : Int) ∈ Qv3 a [0] (Qqv a onto) := Q5s.2 ⟨by omega, .base (by simp)⟩
  rw [e] at this; simp at this
theorem Ests.first {a : Qa} (h : 0 < a.States) (onto : List Int) : Ests a [Q2g a onto] :=
  ⟨by simp, fun s hs => by simp at hs; subst hs; exact ⟨Q0o _ _, Qbju h onto⟩⟩
theorem Q8d {a : Qa} (h : 0 < a.States) (onto : List Int) : ∀ i, Ests a (estB a onto i)
  | 0 => .first h onto
  | i + 1 => by
    unfold estB
    split
    · exact (Q8d h onto i).grow _ _ _
    · exact Q8d h onto i
theorem Qbil {a : Qa} {onto : List Int} (i : Nat) : estB a onto i <+: estB a onto (i + 1) := by
  conv => rhs; unfold estB
  split
  · exact Q8a _ _
  · exact List.prefix_refl _
theorem Q9y {a : Qa} {onto : List Int} {S : List (List Int)} : ∀ (l m : List (List Int)) (i : Nat), edN a onto S i (l ++ m) = edN a onto S i l ++ edN a onto S (i + l.length) m
  | [], m, i => by simp [edN]
  | s :: l, m, i => by
    simp only [List.cons_append, edN, Q9y l m, List.length_cons, List.append_assoc]
    rw [show i + 1 + l.length = i + (l.length + 1) from by omega]
theorem Q9z {a : Qa} : ∀ (l m : List (List Int)) (i : Nat), mkN a i (l ++ m) = mkN a i l ++ mkN a (i + l.length) m
  | [], m, i => by simp [mkN]
  | s :: l, m, i => by
    simp only [List.cons_append, mkN, Q9z l m, List.length_cons, List.append_assoc]
    rw [show i + 1 + l.length = i + (l.length + 1) from by omega]
theorem Qbim {a : Qa} {onto : List Int} {S T : List (List Int)} (h : S <+: T) : ∀ (l : List (List Int)) (i : Nat), (∀ s ∈ l, ∀ p ∈ rowN a onto s, p.2 ∈ S) → edN a onto T i l = edN a onto S i l
  | [], i, _ => rfl
  | s :: l, i, hl => by
    simp only [edN]
    rw [Qbim h l (i + 1) fun t ht => hl t (by simp [ht])]
    congr 1
    refine List.map_congr_left fun p hp => ?_
    rw [Q9x h (hl s (by simp) p hp)]
theorem Qbin {a : Qa} (h : Right a) {onto : List Int} {S : List (List Int)} : ∀ (l : List (List Int)) (i : Nat), (edN a onto S i l).length ≤ 32 * l.length
  | [], i => by simp [edN]
  | s :: l, i => by
    have := Qbin h (onto := onto) (S := S) l (i + 1)
    have h1 : (rowN a onto s).length ≤ (Qli a onto).length := Qbcn
    have h2 := Qbey h onto
    simp only [edN, rowE, List.length_append, List.length_map, List.length_cons]; omega
theorem Qbio {a : Qa} : ∀ (l : List (List Int)) (i : Nat), (mkN a i l).length ≤ l.length
  | [], i => by simp [mkN]
  | s :: l, i => by
    have := Qbio (a := a) l (i + 1)
    simp only [mkN, List.length_append, List.length_cons]
    split <;> simp <;> omega
theorem Sts.lt {a : Qa} (h : Right a) {l : List Int} (hl : Sts a l) : ∀ x ∈ l, 0 ≤ x ∧ x < 50000 := fun x hx => by
  have := hl.rg x hx; have := h.st; omega
end Go.Abs
end
section
namespace Go.Abs
open Go
set_option linter.unusedSimpArgs false
set_option linter.unusedVariables false
def Qbmg (a : Qa) (onto : List Int) (r : Qa × List (List Int) × Int) : Prop :=
 (∃ n,(estB a onto n).length = n ∧ n ≤ 4096 ∧ r = (autN a onto (estB a onto n),estB a onto n,0)) ∨ (∃ n,4096 < (estB a onto n).length ∧ r = (⟨[],0,[],[]⟩,[],3))
theorem Qbmh {α : Type} (l : List α) : ((l.length : Int) == 0) = decide (l = []):=by
 cases l with
 | nil=>rfl
 | cons x l=>simp; omega
theorem Q90 {a : Qa} (h : Right a) {onto : List Int} (ho : EvSet onto) :
  ∃ r,Qcl a onto = some r ∧ (if a.States = 0 then r = (⟨Qli a onto,0,[],[]⟩,[],0) else Qbmg a onto r):=by
 have hol:=ho.len
 have hkl:=Qbey h onto
 have hst:=h.st
 have hob : onto.length < big:=by unfold big; omega
 unfold Qcl Qba
 rw [Q56 h hob,ho.err]
 simp only [Option.bind_some,show ((0 : Int) != 0) = false from rfl,Bool.false_eq_true,if_false]
 rw [Qbfq h hob]
 simp only [Option.bind_some]
 by_cases h0 : a.States = 0
 ·rw [if_pos (by simp [h0])]
  simp only [h0,if_true]
  exact ⟨_,rfl,rfl⟩
 ·have hpos : 0 < a.States:=by omega
  rw [if_neg (by simp [h0]),Qbjt h onto]
  simp only [h0,if_false]
  simp only [Option.bind_some]
  have hsl:=(Q0o a onto).len
  rw [Qbkk (by unfold lim; omega) ((Q0o a onto).lt h)]
  simp only [Option.bind_some]
  refine Qdv (fun x=>∃ (n : Nat) (c : List (ByteArray × Int)),n ≤ (estB a onto n).length ∧ (estB a onto n).length ≤ 4096 ∧ KM (estB a onto n) c ∧ (∀ i s,i < n → (estB a onto n)[i]? = some s → ∀ p ∈ rowN a onto s,p.2 ∈ estB a onto n) ∧
    x = (estB a onto n,(n : Int),[],[],[],mkN a 0 ((estB a onto n).take n),edN a onto (estB a onto n) 0 ((estB a onto n).take n),c)) (fun x=>5000 - x.2.1.toNat) (fun x r=>∃ y,r = some y ∧ Qbmg a onto y) ?_ Qbl _ ?_ ?_
  ·rintro k _ ⟨n,c,hn,hlen,hK,hcl,rfl⟩ ih
   have hE:=Q8d hpos onto n
   dsimp only
   by_cases hlt : n < (estB a onto n).length
   ·rw [if_pos (by omega),Qbw hlt]
    generalize hs : (estB a onto n)[n] = s
    have hg : (estB a onto n)[n]? = some s:=by rw [List.getElem?_eq_getElem hlt,hs]
    have hsS : Sts a s:=(hE.ok s (List.mem_of_getElem? hg)).1
    have hsl:=hsS.len
    simp only [Option.bind_some]
    rw [Qbds h (by unfold big; omega)]
    simp only [Option.bind_some]
    have hml:=Qbio (a:=a) ((estB a onto n).take n) 0
    rw [List.length_take] at hml
    have hel:=Qbin h (onto:=onto) (S:=estB a onto n) ((estB a onto n).take n) 0
    rw [List.length_take] at hel
    have htake : (estB a onto n).take (n + 1) = (estB a onto n).take n ++ [s]:=by rw [List.take_succ_eq_append_getElem hlt,hs]
    have hpre:=Qbil (a:=a) (onto:=onto) n
    have hstep : estB a onto (n + 1) = Q0e (estB a onto n) (rowN a onto s):=by
     show (match (estB a onto n)[n]? with | some s=>_ | none=>_) = _
     rw [hg]
    have hlen' : (estB a onto (n + 1)).length ≤ (estB a onto n).length + 32:=by
     rw [hstep]
     have:=Qbcm (rowN a onto s) (estB a onto n)
     have h2 : (rowN a onto s).length ≤ (Qli a onto).length:=Qbcn
     omega
    have htake2 : (estB a onto (n + 1)).take (n + 1) = (estB a onto n).take (n + 1):=by
     obtain ⟨r,hr⟩:=hpre
     rw [← hr,List.take_append_of_le_length (by omega)]
    refine Qblk (x:=mkN a 0 ((estB a onto n).take (n + 1))) ?_ ?_
    ·rw [htake,Q9z]
     simp only [mkN,List.append_nil,List.length_take,Nat.zero_add,Nat.min_eq_left (Nat.le_of_lt hlt)]
     by_cases hm : s.any (fun x=>decide (x ∈ a.Marked)) = true
     ·rw [if_pos hm,if_pos hm,Qb8 (by simp only [List.length_cons,List.length_nil]; unfold lim; omega)]
      rfl
     ·rw [if_neg hm,if_neg hm,List.append_nil]
    refine Qbjs (fun y=>∃ c',KM (estB a onto (n + 1)) c' ∧ y = (estB a onto (n + 1),edN a onto (estB a onto n) 0 ((estB a onto n).take n) ++ rowE (estB a onto (n + 1)) n (rowN a onto s),c')) ?_ ?_
    ·-- the events of a state
     refine Qdv (fun x=>∃ (m : Nat) (S : List (List Int)) (r : List Qe) (c : List (ByteArray × Int)),x = (S,(m : Int),r,c) ∧ m ≤ (Qli a onto).length ∧ S[n]? = some s ∧ Ests a S ∧ S.length ≤ 4096 + m ∧ r.length ≤ 32 * 4096 + m ∧ KM S c ∧
      Q0e S (Qqw a onto s ((Qli a onto).drop m)) = estB a onto (n + 1) ∧ r ++ rowE (estB a onto (n + 1)) n (Qqw a onto s ((Qli a onto).drop m)) = edN a onto (estB a onto n) 0 ((estB a onto n).take n) ++ rowE (estB a onto (n + 1)) n (rowN a onto s))
      (fun x=>(Qli a onto).length - x.2.1.toNat) (fun x r=>∃ y,r = some y ∧ ∃ c',KM (estB a onto (n + 1)) c' ∧ y = (estB a onto (n + 1),edN a onto (estB a onto n) 0 ((estB a onto n).take n) ++ rowE (estB a onto (n + 1)) n (rowN a onto s),c')) ?_ Qbl _ ?_ ?_
     ·rintro k _ ⟨m,S,r,c,rfl,hm,hgs,hES,hSl,hrl,hKS,hg1,hg2⟩ ih
      dsimp only
      by_cases hlm : m < (Qli a onto).length
      ·rw [show (obsP a onto).kept_ = Qli a onto from rfl,if_pos (by omega),Qbw hlm]
       have hgn : getO S (n : Int) = some s:=by rw [Qo0]; exact ⟨by omega,by simpa using hgs⟩
       simp only [Option.bind_some]
       rw [hgn]
       simp only [Option.bind_some]
       rw [Qblm h hsS.rg (by omega)]
       simp only [Option.bind_some,Qbmh]
       rw [List.drop_eq_getElem_cons hlm] at hg1 hg2
       generalize (Qli a onto)[m] = x at hg1 hg2 ⊢
       have hNS:=Qbci a onto s x
       have hcons : Qqw a onto s (x :: (Qli a onto).drop (m + 1)) = if Q8t a onto s x = [] then Qqw a onto s ((Qli a onto).drop (m + 1)) else (x,Q8t a onto s x) :: Qqw a onto s ((Qli a onto).drop (m + 1)):=by
        simp only [Qqw,List.filterMap_cons]
        split <;> simp_all
       rw [hcons] at hg1 hg2
       generalize hN : Q8t a onto s x = N at hg1 hg2 hNS ⊢
       by_cases hne : N = []
       ·rw [if_pos hne] at hg1 hg2
        simp only [hne,decide_true,if_true,Option.bind_some]
        rw [Q8 (by omega)]
        exact ih _ ⟨m + 1,S,r,c,rfl,by omega,hgs,hES,by omega,by omega,hKS,hg1,hg2⟩ (by simp only; omega)
       ·rw [if_neg hne] at hg1 hg2
        have hNl:=hNS.len
        simp only [hne,decide_false,Bool.false_eq_true,if_false]
        rw [Qbkk (by unfold lim; omega) (hNS.lt h)]
        simp only [Option.bind_some]
        rw [hKS.has N (hNS.lt h)]
        have hg1' : Q0e (insL S N) (Qqw a onto s ((Qli a onto).drop (m + 1))) = estB a onto (n + 1):=hg1
        have hfin : insL S N <+: estB a onto (n + 1):=by rw [← hg1']; exact Q8a _ _
        have hmemN : N ∈ insL S N:=Qba3.2 (.inr rfl)
        have hidx : (estB a onto (n + 1)).idxOf N = (insL S N).idxOf N:=Q9x hfin hmemN
        have hg2' : (r ++ [(⟨(n : Int),x,((insL S N).idxOf N : Int)⟩ : Qe)]) ++ rowE (estB a onto (n + 1)) n (Qqw a onto s ((Qli a onto).drop (m + 1))) = edN a onto (estB a onto n) 0 ((estB a onto n).take n) ++ rowE (estB a onto (n + 1)) n (rowN a onto s):=by
         rw [← hg2,← hidx,List.append_assoc]
         rfl
        have hESi : Ests a (insL S N):=⟨Q9w hES.nd N,fun t ht=>by
         rcases Qba3.1 ht with ht | rfl
         ·exact hES.ok t ht
         ·exact ⟨hNS,hne⟩⟩
        have hgsi : (insL S N)[n]? = some s:=by
         obtain ⟨q,hq⟩:=Qbe0 S N
         rw [← hq,List.getElem?_append_left (List.getElem?_eq_some_iff.1 hgs).1]; exact hgs
        have hli : (insL S N).length ≤ S.length + 1:=by unfold insL; split <;> simp
        by_cases hin : N ∈ S
        ·have hi : insL S N = S:=by unfold insL; rw [if_pos hin]
         rw [if_pos (by simp [hin]),hKS.get N hin]
         simp only [Option.bind_some]
         rw [Qb8 (by simp only [List.length_cons,List.length_nil]; unfold lim; omega)]
         simp only [Option.bind_some]
         rw [Q8 (by omega)]
         rw [hi] at hg1' hg2'
         exact ih _ ⟨m + 1,S,_,c,rfl,by omega,hgs,hES,by omega,by rw [List.length_append]; simp only [List.length_cons,List.length_nil]; omega,hKS,hg1',hg2'⟩ (by simp only; omega)
        ·have hi : insL S N = S ++ [N]:=by unfold insL; rw [if_neg hin]
         have hix : (insL S N).idxOf N = S.length:=by rw [hi,List.idxOf_append,if_neg hin]; simp
         rw [if_neg (by simp [hin]),Qb8 (by simp only [List.length_cons,List.length_nil]; unfold lim; omega)]
         simp only [Option.bind_some]
         rw [Qb8 (by simp only [List.length_cons,List.length_nil]; unfold lim; omega)]
         simp only [Option.bind_some]
         rw [Q8 (by omega)]
         have hKadd:=hKS.add (hNS.lt h) hin
         rw [hix] at hg2'
         rw [hi] at hg1' hESi hgsi
         exact ih _ ⟨m + 1,S ++ [N],_,_,rfl,by omega,hgsi,hESi,by simp; omega,by rw [List.length_append]; simp only [List.length_cons,List.length_nil]; omega,hKadd,hg1',hg2'⟩ (by simp only; omega)
      ·rw [show (obsP a onto).kept_ = Qli a onto from rfl,if_neg (by omega)]
       have hd : (Qli a onto).drop m = []:=List.drop_eq_nil_of_le (by omega)
       rw [hd] at hg1 hg2
       have hg1 : S = estB a onto (n + 1):=hg1
       subst hg1
       simp only [Qqw,List.filterMap_nil,rowE,List.map_nil,List.append_nil] at hg2
       exact ⟨_,rfl,c,hKS,by rw [hg2]; rfl⟩
     ·exact ⟨0,_,_,c,rfl,Nat.zero_le _,hg,hE,by omega,by omega,hK,by rw [List.drop_zero,hstep]; rfl,by rw [List.drop_zero]; rfl⟩
     ·simp only [Int.toNat_zero]; unfold Qbl; omega
    ·rintro _ ⟨c',hK',rfl⟩
     dsimp only
     have hrows : ∀ i t,i < n + 1 → (estB a onto (n + 1))[i]? = some t → ∀ p ∈ rowN a onto t,p.2 ∈ estB a onto (n + 1):=by
      intro i t hi ht p hp
      obtain ⟨q,hq⟩:=id hpre
      rcases Nat.lt_or_ge i n with hin | hin
      ·rw [← hq,List.getElem?_append_left (by omega)] at ht
       exact hpre.subset (hcl i t hin ht p hp)
      ·obtain rfl : i = n:=by omega
       rw [← hq,List.getElem?_append_left hlt,hg] at ht
       cases ht
       rw [hstep]
       exact (Q8c _ _ _).2 (.inr ⟨p,hp,rfl⟩)
     have hed : edN a onto (estB a onto n) 0 ((estB a onto n).take n) ++ rowE (estB a onto (n + 1)) n (rowN a onto s) = edN a onto (estB a onto (n + 1)) 0 ((estB a onto (n + 1)).take (n + 1)):=by
      rw [htake2,htake,Q9y]
      simp only [edN,List.append_nil,List.length_take,Nat.zero_add,Nat.min_eq_left (Nat.le_of_lt hlt)]
      congr 1
      refine (Qbim hpre _ _ fun t ht p hp=>?_).symm
      obtain ⟨i,hi⟩:=List.getElem?_of_mem ht
      have hilt:=(List.getElem?_eq_some_iff.1 hi).1
      rw [List.length_take] at hilt
      rw [List.getElem?_take,if_pos (by omega)] at hi
      exact hcl i t (by omega) hi p hp
     rw [hed]
     by_cases hbig : 4096 < (estB a onto (n + 1)).length
     ·rw [if_pos (by omega)]
      exact ⟨_,rfl,.inr ⟨n + 1,hbig,rfl⟩⟩
     ·rw [if_neg (by omega),Q8 (by omega)]
      have:=hpre.length_le
      refine ih _ ⟨n + 1,c',by omega,by omega,hK',hrows,?_⟩ (by simp only; omega)
      rw [htake2]
   ·rw [if_neg (by omega)]
    have hnn : (estB a onto n).length = n:=by omega
    refine ⟨_,rfl,.inl ⟨n,hnn,by omega,?_⟩⟩
    rw [List.take_of_length_le (by omega)]
    rfl
  ·refine ⟨0,_,Nat.zero_le _,by simp [estB],.first ((Q0o a onto).lt h),fun i s hi=>by omega,rfl⟩
  ·simp only [Int.toNat_zero]; unfold Qbl; omega
end Go.Abs
end
section
namespace Go.Abs
open Go
set_option linter.unusedSimpArgs false
set_option linter.unusedVariables false
section
variable {a b : Qa} {φ : Int → Int} (ha : Right a) (hb : Right b) (h : Like a b φ)
include ha hb h
end
theorem Qbco {a : Qa} {F : List Int} : ∀ (l : List Int) (i : Nat),l.Nodup → (Qf5 a F i l).length ≤ (a.Edges.filter fun x=>decide (x.From ∈ l)).length
 | [],i,_=>by simp [Qf5]
 | s :: l,i,hn=>by
  have hn:=List.nodup_cons.1 hn
  simp only [Qf5,List.length_append]
  have ih:=Qbco (a:=a) (F:=F) l (i + 1) hn.2
  have h1 : (rowP a F i s).length = (a.Edges.filter fun x=>x.From == s).length:=by simp [rowP,outP]
  have h2 : a.Edges.filter (fun x=>decide (x.From ∈ s :: l)) = a.Edges.filter (fun x=>x.From == s || decide (x.From ∈ l)):=by
   congr 1; funext x; rw [Bool.eq_iff_iff]; simp
  rw [h1,h2]
  have h3 : ∀ L : List Qe,(L.filter (fun x=>x.From == s)).length + (L.filter fun x=>decide (x.From ∈ l)).length = (L.filter (fun x=>x.From == s || decide (x.From ∈ l))).length:=by
   intro L
   induction L with
   | nil=>simp
   | cons x L ih =>
    by_cases hx : x.From = s
    ·have : ¬ x.From ∈ l:=by rw [hx]; exact hn.1
     simp [hx,hn.1] at ih ⊢; omega
    ·by_cases hm : x.From ∈ l <;> simp [hx,hm] at ih ⊢ <;> omega
  have:=h3 a.Edges
  omega
theorem Qbfs {a : Qa} (ha : Right a) : (Qfg a).States ≤ a.States ∧ (Qfg a).Edges.length ≤ a.Edges.length:=by
 have hF:=(Qi4 ha).1
 have:=hF.len
 have hst:=ha.st
 refine ⟨by simp only [Qfg]; omega,?_⟩
 exact Nat.le_trans (Qbco _ _ hF.nd) (List.length_filter_le _ _)
end Go.Abs
end
section
namespace Go.Abs
open Go
set_option linter.unusedSimpArgs false
set_option linter.unusedVariables false
theorem Qp0? {n : Int} {i : Nat} (h : i < n.toNat) : (upto n)[i]? = some (i : Int):=by
 simp only [upto,List.getElem?_map,List.getElem?_range h,Option.map_some]
theorem Qbjv {n x : Int} (h : 0 ≤ x ∧ x < n) : ((upto n).idxOf x : Int) = x:=by
 have hm:=Q4r.2 h
 have h1:=Qo1 hm
 have hlt:=(List.getElem?_eq_some_iff.1 h1).1
 rw [Qe0] at hlt
 rw [Qp0? hlt] at h1
 exact Option.some.inj h1
theorem Qbln {l : List Int} (h : l.Nodup) : l.map (fun s=>(l.idxOf s : Int)) = upto (l.length : Int):=by
 refine List.ext_getElem? fun i=>?_
 by_cases hi : i < l.length
 ·rw [Qp0? (by omega),List.getElem?_map,List.getElem?_eq_getElem hi]
  simp only [Option.map_some]
  congr 2
  have h1:=Qo1 (List.getElem_mem hi)
  have hlt:=(List.getElem?_eq_some_iff.1 h1).1
  have h2 : l[l.idxOf l[i]] = l[i]:=by
   rw [List.getElem?_eq_getElem hlt] at h1; exact Option.some.inj h1
  rcases Nat.lt_trichotomy (l.idxOf l[i]) i with h3 | h3 | h3
  ·exact absurd h2 (List.pairwise_iff_getElem.1 h _ _ hlt hi h3)
  ·exact h3
  ·exact absurd h2.symm (List.pairwise_iff_getElem.1 h _ _ hi hlt h3)
 ·rw [List.getElem?_eq_none (by simp; omega),List.getElem?_eq_none (by rw [Qe0]; omega)]
theorem Qbdt {a : Qa} (ha : Right a) : Qbs (Qfg a) = upto (Qfg a).States:=by
 rw [Qbdp ha (Qpy ha) (Qbdq ha)]
 exact Qbln (Qi4 ha).1.nd
theorem Qbft {l : List Qe} (h : l.Pairwise Qdx) (i : Int) : l.filter (fun x=>decide (i ≤ x.From)) = l.filter (fun x=>x.From == i) ++ l.filter fun x=>decide (i + 1 ≤ x.From):=by
 induction l with
 | nil=>rfl
 | cons x xs ih =>
  obtain ⟨h1,h2⟩:=List.pairwise_cons.1 h
  have ih:=ih h2
  have hge : ∀ y ∈ xs,x.From ≤ y.From:=fun y hy=>by have:=h1 y hy; unfold Qdx at this; omega
  rcases Int.lt_trichotomy x.From i with hlt | heq | hgt
  ·rw [List.filter_cons_of_neg (by simp; omega),List.filter_cons_of_neg (by simp; omega),List.filter_cons_of_neg (by simp; omega),ih]
  ·rw [List.filter_cons_of_pos (by simp; omega),List.filter_cons_of_pos (by simp [heq]),List.filter_cons_of_neg (by simp; omega),ih]; rfl
  ·have e1 : (x :: xs).filter (fun x=>x.From == i) = []:=List.filter_eq_nil_iff.2 fun y hy=>by
    rcases List.mem_cons.1 hy with rfl | hy
    ·simp; omega
    ·have:=hge y hy; simp; omega
   rw [e1,List.nil_append]
   refine List.filter_congr fun y hy=>?_
   rcases List.mem_cons.1 hy with rfl | hy
   ·simp; omega
   ·have:=hge y hy; simp; omega
theorem Q3n {b : Qa} (hb : Right b) {n : Int} (hn : b.States = n) : ∀ (k i : Nat),i + k = n.toNat → Qf5 b (upto n) i ((upto n).drop i) = b.Edges.filter fun x=>decide ((i : Int) ≤ x.From)
 | 0,i,h=>by
  rw [List.drop_eq_nil_of_le (by rw [Qe0]; omega)]
  simp only [Qf5]
  refine (List.filter_eq_nil_iff.2 fun x hx=>?_).symm
  have:=hb.ed0 x hx
  simp; omega
 | k + 1,i,h=>by
  have hlt : i < (upto n).length:=by rw [Qe0]; omega
  rw [List.drop_eq_getElem_cons hlt,Q6m (by omega)]
  simp only [Qf5]
  rw [Q3n hb hn k (i + 1) (by omega),Qbft hb.ed (i : Int)]
  congr 1
  unfold rowP outP
  conv=>rhs; rw [← List.map_id (b.Edges.filter fun x=>x.From == (i : Int))]
  refine List.map_congr_left fun x hx=>?_
  obtain ⟨h1,h2⟩:=List.mem_filter.1 hx
  have:=hb.ed0 x h1
  simp only [beq_iff_eq] at h2
  rw [Qbjv ⟨this.2.2.1,by omega⟩,← h2]
  rfl
theorem Q8e {m : List Int} {n : Int} (hr : ∀ x ∈ m,0 ≤ x ∧ x < n) (hs : m.Pairwise (· < ·)) : Qhp m 0 (upto n) = m:=by
 refine Qba1 Qvz hs fun x=>?_
 rw [Q5r]
 constructor
 ·rintro ⟨j,s,h1,h2,h3⟩
  have hlt:=(List.getElem?_eq_some_iff.1 h1).1
  rw [Qe0] at hlt
  rw [Qp0? hlt] at h1
  cases h1
  rw [h3,Nat.zero_add]; exact h2
 ·intro hx
  have:=hr x hx
  exact ⟨x.toNat,x,by rw [Qp0? (by omega)]; congr 1; omega,hx,by omega⟩
theorem Q8u {b : Qa} (hb : Right b) (hf : Qbs b = upto b.States) : Qfg b = b:=by
 have hst:=hb.st
 unfold Qfg
 rw [hf,Qe0]
 have h1:=Q3n hb rfl b.States.toNat 0 (by omega)
 rw [List.drop_zero] at h1
 rw [h1,Q8e hb.ma0 hb.ma]
 have h2 : (b.Edges.filter fun x=>decide (((0 : Nat) : Int) ≤ x.From)) = b.Edges:=List.filter_eq_self.2 fun x hx=>by
  have:=hb.ed0 x hx; simp; omega
 rw [h2]
 obtain ⟨al,st,ma,ed⟩:=b
 simp only [Qa.mk.injEq,true_and,and_true] at hst ⊢
 omega
def fndB (c : Qa) : Nat → List Int
 | 0=>[0]
 | i + 1=>match (fndB c i)[i]? with
  | some s=>(Qdq c s).foldl ins (fndB c i)
  | none=>fndB c i
theorem Q8f {c : Qa} {i : Nat} (h : (fndB c i)[i]? = none) : ∀ k,fndB c (i + k) = fndB c i
 | 0=>rfl
 | k + 1=>by
  rw [show fndB c (i + (k + 1)) = (match (fndB c (i + k))[i + k]? with | some s=>(Qdq c s).foldl ins (fndB c (i + k)) | none=>fndB c (i + k)) from rfl,Q8f h k]
  have : (fndB c i).length ≤ i:=List.getElem?_eq_none_iff.1 h
  rw [List.getElem?_eq_none (by omega)]
theorem Qbe1 (c : Qa) : ∀ (k i : Nat),bfs c k i (fndB c i) = fndB c (i + k)
 | 0,i=>rfl
 | k + 1,i=>by
  unfold bfs
  cases hg : (fndB c i)[i]? with
  | none=>exact (Q8f hg (k + 1)).symm
  | some s =>
   dsimp only
   have : (Qdq c s).foldl ins (fndB c i) = fndB c (i + 1):=by
    show _ = (match (fndB c i)[i]? with | some s=>_ | none=>_)
    rw [hg]
   rw [this,Qbe1 c k (i + 1)]
   congr 1; omega
theorem Qbfu {c : Qa} (h : 0 < c.States) : Qbs c = fndB c (c.States.toNat + 1):=by
 unfold Qbs
 rw [if_pos h]
 have:=Qbe1 c (c.States.toNat + 1) 0
 simpa [fndB] using this
def sing (l : List Int) : List (List Int):=l.map fun s=>[s]
theorem Qbjw {l : List Int} {s : Int} : [s] ∈ sing l ↔ s ∈ l:=by simp [sing]
theorem Qbjx (o : List Int) (t : Int) : insL (sing o) [t] = sing (ins o t):=by
 unfold insL ins
 simp only [Qbjw]
 split
 ·rfl
 ·simp [sing]
theorem Qbjy (l : List Int) (i : Nat) : (sing l)[i]? = (l[i]?).map fun s=>[s]:=by simp [sing]
theorem Qbjz {l : List Int} (s : Int) : (sing l).idxOf [s] = l.idxOf s:=by
 induction l with
 | nil=>rfl
 | cons x l ih =>
  show ([x] :: sing l).idxOf [s] = _
  rw [List.idxOf_cons,List.idxOf_cons,ih]
  by_cases h : x = s
  ·subst h; simp
  ·have h2 : ¬ [x] = [s]:=by simpa using h
   have e1 : ([x] == [s]) = false:=by simpa using h
   have e2 : (x == s) = false:=by simpa using h
   rw [e1,e2]
def Qblo (b : Qa) (onto : List Int) : Prop:=∀ x ∈ b.Edges,x.Event ∉ onto → x.To = x.From
section
variable {b : Qa} (hb : Right b) {onto : List Int} (hs : Qblo b onto)
include hb hs
theorem Q3o {fr : List Int} (hf : Sts b fr) : Qv3 b fr (Qqv b onto) = fr:=by
 refine (Qbcf hb hf.rg hf.so (fun s hs=>.base hs) (fun s h=>h) fun x hx hfx he=>?_).symm
 have : x.Event ∉ onto:=by
  have:=(List.mem_filter.1 he).2; simpa using this
 rw [hs x hx this]; exact hfx
theorem Q91 {s : Int} {e : Int} : Q8t b onto [s] e = if 0 ≤ Qdc b s e then [Qdc b s e] else []:=by
 unfold Q8t
 have hm : Qlj b [s] e = ((outP b s).filter fun x=>x.Event == e).map (·.To):=by simp [Qlj]
 have key : Qlj b [s] e = if 0 ≤ Qdc b s e then [Qdc b s e] else []:=by
  rw [hm]
  by_cases h0 : 0 ≤ Qdc b s e
  ·rw [if_pos h0]
   obtain ⟨x,hx,hxe⟩:=(Qpx hb).1 h0
   have hstep:=Qsk hb hx
   rw [hxe] at hstep
   have hp : (outP b s).Pairwise Qdx:=hb.ed.filter _
   have hfrom : ∀ y ∈ outP b s,y.From = s:=fun y hy=>by unfold outP at hy; simp at hy; exact hy.2
   have huniq : ∀ y ∈ outP b s,y.Event = e → y = x:=by
    intro y hy hye
    rcases List.mem_iff_getElem.1 hy with ⟨i,hi,rfl⟩
    rcases List.mem_iff_getElem.1 hx with ⟨j,hj,rfl⟩
    rcases Nat.lt_trichotomy i j with h | h | h
    ·have:=List.pairwise_iff_getElem.1 hp i j hi hj h
     have:=hfrom _ hy; have:=hfrom _ hx; unfold Qdx at *; omega
    ·subst h; rfl
    ·have:=List.pairwise_iff_getElem.1 hp j i hj hi h
     have:=hfrom _ hy; have:=hfrom _ hx; unfold Qdx at *; omega
   have hnd : (outP b s).Nodup:=hp.imp fun h e=>by subst e; unfold Qdx at h; omega
   have : (outP b s).filter (fun x=>x.Event == e) = [x]:=by
    have h1 : ∀ y,y ∈ (outP b s).filter (fun x=>x.Event == e) ↔ y = x:=fun y=>by
     rw [List.mem_filter]
     constructor
     ·rintro ⟨h1,h2⟩; exact huniq y h1 (by simpa using h2)
     ·rintro rfl; exact ⟨hx,by simp [hxe]⟩
    have h2:=hnd.filter (fun x=>x.Event == e)
    generalize (outP b s).filter (fun x=>x.Event == e) = L at h1 h2
    match L,h1,h2 with
    | [],h1,_=>exact absurd ((h1 x).2 rfl) (by simp)
    | [y],h1,_=>rw [(h1 y).1 (by simp)]
    | y :: z :: r,h1,h2 =>
     have e1:=(h1 y).1 (by simp)
     have e2:=(h1 z).1 (by simp)
     have:=(List.nodup_cons.1 h2).1
     rw [e1,e2] at this; simp at this
   rw [this,hstep]; rfl
  ·rw [if_neg h0]
   have : (outP b s).filter (fun x=>x.Event == e) = []:=List.filter_eq_nil_iff.2 fun x hx=>by
    intro hxe
    exact h0 ((Qpx hb).2 ⟨x,hx,by simpa using hxe⟩)
   rw [this]; rfl
 rw [key]
 split
 ·rename_i h0
  rcases Q3m hb s e with hr | hr
  ·omega
  ·exact Q3o hb hs ⟨fun t ht=>by simp at ht; subst ht; exact ⟨hr.1,hr.2.1⟩,by simp⟩
 ·exact Q3o hb hs ⟨by simp,by simp⟩
end
end Go.Abs
end
section
namespace Go.Abs
open Go
set_option linter.unusedSimpArgs false
set_option linter.unusedVariables false
theorem Q6o {c : Qa} (h : Right c) (h0 : 0 < c.States) : ∀ i,Fnd c (fndB c i)
 | 0=>⟨by simp [fndB],fun s hs=>by simp [fndB] at hs; subst hs; omega⟩
 | i + 1=>by
  unfold fndB
  split
  ·exact (Qlh (Q6o h h0 i) (Qkm h _)).1
  ·exact Q6o h h0 i
theorem Qbj0 {c : Qa} (h : Right c) (h0 : 0 < c.States) {n : Nat} (hn : (fndB c n).length = n) : fndB c n = Qbs c:=by
 have hl:=(Q6o h h0 n).len
 rw [Qbfu h0,show c.States.toNat + 1 = n + (c.States.toNat + 1 - n) from by omega,Q8f (List.getElem?_eq_none (by omega))]
theorem Qbmi {a : Qa} (h : Right a) (s : Int) : outP a s = (a.Alphabet.filter fun e=>decide (0 ≤ Qdc a s e)).map fun e=>⟨s,e,Qdc a s e⟩:=by
 rw [← Qvy h s,List.map_map]
 conv=>lhs; rw [← List.map_id (outP a s)]
 refine List.map_congr_left fun x hx=>?_
 have hf : x.From = s:=by unfold outP at hx; simp at hx; exact hx.2
 have hst:=Qsk h hx
 simp only [Function.comp,hst]
 rw [← hf]; rfl
theorem Q92 (b : Qa) (onto : List Int) (s e : Int) : Qdc (Qdr b onto) s e = if e ∈ onto then Qdc b s e else -1:=by
 have key : ∀ l : List Qe,(l.filter fun x=>decide (x.Event ∈ onto)).find? (fun x=>x.From == s && x.Event == e) = if e ∈ onto then l.find? (fun x=>x.From == s && x.Event == e) else none:=by
  intro l
  induction l with
  | nil=>simp
  | cons x l ih =>
   by_cases hx : x.Event ∈ onto
   ·rw [List.filter_cons_of_pos (by simpa using hx),List.find?_cons,List.find?_cons,ih]
    by_cases hq : (x.From == s && x.Event == e) = true
    ·have : e ∈ onto:=by simp only [Bool.and_eq_true,beq_iff_eq] at hq; rw [← hq.2]; exact hx
     rw [hq,if_pos this,if_pos this]
    ·simp only [Bool.not_eq_true] at hq
     rw [hq]
   ·rw [List.filter_cons_of_neg (by simpa using hx),ih,List.find?_cons]
    by_cases he : e ∈ onto
    ·have : (x.From == s && x.Event == e) = false:=by
      rw [Bool.eq_false_iff]; intro hq
      simp only [Bool.and_eq_true,beq_iff_eq] at hq
      exact hx (by rw [hq.2]; exact he)
     rw [if_pos he,if_pos he,this]
    ·rw [if_neg he,if_neg he]
 unfold Qdc Qdr
 simp only [key]
 by_cases h : e ∈ onto
 ·rw [if_pos h,if_pos h]
 ·rw [if_neg h,if_neg h]
section
variable {b : Qa} (hb : Right b) {onto : List Int} (hs : Qblo b onto)
include hb hs
theorem Qbcp (s : Int) : ∀ l : List Int,Qqw b onto [s] (l.filter fun x=>decide (x ∈ onto)) = (l.filter fun e=>decide (0 ≤ Qdc (Qdr b onto) s e)).map fun e=>(e,[Qdc (Qdr b onto) s e])
 | []=>rfl
 | x :: l=>by
  have ih:=Qbcp s l
  by_cases hx : x ∈ onto
  ·have e1 : Qdc (Qdr b onto) s x = Qdc b s x:=by rw [Q92,if_pos hx]
   rw [List.filter_cons_of_pos (by simpa using hx)]
   by_cases h0 : 0 ≤ Qdc b s x
   ·have : Qqw b onto [s] (x :: l.filter fun x=>decide (x ∈ onto)) = (x,[Qdc b s x]) :: Qqw b onto [s] (l.filter fun x=>decide (x ∈ onto)):=by
     simp only [Qqw,List.filterMap_cons,Q91 hb hs,h0,if_true]
     rw [if_neg (by simp)]
    rw [this,ih,List.filter_cons_of_pos (by rw [e1]; simpa using h0),List.map_cons,e1]
   ·have : Qqw b onto [s] (x :: l.filter fun x=>decide (x ∈ onto)) = Qqw b onto [s] (l.filter fun x=>decide (x ∈ onto)):=by
     simp only [Qqw,List.filterMap_cons,Q91 hb hs,h0,if_false,if_true]
    rw [this,ih,List.filter_cons_of_neg (by rw [e1]; simpa using h0)]
  ·have e1 : Qdc (Qdr b onto) s x = -1:=by rw [Q92,if_neg hx]
   rw [List.filter_cons_of_neg (by simpa using hx),ih,List.filter_cons_of_neg (by rw [e1]; simp)]
theorem Q93 (s : Int) : rowN b onto [s] = (b.Alphabet.filter fun e=>decide (0 ≤ Qdc (Qdr b onto) s e)).map fun e=>(e,[Qdc (Qdr b onto) s e]):=Qbcp hb hs s b.Alphabet
theorem Qbfv (s : Int) (o : List Int) : Q0e (sing o) (rowN b onto [s]) = sing ((Qdq (Qdr b onto) s).foldl ins o):=by
 rw [Q93 hb hs,Qpz (Qkn hb onto)]
 show Q0e _ ((b.Alphabet.filter _).map _) = sing ((List.map _ (b.Alphabet.filter _)).foldl ins o)
 generalize b.Alphabet.filter (fun e=>decide (0 ≤ Qdc (Qdr b onto) s e)) = l
 induction l generalizing o with
 | nil=>rfl
 | cons x l ih =>
  show Q0e (insL (sing o) [Qdc (Qdr b onto) s x]) _ = _
  rw [Qbjx,ih]; rfl
theorem Q5u (h0 : 0 < b.States) : ∀ i,estB b onto i = sing (fndB (Qdr b onto) i)
 | 0=>by
  have : Q2g b onto = [0]:=by
   unfold Q2g
   rw [if_neg (by omega)]
   exact Q3o hb hs ⟨fun t ht=>by simp at ht; subst ht; omega,by simp⟩
  simp [estB,fndB,sing,this]
 | i + 1=>by
  rw [show estB b onto (i + 1) = (match (estB b onto i)[i]? with | some s=>Q0e (estB b onto i) (rowN b onto s) | none=>estB b onto i) from rfl,Q5u h0 i,Qbjy]
  rw [show fndB (Qdr b onto) (i + 1) = (match (fndB (Qdr b onto) i)[i]? with | some s=>(Qdq (Qdr b onto) s).foldl ins (fndB (Qdr b onto) i) | none=>fndB (Qdr b onto) i) from rfl]
  cases (fndB (Qdr b onto) i)[i]? with
  | none=>rfl
  | some s=>exact Qbfv hb hs s _
theorem Q8g (F : List Int) : ∀ (l : List Int) (i : Nat),edN b onto (sing F) i (sing l) = Qf5 (Qdr b onto) F i l
 | [],i=>rfl
 | s :: l,i=>by
  show rowE (sing F) i (rowN b onto [s]) ++ edN b onto (sing F) (i + 1) (sing l) = _
  rw [Q8g F l (i + 1)]
  simp only [Qf5]
  congr 1
  unfold rowE rowP
  rw [Q93 hb hs,Qbmi (Qkn hb onto),List.map_map,List.map_map]
  refine List.map_congr_left fun e _=>?_
  simp only [Function.comp,Qbjz]
omit hb hs in
theorem Q8h : ∀ (l : List Int) (i : Nat),mkN b i (sing l) = Qhp b.Marked i l
 | [],i=>rfl
 | s :: l,i=>by
  show (if [s].any (fun x=>decide (x ∈ b.Marked)) then [(i : Int)] else []) ++ mkN b (i + 1) (sing l) = _
  rw [Q8h l (i + 1)]
  simp only [Qhp,List.any_cons,List.any_nil,Bool.or_false,decide_eq_true_eq]
theorem Qbcq (ho : EvSet onto) (h0 : 0 < b.States) : Qcl b onto = some (⟨Qli b onto,((Qbs (Qdr b onto)).length : Int),Qhp b.Marked 0 (Qbs (Qdr b onto)),Qf5 (Qdr b onto) (Qbs (Qdr b onto)) 0 (Qbs (Qdr b onto))⟩,sing (Qbs (Qdr b onto)),0):=by
 have hst:=hb.st
 have hr:=Qkn hb onto
 obtain ⟨r,hr1,hr2⟩:=Q90 hb ho
 rw [if_neg (by omega)] at hr2
 rw [hr1]
 congr 1
 rcases hr2 with ⟨n,h1,_,rfl⟩ | ⟨n,h1,rfl⟩
 ·rw [Q5u hb hs h0] at h1 ⊢
  have h2 : (fndB (Qdr b onto) n).length = n:=by simpa [sing] using h1
  rw [Qbj0 hr h0 h2]
  unfold autN
  rw [Q8g hb hs,Q8h]
  simp [sing]
 ·exfalso
  rw [Q5u hb hs h0] at h1
  have h2:=(Q6o hr h0 n).len
  have h3 : (Qdr b onto).States = b.States:=rfl
  simp only [sing,List.length_map] at h1
  omega
theorem Qbcr (ho : EvSet onto) (h0 : 0 < b.States) (hf : Qbs (Qdr b onto) = upto b.States) :
  Qcl b onto = some (⟨Qli b onto,b.States,b.Marked,(Qdr b onto).Edges⟩,sing (upto b.States),0):=by
 have hst:=hb.st
 have hr:=Qkn hb onto
 rw [Qbcq hb hs ho h0,hf,Qe0,Q8e hb.ma0 hb.ma]
 have h1:=Q3n hr (n:=b.States) rfl b.States.toNat 0 (by omega)
 rw [List.drop_zero] at h1
 rw [h1]
 have h2 : ((Qdr b onto).Edges.filter fun x=>decide (((0 : Nat) : Int) ≤ x.From)) = (Qdr b onto).Edges:=List.filter_eq_self.2 fun x hx=>by
  have:=hr.ed0 x hx; simp; omega
 rw [h2]
 simp only [Option.some.injEq,Prod.mk.injEq,Qa.mk.injEq,true_and,and_true]
 omega
end
end Go.Abs
end
section
namespace Go.Abs
open Go
set_option linter.unusedSimpArgs false
set_option linter.unusedVariables false
theorem Qbdu {l : List Int} (h : l.Pairwise (· ≤ ·)) : (Lib.compact l).Pairwise (· < ·):=by
 unfold Lib.compact Lib.compactUpTo
 rw [List.pairwise_map]
 refine List.Pairwise.imp_of_mem ?_ (List.pairwise_lt_range.filter _)
 intro i j hi hj hij
 have hj2:=List.mem_filter.1 hj
 have hjl : j < l.length:=List.mem_range.1 hj2.1
 have hk:=hj2.2
 simp only [Lib.keeps,decide_eq_true_eq] at hk
 have hne : l.toArray[j]! ≠ l.toArray[j - 1]!:=hk.resolve_left (by omega)
 have e : ∀ k,k < l.length → l.toArray[k]! = l[k]!:=fun k hk=>by simp [hk]
 have hle : ∀ p q,p ≤ q → q < l.length → l[p]! ≤ l[q]!:=fun p q hpq hq=>by
  rw [getElem!_pos l p (by omega),getElem!_pos l q hq]
  rcases Nat.lt_or_ge p q with hlt | hge
  ·exact List.pairwise_iff_getElem.1 h p q (by omega) hq hlt
  ·have : p = q:=by omega
   subst this; exact Int.le_refl _
 rw [e i (by omega),e j hjl]
 rw [e j hjl,e (j - 1) (by omega)] at hne
 have h1:=hle i (j - 1) (by omega) (by omega)
 have h2:=hle (j - 1) j (by omega) hjl
 omega
theorem Qbj1 {l : List Int} {x : Int} : x ∈ Lib.compact l ↔ x ∈ l:=by
 unfold Lib.compact Lib.compactUpTo
 rw [List.mem_map]
 constructor
 ·rintro ⟨j,hj,rfl⟩
  have hjl : j < l.length:=List.mem_range.1 (List.mem_filter.1 hj).1
  have : l.toArray[j]! = l[j]:=by simp [hjl]
  rw [this]; exact List.getElem_mem hjl
 ·intro hx
  have hlt : l.idxOf x < l.length:=List.idxOf_lt_length_of_mem hx
  have hget : ∀ k (h : k < l.length),l.toArray[k]! = l[k]:=fun k h=>by simp [h]
  refine ⟨l.idxOf x,List.mem_filter.2 ⟨List.mem_range.2 hlt,?_⟩,by rw [hget _ hlt]; exact List.getElem_idxOf hlt⟩
  simp only [Lib.keeps,decide_eq_true_eq]
  by_cases h0 : l.idxOf x = 0
  ·exact .inl h0
  ·refine .inr ?_
   rw [hget _ hlt,hget _ (by omega),List.getElem_idxOf hlt]
   intro he
   have:=List.not_of_lt_findIdx (p:=(· == x)) (xs:=l) (i:=l.idxOf x - 1) (by show _ < l.idxOf x; omega)
   simp [← he] at this
def Qci (l m : List Int) : List Int:=Lib.compact (Qgi Qd6 (l ++ m))
theorem Qex (l m : List Int) : (Qci l m).Pairwise (· < ·):=Qbdu ((Qhs swoI (l ++ m)).imp fun h=>by simp [Qd6] at h; omega)
theorem Qng {l m : List Int} {x : Int} : x ∈ Qci l m ↔ x ∈ l ∨ x ∈ m:=by
 unfold Qci
 rw [Qbj1,(Qhj Qd6 _).mem_iff,List.mem_append]
theorem Qbmr : ∃ f,Qbl = f + 1 + 1 + 1:=⟨1099511627773,rfl⟩
theorem Qbip {l m : List Int} (h : l.length + m.length ≤ 1000) : Qgf [l,m] = some (l ++ m):=by
 unfold Qgf Qcg
 have w1 : IntKind.wrap .i64 (0 + (l.length : Int)) = (l.length : Int):=by rw [Ql9 (by omega) (by omega)]; omega
 have w2 : IntKind.wrap .i64 ((l.length : Int) + (m.length : Int)) = (l.length : Int) + (m.length : Int):=Ql9 (by omega) (by omega)
 have w3 : IntKind.wrap .i64 (0 + 1) = 1:=by decide
 have w4 : IntKind.wrap .i64 (1 + 1) = 2:=by decide
 have g0 : getO [l,m] 0 = some l:=rfl
 have g1 : getO [l,m] 1 = some m:=rfl
 obtain ⟨f,hf⟩:=Qbmr
 rw [hf]
 refine Qi1 (x:=(l.length : Int) + (m.length : Int)) ?_ ?_
 ·simp only [Qch,List.length_cons,List.length_nil,g0,g1,w1,w2,w3,w4,Option.bind_some]
  rw [if_pos (by decide),if_neg (by omega),if_pos (by decide),if_neg (by omega),if_neg (by decide)]
 ·unfold Qbjj
  rw [if_pos ⟨by omega,by unfold lim; omega⟩]
  simp only [Option.bind_some]
  refine Qi1 (x:=l ++ m) ?_ rfl
  have a1 : appO [] l = some l:=by rw [Qb8 (by simp; unfold lim; omega)]; rfl
  have a2 : appO l m = some (l ++ m):=Qb8 (by unfold lim; omega)
  simp only [Qch,List.length_cons,List.length_nil,g0,g1,a1,a2,w3,w4,Option.bind_some]
  rw [if_pos (by decide),if_pos (by decide),if_neg (by decide)]
theorem Qbiq {l : List Qe} (hl : l.length ≤ lim) : Qge l = some l:=by
 unfold Qge Qcf
 cases l with
 | nil=>rfl
 | cons x l =>
  simp only [nilO,Bool.false_eq_true,if_false]
  rw [Qb8 (by simpa using hl)]
  rfl
def Qgk (a : Qa) (U : List Int) (s : Int) : List Qe:=(U.filter fun e=>decide (e ∉ a.Alphabet ∨ 0 ≤ Qdc a s e)).map fun e=>⟨s,e,if e ∈ a.Alphabet then Qdc a s e else s⟩
def invE (a : Qa) (U : List Int) : List Qe:=(upto a.States).flatMap (Qgk a U)
def invA (a : Qa) (al : List Int) : Qa:=⟨Qci a.Alphabet al,a.States,a.Marked,invE a (Qci a.Alphabet al)⟩
theorem Q0p {a : Qa} {U : List Int} {s : Int} {x : Qe} : x ∈ Qgk a U s ↔ x.From = s ∧ x.Event ∈ U ∧ ((x.Event ∉ a.Alphabet ∧ x.To = s) ∨ (x.Event ∈ a.Alphabet ∧ 0 ≤ Qdc a s x.Event ∧ x.To = Qdc a s x.Event)):=by
 simp only [Qgk,List.mem_map,List.mem_filter,decide_eq_true_eq]
 constructor
 ·rintro ⟨e,⟨h1,h2⟩,rfl⟩
  refine ⟨rfl,h1,?_⟩
  by_cases he : e ∈ a.Alphabet
  ·right; exact ⟨he,h2.resolve_left (fun h=>h he),by simp [he]⟩
  ·left; exact ⟨he,by simp [he]⟩
 ·rintro ⟨h1,h2,h3⟩
  refine ⟨x.Event,⟨h2,?_⟩,?_⟩
  ·rcases h3 with ⟨h3,_⟩ | ⟨_,h3,_⟩
   ·exact .inl h3
   ·exact .inr h3
  ·obtain ⟨f,e,t⟩:=x
   simp only at h1 h3 ⊢
   subst h1
   rcases h3 with ⟨h3,h4⟩ | ⟨h3,_,h4⟩
   ·rw [if_neg h3,h4]
   ·rw [if_pos h3,h4]
theorem Q4v {a : Qa} {U : List Int} (hU : U.Pairwise (· < ·)) (s : Int) : (Qgk a U s).Pairwise Qdx:=by
 unfold Qgk
 rw [List.pairwise_map]
 exact (hU.filter _).imp fun h=>.inr ⟨rfl,h⟩
theorem Q3p {f : Int → List Qe} (h1 : ∀ s,(f s).Pairwise Qdx) (h2 : ∀ s x,x ∈ f s → x.From = s) : ∀ {l : List Int},l.Pairwise (· < ·) → (l.flatMap f).Pairwise Qdx
 | [],_=>by simp
 | s :: l,h=>by
  obtain ⟨k1,k2⟩:=List.pairwise_cons.1 h
  rw [List.flatMap_cons,List.pairwise_append]
  refine ⟨h1 s,Q3p h1 h2 k2,fun x hx y hy=>?_⟩
  obtain ⟨t,ht,hy⟩:=List.mem_flatMap.1 hy
  exact .inl (by rw [h2 s x hx,h2 t y hy]; exact k1 t ht)
theorem Qo2 {a : Qa} {U : List Int} (hU : U.Pairwise (· < ·)) : (invE a U).Pairwise Qdx:=Q3p (Q4v hU) (fun s x hx=>(Q0p.1 hx).1) (Q4s _)
theorem Q4w {a : Qa} {U : List Int} {x : Qe} : x ∈ invE a U ↔ (0 ≤ x.From ∧ x.From < a.States) ∧ x.Event ∈ U ∧ ((x.Event ∉ a.Alphabet ∧ x.To = x.From) ∨ (x.Event ∈ a.Alphabet ∧ 0 ≤ Qdc a x.From x.Event ∧ x.To = Qdc a x.From x.Event)):=by
 simp only [invE,List.mem_flatMap,Q4r]
 constructor
 ·rintro ⟨s,hs,hx⟩
  obtain ⟨h1,h2,h3⟩:=Q0p.1 hx
  rw [h1]; exact ⟨hs,h2,h3⟩
 ·rintro ⟨h1,h2,h3⟩
  exact ⟨x.From,h1,Q0p.2 ⟨rfl,h2,h3⟩⟩
theorem Qnh {a : Qa} (h : Right a) {al : List Int} (hal : EvSet al) : Right (invA a al):=by
 refine ⟨fun x hx=>?_,Qex _ _,h.st,h.ma0,h.ma,fun x hx=>?_,Qo2 (Qex _ _)⟩
 ·rcases Qng.1 hx with hx | hx
  ·exact h.al0 x hx
  ·exact hal.rg x hx
 ·obtain ⟨h1,h2,h3⟩:=Q4w.1 hx
  have h1 : 0 ≤ x.From ∧ x.From < (invA a al).States:=h1
  refine ⟨h1.1,h1.2,?_,?_,h2⟩
  ·rcases h3 with ⟨_,h3⟩ | ⟨_,h3,h4⟩ <;> omega
  ·rcases h3 with ⟨_,h3⟩ | ⟨_,h3,h4⟩
   ·rw [h3]; exact h1.2
   ·rcases Q3m h x.From x.Event with hr | hr
    ·omega
    ·rw [h4]; exact hr.2.1
theorem Q5v {x y : Qe} (h : Qdx x y) : ¬ Qdx y x:=by unfold Qdx at *; omega
theorem Qbe2 {l m : List Qe} (hl : l.Pairwise Qdx) (hm : m.Pairwise Qdx) (h : ∀ x,x ∈ l ↔ x ∈ m) : l = m:=by
 have nd : ∀ {l : List Qe},l.Pairwise Qdx → l.Nodup:=fun h=>h.imp fun h e=>by subst e; exact Q5v h h
 refine List.Perm.eq_of_pairwise (le:=Qdx) (fun a b _ _ h1 h2=>absurd h2 (Q5v h1)) hl hm ?_
 exact (List.perm_ext_iff_of_nodup (nd hl) (nd hm)).2 h
theorem Qbcs {a : Qa} (h : Right a) {x : Qe} : x ∈ a.Edges ↔ (0 ≤ x.From ∧ x.From < a.States) ∧ x.Event ∈ a.Alphabet ∧ 0 ≤ Qdc a x.From x.Event ∧ x.To = Qdc a x.From x.Event:=by
 constructor
 ·intro hx
  have h1:=h.ed0 x hx
  have h2 : x ∈ outP a x.From:=List.mem_filter.2 ⟨hx,by simp⟩
  have h3:=Qsk h h2
  exact ⟨⟨h1.1,h1.2.1⟩,h1.2.2.2.2,by rw [h3]; exact h1.2.2.1,h3.symm⟩
 ·rintro ⟨h1,h2,h3,h4⟩
  obtain ⟨y,hy,hye⟩:=(Qpx h).1 h3
  have h5:=Qsk h hy
  obtain ⟨hy1,hy2⟩:=List.mem_filter.1 hy
  simp only [beq_iff_eq] at hy2
  have : x = y:=by
   obtain ⟨f,e,t⟩:=x; obtain ⟨f',e',t'⟩:=y
   simp only at hye h4 h5 hy2
   subst hye; subst hy2
   rw [h4,h5]
  rw [this]; exact hy1
theorem Q94 {a : Qa} (h : Right a) (al : List Int) : (Qdr (invA a al) a.Alphabet).Edges = a.Edges:=by
 refine Qbe2 ((Qo2 (Qex _ _)).filter _) h.ed fun x=>?_
 show x ∈ (invE a _).filter _ ↔ _
 rw [List.mem_filter,Q4w,Qbcs h]
 simp only [decide_eq_true_eq,Qng]
 constructor
 ·rintro ⟨⟨h1,h2,h3⟩,h4⟩
  rcases h3 with ⟨h3,_⟩ | ⟨_,h3⟩
  ·exact absurd h4 h3
  ·exact ⟨h1,h4,h3⟩
 ·rintro ⟨h1,h2,h3⟩
  exact ⟨⟨h1,.inl h2,.inr ⟨h2,h3⟩⟩,h2⟩
theorem Qbfw {a : Qa} (al : List Int) : Qblo (invA a al) a.Alphabet:=by
 intro x hx hn
 obtain ⟨_,_,h3⟩:=Q4w.1 hx
 rcases h3 with ⟨_,h3⟩ | ⟨h3,_⟩
 ·exact h3
 ·exact absurd h3 hn
theorem Q8i {a : Qa} (h : Right a) (al : List Int) : Qli (invA a al) a.Alphabet = a.Alphabet:=by
 refine Qba1 ((Qex _ _).filter _) h.al fun x=>?_
 show x ∈ (Qci _ _).filter _ ↔ _
 rw [List.mem_filter,Qng]
 simp only [decide_eq_true_eq]
 exact ⟨fun h=>h.2,fun h=>⟨.inl h,h⟩⟩
theorem Qbct {a b : Qa} (h : ∀ s,Qdq a s = Qdq b s) : ∀ (f i : Nat) (o : List Int),bfs a f i o = bfs b f i o
 | 0,i,o=>rfl
 | f + 1,i,o=>by
  unfold bfs
  cases o[i]? with
  | none=>rfl
  | some s=>dsimp only; rw [h s,Qbct h f]
theorem Qbdv {a b : Qa} (hs : a.States = b.States) (h : ∀ s,Qdq a s = Qdq b s) : Qbs a = Qbs b:=by
 unfold Qbs; rw [hs,Qbct h]
theorem Qbfx {a b : Qa} (h : a.Edges = b.Edges) (s : Int) : Qdq a s = Qdq b s:=by
 unfold Qdq outP; rw [h]
theorem Qbj2 {o : List Int} {t : Int} (h : t ∈ o) : ins o t = o:=by unfold ins; rw [if_pos h]
theorem Qbj3 {a : Qa} (h : Right a) (al : List Int) {s : Int} (hr : 0 ≤ s ∧ s < a.States) {o : List Int} (hs : s ∈ o) : (Qdq (invA a al) s).foldl ins o = (Qdq a s).foldl ins o:=by
 have e1 : outP (invA a al) s = Qgk a (Qci a.Alphabet al) s:=by
  refine Qbe2 ((Qo2 (Qex _ _)).filter _) (Q4v (Qex _ _) s) fun x=>?_
  show x ∈ (invE a _).filter _ ↔ _
  rw [List.mem_filter,Q4w,Q0p]
  simp only [beq_iff_eq]
  constructor
  ·rintro ⟨⟨h1,h2,h3⟩,rfl⟩; exact ⟨rfl,h2,h3⟩
  ·rintro ⟨rfl,h2,h3⟩; exact ⟨⟨hr,h2,h3⟩,rfl⟩
 have e2 : a.Alphabet = (Qci a.Alphabet al).filter fun e=>decide (e ∈ a.Alphabet):=(Q8i h al).symm
 have e3 : Qdq a s = ((Qci a.Alphabet al).filter fun e=>decide (e ∈ a.Alphabet) && decide (0 ≤ Qdc a s e)).map (Qdc a s):=by
  rw [Qpz h]
  conv=>lhs; rw [e2]
  rw [List.filter_filter]
  congr 1
  refine List.filter_congr fun x _=>?_
  rw [Bool.and_comm]
 rw [e3]
 unfold Qdq
 rw [e1]
 unfold Qgk
 rw [List.map_map]
 generalize Qci a.Alphabet al = U
 clear e1 e2 e3
 induction U generalizing o with
 | nil=>rfl
 | cons e U ih =>
  by_cases he : e ∈ a.Alphabet
  ·by_cases h0 : 0 ≤ Qdc a s e
   ·rw [List.filter_cons_of_pos (by simp [h0]),List.filter_cons_of_pos (by simp [he,h0])]
    simp only [List.map_cons,List.foldl_cons,Function.comp,he,if_true]
    exact ih (Q0b.2 (.inl hs))
   ·rw [List.filter_cons_of_neg (by simp [he,h0]),List.filter_cons_of_neg (by simp [h0])]
    exact ih hs
  ·rw [List.filter_cons_of_pos (by simp [he]),List.filter_cons_of_neg (by simp [he])]
   simp only [List.map_cons,List.foldl_cons,Function.comp,he,if_false]
   rw [Qbj2 hs]
   exact ih hs
theorem Qbir {a : Qa} (h : Right a) (al : List Int) : ∀ (f i : Nat) (o : List Int),(∀ s ∈ o,0 ≤ s ∧ s < a.States) → bfs (invA a al) f i o = bfs a f i o
 | 0,i,o,_=>rfl
 | f + 1,i,o,ho=>by
  unfold bfs
  cases hg : o[i]? with
  | none=>rfl
  | some s =>
   have hs:=List.mem_of_getElem? hg
   dsimp only
   rw [Qbj3 h al (ho s hs) hs]
   exact Qbir h al f (i + 1) _ (Q4q (P:=fun s=>0 ≤ s ∧ s < a.States) _ _ ho (Qkm h s))
theorem Qbis {a : Qa} (h : Right a) (al : List Int) : Qbs (invA a al) = Qbs a:=by
 unfold Qbs
 exact Qbir h al _ 0 _ fun s hs=>by
  split at hs
  ·simp at hs; subst hs; rename_i h0; exact ⟨Int.le_refl _,h0⟩
  ·simp at hs
end Go.Abs
end
section
namespace Go.Abs
open Go
set_option linter.unusedSimpArgs false
set_option linter.unusedVariables false
theorem Qbcu {b : Qa} (h : Right b) : Qfd b = some (Qfg b,0):=by
 unfold Qfd Qb2
 rw [Qbdi h]
 simp only [Option.bind_some]
 rw [if_neg (by decide),Q8r h]
 rfl
theorem Qblp {l : List Qe} (h : l.Pairwise fun a b=>Qdx a b ∨ Qdx b a) : Q5m ltE l = true:=by
 induction l with
 | nil=>rfl
 | cons x l ih =>
  obtain ⟨h1,h2⟩:=List.pairwise_cons.1 h
  simp only [Q5m,Bool.and_eq_true,List.all_eq_true]
  refine ⟨fun y hy=>?_,ih h2⟩
  have:=h1 y hy
  simp only [ltE,Bool.or_eq_true,decide_eq_true_eq]
  unfold Qdx at this; omega
theorem Qbms : Go.Sort.SWO ltE:={
 irrefl x:=by simp [ltE]
 trans x y z h1 h2:=by simp only [ltE,decide_eq_true_eq] at *; omega
 ntrans x y z h1 h2:=by simp only [ltE,decide_eq_false_iff_not] at *; omega }
theorem Qbfy {r m : List Qe} (hp : r.Perm m) (hm : m.Pairwise Qdx) (hl : r.length ≤ 65536) (hok : ∀ x ∈ m,0 ≤ x.From ∧ x.From < 4611686018427387904 ∧ 0 ≤ x.Event ∧ x.Event < 4611686018427387904) : Qben r = some m:=by
 have hd : Q5m ltE r = true:=Qblp ((hp.symm.pairwise_iff (R:=fun a b=>Qdx a b ∨ Qdx b a) (fun h=>h.symm)).1 (hm.imp fun h=>.inl h))
 unfold Qben Qbji
 rw [if_pos hl,if_pos]
 ·rw [← Q4k Qbms hd hp.symm (hm.imp fun h=>by unfold Qdx at h; simp only [ltE,decide_eq_false_iff_not]; omega)]
 ·rw [Bool.and_eq_true]
  refine ⟨List.all_eq_true.2 fun x hx=>?_,hd⟩
  have:=hok x (hp.mem_iff.1 hx)
  simp only [okE,decide_eq_true_eq]; exact this
theorem Qbcv {l m : List Int} (hl : ∀ x ∈ l,0 ≤ x ∧ x < 32) (hm : ∀ x ∈ m,0 ≤ x ∧ x < 32) : (Qci l m).length ≤ 32:=by
 have:=Qf4 (a:=0) (b:=32) (Qex l m) fun x hx=>by
  rcases Qng.1 hx with hx | hx
  ·exact hl x hx
  ·exact hm x hx
 omega
def Q8j (a : Qa) (U : List Int) : List Qe:=(upto a.States).flatMap fun s=>(U.filter fun e=>!decide (e ∈ a.Alphabet)).map fun e=>⟨s,e,s⟩
theorem Qbfz {a : Qa} (h : Right a) {al : List Int} (hal : EvSet al) : (a.Edges ++ Q8j a (Qci a.Alphabet al)).Perm (invE a (Qci a.Alphabet al)):=by
 have nd : ∀ {l : List Qe},l.Pairwise Qdx → l.Nodup:=fun h=>h.imp fun h e=>by subst e; exact Q5v h h
 have hmem : ∀ x : Qe,x ∈ Q8j a (Qci a.Alphabet al) ↔ (0 ≤ x.From ∧ x.From < a.States) ∧ x.Event ∈ Qci a.Alphabet al ∧ x.Event ∉ a.Alphabet ∧ x.To = x.From:=by
  intro x
  simp only [Q8j,List.mem_flatMap,List.mem_map,List.mem_filter,Q4r,Bool.not_eq_true',decide_eq_false_iff_not]
  constructor
  ·rintro ⟨s,hs,e,⟨h1,h2⟩,rfl⟩; exact ⟨hs,h1,h2,rfl⟩
  ·rintro ⟨h1,h2,h3,h4⟩
   refine ⟨x.From,h1,x.Event,⟨h2,h3⟩,?_⟩
   obtain ⟨f,e,t⟩:=x
   simp only at h4 ⊢; rw [h4]
 have hls : (Q8j a (Qci a.Alphabet al)).Pairwise Qdx:=Q3p (fun s=>by rw [List.pairwise_map]; exact ((Qex _ _).filter _).imp fun h=>.inr ⟨rfl,h⟩) (fun s x hx=>by obtain ⟨e,_,rfl⟩:=List.mem_map.1 hx; rfl) (Q4s _)
 refine (List.perm_ext_iff_of_nodup ?_ (nd (Qo2 (Qex _ _)))).2 fun x=>?_
 ·rw [List.nodup_append]
  refine ⟨nd h.ed,nd hls,fun x hx y hy e=>?_⟩
  subst e
  exact ((hmem x).1 hy).2.2.1 (h.ed0 x hx).2.2.2.2
 ·rw [List.mem_append,hmem,Qbcs h,Q4w]
  constructor
  ·rintro (⟨h1,h2,h3⟩ | ⟨h1,h2,h3⟩)
   ·exact ⟨h1,Qng.2 (.inl h2),.inr ⟨h2,h3⟩⟩
   ·exact ⟨h1,h2,.inl h3⟩
  ·rintro ⟨h1,h2,h3 | ⟨h3,h4⟩⟩
   ·exact .inr ⟨h1,h2,h3⟩
   ·exact .inl ⟨h1,h3,h4⟩
theorem Qbf0 {a : Qa} (h : Right a) (h5 : a.States ≤ 5) {al : List Int} (hal : EvSet al) : Qel a al = some (Qfg (invA a al),0):=by
 have hst:=h.st
 have hall:=hal.len
 have hsm:=h.small
 have hul:=Qbcv h.al0 hal.rg
 have hel : a.Edges.length ≤ 1000:=by
  have h1 : ((a.Edges.map fun x=>x.From * 32 + x.Event)).Pairwise (· < ·):=by
   rw [List.pairwise_map]
   refine List.Pairwise.imp_of_mem (fun {x y} hx hy hk=>?_) h.ed
   have:=h.al0 _ (h.ed0 x hx).2.2.2.2; have:=h.al0 _ (h.ed0 y hy).2.2.2.2
   unfold Qdx at hk; omega
  have:=Qf4 (a:=0) (b:=1000) h1 fun z hz=>by
   obtain ⟨x,hx,rfl⟩:=List.mem_map.1 hz
   have:=h.ed0 x hx; have:=h.al0 _ this.2.2.2.2; omega
  rw [List.length_map] at this; omega
 unfold Qel Qbb
 rw [Q56 h (by unfold big; omega),hal.err]
 simp only [Option.bind_some]
 rw [if_neg (by decide),Qbiq (by unfold lim; omega)]
 simp only [Option.bind_some]
 rw [Qbip (by omega)]
 simp only [Option.bind_some]
 have hlen : (Qgi Qd6 (a.Alphabet ++ al)).length ≤ lim:=by rw [Qjj,List.length_append]; unfold lim; omega
 unfold sortI Qbat
 rw [if_pos (by rw [List.length_append]; unfold lim; omega)]
 simp only [Option.bind_some]
 rw [if_pos hlen]
 simp only [Option.bind_some]
 rw [show Lib.compact (Qgi Qd6 (a.Alphabet ++ al)) = Qci a.Alphabet al from rfl]
 have hlp : ∀ l : List Int,(l.flatMap fun s=>((Qci a.Alphabet al).filter fun e=>!decide (e ∈ a.Alphabet)).map fun e=>(⟨s,e,s⟩ : Qe)).length ≤ 32 * l.length:=fun l =>
  Q6n (fun s _=>by rw [List.length_map]; exact Nat.le_trans (List.length_filter_le _ _) hul)
 refine Qi1 (x:=a.Edges ++ Q8j a (Qci a.Alphabet al)) ?_ ?_
 ·refine (Qff (len:=a.States.toNat) (fun n (r : List Qe)=>((n : Int),r)) (fun n r=>r = a.Edges ++ ((upto a.States).take n).flatMap fun s=>((Qci a.Alphabet al).filter fun e=>!decide (e ∈ a.Alphabet)).map fun e=>⟨s,e,s⟩) (fun n r=>some (a.Edges ++ Q8j a (Qci a.Alphabet al))) ?_ ?_ Qbl 0 _ (Nat.zero_le _) (by unfold Qbl; omega) (by simp))
  ·rintro k n r hn rfl ih
   dsimp only
   rw [if_pos (by omega)]
   have hrl:=hlp ((upto a.States).take n)
   rw [List.length_take,Qe0] at hrl
   generalize hr0 : a.Edges ++ ((upto a.States).take n).flatMap (fun s=>((Qci a.Alphabet al).filter fun e=>!decide (e ∈ a.Alphabet)).map fun e=>(⟨s,e,s⟩ : Qe)) = r0
   have hr0l : r0.length ≤ 2000:=by rw [← hr0,List.length_append]; omega
   refine Qi1 (x:=r0 ++ ((Qci a.Alphabet al).filter fun e=>!decide (e ∈ a.Alphabet)).map fun e=>(⟨(n : Int),e,(n : Int)⟩ : Qe)) ?_ ?_
   ·refine (Qff (len:=(Qci a.Alphabet al).length) (fun m (r : List Qe)=>((m : Int),r)) (fun m r=>r = r0 ++ (((Qci a.Alphabet al).take m).filter fun e=>!decide (e ∈ a.Alphabet)).map fun e=>(⟨(n : Int),e,(n : Int)⟩ : Qe)) (fun m r=>some (r0 ++ ((Qci a.Alphabet al).filter fun e=>!decide (e ∈ a.Alphabet)).map fun e=>(⟨(n : Int),e,(n : Int)⟩ : Qe))) ?_ ?_ Qbl 0 _ (Nat.zero_le _) (by unfold Qbl; omega) (by simp))
    ·rintro k m r hm rfl ih
     dsimp only
     rw [if_pos (by omega),Qbw hm]
     simp only [Option.bind_some]
     rw [Qkl (by unfold big; omega)]
     simp only [Option.bind_some]
     have hfl : ((((Qci a.Alphabet al).take m).filter fun e=>!decide (e ∈ a.Alphabet)).map fun e=>(⟨(n : Int),e,(n : Int)⟩ : Qe)).length ≤ 32:=by
      rw [List.length_map]; exact Nat.le_trans (List.length_filter_le _ _) (by rw [List.length_take]; omega)
     rw [Q8 (by omega)]
     by_cases hx : (Qci a.Alphabet al)[m] ∈ a.Alphabet
     ·simp only [hx,decide_true,if_true,Option.bind_some]
      refine ih _ ?_
      rw [List.take_succ_eq_append_getElem hm,List.filter_append,List.map_append]
      simp [hx]
     ·simp only [hx,decide_false,Bool.false_eq_true,if_false]
      rw [Qb8 (by rw [List.length_append]; simp only [List.length_cons,List.length_nil]; unfold lim; omega)]
      simp only [Option.bind_some]
      refine ih _ ?_
      rw [List.take_succ_eq_append_getElem hm,List.filter_append,List.map_append,List.append_assoc]
      simp [hx]
    ·rintro k r rfl
     dsimp only
     rw [if_neg (by omega),List.take_length]
   ·rw [Q8 (by omega)]
    refine ih _ ?_
    rw [← hr0,List.take_succ_eq_append_getElem (by rw [Qe0]; omega),Q6m (by omega),List.flatMap_append,List.append_assoc]
    simp only [List.flatMap_cons,List.flatMap_nil,List.append_nil]
  ·rintro k r rfl
   dsimp only
   rw [if_neg (by omega),List.take_of_length_le (by rw [Qe0]; omega)]
   rfl
 ·have hll:=hlp (upto a.States)
  rw [Qe0] at hll
  have hp:=Qbfz h hal
  have hsort:=Qbfy hp (Qo2 (Qex _ _)) (by
   rw [List.length_append]; have : (Q8j a (Qci a.Alphabet al)).length ≤ 32 * a.States.toNat:=hll; omega) (fun x hx=>by
   have h1:=(Qnh h hal).ed0 x hx
   have h2:=(Qnh h hal).al0 _ h1.2.2.2.2
   have h3 : (invA a al).States = a.States:=rfl
   omega)
  rw [hsort]
  simp only [Option.bind_some]
  rw [show (⟨Qci a.Alphabet al,a.States,a.Marked,invE a (Qci a.Alphabet al)⟩ : Qa) = invA a al from rfl,Qbcu (Qnh h hal)]
  rfl
end Go.Abs
end
section
namespace Go.Abs
open Go
set_option linter.unusedSimpArgs false
set_option linter.unusedVariables false
theorem Qbdw {l : List Int} {v : Int} (hl : l.length < big) : Qgg l v = some (decide (v ∈ l)):=Qbh3 hl
theorem Qba4 {a : Qa} (h : Right a) (h5 : a.States ≤ 5) {al : List Int} (hal : EvSet al) : Qeo a al = some (Qfg (invA a al)):=by
 have hst:=h.st
 have hall:=hal.len
 have hsm:=h.small
 have hul:=Qbcv h.al0 hal.rg
 have hb1 : a.Alphabet.length < big:=by unfold big; omega
 have hb2 : al.length < big:=by unfold big; omega
 unfold Qeo Qbq
 refine Qi1 (x:=([],[],[],Qci a.Alphabet al,[])) ?_ ?_
 ·have hU : (upto 32).filter (fun x=>decide (x ∈ a.Alphabet ∨ x ∈ al)) = Qci a.Alphabet al:=by
   refine Qba1 ((Q4s _).filter _) (Qex _ _) fun x=>?_
   rw [List.mem_filter,Q4r,Qng]
   simp only [decide_eq_true_eq]
   refine ⟨fun h=>h.2,fun hx=>⟨?_,hx⟩⟩
   rcases hx with hx | hx
   ·exact h.al0 x hx
   ·exact hal.rg x hx
  refine (Qff (len:=32) (fun n (r : List Int)=>((n : Int),([] : List Int),([] : List Int),([] : List Qe),r,([] : List Qe))) (fun n r=>r = ((upto 32).take n).filter fun x=>decide (x ∈ a.Alphabet ∨ x ∈ al)) (fun n r=>some ([],[],[],Qci a.Alphabet al,[])) ?_ ?_ Qbl 0 _ (Nat.zero_le _) (by unfold Qbl; omega) (by simp))
  ·rintro k n r hn rfl ih
   dsimp only
   rw [if_pos (by omega),Qbdw hb1]
   have hrl : (((upto 32).take n).filter fun x=>decide (x ∈ a.Alphabet ∨ x ∈ al)).length ≤ 32:=Nat.le_trans (List.length_filter_le _ _) (by rw [List.length_take]; omega)
   have hn32 : n < (upto 32).length:=by rw [Qe0]; exact hn
   have hget : (upto 32)[n] = (n : Int):=Q6m hn
   simp only [Option.bind_some]
   have e : (if decide ((n : Int) ∈ a.Alphabet) = true then some true else (Qgg al (n : Int)).bind fun x15=>some x15) = some (decide ((n : Int) ∈ a.Alphabet ∨ (n : Int) ∈ al)):=by
    rw [Qbdw hb2]
    by_cases h1 : (n : Int) ∈ a.Alphabet <;> simp [h1]
   rw [e]
   simp only [Option.bind_some]
   rw [Q8 (by omega)]
   by_cases hx : (n : Int) ∈ a.Alphabet ∨ (n : Int) ∈ al
   ·rw [if_pos (by simpa using hx),Qb8 (by simp only [List.length_cons,List.length_nil]; unfold lim; omega)]
    simp only [Option.bind_some]
    refine ih _ ?_
    rw [List.take_succ_eq_append_getElem hn32,List.filter_append,hget]
    rw [List.filter_cons_of_pos (by simpa using hx)]; rfl
   ·rw [if_neg (by simpa using hx)]
    simp only [Option.bind_some]
    refine ih _ ?_
    rw [List.take_succ_eq_append_getElem hn32,List.filter_append,hget]
    rw [List.filter_cons_of_neg (by simpa using hx)]; simp
  ·rintro k r rfl
   dsimp only
   rw [if_neg (by decide),List.take_of_length_le (by rw [Qe0]; decide),hU]
 ·dsimp only
  have hrow : ∀ s,(Qgk a (Qci a.Alphabet al) s).length ≤ 32:=fun s=>by
   unfold Qgk
   rw [List.length_map]; exact Nat.le_trans (List.length_filter_le _ _) hul
  refine Qi1 (x:=invE a (Qci a.Alphabet al)) ?_ ?_
  ·refine (Qff (len:=a.States.toNat) (fun n (r : List Qe)=>((n : Int),r)) (fun n r=>r = ((upto a.States).take n).flatMap (Qgk a (Qci a.Alphabet al))) (fun n r=>some (invE a (Qci a.Alphabet al))) ?_ ?_ Qbl 0 _ (Nat.zero_le _) (by unfold Qbl; omega) (by simp))
   ·rintro k n r hn rfl ih
    dsimp only
    rw [if_pos (by omega)]
    have hrl:=Q6n (f:=Qgk a (Qci a.Alphabet al)) (m:=32) (l:=(upto a.States).take n) fun s _=>hrow s
    rw [List.length_take,Qe0] at hrl
    generalize hr0 : ((upto a.States).take n).flatMap (Qgk a (Qci a.Alphabet al)) = r0 at hrl
    refine Qi1 (x:=r0 ++ Qgk a (Qci a.Alphabet al) (n : Int)) ?_ ?_
    ·refine (Qff (len:=(Qci a.Alphabet al).length) (fun m (r : List Qe)=>((m : Int),r)) (fun m r=>r = r0 ++ Qgk a ((Qci a.Alphabet al).take m) (n : Int)) (fun m r=>some (r0 ++ Qgk a (Qci a.Alphabet al) (n : Int))) ?_ ?_ Qbl 0 _ (Nat.zero_le _) (by unfold Qbl; omega) (by simp [Qgk]))
     ·rintro k m r hm rfl ih
      dsimp only
      rw [if_pos (by omega),Qbw hm]
      simp only [Option.bind_some]
      rw [Qbdw hb1]
      simp only [Option.bind_some]
      have hfl : (Qgk a ((Qci a.Alphabet al).take m) (n : Int)).length ≤ 32:=by
       unfold Qgk
       rw [List.length_map]; exact Nat.le_trans (List.length_filter_le _ _) (by rw [List.length_take]; omega)
      have hstep : Qgk a ((Qci a.Alphabet al).take (m + 1)) (n : Int) = Qgk a ((Qci a.Alphabet al).take m) (n : Int) ++ Qgk a [(Qci a.Alphabet al)[m]] (n : Int):=by
       rw [List.take_succ_eq_append_getElem hm]
       unfold Qgk
       rw [List.filter_append,List.map_append]
      rw [Q8 (by omega)]
      generalize (Qci a.Alphabet al)[m] = e at hstep ⊢
      by_cases hx : e ∈ a.Alphabet
      ·simp only [hx,decide_true,if_true]
       rw [Q5p hsm.1]
       simp only [Option.bind_some]
       by_cases h0 : 0 ≤ Qdc a (n : Int) e
       ·rw [if_pos (by omega),Qb8 (by rw [List.length_append]; simp only [List.length_cons,List.length_nil]; unfold lim; omega)]
        simp only [Option.bind_some]
        refine ih _ ?_
        rw [hstep,List.append_assoc]
        congr 1; congr 1
        simp [Qgk,hx,h0]
       ·rw [if_neg (by omega)]
        simp only [Option.bind_some]
        refine ih _ ?_
        rw [hstep]
        simp [Qgk,hx,h0]
      ·simp only [hx,decide_false,Bool.false_eq_true,if_false,Option.bind_some]
       rw [if_pos (by omega),Qb8 (by rw [List.length_append]; simp only [List.length_cons,List.length_nil]; unfold lim; omega)]
       simp only [Option.bind_some]
       refine ih _ ?_
       rw [hstep,List.append_assoc]
       congr 1; congr 1
       simp [Qgk,hx]
     ·rintro k r rfl
      dsimp only
      rw [if_neg (by omega),List.take_length]
    ·rw [Q8 (by omega)]
     refine ih _ ?_
     rw [← hr0,List.take_succ_eq_append_getElem (by rw [Qe0]; omega),Q6m (by omega),List.flatMap_append]
     simp only [List.flatMap_cons,List.flatMap_nil,List.append_nil]
   ·rintro k r rfl
    dsimp only
    rw [if_neg (by omega),List.take_of_length_le (by rw [Qe0]; omega)]
    rfl
  ·rw [show (⟨Qci a.Alphabet al,a.States,a.Marked,invE a (Qci a.Alphabet al)⟩ : Qa) = invA a al from rfl,Q0d (Qnh h hal)]
   rfl
theorem Qbcw {m : Qa} (hm : Right m) {al : List Int} (hal : EvSet al) : ∃ l,Qcl (Qfg (invA (Qfg m) al)) (Qfg m).Alphabet = some (Qfg m,l,0):=by
 generalize ha : Qfg m = a
 have h : Right a:=by rw [← ha]; exact Qpy hm
 have hf : Qbs a = upto a.States:=by rw [← ha]; exact Qbdt hm
 have hb:=Qnh h hal
 have hfb : Qbs (invA a al) = upto (invA a al).States:=(Qbis h al).trans hf
 rw [Q8u hb hfb]
 have hev : EvSet a.Alphabet:=⟨h.al0,h.al⟩
 have hst:=h.st
 by_cases h0 : 0 < a.States
 ·have hr : Qbs (Qdr (invA a al) a.Alphabet) = upto (invA a al).States:=by
   rw [show (invA a al).States = a.States from rfl,← hf]
   exact Qbdv rfl (Qbfx (Q94 h al))
  rw [Qbcr hb (Qbfw al) hev h0 hr,Q8i h al,Q94 h al]
  exact ⟨_,rfl⟩
 ·obtain ⟨r,h1,h2⟩:=Q90 hb hev
  have e0 : (invA a al).States = 0:=by show a.States = 0; omega
  rw [if_pos e0] at h2
  rw [h1,h2,Q8i h al]
  refine ⟨[],?_⟩
  have hM : a.Marked = []:=by
   cases hM : a.Marked with
   | nil=>rfl
   | cons x t=>have:=h.ma0 x (by rw [hM]; simp); omega
  have hE : a.Edges = []:=by
   cases hE : a.Edges with
   | nil=>rfl
   | cons x t=>have:=h.ed0 x (by rw [hE]; simp); omega
  obtain ⟨al',st,ma,ed⟩:=a
  simp only at hM hE h0 hst
  subst hM hE
  rw [show st = 0 from by omega]
theorem Qbcx (s : Int) (g : Q4) (al : List Int) (hs : 0 ≤ s ∧ s < 256) (hg : Qbh7 g) : Qdk s g al = some true:=by
 unfold Qdk Qcq
 rw [Qbh8]
 simp only [Option.bind_some,if_true]
 by_cases hl : al.length ≤ 8
 ·rw [if_neg (by omega),Qbfk (by unfold big; omega)]
  simp only [Option.bind_some]
  by_cases he : Qdw 32 none al = 0
  ·have hal:=Qbij.1 he
   rw [he]
   simp only [show ((0 : Int) != 0) = false from rfl,Bool.false_eq_true,if_false]
   obtain ⟨ev,hE,hev⟩:=Qbh6 hs.1 hs.2
   obtain ⟨m,hm,_,hM,hm5⟩:=Qblg hev hg
   have ha:=Qpy hm
   have h5 : (Qfg m).States ≤ 5:=Int.le_trans (Qbfs hm).1 hm5
   rw [hE]
   simp only [Option.bind_some]
   rw [hM]
   simp only [Option.bind_some]
   rw [Qbf0 ha h5 hal]
   simp only [Option.bind_some]
   rw [Qba4 ha h5 hal]
   simp only [Option.bind_some]
   rw [Qbh9 (Qpy (Qnh ha hal)).small.1]
   simp only [Option.bind_some,decide_true,if_true,show ((0 : Int) != 0) = false from rfl,Bool.false_eq_true,if_false]
   obtain ⟨l,hback⟩:=Qbcw hm hal
   rw [hback]
   simp only [Option.bind_some]
   rw [if_pos (by decide),Qbh9 ha.small.1]
   simp
  ·rw [if_pos (by simp [he])]
 ·rw [if_pos (by omega)]
  simp
end Go.Abs
end
