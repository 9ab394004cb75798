/-
  Part 7 of the proof: see the last text.
-/
import Derived.Test.YtdfiohnppomfgaaGreatP6
import Derived.KernelRfl
set_option linter.unusedVariables false
set_option linter.unusedSimpArgs false
set_option linter.unusedSectionVars false
section
namespace Go.Abs
open Go
set_option linter.unusedSimpArgs false
set_option linter.unusedVariables false
theorem Right.small {a : Qb} (h : Right a) : small a ∧ a.Alphabet.length ≤ 32 ∧ a.Marked.length ≤ 4096 ∧ a.Edges.length ≤ 131072:=by
 have h1:=Qgs h.al h.al0
 have h2:=Qgs h.ma h.ma0
 have h3 : (a.Edges.map fun x=>x.From * 32 + x.Event).Pairwise (· < ·):=by
  rw [List.pairwise_map]
  refine List.Pairwise.imp_of_mem (fun {x y} hx hy hk=>?_) h.ed
  have:=h.al0 _ (h.ed0 x hx).2.2.2.2
  have:=h.al0 _ (h.ed0 y hy).2.2.2.2
  unfold Qkm at hk; omega
 have h4:=Qgs (a:=0) (b:=131072) h3 (by
  intro z hz
  obtain ⟨x,hx,rfl⟩:=List.mem_map.1 hz
  have:=h.al0 _ (h.ed0 x hx).2.2.2.2
  have:=h.ed0 x hx
  have:=h.st
  omega)
 rw [List.length_map] at h4
 have:=h.st
 refine ⟨⟨?_,?_,?_⟩,?_,?_,?_⟩ <;> (try unfold big) <;> omega
theorem Q7i {a : Qb} (h : Right a) : Qc9 a = some 0:=by rw [Qbin h.small.1,Qbgd.2 h]
theorem Qbez {a : Qb} (h : Right a) (s : Int) : Qe9 a s = some (if 0 ≤ s ∧ s < a.States then 0 else 2):=by
 unfold Qe9 Qb1
 rw [Q7i h]
 by_cases h1 : s < 0
 ·simp [h1]; omega
 ·by_cases h2 : s ≥ a.States
  ·simp [h1,h2]
  ·simp [h1,h2]
theorem Qbls {α β : Type} {l : List α} {f : α → Option β} {fuel : Nat} (hl : l.length < big) (hf : l.length < fuel) {F : (List β × Int → Option (List β)) → List β × Int → Option (List β)}
  (hF : ∀ (k : List β × Int → Option (List β)) (acc : List β) (n : Nat) (h : n < l.length),acc.length ≤ n → F k (acc,(n : Int)) = k (acc ++ (f l[n]).toList,IntKind.wrap .i64 ((n : Int) + 1)))
  (hlast : ∀ (k : List β × Int → Option (List β)) (acc : List β),F k (acc,(l.length : Int)) = some acc) : Qcb F fuel ([],0) = some (l.filterMap f):=by
 have hb : l.length < 1000000000000:=hl
 refine (Qgo (len:=l.length) (fun n (acc : List β)=>(acc,(n : Int))) (fun n acc=>acc.length ≤ n) (fun n acc=>some (acc ++ (l.drop n).filterMap f)) ?_ ?_ fuel 0 [] (Nat.zero_le _) (by omega) (Nat.le_refl _)).trans (by simp)
 ·intro k n acc hn hi ih
  have hlen : (f l[n]).toList.length ≤ 1:=by cases f l[n] <;> simp
  rw [hF k acc n hn hi,Qbj (by omega),ih _ (by simp only [List.length_append]; omega),List.drop_eq_getElem_cons hn]
  rw [List.filterMap_cons]
  cases f l[n] <;> simp only [Option.toList_none,Option.toList_some,List.append_nil,List.append_assoc,List.cons_append,List.nil_append]
 ·intro k acc _; rw [hlast]; simp
theorem Qbpo {l : List Int} {v : Int} (hl : l.length < big) : Qi7 l v = some (decide (v ∈ l)):=Qbim hl
end Go.Abs
end
section
namespace Go.Abs
open Go
set_option linter.unusedSimpArgs false
set_option linter.unusedVariables false
def ins (o : List Int) (t : Int) : List Int:=if t ∈ o then o else o ++ [t]
def Qts (a : Qb) (s : Int) : List Int:=(outP a s).map (·.To)
def bfs (a : Qb) : Nat → Nat → List Int → List Int
 | 0,_,o=>o
 | fuel + 1,i,o=>match o[i]? with
  | some s=>bfs a fuel (i + 1) ((Qts a s).foldl ins o)
  | none=>o
def Qmk (a : Qb) : List Int:=bfs a (a.States.toNat + 1) 0 (if 0 < a.States then [0] else [])
structure Fnd (a : Qb) (o : List Int) : Prop where
 nd : o.Nodup
 rg : ∀ s ∈ o,0 ≤ s ∧ s < a.States
theorem Fnd.len {a : Qb} {o : List Int} (h : Fnd a o) : o.length ≤ a.States.toNat:=by
 have hO : Go.Sort.SWO Qfa:=⟨fun x=>by simp [Qfa],fun x y z h1 h2=>by simp [Qfa] at *; omega,fun x y z h1 h2=>by simp [Qfa] at *; omega⟩
 have hp:=Qi5 Qfa o
 have hs:=Qkh hO o
 have hn : (Qh3 Qfa o).Nodup:=(hp.nodup_iff).2 h.nd
 have hlt : (Qh3 Qfa o).Pairwise (· < ·):=by
  have : (Qh3 Qfa o).Pairwise fun x y=>Qfa y x = false ∧ x ≠ y:=hs.and hn
  exact this.imp fun ⟨h1,h2⟩=>by simp [Qfa] at h1; omega
 have:=Qgs hlt (a:=0) (b:=a.States) fun x hx=>h.rg x (hp.mem_iff.1 hx)
 rw [Qkg] at this
 simpa using this
theorem Qbb6 {o : List Int} {t x : Int} : x ∈ ins o t ↔ x ∈ o ∨ x = t:=by
 unfold ins; split
 ·rename_i h; constructor
  ·exact .inl
  ·rintro (h' | rfl)
   ·exact h'
   ·exact h
 ·simp
theorem Qbor (o : List Int) (t : Int) : o <+: ins o t:=by
 unfold ins; split
 ·exact List.prefix_refl o
 ·exact List.prefix_append o [t]
theorem Fnd.ins {a : Qb} {o : List Int} (h : Fnd a o) {t : Int} (ht : 0 ≤ t ∧ t < a.States) : Fnd a (ins o t):=by
 refine ⟨?_,fun s hs=>?_⟩
 ·unfold Go.Abs.ins; split
  ·exact h.nd
  ·rename_i hn
   rw [List.nodup_append]
   exact ⟨h.nd,by simp,fun x hx y hy=>by simp at hy; subst hy; exact fun e=>hn (e ▸ hx)⟩
 ·rcases Qbb6.1 hs with hs | rfl
  ·exact h.rg s hs
  ·exact ht
theorem Q2k {a : Qb} : ∀ {ts o : List Int},Fnd a o → (∀ t ∈ ts,0 ≤ t ∧ t < a.States) → Fnd a (ts.foldl ins o) ∧ o <+: ts.foldl ins o ∧ (∀ t ∈ ts,t ∈ ts.foldl ins o) ∧ ∀ x ∈ ts.foldl ins o,x ∈ o ∨ x ∈ ts
 | [],o,h,_=>⟨h,List.prefix_refl o,by simp,fun x hx=>.inl hx⟩
 | t :: ts,o,h,ht=>by
  obtain ⟨h1,h2,h3,h4⟩:=Q2k (ts:=ts) (h.ins (ht t (by simp))) fun t ht'=>ht t (by simp [ht'])
  refine ⟨h1,(Qbor o t).trans h2,fun x hx=>?_,fun x hx=>?_⟩
  ·rcases List.mem_cons.1 hx with rfl | hx
   ·exact h2.subset (Qbb6.2 (.inr rfl))
   ·exact h3 x hx
  ·rcases h4 x hx with h5 | h5
   ·rcases Qbb6.1 h5 with h6 | rfl
    ·exact .inl h6
    ·exact .inr (by simp)
   ·exact .inr (by simp [h5])
theorem Q7j {a : Qb} (h : Right a) (s : Int) : ∀ t ∈ Qts a s,0 ≤ t ∧ t < a.States:=by
 intro t ht
 unfold Qts outP at ht
 obtain ⟨x,hx,rfl⟩:=List.mem_map.1 ht
 have:=h.ed0 x ((List.mem_filter.1 hx).1)
 omega
theorem Q9z {α : Type} {l m : List α} (h : l <+: m) {i : Nat} {x : α} (hx : l[i]? = some x) : m[i]? = some x:=by
 obtain ⟨t,rfl⟩:=h
 have:=(List.getElem?_eq_some_iff.1 hx).1
 rw [List.getElem?_append_left this]; exact hx
theorem Qbe0 {a : Qb} (h : Right a) : ∀ (fuel i : Nat) (o : List Int),Fnd a o → i ≤ o.length → a.States.toNat + 1 ≤ fuel + i → (∀ j s,j < i → o[j]? = some s → ∀ t ∈ Qts a s,t ∈ o) →
  Fnd a (bfs a fuel i o) ∧ o <+: bfs a fuel i o ∧ ∀ s ∈ bfs a fuel i o,∀ t ∈ Qts a s,t ∈ bfs a fuel i o
 | 0,i,o,hf,hi,hfu,_=>by have:=hf.len; omega
 | fuel + 1,i,o,hf,hi,hfu,hc=>by
  unfold bfs
  cases hg : o[i]? with
  | none =>
   dsimp only
   refine ⟨hf,List.prefix_refl o,fun s hs t ht=>?_⟩
   obtain ⟨j,hj⟩:=List.getElem?_of_mem hs
   have hlt:=(List.getElem?_eq_some_iff.1 hj).1
   exact hc j s (by have:=List.getElem?_eq_none_iff.1 hg; omega) hj t ht
  | some s =>
   dsimp only
   obtain ⟨h1,h2,h3,_⟩:=Q2k hf (Q7j h s)
   have hlen : i < o.length:=(List.getElem?_eq_some_iff.1 hg).1
   have hle:=h2.length_le
   obtain ⟨k1,k2,k3⟩:=Qbe0 h fuel (i + 1) ((Qts a s).foldl ins o) h1 (by omega) (by omega) (fun j s' hj hs' t ht=>by
    by_cases hji : j < i
    ·have hjl : j < o.length:=by omega
     have : o[j]? = some s':=by
      have:=Q9z h2 (List.getElem?_eq_getElem hjl)
      rw [hs'] at this; rw [List.getElem?_eq_getElem hjl]; exact this.symm
     exact h2.subset (hc j s' hji this t ht)
    ·obtain rfl : j = i:=by omega
     have:=Q9z h2 hg
     rw [hs'] at this; cases this
     exact h3 t ht)
   exact ⟨k1,h2.trans k2,k3⟩
theorem Q90 {a : Qb} (h : Right a) : Fnd a (Qmk a) ∧ (if 0 < a.States then [0] else []) <+: Qmk a ∧ ∀ s ∈ Qmk a,∀ t ∈ Qts a s,t ∈ Qmk a :=
 Qbe0 h _ 0 _ ⟨by split <;> simp,fun s hs=>by split at hs <;> simp at hs; subst hs; omega⟩ (Nat.zero_le _) (by omega) fun j s hj=>by omega
def Q5u (m : List Int) : Nat → List Int → List Int
 | _,[]=>[]
 | i,s :: t=>(if s ∈ m then [(i : Int)] else []) ++ Q5u m (i + 1) t
def rowP (a : Qb) (F : List Int) (i : Nat) (s : Int) : List Qe:=(outP a s).map fun x=>⟨(i : Int),x.Event,(F.idxOf x.To : Int)⟩
def Qtt (a : Qb) (F : List Int) : Nat → List Int → List Qe
 | _,[]=>[]
 | i,s :: t=>rowP a F i s ++ Qtt a F (i + 1) t
def Qqo (a : Qb) : Qb:=⟨a.Alphabet,((Qmk a).length : Int),Q5u a.Marked 0 (Qmk a),Qtt a (Qmk a) 0 (Qmk a)⟩
theorem Q2l {m : List Int} : ∀ {l : List Int} {i : Nat},∀ x ∈ Q5u m i l,(i : Int) ≤ x ∧ x < (i + l.length : Nat)
 | [],i,x,hx=>by simp [Q5u] at hx
 | s :: t,i,x,hx=>by
  simp only [Q5u,List.mem_append] at hx
  rcases hx with hx | hx
  ·split at hx <;> simp at hx
   subst hx; simp only [List.length_cons]; omega
  ·have:=Q2l x hx; simp only [List.length_cons]; omega
theorem Q8s {m : List Int} : ∀ {l : List Int} {i : Nat},(Q5u m i l).Pairwise (· < ·)
 | [],i=>.nil
 | s :: t,i=>by
  simp only [Q5u]
  rw [List.pairwise_append]
  refine ⟨by split <;> simp,Q8s,fun x hx y hy=>?_⟩
  have:=Q2l y hy
  split at hx <;> simp at hx
  omega
theorem Q7k {a : Qb} {F : List Int} : ∀ {l : List Int} {i : Nat},∀ x ∈ Qtt a F i l,(i : Int) ≤ x.From ∧ x.From < (i + l.length : Nat) ∧ ∃ s ∈ l,∃ y ∈ outP a s,x.Event = y.Event ∧ x.To = (F.idxOf y.To : Int)
 | [],i,x,hx=>by simp [Qtt] at hx
 | s :: t,i,x,hx=>by
  simp only [Qtt,List.mem_append] at hx
  rcases hx with hx | hx
  ·obtain ⟨y,hy,rfl⟩:=List.mem_map.1 hx
   simp only [List.length_cons]
   exact ⟨by omega,by omega,s,by simp,y,hy,rfl,rfl⟩
  ·obtain ⟨h1,h2,s',h3,h4⟩:=Q7k x hx
   simp only [List.length_cons]
   exact ⟨by omega,by omega,s',by simp [h3],h4⟩
theorem Q8t {a : Qb} (h : Right a) {F : List Int} : ∀ {l : List Int} {i : Nat},(Qtt a F i l).Pairwise Qkm
 | [],i=>.nil
 | s :: t,i=>by
  simp only [Qtt]
  rw [List.pairwise_append]
  refine ⟨?_,Q8t h,fun x hx y hy=>?_⟩
  ·unfold rowP
   rw [List.pairwise_map]
   have h1 : (outP a s).Pairwise Qkm:=h.ed.filter _
   have h2 : ∀ x ∈ outP a s,x.From = s:=fun x hx=>by unfold outP at hx; simp at hx; exact hx.2
   exact List.Pairwise.imp_of_mem (fun {x y} hx hy hk=>by have:=h2 x hx; have:=h2 y hy; unfold Qkm at hk; exact .inr ⟨rfl,by show x.Event < y.Event; omega⟩) h1
  ·obtain ⟨z,_,rfl⟩:=List.mem_map.1 hx
   have:=(Q7k y hy).1
   unfold Qkm; simp only; omega
theorem Qbgf {a : Qb} (h : Right a) : Right (Qqo a):=by
 obtain ⟨h1,h2,h3⟩:=Q90 h
 have hl:=h1.len
 have hst:=h.st
 refine ⟨h.al0,h.al,⟨by simp only [Qqo]; omega,by simp only [Qqo]; omega⟩,fun x hx=>?_,Q8s,fun x hx=>?_,Q8t h⟩
 ·have:=Q2l x hx; simp only [Qqo]; omega
 ·obtain ⟨k1,k2,s,hs,y,hy,k3,k4⟩:=Q7k x hx
  have hy' : y.To ∈ Qmk a:=h3 s hs y.To (List.mem_map.2 ⟨y,hy,rfl⟩)
  have:=List.idxOf_lt_length_iff.2 hy'
  simp only [Qqo]
  refine ⟨by omega,by omega,by omega,by omega,?_⟩
  rw [k3]
  unfold outP at hy
  exact (h.ed0 y ((List.mem_filter.1 hy).1)).2.2.2.2
end Go.Abs
end
section
namespace Go.Abs
open Go
set_option linter.unusedSimpArgs false
set_option linter.unusedVariables false
theorem Qbio {l : List Int} (hl : l.length ≤ lim) : Qee l = some ⟨l,0,[],[]⟩:=by
 unfold Qee Q6
 rw [Qdc (by simpa using hl)]; rfl
theorem Qbhk {l : List Int} {v : Int} (hl : l.length < big) : Qef l v = some (if v ∈ l then (l.idxOf v : Int) else -1):=by
 have hb : l.length < 1000000000000:=hl
 unfold Qef Qb5
 refine (Qmj (len:=l.length) (fun k=>some (if v ∈ l.drop k then ((k + (l.drop k).idxOf v : Nat) : Int) else -1)) (by unfold Qbq; omega) ?_ ?_).trans (by simp)
 ·intro k i hi ih
  rw [if_pos (by omega),Qb6 hi,Qbj (by omega),ih,List.drop_eq_getElem_cons hi]
  simp only [Option.bind_some,List.mem_cons,List.idxOf_cons]
  by_cases h : v = l[i]
  ·simp [← h]
  ·have h' : ¬ l[i] = v:=fun e=>h e.symm
   have hbq : (l[i] == v) = false:=by simp [h']
   by_cases h2 : v ∈ l.drop (i + 1) <;> simp [h,h2,hbq]
   omega
 ·intro k; simp
theorem Qbad {a : Qb} (h : Right a) (s : Int) : Qts a s = (a.Alphabet.filter fun e=>decide (0 ≤ Qfg a s e)).map (Qfg a s):=by
 rw [← Qxm h,List.map_map]
 unfold Qts
 exact List.map_congr_left fun x hx=>(Q2j h hx).symm
theorem Qbdq {a : Qb} (s : Int) : ∀ (al o : List Int),al.foldl (fun o e=>if 0 ≤ Qfg a s e then ins o (Qfg a s e) else o) o = ((al.filter fun e=>decide (0 ≤ Qfg a s e)).map (Qfg a s)).foldl ins o
 | [],o=>rfl
 | e :: al,o=>by
  by_cases hx : 0 ≤ Qfg a s e <;> simp [List.filter_cons,hx,Qbdq s al]
theorem Qbip {a : Qb} {fuel i : Nat} {o : List Int} (hi : i < o.length) : bfs a (fuel + 1) i o = bfs a fuel (i + 1) ((Qts a o[i]).foldl ins o):=by
 conv=>lhs; unfold bfs
 rw [List.getElem?_eq_getElem hi]
theorem Qblt {a : Qb} {fuel : Nat} {o : List Int} : bfs a fuel o.length o = o:=by
 cases fuel with
 | zero=>rfl
 | succ n=>unfold bfs; simp
section
variable {a : Qb} (h : Right a)
include h
theorem Qbjj (fuel : Nat) (hfu : 1099511627776 ≤ fuel) {s : Int} {o : List Int} {i : Nat} (hf : Fnd a o) (hi : o[i]? = some s) :
  Qcb (fun k12 ((out10,k11) : (List Int) × Int)=>(if (k11 < (a.Alphabet.length : Int)) then ((((getO out10 (i : Int)).bind fun x14=>((getO a.Alphabet k11).bind fun x16=>((Qb9 a x14 x16).bind fun x19=>(((if (x19 ≥ 0) then ((Qc2 out10 x19).bind fun x22=>some (!x22)) else some false)).bind fun (x23 : Bool)=>(if x23 then ((appO out10 [x19]).bind fun x25=>some x25) else some out10)))))).bind fun (out27 : List Int)=>k12 (out27,(IntKind.wrap .i64 (k11 + 1)))) else some out10)) fuel (o,0) = some ((Qts a s).foldl ins o):=by
 have hs:=h.small.1
 have hst:=h.st
 have hb : a.Alphabet.length < 1000000000000:=hs.1
 rw [Qbad h,← Qbdq]
 refine (Qgo (len:=a.Alphabet.length) (fun n (acc : List Int)=>(acc,(n : Int))) (fun n acc=>Fnd a acc ∧ acc[i]? = some s) (fun n acc=>some ((a.Alphabet.drop n).foldl (fun o e=>if 0 ≤ Qfg a s e then ins o (Qfg a s e) else o) acc)) ?_ ?_ fuel 0 o (Nat.zero_le _) (by omega) ⟨hf,hi⟩).trans (by simp)
 ·intro k n acc hn ⟨k1,k2⟩ ih
  have hlen:=k1.len
  have hg : getO acc (i : Int) = some s:=by rw [Qkl]; exact ⟨by omega,by simpa using k2⟩
  dsimp only
  rw [if_pos (by omega),hg,Qb6 hn]
  simp only [Option.bind_some]
  rw [Qbdp hs,Qbj (by omega)]
  simp only [Option.bind_some]
  rw [Qbim (by unfold big; omega),List.drop_eq_getElem_cons hn,List.foldl_cons]
  rcases Q7h h s a.Alphabet[n] with hr | hr
  ·rw [hr]; simp only [show ¬ ((-1 : Int) ≥ 0) from by omega,show ¬ ((0 : Int) ≤ -1) from by omega,if_false,Option.bind_some,Bool.false_eq_true]
   exact ih _ ⟨k1,k2⟩
  ·have hge : Qfg a s a.Alphabet[n] ≥ 0:=hr.1
   by_cases hm : Qfg a s a.Alphabet[n] ∈ acc
   ·simp only [hge,hm,decide_true,Bool.not_true,if_true,Option.bind_some,Bool.false_eq_true,if_false,hr.1,ins]
    exact ih _ ⟨k1,k2⟩
   ·simp only [hge,hm,decide_false,Bool.not_false,if_true,Option.bind_some,hr.1,ins,if_false]
    rw [Qdc (by simp only [List.length_cons,List.length_nil]; unfold lim; omega)]
    simp only [Option.bind_some]
    have hi':=k1.ins (t:=Qfg a s a.Alphabet[n]) ⟨hr.1,hr.2.1⟩
    unfold ins at hi'
    rw [if_neg hm] at hi'
    exact ih _ ⟨hi',Q9z (List.prefix_append acc _) k2⟩
 ·intro k acc _
  dsimp only
  rw [if_neg (by omega)]; simp
theorem Qbhl : Qfk a = some (Qmk a):=by
 have hs:=h.small.1
 have hst:=h.st
 unfold Qfk Qb4
 obtain ⟨fuel,hfu,hge⟩ : ∃ f,Qbq = f ∧ 1099511627776 ≤ f:=⟨_,rfl,Nat.le_refl _⟩
 rw [hfu]
 have hloop : ∀ o : List Int,Fnd a o → Qcb (fun (k8 : List Int × Int → Option (List Int)) ((out6,i7) : (List Int) × Int)=>(if (i7 < (out6.length : Int)) then ((Qcb (fun k12 ((out10,k11) : (List Int) × Int)=>(if (k11 < (a.Alphabet.length : Int)) then ((((getO out10 i7).bind fun x14=>((getO a.Alphabet k11).bind fun x16=>((Qb9 a x14 x16).bind fun x19=>(((if (x19 ≥ 0) then ((Qc2 out10 x19).bind fun x22=>some (!x22)) else some false)).bind fun (x23 : Bool)=>(if x23 then ((appO out10 [x19]).bind fun x25=>some x25) else some out10)))))).bind fun (out27 : List Int)=>k12 (out27,(IntKind.wrap .i64 (k11 + 1)))) else some out10)) fuel (out6,0)).bind fun (out28 : List Int)=>k8 (out28,(IntKind.wrap .i64 (i7 + 1)))) else some out6)) fuel (o,0) = some (bfs a (a.States.toNat + 1) 0 o):=by
  intro o ho
  have:=Qey (F:=fun (k8 : List Int × Int → Option (List Int)) ((out6,i7) : (List Int) × Int)=>(if (i7 < (out6.length : Int)) then ((Qcb (fun k12 ((out10,k11) : (List Int) × Int)=>(if (k11 < (a.Alphabet.length : Int)) then ((((getO out10 i7).bind fun x14=>((getO a.Alphabet k11).bind fun x16=>((Qb9 a x14 x16).bind fun x19=>(((if (x19 ≥ 0) then ((Qc2 out10 x19).bind fun x22=>some (!x22)) else some false)).bind fun (x23 : Bool)=>(if x23 then ((appO out10 [x19]).bind fun x25=>some x25) else some out10)))))).bind fun (out27 : List Int)=>k12 (out27,(IntKind.wrap .i64 (k11 + 1)))) else some out10)) fuel (out6,0)).bind fun (out28 : List Int)=>k8 (out28,(IntKind.wrap .i64 (i7 + 1)))) else some out6))
   (fun x=>∃ i : Nat,x.2 = (i : Int) ∧ i ≤ x.1.length ∧ Fnd a x.1) (fun x=>a.States.toNat + 1 - x.2.toNat) (fun x r=>r = some (bfs a (a.States.toNat + 1 - x.2.toNat) x.2.toNat x.1)) (by
    rintro k ⟨o,i⟩ ⟨i,rfl,hi,hf⟩ ih
    replace hi : i ≤ o.length:=hi
    replace hf : Fnd a o:=hf
    have hl:=hf.len
    dsimp only
    by_cases hlt : i < o.length
    ·rw [if_pos (by omega),Qbjj h fuel hge hf (List.getElem?_eq_getElem hlt),Option.bind_some,Qbj (by omega)]
     obtain ⟨q1,q2,_,_⟩:=Q2k hf (Q7j h o[i])
     have hle:=q2.length_le
     rw [ih _ ⟨i + 1,rfl,by simp only; omega,q1⟩ (by simp only; omega)]
     simp only [Int.toNat_natCast]
     rw [show a.States.toNat + 1 - i = (a.States.toNat + 1 - (i + 1)) + 1 from by omega,Qbip hlt]
    ·rw [if_neg (by omega)]
     obtain rfl : i = o.length:=by omega
     simp only [Int.toNat_natCast,Qblt]) fuel (o,0) ⟨0,rfl,Nat.zero_le _,ho⟩ (by simp only; omega)
  simpa using this
 by_cases h0 : 0 < a.States
 ·rw [if_pos (by omega),Qdc (by simp only [List.length_cons,List.length_nil]; unfold lim; omega)]
  simp only [Option.bind_some]
  rw [show ([] ++ [0] : List Int) = [0] from rfl,hloop [0] ⟨by simp,fun s hs=>by simp at hs; subst hs; omega⟩]
  simp only [Option.bind_some,Qmk,if_pos h0]
 ·rw [if_neg (by omega)]
  simp only [Option.bind_some]
  rw [hloop [] ⟨by simp,fun s hs=>by simp at hs⟩]
  simp only [Option.bind_some,Qmk,if_neg h0]
theorem Qbdr (fuel : Nat) (hfu : 1099511627776 ≤ fuel) {F : List Int} (hF : Fnd a F) (hcl : ∀ s ∈ F,∀ t ∈ Qts a s,t ∈ F) {s : Int} {i : Nat} (hi : F[i]? = some s) (ms : List Int) (es : List Qe) (hes : es.length ≤ 200000) :
  Qcb (fun (k24 : Int × List Qe → Option (List Int × List Qe)) ((k22,out23) : Int × (List Qe))=>(if (k22 < (a.Alphabet.length : Int)) then ((((getO F (i : Int)).bind fun x26=>((getO a.Alphabet k22).bind fun x28=>((Qb9 a x26 x28).bind fun x31=>(if (x31 ≥ 0) then ((getO a.Alphabet k22).bind fun x33=>((Qef F x31).bind fun x36=>((appO out23 [(Qe.mk (i : Int) x33 x36)]).bind fun x37=>some x37))) else some out23))))).bind fun (out39 : List Qe)=>k24 ((IntKind.wrap .i64 (k22 + 1)),out39)) else some (ms,out23))) fuel (0,es) = some (ms,es ++ rowP a F i s):=by
 have hs:=h.small.1
 have hst:=h.st
 have hal:=h.small.2.1
 have hb : a.Alphabet.length < 1000000000000:=hs.1
 have hFl:=hF.len
 have hrow : rowP a F i s = (a.Alphabet.filter fun e=>decide (0 ≤ Qfg a s e)).map fun e=>⟨(i : Int),e,(F.idxOf (Qfg a s e) : Int)⟩:=by
  rw [← Qxm h,List.map_map]
  unfold rowP
  exact List.map_congr_left fun x hx=>by simp only [Function.comp]; rw [Q2j h hx]
 rw [hrow]
 refine (Qgo (len:=a.Alphabet.length) (fun n (acc : List Qe)=>((n : Int),acc)) (fun n acc=>acc.length ≤ 200000 + n) (fun n acc=>some (ms,acc ++ ((a.Alphabet.drop n).filter fun e=>decide (0 ≤ Qfg a s e)).map fun e=>⟨(i : Int),e,(F.idxOf (Qfg a s e) : Int)⟩)) ?_ ?_ fuel 0 es (Nat.zero_le _) (by omega) (by omega)).trans (by simp)
 ·intro k n acc hn k1 ih
  have hg : getO F (i : Int) = some s:=by rw [Qkl]; exact ⟨by omega,by simpa using hi⟩
  dsimp only
  rw [if_pos (by omega),hg,Qb6 hn]
  simp only [Option.bind_some]
  rw [Qbdp hs,Qbj (by omega)]
  simp only [Option.bind_some]
  rw [List.drop_eq_getElem_cons hn,List.filter_cons]
  by_cases hr : 0 ≤ Qfg a s a.Alphabet[n]
  ·have hm : Qfg a s a.Alphabet[n] ∈ F:=hcl s (List.mem_of_getElem? hi) _ (by rw [Qbad h]; exact List.mem_map.2 ⟨_,List.mem_filter.2 ⟨List.getElem_mem hn,by simpa using hr⟩,rfl⟩)
   rw [if_pos hr,Qbhk (by unfold big; omega),if_pos hm]
   simp only [Option.bind_some]
   rw [Qdc (by simp only [List.length_cons,List.length_nil]; unfold lim; omega)]
   simp only [Option.bind_some]
   rw [ih _ (by simp only [List.length_append,List.length_cons,List.length_nil]; omega)]
   simp only [hr,decide_true,if_true,List.map_cons,List.append_assoc,List.cons_append,List.nil_append]
  ·rw [if_neg (by omega)]
   simp only [Option.bind_some]
   rw [ih _ (by omega)]
   simp only [hr,decide_false,Bool.false_eq_true,if_false]
 ·intro k acc _
  dsimp only
  rw [if_neg (by omega)]; simp
theorem Qbm3 {F : List Int} {i : Nat} {s : Int} : (rowP a F i s).length ≤ 32:=by
 have:=h.small.2.1
 have h1 : (rowP a F i s).length = ((outP a s).map (·.Event)).length:=by simp [rowP]
 rw [h1,Qxm h]
 exact Nat.le_trans (List.length_filter_le _ _) this
theorem Qbb7 : Qd8 a = some (Qqo a):=by
 have hs:=h.small.1
 have hst:=h.st
 have hal:=h.small.2.1
 have hb : a.Alphabet.length < 1000000000000:=hs.1
 obtain ⟨hF,_,hcl⟩:=Q90 h
 have hFl:=hF.len
 unfold Qd8 Qbo
 obtain ⟨fuel,hfu,hge⟩ : ∃ f,Qbq = f ∧ 1099511627776 ≤ f:=⟨_,rfl,Nat.le_refl _⟩
 rw [hfu,Qbhl h,Option.bind_some,Qbio (by unfold lim; omega),Option.bind_some]
 unfold Qqo
 generalize Qmk a = F at hF hcl hFl
 show Option.bind (Qcb _ fuel (((0 : Nat) : Int),[],[],[],[],[])) _ = _
 rw [Qgo (len:=F.length) (R:=List Int × List Int × List Qe × List Int × List Qe) (fun n (acc : List Int × List Qe)=>((n : Int),([] : List Int),([] : List Int),([] : List Qe),acc.1,acc.2)) (fun n acc=>acc.1.length ≤ n ∧ acc.2.length ≤ 32 * n)
  (fun n acc=>some (([] : List Int),([] : List Int),([] : List Qe),acc.1 ++ Q5u a.Marked n (F.drop n),acc.2 ++ Qtt a F n (F.drop n))) ?_ ?_ fuel 0 ([],[]) (Nat.zero_le _) (by omega) ⟨Nat.zero_le _,Nat.zero_le _⟩]
 ·simp
 ·rintro k n ⟨ms,es⟩ hn ⟨k1,k2⟩ ih
  replace k1 : ms.length ≤ n:=k1
  replace k2 : es.length ≤ 32 * n:=k2
  have hg:=List.getElem?_eq_getElem hn
  dsimp only
  rw [if_pos (by omega),Qb6 hn]
  simp only [Option.bind_some]
  rw [Qbim hs.2.1]
  simp only [Option.bind_some]
  have hrl:=Qbm3 h (F:=F) (i:=n) (s:=F[n])
  rw [List.drop_eq_getElem_cons hn]
  simp only [Q5u,Qtt]
  by_cases hm : F[n] ∈ a.Marked
  ·simp only [hm,decide_true,if_true]
   rw [Qdc (by simp only [List.length_cons,List.length_nil]; unfold lim; omega)]
   simp only [Option.bind_some]
   have:=Qbdr h fuel hge hF hcl hg (ms ++ [(n : Int)]) es (by omega)
   rw [Qb6 hn] at this
   simp only [Option.bind_some] at this
   rw [this]
   simp only [Option.bind_some]
   rw [Qbj (by omega),ih (ms ++ [(n : Int)],es ++ rowP a F n F[n]) ⟨by simp only [List.length_append,List.length_cons,List.length_nil]; omega,by simp only [List.length_append]; omega⟩]
   simp only [List.append_assoc]
  ·simp only [hm,decide_false,Bool.false_eq_true,if_false,Option.bind_some]
   have:=Qbdr h fuel hge hF hcl hg ms es (by omega)
   rw [Qb6 hn] at this
   simp only [Option.bind_some] at this
   rw [this]
   simp only [Option.bind_some]
   rw [Qbj (by omega),ih (ms,es ++ rowP a F n F[n]) ⟨by simp only; omega,by simp only [List.length_append]; omega⟩]
   simp only [List.append_assoc,List.nil_append]
 ·rintro k ⟨ms,es⟩ _
  dsimp only
  rw [if_neg (by omega)]
  simp [Q5u,Qtt]
end
end Go.Abs
end
section
namespace Go.Abs
open Go
set_option linter.unusedSimpArgs false
set_option linter.unusedVariables false
structure Evs (l : List Int) : Prop where
 rg : ∀ x ∈ l,0 ≤ x ∧ x < 5
 so : l.Pairwise (· < ·)
theorem Evs.len {l : List Int} (h : Evs l) : l.length ≤ 5:=by have:=Qgs h.so h.rg; simpa using this
def Qbm4 : List Int → Bool
 | []=>true
 | x :: xs=>xs.all (fun y=>decide (x < y)) && Qbm4 xs
theorem Qbgg : ∀ {l : List Int},Qbm4 l = true → l.Pairwise (· < ·)
 | [],_=>.nil
 | x :: xs,h=>by
  simp only [Qbm4,Bool.and_eq_true,List.all_eq_true,decide_eq_true_eq] at h
  exact List.pairwise_cons.2 ⟨h.1,Qbgg h.2⟩
def evB (s : Nat) : Bool:=match Qd1 (s : Int) with
 | some l=>Qbm4 l && l.all fun x=>decide (0 ≤ x) && decide (x < 5)
 | none=>false
theorem Qbos : (List.range 256).all evB = true:=by kernel_rfl
theorem Qbgh {s : Int} (h0 : 0 ≤ s) (h1 : s < 256) : ∃ l,Qd1 s = some l ∧ Evs l:=by
 have:=List.all_eq_true.1 Qbos s.toNat (List.mem_range.2 (by omega))
 unfold evB at this
 rw [show ((s.toNat : Nat) : Int) = s from by omega] at this
 split at this
 ·rename_i l hl
  simp only [Bool.and_eq_true,List.all_eq_true,decide_eq_true_eq] at this
  exact ⟨l,hl,fun x hx=>this.2 x hx,Qbgg this.1⟩
 ·cases this
structure Mks (n : Nat) (ms : List Int) : Prop where
 rg : ∀ x ∈ ms,0 ≤ x ∧ x < n
 so : ms.Pairwise (· < ·)
structure Eds (al : List Int) (N : Int) (i k : Nat) (es : List Qe) : Prop where
 rg : ∀ x ∈ es,0 ≤ x.From ∧ 0 ≤ x.To ∧ x.To < N ∧ x.Event ∈ al ∧ (x.From < i ∨ x.From = i ∧ ∃ j : Nat,j < k ∧ al[j]? = some x.Event)
 so : es.Pairwise Qkm
 ln : es.length ≤ 5 * i + k
theorem Mks.up {n : Nat} {ms : List Int} (h : Mks n ms) : Mks (n + 1) ms:=⟨fun x hx=>by have:=h.rg x hx; omega,h.so⟩
theorem Mks.add {n : Nat} {ms : List Int} (h : Mks n ms) : Mks (n + 1) (ms ++ [(n : Int)]):=by
 refine ⟨fun x hx=>?_,?_⟩
 ·rcases List.mem_append.1 hx with hx | hx
  ·have:=h.rg x hx; omega
  ·simp at hx; omega
 ·rw [List.pairwise_append]
  exact ⟨h.so,by simp,fun x hx y hy=>by simp at hy; have:=h.rg x hx; omega⟩
theorem Mks.len {n : Nat} {ms : List Int} (h : Mks n ms) : ms.length ≤ n:=by have:=Qgs h.so h.rg; simpa using this
section
variable {al : List Int} (hal : Evs al) {N : Int} {i k : Nat} {es : List Qe}
theorem Eds.up (h : Eds al N i k es) : Eds al N i (k + 1) es:=⟨fun x hx=>by
 obtain ⟨h1,h2,h3,h4,h5⟩:=h.rg x hx
 refine ⟨h1,h2,h3,h4,?_⟩
 rcases h5 with h5 | ⟨h5,j,h6,h7⟩
 ·exact .inl h5
 ·exact .inr ⟨h5,j,by omega,h7⟩,h.so,by have:=h.ln; omega⟩
theorem Eds.next (h : Eds al N i k es) (hk : k ≤ 5) : Eds al N (i + 1) 0 es:=⟨fun x hx=>by
 obtain ⟨h1,h2,h3,h4,h5⟩:=h.rg x hx
 exact ⟨h1,h2,h3,h4,.inl (by rcases h5 with h5 | ⟨h5,_⟩ <;> omega)⟩,h.so,by have:=h.ln; omega⟩
include hal in
theorem Eds.add (h : Eds al N i k es) (hk : k < al.length) {t : Int} (ht : 0 ≤ t ∧ t < N) : Eds al N i (k + 1) (es ++ [⟨(i : Int),al[k],t⟩]):=by
 refine ⟨fun x hx=>?_,?_,by have:=h.ln; simp only [List.length_append,List.length_cons,List.length_nil]; omega⟩
 ·rcases List.mem_append.1 hx with hx | hx
  ·exact h.up.rg x hx
  ·simp at hx; subst hx
   exact ⟨by simp only; omega,ht.1,ht.2,List.getElem_mem hk,.inr ⟨rfl,k,by omega,List.getElem?_eq_getElem hk⟩⟩
 ·rw [List.pairwise_append]
  refine ⟨h.so,by simp,fun x hx y hy=>?_⟩
  simp at hy; subst hy
  obtain ⟨_,_,_,_,h5⟩:=h.rg x hx
  rcases h5 with h5 | ⟨h5,j,h6,h7⟩
  ·exact .inl h5
  ·refine .inr ⟨h5,?_⟩
   obtain ⟨h8,h9⟩:=List.getElem?_eq_some_iff.1 h7
   rw [← h9]
   exact List.pairwise_iff_getElem.1 hal.so j k h8 hk h6
end
structure Qblu (g : Qba) : Prop where
 st : 0 ≤ g.States ∧ g.States < 256
 to : ∀ x ∈ [g.To.1.1,g.To.1.2.1,g.To.1.2.2.1,g.To.1.2.2.2.1,g.To.1.2.2.2.2,g.To.2.1.1,g.To.2.1.2.1,g.To.2.1.2.2.1,g.To.2.1.2.2.2.1,g.To.2.1.2.2.2.2,g.To.2.2.1.1,g.To.2.2.1.2.1,g.To.2.2.1.2.2.1,g.To.2.2.1.2.2.2.1,g.To.2.2.1.2.2.2.2,g.To.2.2.2.1.1,g.To.2.2.2.1.2.1,g.To.2.2.2.1.2.2.1,g.To.2.2.2.1.2.2.2.1,g.To.2.2.2.1.2.2.2.2,g.To.2.2.2.2.1,g.To.2.2.2.2.2.1,g.To.2.2.2.2.2.2.1,g.To.2.2.2.2.2.2.2.1,g.To.2.2.2.2.2.2.2.2],0 ≤ x ∧ x < 256
theorem Qbiq {al : List Int} (hal : Evs al) (fuel : Nat) (hfu : 1099511627776 ≤ fuel) {L : List Int} (hL : L.length = 25) (hL2 : ∀ x ∈ L,0 ≤ x ∧ x < 256) {N : Int} (hN : 1 ≤ N ∧ N ≤ 5) {i : Nat} (hi : (i : Int) < N) {ms : List Int} {es : List Qe} (hes : Eds al N i 0 es) :
  ∃ es',Eds al N (i + 1) 0 es' ∧ Qcb (fun (k25 : Int × List Qe → Option (List Int × List Qe)) ((k23,a24) : Int × (List Qe))=>(((if (k23 < (al.length : Int)) then some (decide (k23 < 5)) else some false)).bind fun (x27 : Bool)=>(if x27 then ((((inO 5 (i : Int)).bind fun _=>((inO 5 k23).bind fun _=>((rowO L (Int.toNat (i : Int) * 5 + Int.toNat k23 * 1)).bind fun x31=>((remO .i64 (IntKind.wrap .i64 x31) (IntKind.wrap .i64 (N + 2))).bind fun s33=>(if (s33 < N) then ((getO al k23).bind fun x36=>((appO a24 [(Qe.mk (i : Int) x36 s33)]).bind fun x38=>some x38)) else some a24)))))).bind fun (a40 : List Qe)=>k25 ((IntKind.wrap .i64 (k23 + 1)),a40)) else some (ms,a24)))) fuel (0,es) = some (ms,es'):=by
 have hl:=hal.len
 have:=Qey (F:=fun (k25 : Int × List Qe → Option (List Int × List Qe)) ((k23,a24) : Int × (List Qe))=>(((if (k23 < (al.length : Int)) then some (decide (k23 < 5)) else some false)).bind fun (x27 : Bool)=>(if x27 then ((((inO 5 (i : Int)).bind fun _=>((inO 5 k23).bind fun _=>((rowO L (Int.toNat (i : Int) * 5 + Int.toNat k23 * 1)).bind fun x31=>((remO .i64 (IntKind.wrap .i64 x31) (IntKind.wrap .i64 (N + 2))).bind fun s33=>(if (s33 < N) then ((getO al k23).bind fun x36=>((appO a24 [(Qe.mk (i : Int) x36 s33)]).bind fun x38=>some x38)) else some a24)))))).bind fun (a40 : List Qe)=>k25 ((IntKind.wrap .i64 (k23 + 1)),a40)) else some (ms,a24))))
  (fun x=>∃ k : Nat,x.1 = (k : Int) ∧ k ≤ al.length ∧ Eds al N i k x.2) (fun x=>al.length - x.1.toNat) (fun _ r=>∃ es',r = some (ms,es') ∧ Eds al N (i + 1) 0 es') (by
   rintro kk ⟨k,es⟩ ⟨k,rfl,hk,he⟩ ih
   replace he : Eds al N i k es:=he
   replace hk : k ≤ al.length:=hk
   dsimp only
   by_cases hlt : k < al.length
   ·rw [if_pos (by omega)]
    simp only [Option.bind_some,show decide ((k : Int) < 5) = true from by simp; omega,if_true]
    rw [show inO 5 (i : Int) = some () from by unfold inO; rw [if_pos (by omega)],show inO 5 (k : Int) = some () from by unfold inO; rw [if_pos (by omega)]]
    simp only [Option.bind_some,Int.toNat_natCast]
    have hidx : i * 5 + k * 1 < L.length:=by omega
    have hx:=hL2 _ (List.getElem_mem hidx)
    rw [show rowO L (i * 5 + k * 1) = some L[i * 5 + k * 1] from by unfold rowO; exact List.getElem?_eq_getElem hidx]
    simp only [Option.bind_some]
    rw [Qrr (x:=L[i * 5 + k * 1]) (by omega) (by omega),Qrr (x:=N + 2) (by omega) (by omega),show remO .i64 L[i * 5 + k * 1] (N + 2) = some (L[i * 5 + k * 1].tmod (N + 2)) from by unfold remO; rw [if_neg (by omega)]]
    simp only [Option.bind_some]
    have hmod : 0 ≤ L[i * 5 + k * 1].tmod (N + 2):=Int.tmod_nonneg _ hx.1
    have hln:=he.ln
    by_cases hm : L[i * 5 + k * 1].tmod (N + 2) < N
    ·rw [if_pos hm,Qb6 hlt]
     simp only [Option.bind_some]
     rw [Qdc (by simp only [List.length_cons,List.length_nil]; unfold lim; omega)]
     simp only [Option.bind_some]
     rw [Qbj (by omega)]
     exact ih _ ⟨k + 1,rfl,hlt,he.add hal hlt ⟨hmod,hm⟩⟩ (by simp only; omega)
    ·rw [if_neg hm]
     simp only [Option.bind_some]
     rw [Qbj (by omega)]
     exact ih _ ⟨k + 1,rfl,hlt,he.up⟩ (by simp only; omega)
   ·rw [if_neg (by omega)]
    exact ⟨es,rfl,he.next (by omega)⟩) fuel (0,es) ⟨0,rfl,Nat.zero_le _,hes⟩ (by simp only; omega)
 obtain ⟨es',h1,h2⟩:=this
 exact ⟨es',h2,h1⟩
theorem Qbhm {al : List Int} (hal : Evs al) : Right ⟨al,0,[],[]⟩ :=
 ⟨fun x hx=>by have:=hal.rg x hx; omega,hal.so,⟨by simp,by simp⟩,by simp,.nil,by simp,.nil⟩
theorem Qbot {al : List Int} (hal : Evs al) {g : Qba} (hg : Qblu g) : ∃ m,Right m ∧ m.Alphabet = al ∧ Qf1 al g = some (Qqo m) ∧ m.States ≤ 5:=by
 have hl:=hal.len
 obtain ⟨hst,hto⟩:=hg
 unfold Qf1 Qb8
 obtain ⟨fuel,hfu,hge⟩ : ∃ f,Qbq = f ∧ 1099511627776 ≤ f:=⟨_,rfl,Nat.le_refl _⟩
 rw [hfu,Qbio (by unfold lim; omega)]
 simp only [Option.bind_some]
 by_cases h250 : g.States ≥ 250
 ·rw [if_pos h250]
  exact ⟨⟨al,0,[],[]⟩,Qbhm hal,rfl,rfl,by simp⟩
 rw [if_neg h250]
 have hL : [g.To.1.1,g.To.1.2.1,g.To.1.2.2.1,g.To.1.2.2.2.1,g.To.1.2.2.2.2,g.To.2.1.1,g.To.2.1.2.1,g.To.2.1.2.2.1,g.To.2.1.2.2.2.1,g.To.2.1.2.2.2.2,g.To.2.2.1.1,g.To.2.2.1.2.1,g.To.2.2.1.2.2.1,g.To.2.2.1.2.2.2.1,g.To.2.2.1.2.2.2.2,g.To.2.2.2.1.1,g.To.2.2.2.1.2.1,g.To.2.2.2.1.2.2.1,g.To.2.2.2.1.2.2.2.1,g.To.2.2.2.1.2.2.2.2,g.To.2.2.2.2.1,g.To.2.2.2.2.2.1,g.To.2.2.2.2.2.2.1,g.To.2.2.2.2.2.2.2.1,g.To.2.2.2.2.2.2.2.2].length = 25:=rfl
 generalize [g.To.1.1,g.To.1.2.1,g.To.1.2.2.1,g.To.1.2.2.2.1,g.To.1.2.2.2.2,g.To.2.1.1,g.To.2.1.2.1,g.To.2.1.2.2.1,g.To.2.1.2.2.2.1,g.To.2.1.2.2.2.2,g.To.2.2.1.1,g.To.2.2.1.2.1,g.To.2.2.1.2.2.1,g.To.2.2.1.2.2.2.1,g.To.2.2.1.2.2.2.2,g.To.2.2.2.1.1,g.To.2.2.2.1.2.1,g.To.2.2.2.1.2.2.1,g.To.2.2.2.1.2.2.2.1,g.To.2.2.2.1.2.2.2.2,g.To.2.2.2.2.1,g.To.2.2.2.2.2.1,g.To.2.2.2.2.2.2.1,g.To.2.2.2.2.2.2.2.1,g.To.2.2.2.2.2.2.2.2] = L at hto hL ⊢
 have hmod : 0 ≤ g.States.tmod 5 ∧ g.States.tmod 5 < 5:=⟨Int.tmod_nonneg _ hst.1,Int.tmod_lt_of_pos _ (by omega)⟩
 have hN : 1 ≤ IntKind.wrap .i64 (1 + (IntKind.wrap .i64 (Int.tmod g.States 5))) ∧ IntKind.wrap .i64 (1 + (IntKind.wrap .i64 (Int.tmod g.States 5))) ≤ 5:=by
  rw [Qrr (x:=g.States.tmod 5) (by omega) (by omega),Qrr (by omega) (by omega)]; omega
 generalize IntKind.wrap .i64 (1 + (IntKind.wrap .i64 (Int.tmod g.States 5))) = N at hN ⊢
 have hloop:=Qey (F:=(fun (k15 : Int × List Int × List Int × List Qe × Int × List Int × List Qe → Option (List Int × List Int × List Qe × Int × List Int × List Qe)) ((i8,c9,c10,c11,a12,a13,a14) : Int × (List Int) × (List Int) × (List Qe) × Int × (List Int) × (List Qe))=>(if (i8 < a12) then ((((((shrO .u8 g.Marks i8).bind fun s17=>(if ((andI .u8 s17 1) == 1) then ((appO a13 [i8]).bind fun x20=>some x20) else some a13))).bind fun (a22 : List Int)=>Qcb (fun k25 ((k23,a24) : Int × (List Qe))=>(((if (k23 < (al.length : Int)) then some (decide (k23 < 5)) else some false)).bind fun (x27 : Bool)=>(if x27 then ((((inO 5 i8).bind fun _=>((inO 5 k23).bind fun _=>((rowO L (Int.toNat i8 * 5 + Int.toNat k23 * 1)).bind fun x31=>((remO .i64 (IntKind.wrap .i64 x31) (IntKind.wrap .i64 (a12 + 2))).bind fun s33=>(if (s33 < a12) then ((getO al k23).bind fun x36=>((appO a24 [(Qe.mk i8 x36 s33)]).bind fun x38=>some x38)) else some a24)))))).bind fun (a40 : List Qe)=>k25 ((IntKind.wrap .i64 (k23 + 1)),a40)) else some (a22,a24)))) fuel (0,a14))).bind fun ((a41,a42) : (List Int) × (List Qe))=>k15 ((IntKind.wrap .i64 (i8 + 1)),c9,c10,c11,a12,a41,a42)) else some (c9,c10,c11,a12,a13,a14))))
  (fun x=>∃ (i : Nat) (ms : List Int) (es : List Qe),x = ((i : Int),[],[],[],N,ms,es) ∧ (i : Int) ≤ N ∧ Mks i ms ∧ Eds al N i 0 es) (fun x=>(N - x.1).toNat)
  (fun _ r=>∃ (i : Nat) (ms : List Int) (es : List Qe),r = some ([],[],[],N,ms,es) ∧ (i : Int) = N ∧ Mks i ms ∧ Eds al N i 0 es) (by
   rintro k _ ⟨i,ms,es,rfl,hi,hm,he⟩ ih
   dsimp only
   by_cases hlt : (i : Int) < N
   ·rw [if_pos hlt,show shrO .u8 g.Marks (i : Int) = some (g.Marks.fdiv (2 ^ (min (Int.toNat (i : Int)) (IntKind.bits .u8)))) from by unfold shrO; rw [if_neg (by omega)]]
    simp only [Option.bind_some]
    have hml:=hm.len
    by_cases hb : (andI .u8 (g.Marks.fdiv (2 ^ (min (Int.toNat (i : Int)) (IntKind.bits .u8)))) 1 == 1) = true
    ·rw [if_pos hb,Qdc (by simp only [List.length_cons,List.length_nil]; unfold lim; omega)]
     simp only [Option.bind_some]
     obtain ⟨es',h1,h2⟩:=Qbiq hal fuel hge hL hto hN hlt (ms:=ms ++ [(i : Int)]) he
     rw [h2]
     simp only [Option.bind_some]
     rw [Qbj (by omega)]
     exact ih _ ⟨i + 1,_,_,rfl,by omega,hm.add,h1⟩ (by simp only; omega)
    ·rw [if_neg hb]
     simp only [Option.bind_some]
     obtain ⟨es',h1,h2⟩:=Qbiq hal fuel hge hL hto hN hlt (ms:=ms) he
     rw [h2]
     simp only [Option.bind_some]
     rw [Qbj (by omega)]
     exact ih _ ⟨i + 1,_,_,rfl,by omega,hm.up,h1⟩ (by simp only; omega)
   ·rw [if_neg hlt]
    exact ⟨i,ms,es,rfl,by omega,hm,he⟩) fuel (0,[],[],[],N,[],[]) ⟨0,[],[],rfl,by omega,⟨by simp,.nil⟩,⟨by simp,.nil,by simp⟩⟩ (by simp only; omega)
 obtain ⟨i,ms,es,h1,h2,h3,h4⟩:=hloop
 rw [h1]
 simp only [Option.bind_some]
 have hr : Right ⟨al,N,ms,es⟩:=⟨fun x hx=>by have:=hal.rg x hx; omega,hal.so,⟨by simp only; omega,by simp only; omega⟩,fun x hx=>by have:=h3.rg x hx; simp only; omega,h3.so,fun x hx=>by
  obtain ⟨k1,k2,k3,k4,k5⟩:=h4.rg x hx
  refine ⟨k1,?_,k2,k3,k4⟩
  rcases k5 with k5 | ⟨_,j,k6,_⟩
  ·simp only; omega
  ·omega,h4.so⟩
 rw [Qbb7 hr]
 exact ⟨_,hr,rfl,rfl,by simp only; omega⟩
end Go.Abs
end
section
namespace Go.Proofs
open Go Go.Abs
theorem Qbpp {x : Int} (h : wfI .u8 x) : 0 ≤ x ∧ x < 256:=by
 unfold wfI at h
 simp [Lit.wf,IntKind.min,IntKind.max,IntKind.bits,IntKind.signed] at h
 omega
theorem Qbpu {g : Qba} (h : W_26 g) : Qblu g:=by
 unfold W_26 W_24 W_23 W_5 at h
 obtain ⟨h1,h2,⟨a1,a2,a3,a4,a5⟩,⟨b1,b2,b3,b4,b5⟩,⟨c1,c2,c3,c4,c5⟩,⟨d1,d2,d3,d4,d5⟩,⟨e1,e2,e3,e4,e5⟩⟩:=h
 refine ⟨Qbpp h1,fun x hx=>?_⟩
 simp only [List.mem_cons,List.not_mem_nil,or_false] at hx
 rcases hx with rfl | rfl | rfl | rfl | rfl | rfl | rfl | rfl | rfl | rfl | rfl | rfl | rfl | rfl | rfl | rfl | rfl | rfl | rfl | rfl | rfl | rfl | rfl | rfl | rfl <;> exact Qbpp (by assumption)
end Go.Proofs
end
section
namespace Go.Abs
open Go
end Go.Abs
end
section
namespace Go.Abs
open Go
theorem Qblv : Qhv = some true:=by kernel_rfl
end Go.Abs
end
section
namespace Go.Abs
open Go
set_option linter.unusedSimpArgs false
set_option linter.unusedVariables false
theorem Qbm5 {l : List Int} (hl : l.length ≤ lim) : Qcu l = some l:=by
 unfold Qcu Q3
 rw [Qdc (by simpa using hl)]
 cases l <;> simp [nilO]
structure Num (a : Qb) (o num : List Int) : Prop where
 len : num.length = a.States.toNat
 at1 : ∀ s : Nat,s < a.States.toNat → num[s]? = some (if (s : Int) ∈ o then (o.idxOf (s : Int) : Int) else -1)
theorem Num.get {a : Qb} {o num : List Int} (h : Num a o num) {t : Int} (ht : 0 ≤ t ∧ t < a.States) : getO num t = some (if t ∈ o then (o.idxOf t : Int) else -1):=by
 rw [Qkl]
 refine ⟨ht.1,?_⟩
 have:=h.at1 t.toNat (by omega)
 rwa [show ((t.toNat : Nat) : Int) = t from by omega] at this
theorem Num.set {a : Qb} {o num : List Int} (h : Num a o num) {t : Int} (ht : 0 ≤ t ∧ t < a.States) (hn : t ∉ o) : ∃ num',setO num t (o.length : Int) = some num' ∧ Num a (o ++ [t]) num':=by
 refine ⟨num.set t.toNat (o.length : Int),by unfold setO; rw [if_pos ⟨ht.1,by rw [h.len]; omega⟩],by rw [List.length_set]; exact h.len,fun s hs=>?_⟩
 rw [List.getElem?_set]
 by_cases he : t.toNat = s
 ·subst he
  rw [if_pos rfl,if_pos (by rw [h.len]; omega),show ((t.toNat : Nat) : Int) = t from by omega,if_pos (by simp),List.idxOf_append,if_neg hn]
  simp
 ·rw [if_neg he,h.at1 s hs]
  have hne : (s : Int) ≠ t:=by omega
  by_cases hm : (s : Int) ∈ o
  ·rw [if_pos hm,if_pos (by simp [hm]),List.idxOf_append,if_pos hm]
  ·rw [if_neg hm,if_neg (by simp [hm,hne])]
section
variable {a : Qb} (h : Right a)
include h
end
end Go.Abs
end
section
namespace Go.Abs
open Go
set_option linter.unusedSimpArgs false
set_option linter.unusedVariables false
def runP (a : Qb) : Int → Nat → List Int → Int × Int
 | s,n,[]=>(s,n)
 | s,n,e :: w=>if 0 ≤ Qfg a s e then runP a (Qfg a s e) (n + 1) w else (s,n)
section
variable {a : Qb} (h : Right a)
include h
theorem Qbgi {s : Int} {w : List Int} (h0 : -1000000 < s) (h1 : s < 1000000) (hw : w.length < big) : Qfl a s w = some (runP a s 0 w):=by
 have hs:=h.small.1
 have hst:=h.st
 have hb : w.length < 1000000000000:=hw
 unfold Qfl Qbn
 obtain ⟨fuel,hfu,hge⟩ : ∃ f,Qbq = f ∧ 1099511627776 ≤ f:=⟨_,rfl,Nat.le_refl _⟩
 rw [hfu]
 refine (Qgo (len:=w.length) (fun n (s : Int)=>(s,(n : Int))) (fun n s=>-1000000 < s ∧ s < 1000000) (fun n s=>some (runP a s n (w.drop n))) ?_ ?_ fuel 0 s (Nat.zero_le _) (by omega) ⟨h0,h1⟩).trans (by simp)
 ·intro k n s hn ⟨k1,k2⟩ ih
  dsimp only
  rw [if_pos (by omega),Qb6 hn]
  simp only [Option.bind_some]
  rw [Qboq h hs (by omega) (by omega)]
  simp only [Option.bind_some]
  rw [List.drop_eq_getElem_cons hn,runP]
  rcases Q7h h s w[n] with hr | hr
  ·rw [if_pos (by omega),if_neg (by omega)]
  ·rw [if_neg (by omega),if_pos hr.1,Qbj (by omega)]
   exact ih _ ⟨by omega,by omega⟩
 ·intro k s _
  dsimp only
  rw [if_neg (by omega)]; simp [runP]
omit h in
theorem Q2m {w : List Int} {p : Int → Bool} {f : Int → Option Bool} (hf : ∀ x,f x = some (p x)) (hw : w.length < big) : Qcl w f = some (w.any p):=by
 have hb : w.length < 1000000000000:=hw
 unfold Qcl Qr Qg3 Qb0
 obtain ⟨fuel,hfu,hge⟩ : ∃ f,Qbq = f ∧ 1099511627776 ≤ f:=⟨_,rfl,Nat.le_refl _⟩
 rw [hfu]
 have:=Qmj (F:=fun (k10 : Int → Option Int) (x9 : Int)=>(if (x9 < (w.length : Int)) then ((getO w x9).bind fun x12=>((f x12).bind fun x15=>(if x15 then some x9 else k10 (IntKind.wrap .i64 (x9 + 1))))) else some (-1))) (len:=w.length) (fuel:=fuel)
  (fun n=>some (if (w.drop n).any p then ((n + (w.drop n).findIdx p : Nat) : Int) else -1)) (by omega) (by
   intro k n hn ih
   rw [if_pos (by omega),Qb6 hn,Qbj (by omega),ih]
   simp only [Option.bind_some,hf]
   rw [List.drop_eq_getElem_cons hn]
   cases hp : p w[n] with
   | true=>simp only [List.any_cons,hp,Bool.true_or,if_true,List.findIdx_cons,cond_true,Nat.add_zero]
   | false =>
    simp only [List.any_cons,hp,Bool.false_or,List.findIdx_cons,cond_false,Bool.false_eq_true,if_false]
    rw [show n + 1 + (w.drop (n + 1)).findIdx p = n + ((w.drop (n + 1)).findIdx p + 1) from by omega]) (by intro k; simp)
 rw [this]
 simp only [Option.bind_some,List.drop_zero,Nat.zero_add]
 cases w.any p <;> simp
theorem Qbnu {s : Int} {w : List Int} (hw : w.length < big) : Qkj a s w = some (if 0 ≤ s ∧ s < a.States then (if w.any (fun x=>decide (x ∉ a.Alphabet)) then (0,0,9) else ((runP a s 0 w).1,(runP a s 0 w).2,0)) else (0,0,2)):=by
 unfold Qkj Qdg
 have hst:=h.st
 rw [Qbez h]
 by_cases h1 : 0 ≤ s ∧ s < a.States
 ·rw [Q2m (p:=fun x=>decide (x ∉ a.Alphabet)) (fun x=>by
   unfold Qlq Qc7
   rw [Qhy h.small.1.1]; simp) hw,Qbgi h (by omega) (by omega) hw]
  simp only [if_pos h1,Option.bind_some]
  cases w.any (fun x=>decide (x ∉ a.Alphabet)) <;> simp
 ·simp [h1]
def genP (a : Qb) (w : List Int) : Bool:=decide (0 < a.States) && (runP a 0 0 w).2 == (w.length : Int)
def accP (a : Qb) (w : List Int) : Bool:=genP a w && decide ((runP a 0 0 w).1 ∈ a.Marked)
theorem Qbds {w : List Int} (hw : w.length < big) : Qgj a w = some (accP a w,0):=by
 have hst:=h.st
 unfold Qgj Qb7 Qi8 Qch
 rw [Q7i h,Qbgi h (by omega) (by omega) hw]
 unfold accP genP
 by_cases h0 : a.States = 0
 ·simp [h0]
 ·have hp : 0 < a.States:=by omega
  simp only [Option.bind_some,h0,beq_iff_eq,if_false,bne_self_eq_false,Bool.false_eq_true,hp,decide_true,Bool.true_and]
  rw [Qhy h.small.1.2.1]
  by_cases hq : (runP a 0 0 w).2 = (w.length : Int) <;> simp [hq]
end
end Go.Abs
end
section
namespace Go.Abs
open Go
set_option linter.unusedSimpArgs false
set_option linter.unusedVariables false
theorem Qbgj {P : Int → Prop} : ∀ (ts o : List Int),(∀ s ∈ o,P s) → (∀ t ∈ ts,P t) → ∀ s ∈ ts.foldl ins o,P s
 | [],o,h,_=>h
 | t :: ts,o,h,ht=>Qbgj ts (ins o t) (fun s hs=>by
   rcases Qbb6.1 hs with hs | rfl
   ·exact h s hs
   ·exact ht _ (by simp)) fun u hu=>ht u (by simp [hu])
theorem Qbgk {a : Qb} {P : Int → Prop} (hP : ∀ s,P s → ∀ t ∈ Qts a s,P t) : ∀ (fuel i : Nat) (o : List Int),(∀ s ∈ o,P s) → ∀ s ∈ bfs a fuel i o,P s
 | 0,i,o,h=>h
 | fuel + 1,i,o,h=>by
  unfold bfs
  cases hg : o[i]? with
  | none=>exact h
  | some s=>exact Qbgk hP fuel (i + 1) _ (Qbgj _ _ h (hP s (h s (List.mem_of_getElem? hg))))
structure Like (a b : Qb) (φ : Int → Int) : Prop where
 al : b.Alphabet = a.Alphabet
 st : 0 < b.States ↔ 0 < a.States
 zero : 0 < a.States → φ 0 = 0
 inj : ∀ s ∈ Qmk a,∀ t ∈ Qmk a,φ s = φ t → s = t
 out : ∀ s ∈ Qmk a,outP b (φ s) = (outP a s).map fun x=>⟨φ s,x.Event,φ x.To⟩
 ma : ∀ s ∈ Qmk a,(φ s ∈ b.Marked ↔ s ∈ a.Marked)
section
variable {F : List Int} {φ : Int → Int} (inj : ∀ s ∈ F,∀ t ∈ F,φ s = φ t → s = t)
include inj
end
section
variable {a b : Qb} {φ : Int → Int} (ha : Right a) (hb : Right b) (h : Like a b φ)
include ha h
include hb
end
section
variable {a b : Qb} {φ : Int → Int} (ha : Right a) (hb : Right b) (h : Like a b φ)
include ha h
end
end Go.Abs
end
section
namespace Go.Abs
open Go
set_option linter.unusedSimpArgs false
set_option linter.unusedVariables false
theorem Qxn {α β : Type} {o : Option α} {x : α} {K : α → Option β} {r : Option β} (h : o = some x) (h2 : K x = r) : o.bind K = r:=by rw [h]; exact h2
theorem Qbou {α β : Type} {o : Option α} {x : α} {K : α → Option β} {Q : β → Prop} (h : o = some x) (h2 : ∃ y,K x = some y ∧ Q y) : ∃ y,o.bind K = some y ∧ Q y:=by rw [h]; exact h2
theorem Qbm6 {α β : Type} {o : Option α} {K : α → Option β} {Q : β → Prop} (P : α → Prop) (h : ∃ x,o = some x ∧ P x) (h2 : ∀ x,P x → ∃ y,K x = some y ∧ Q y) : ∃ y,o.bind K = some y ∧ Q y:=by
 obtain ⟨x,h,hp⟩:=h
 rw [h]; exact h2 x hp
theorem Qbjk {X S R α : Type} {F : (X → Option R) → X → Option R} {l : List α} {fuel : Nat} (mk : Nat → S → X) (f : S → α → S) (fin : S → Option R) (I : Nat → S → Prop)
  (step : ∀ (k : X → Option R) (n : Nat) (h : n < l.length) (s : S),I n s → I (n + 1) (f s l[n]) ∧ F k (mk n s) = k (mk (n + 1) (f s l[n]))) (last : ∀ (k : X → Option R) (s : S),I l.length s → F k (mk l.length s) = fin s)
  (hf : l.length < fuel) (s0 : S) (h0 : I 0 s0) : Qcb F fuel (mk 0 s0) = fin (l.foldl f s0):=by
 have:=Qgo (F:=F) (len:=l.length) mk I (fun n s=>fin ((l.drop n).foldl f s)) (fun k n s hn hi ih=>by
  obtain ⟨h1,h2⟩:=step k n hn s hi
  rw [h2,ih _ h1,List.drop_eq_getElem_cons hn,List.foldl_cons]) (fun k s hi=>by rw [last k s hi]; simp) fuel 0 s0 (Nat.zero_le _) (by omega) h0
 simpa using this
theorem Qblw {l m : List Int} (hl : l.Pairwise (· < ·)) (hm : m.Pairwise (· < ·)) (h : ∀ x,x ∈ l ↔ x ∈ m) : l = m:=by
 refine List.Perm.eq_of_pairwise (le:=(· < ·)) (fun a b _ _ h1 h2=>by omega) hl hm ?_
 rw [List.perm_ext_iff_of_nodup (hl.imp fun h=>by omega) (hm.imp fun h=>by omega)]
 exact h
theorem swoI : Go.Sort.SWO Qfa:=⟨fun x=>by simp [Qfa],fun x y z h1 h2=>by simp [Qfa] at *; omega,fun x y z h1 h2=>by simp [Qfa] at *; omega⟩
theorem Qbgl {l : List Int} (h : l.Nodup) : (Qh3 Qfa l).Pairwise (· < ·) ∧ ∀ x,x ∈ Qh3 Qfa l ↔ x ∈ l:=by
 have hp:=Qi5 Qfa l
 refine ⟨?_,fun x=>hp.mem_iff⟩
 have hs:=Qkh swoI l
 have hn:=(hp.nodup_iff).2 h
 exact (hs.and hn).imp fun ⟨h1,h2⟩=>by simp [Qfa] at h1; omega
inductive Rch (a : Qb) (ev fr : List Int) : Int → Prop where
 | base {s : Int} : s ∈ fr → Rch a ev fr s
 | step {x : Qe} : Rch a ev fr x.From → x ∈ a.Edges → x.Event ∈ ev → Rch a ev fr x.To
def upto (n : Int) : List Int:=(List.range n.toNat).map fun (i : Nat)=>(i : Int)
theorem Qbm7 {n x : Int} : x ∈ upto n ↔ 0 ≤ x ∧ x < n:=by
 simp only [upto,List.mem_map,List.mem_range]
 constructor
 ·rintro ⟨i,hi,rfl⟩; omega
 ·rintro ⟨h1,h2⟩; exact ⟨x.toNat,by omega,by omega⟩
theorem Qblx (n : Int) : (upto n).Pairwise (· < ·):=by
 unfold upto
 rw [List.pairwise_map]
 exact List.pairwise_lt_range.imp fun h=>by omega
theorem Qbm8 (n : Int) : (upto n).length = n.toNat:=by simp [upto]
open Classical in
noncomputable def Qtu (a : Qb) (fr ev : List Int) : List Int:=(upto a.States).filter fun s=>decide (Rch a ev fr s)
theorem Qbb8 (a : Qb) (fr ev : List Int) : (Qtu a fr ev).Pairwise (· < ·):=(Qblx _).filter _
theorem Qtv {a : Qb} {fr ev : List Int} {s : Int} : s ∈ Qtu a fr ev ↔ (0 ≤ s ∧ s < a.States) ∧ Rch a ev fr s:=by
 classical
 simp only [Qtu,List.mem_filter,Qbm7,decide_eq_true_eq]
theorem Rch.range {a : Qb} (h : Right a) {ev fr : List Int} (hf : ∀ s ∈ fr,0 ≤ s ∧ s < a.States) {s : Int} (hr : Rch a ev fr s) : 0 ≤ s ∧ s < a.States:=by
 induction hr with
 | base hs=>exact hf _ hs
 | step _ hx _ _=>have:=h.ed0 _ hx; exact ⟨this.2.2.1,this.2.2.2.1⟩
theorem Qbb9 {a : Qb} (h : Right a) {fr ev : List Int} (hf : ∀ s ∈ fr,0 ≤ s ∧ s < a.States) {s : Int} : s ∈ Qtu a fr ev ↔ Rch a ev fr s:=by
 rw [Qtv]; exact ⟨fun h=>h.2,fun hr=>⟨hr.range h hf,hr⟩⟩
theorem Rch.mono {a : Qb} {ev fr fr' : List Int} (hf : ∀ s ∈ fr,Rch a ev fr' s) {s : Int} (hr : Rch a ev fr s) : Rch a ev fr' s:=by
 induction hr with
 | base hs=>exact hf _ hs
 | step _ hx he ih=>exact .step ih hx he
theorem Qbly {a : Qb} (h : Right a) {fr ev l : List Int} (hf : ∀ s ∈ fr,0 ≤ s ∧ s < a.States) (hl : l.Pairwise (· < ·)) (h1 : ∀ s ∈ l,Rch a ev fr s) (h2 : ∀ s ∈ fr,s ∈ l)
  (h3 : ∀ x ∈ a.Edges,x.From ∈ l → x.Event ∈ ev → x.To ∈ l) : l = Qtu a fr ev:=by
 refine Qblw hl (Qbb8 _ _ _) fun x=>?_
 rw [Qbb9 h hf]
 refine ⟨h1 x,fun hr=>?_⟩
 induction hr with
 | base hs=>exact h2 _ hs
 | step _ hx he ih=>exact h3 _ hx ih he
def Qoe (a : Qb) (ev : List Int) : Qb:={ a with Edges:=a.Edges.filter fun x=>decide (x.Event ∈ ev) }
theorem Qbca {a : Qb} (h : Right a) (ev : List Int) : Right (Qoe a ev) :=
 ⟨h.al0,h.al,h.st,h.ma0,h.ma,fun x hx=>h.ed0 x (List.mem_filter.1 hx).1,h.ed.filter _⟩
theorem Qbjl (a : Qb) (ev : List Int) (s : Int) : Qts (Qoe a ev) s = ((outP a s).filter fun x=>decide (x.Event ∈ ev)).map (·.To):=by
 simp only [Qts,outP,Qoe,List.filter_filter]
 congr 1
 exact List.filter_congr fun x _=>Bool.and_comm _ _
theorem Qbir {a : Qb} {s t : Int} : t ∈ Qts a s ↔ ∃ x ∈ a.Edges,x.From = s ∧ x.To = t:=by
 simp only [Qts,outP,List.mem_map,List.mem_filter,beq_iff_eq]
 constructor
 ·rintro ⟨x,⟨h1,h2⟩,h3⟩; exact ⟨x,h1,h2,h3⟩
 ·rintro ⟨x,h1,h2,h3⟩; exact ⟨x,⟨h1,h2⟩,h3⟩
theorem Qbgm {a : Qb} (h : Right a) {ev fr o : List Int} (hf : ∀ s ∈ fr,0 ≤ s ∧ s < a.States) (ho : ∀ s,s ∈ o ↔ s ∈ fr) (hn : o.Nodup) :
  Fnd (Qoe a ev) (bfs (Qoe a ev) (a.States.toNat + 1) 0 o) ∧ Qh3 Qfa (bfs (Qoe a ev) (a.States.toNat + 1) 0 o) = Qtu a fr ev:=by
 have hr:=Qbca h ev
 have hfo : Fnd (Qoe a ev) o:=⟨hn,fun s hs=>hf s ((ho s).1 hs)⟩
 obtain ⟨q1,q2,q3⟩:=Qbe0 hr (a.States.toNat + 1) 0 o hfo (Nat.zero_le _) (by show a.States.toNat + 1 ≤ _; omega) (fun j s hj=>by omega)
 obtain ⟨r1,r2⟩:=Qbgl q1.nd
 refine ⟨q1,Qbly h hf r1 (fun s hs=>?_) (fun s hs=>?_) (fun x hx hfx hex=>?_)⟩
 ·have hs:=(r2 s).1 hs
  refine Qbgk (a:=Qoe a ev) (P:=Rch a ev fr) (fun s hs t ht=>?_) _ 0 o (fun s hs=>.base ((ho s).1 hs)) s hs
  obtain ⟨x,hx,rfl,rfl⟩:=Qbir.1 ht
  obtain ⟨hx,he⟩:=List.mem_filter.1 hx
  exact .step hs hx (by simpa using he)
 ·exact (r2 s).2 (q2.subset ((ho s).2 hs))
 ·exact (r2 _).2 (q3 _ ((r2 _).1 hfx) _ (Qbir.2 ⟨x,List.mem_filter.2 ⟨hx,by simpa using hex⟩,rfl,rfl⟩))
theorem Q8u : ∀ (ts o : List Int) (x : Int),x ∈ ts.foldl ins o ↔ x ∈ o ∨ x ∈ ts
 | [],o,x=>by simp
 | t :: ts,o,x=>by
  simp only [List.foldl_cons,Q8u ts,Qbb6,List.mem_cons]
  constructor
  ·rintro ((h | h) | h)
   ·exact .inl h
   ·exact .inr (.inl h)
   ·exact .inr (.inr h)
  ·rintro (h | h | h)
   ·exact .inl (.inl h)
   ·exact .inl (.inr h)
   ·exact .inr h
end Go.Abs
end
section
namespace Go.Abs
open Go
set_option linter.unusedSimpArgs false
set_option linter.unusedVariables false
def Qjs (a : Qb) (onto : List Int) : List Int:=a.Alphabet.filter fun x=>decide (x ∈ onto)
def Qnd (a : Qb) (onto : List Int) : List Int:=a.Alphabet.filter fun x=>!decide (x ∈ onto)
def Qbcr (a : Qb) : List (List Qe):=(upto a.States).map (outP a)
def obsP (a : Qb) (onto : List Int) : Qh:=⟨Qbcr a,Qjs a onto,Qnd a onto,a.Marked⟩
theorem Q8v (a : Qb) : (Qbcr a).length = a.States.toNat:=by simp [Qbcr,Qbm8]
theorem Qbgn (a : Qb) {s : Nat} (h : s < a.States.toNat) : (Qbcr a)[s]? = some (outP a (s : Int)):=by
 simp only [Qbcr,upto,List.getElem?_map,List.getElem?_range h,Option.map_some]
theorem Qbis {a : Qb} {s : Int} (h : 0 ≤ s ∧ s < a.States) : getO (Qbcr a) s = some (outP a s):=by
 rw [Qkl]
 refine ⟨h.1,?_⟩
 rw [Qbgn a (by omega)]
 congr 2; omega
theorem Q91 (onto : List Int) : ∀ (l k e : List Int),l.foldl (fun (s : List Int × List Int) x=>if x ∈ onto then (s.1 ++ [x],s.2) else (s.1,s.2 ++ [x])) (k,e) = (k ++ l.filter (fun x=>decide (x ∈ onto)),e ++ l.filter fun x=>!decide (x ∈ onto))
 | [],k,e=>by simp
 | x :: l,k,e=>by
  rw [List.foldl_cons]
  by_cases hx : x ∈ onto
  ·rw [if_pos hx,Q91 onto l]; simp [hx]
  ·rw [if_neg hx,Q91 onto l]; simp [hx]
theorem Qbjm {a : Qb} (h : Right a) {onto : List Int} (ho : onto.length < big) : Qdw a onto = some (obsP a onto):=by
 have hs:=h.small
 have hst:=h.st
 unfold Qdw Q1
 refine Qxn (x:=List.replicate a.States.toNat []) (by unfold mkO; rw [if_pos ⟨hst.1,by unfold lim; omega⟩]) ?_
 refine Qxn (x:=Qbcr a) ?_ ?_
 ·refine (Qgo (len:=a.Edges.length) (fun n (c : List (List Qe))=>((n : Int),c)) (fun n c=>c.length = a.States.toNat ∧ ∀ s : Nat,s < a.States.toNat → c[s]? = some ((a.Edges.take n).filter fun x=>x.From == (s : Int))) (fun n c=>some (Qbcr a)) ?_ ?_ Qbq 0 _ (Nat.zero_le _) (by unfold Qbq; omega) ⟨by simp,fun s hs=>by simp [hs]⟩)
  ·intro k n c hn ⟨i1,i2⟩ ih
   have he:=h.ed0 _ (List.getElem_mem hn)
   dsimp only
   rw [if_pos (by omega),Qb6 hn]
   simp only [Option.bind_some]
   have hin : inO (Int.toNat a.States) a.Edges[n].From = some ():=by unfold inO; rw [if_pos ⟨he.1,by omega⟩]
   have hto : ((a.Edges[n].From.toNat : Nat) : Int) = a.Edges[n].From:=by omega
   have hg : getO c a.Edges[n].From = some ((a.Edges.take n).filter fun x=>x.From == a.Edges[n].From):=by
    rw [Qkl]; refine ⟨he.1,?_⟩
    rw [i2 _ (by omega),hto]
   have hfl : ((a.Edges.take n).filter fun x=>x.From == a.Edges[n].From).length ≤ a.Edges.length:=Nat.le_trans (List.length_filter_le _ _) (by rw [List.length_take]; omega)
   rw [hin,hg]
   simp only [Option.bind_some]
   rw [Qdc (by simp only [List.length_cons,List.length_nil]; unfold lim; omega)]
   simp only [Option.bind_some]
   unfold setO
   rw [if_pos ⟨he.1,by omega⟩,Qbj (by omega)]
   simp only [Option.bind_some]
   refine ih _ ⟨by simp [i1],fun s hs=>?_⟩
   rw [List.getElem?_set,List.take_succ_eq_append_getElem hn,List.filter_append]
   split
   ·rename_i hss
    subst hss
    rw [if_pos (by omega),hto]
    simp
   ·rename_i hss
    have : ¬ a.Edges[n].From = (s : Int):=by omega
    rw [i2 s hs]
    simp [this]
  ·intro k c ⟨i1,i2⟩
   dsimp only
   rw [if_neg (by omega)]
   congr 1
   refine List.ext_getElem? fun s=>?_
   by_cases hs : s < a.States.toNat
   ·rw [i2 s hs,Qbgn a hs,List.take_length]; rfl
   ·rw [List.getElem?_eq_none (by omega),List.getElem?_eq_none (by rw [Q8v]; omega)]
 ·refine Qxn (x:=([],[],[],[],Qjs a onto,Qnd a onto)) ?_ ?_
  ·refine (Qbjk (l:=a.Alphabet) (fun n (s : List Int × List Int)=>((n : Int),[],[],[],[],s.1,s.2)) (fun (s : List Int × List Int) x=>if x ∈ onto then (s.1 ++ [x],s.2) else (s.1,s.2 ++ [x])) (fun s=>some ([],[],[],[],s.1,s.2)) (fun n s=>s.1.length ≤ n ∧ s.2.length ≤ n) ?_ ?_ (by unfold Qbq; omega) ([],[]) ⟨by simp,by simp⟩).trans ?_
   ·intro k n hn s ⟨i1,i2⟩
    by_cases hx : a.Alphabet[n] ∈ onto
    ·rw [if_pos hx]
     refine ⟨⟨by simp; omega,by simp; omega⟩,?_⟩
     dsimp only
     rw [if_pos (by omega),Qb6 hn]
     simp only [Option.bind_some]
     rw [Qhy ho]
     simp only [Option.bind_some,hx,decide_true,if_true]
     rw [Qdc (by simp only [List.length_cons,List.length_nil]; unfold lim; omega),Qbj (by omega)]
     rfl
    ·rw [if_neg hx]
     refine ⟨⟨by simp; omega,by simp; omega⟩,?_⟩
     dsimp only
     rw [if_pos (by omega),Qb6 hn]
     simp only [Option.bind_some]
     rw [Qhy ho]
     simp only [Option.bind_some,hx,decide_false,Bool.false_eq_true,if_false]
     rw [Qdc (by simp only [List.length_cons,List.length_nil]; unfold lim; omega),Qbj (by omega)]
     rfl
   ·intro k s _
    dsimp only
    rw [if_neg (by omega)]
   ·rw [Q91]; rfl
  ·dsimp only
   unfold lenO
   rw [if_pos (by rw [Q8v])]
   rfl
structure Seen (n : Nat) (l : List Int) (c : List Bool) : Prop where
 len : c.length = n
 at1 : ∀ s : Nat,s < n → c[s]? = some (decide ((s : Int) ∈ l))
theorem Seen.start (n : Nat) : Seen n [] (List.replicate n false):=⟨by simp,fun s hs=>by simp [hs]⟩
theorem Qbnv {n : Nat} {l : List Int} {c : List Bool} (h : Seen n l c) {x : Int} (hx : 0 ≤ x ∧ x < n) (hl : l.length < big) : ∃ c',Q9 x c l = some (c',ins l x) ∧ Seen n (ins l x) c':=by
 have hg : getO c x = some (decide (x ∈ l)):=by
  rw [Qkl]; refine ⟨hx.1,?_⟩
  rw [h.at1 _ (by omega)]; congr 2; rw [show ((x.toNat : Nat) : Int) = x from by omega]
 unfold Q9 Q7
 have hin : inO c.length x = some ():=by unfold inO; rw [if_pos ⟨hx.1,by rw [h.len]; omega⟩]
 rw [hin,hg]
 simp only [Option.bind_some]
 by_cases hm : x ∈ l
 ·rw [if_pos (by simp [hm])]
  exact ⟨c,by simp [ins,hm],by simpa [ins,hm] using h⟩
 ·rw [if_neg (by simp [hm])]
  unfold setO
  rw [if_pos ⟨hx.1,by rw [h.len]; omega⟩]
  simp only [Option.bind_some]
  rw [Qdc (by simp only [List.length_cons,List.length_nil]; unfold big at hl; unfold lim; omega)]
  refine ⟨c.set x.toNat true,by simp [ins,hm],?_⟩
  simp only [ins,hm,if_false]
  refine ⟨by simp [h.len],fun s hs=>?_⟩
  rw [List.getElem?_set]
  split
  ·rename_i e; subst e
   rw [if_pos (by rw [h.len]; exact hs)]
   simp; omega
  ·rename_i e
   rw [h.at1 s hs]
   have : ¬ (s : Int) = x:=by omega
   simp [this]
theorem Qbit {a : Qb} (h : Right a) {onto fr ev : List Int} (hf : ∀ s ∈ fr,0 ≤ s ∧ s < a.States) (hfl : fr.length < big) (hev : ev.length < big) :
  Qc0 (obsP a onto) fr ev = some (Qtu a fr ev):=by
 have hst:=h.st
 have hsm:=h.small
 have hr:=Qbca h ev
 have hlen : ((obsP a onto).out_.length : Int) = a.States:=by show ((Qbcr a).length : Int) = _; rw [Q8v]; omega
 unfold Qc0 Qw
 rw [hlen]
 refine Qxn (x:=List.replicate a.States.toNat false) (by unfold mkO; rw [if_pos ⟨hst.1,by unfold lim; omega⟩]) ?_
 have hF0 : Fnd (Qoe a ev) (fr.foldl ins []):=(Q2k (a:=Qoe a ev) ⟨by simp,by simp⟩ hf).1
 have hlo : ∀ {o : List Int},Fnd (Qoe a ev) o → o.length ≤ a.States.toNat:=fun h=>h.len
 -- what is given
 obtain ⟨c1,hc1,h1⟩ : ∃ c1,Seen a.States.toNat (fr.foldl ins []) c1 ∧ Qcb (fun (k9 : Int × List Int × List Bool → Option (List Int × List Bool)) ((x6,l7,c8) : Int × (List Int) × (List Bool))=>(if (x6 < (fr.length : Int)) then ((getO fr x6).bind fun x11=>((lenO c8 (Int.toNat a.States)).bind fun _=>((Q9 x11 c8 l7).bind fun (c14,c15)=>k9 ((IntKind.wrap .i64 (x6 + 1)),c15,c14)))) else some (l7,c8))) Qbq (0,[],List.replicate a.States.toNat false) = some (fr.foldl ins [],c1):=by
  have:=Qey (F:=fun (k9 : Int × List Int × List Bool → Option (List Int × List Bool)) ((x6,l7,c8) : Int × (List Int) × (List Bool))=>(if (x6 < (fr.length : Int)) then ((getO fr x6).bind fun x11=>((lenO c8 (Int.toNat a.States)).bind fun _=>((Q9 x11 c8 l7).bind fun (c14,c15)=>k9 ((IntKind.wrap .i64 (x6 + 1)),c15,c14)))) else some (l7,c8)))
   (fun x=>∃ n : Nat,x.1 = (n : Int) ∧ n ≤ fr.length ∧ Fnd (Qoe a ev) x.2.1 ∧ Seen a.States.toNat x.2.1 x.2.2 ∧ (fr.drop n).foldl ins x.2.1 = fr.foldl ins []) (fun x=>fr.length - x.1.toNat)
   (fun x r=>∃ c1,Seen a.States.toNat (fr.foldl ins []) c1 ∧ r = some (fr.foldl ins [],c1)) (by
    rintro k ⟨_,l,c⟩ ⟨n,rfl,hn,hF,hS,he⟩ ih
    replace hF : Fnd (Qoe a ev) l:=hF
    replace hS : Seen a.States.toNat l c:=hS
    have hll:=hlo hF
    dsimp only at he ⊢
    by_cases hlt : n < fr.length
    ·rw [if_pos (by omega),Qb6 hlt]
     simp only [Option.bind_some]
     have hx:=hf _ (List.getElem_mem hlt)
     obtain ⟨c',hadd,hS'⟩:=Qbnv hS (x:=fr[n]) ⟨hx.1,by omega⟩ (by unfold big; omega)
     unfold lenO
     rw [if_pos hS.len]
     simp only [Option.bind_some]
     rw [hadd]
     simp only [Option.bind_some]
     rw [Qbj (by unfold big at hfl; omega)]
     rw [List.drop_eq_getElem_cons hlt,List.foldl_cons] at he
     exact ih _ ⟨n + 1,rfl,by omega,hF.ins hx,hS',he⟩ (by simp only; omega)
    ·rw [if_neg (by omega)]
     have : fr.drop n = []:=List.drop_eq_nil_of_le (by omega)
     rw [this] at he
     exact ⟨c,by rw [← he]; exact hS,by rw [← he]; rfl⟩) Qbq (0,[],List.replicate a.States.toNat false) ⟨0,rfl,by omega,⟨by simp,by simp⟩,Seen.start _,rfl⟩ (by simp only [Int.toNat_zero]; unfold Qbq; unfold big at hfl; omega)
  exact this
 refine Qxn h1 ?_
 dsimp only
 -- the search
 obtain ⟨c2,h2⟩ : ∃ c2,Qcb (fun (k22 : Int × List Int × List Bool → Option (List Int × List Bool)) ((i19,l20,c21) : Int × (List Int) × (List Bool))=>(if (i19 < (l20.length : Int)) then ((((getO l20 i19).bind fun x24=>((getO (obsP a onto).out_ x24).bind fun x26=>Qcb (fun (k31 : Int × List Int × List Bool → Option (List Int × List Bool)) ((x28,l29,c30) : Int × (List Int) × (List Bool))=>(if (x28 < (x26.length : Int)) then ((((getO x26 x28).bind fun x33=>((Qy ev x33.Event).bind fun x36=>(if x36 then ((lenO c30 (Int.toNat a.States)).bind fun _=>((Q9 x33.To c30 l29).bind fun (c39,c40)=>some (c40,c39,x33.From,x33.Event,x33.To))) else some (l29,c30,x33.From,x33.Event,x33.To))))).bind fun ((l42,c43,c44,c45,c46) : (List Int) × (List Bool) × Int × Int × Int)=>k31 ((IntKind.wrap .i64 (x28 + 1)),l42,c43)) else some (l29,c30))) Qbq (0,l20,c21)))).bind fun ((l47,c48) : (List Int) × (List Bool))=>k22 ((IntKind.wrap .i64 (i19 + 1)),l47,c48)) else some (l20,c21))) Qbq (0,fr.foldl ins [],c1) = some (bfs (Qoe a ev) (a.States.toNat + 1) 0 (fr.foldl ins []),c2):=by
  have:=Qey (F:=fun (k22 : Int × List Int × List Bool → Option (List Int × List Bool)) ((i19,l20,c21) : Int × (List Int) × (List Bool))=>(if (i19 < (l20.length : Int)) then ((((getO l20 i19).bind fun x24=>((getO (obsP a onto).out_ x24).bind fun x26=>Qcb (fun (k31 : Int × List Int × List Bool → Option (List Int × List Bool)) ((x28,l29,c30) : Int × (List Int) × (List Bool))=>(if (x28 < (x26.length : Int)) then ((((getO x26 x28).bind fun x33=>((Qy ev x33.Event).bind fun x36=>(if x36 then ((lenO c30 (Int.toNat a.States)).bind fun _=>((Q9 x33.To c30 l29).bind fun (c39,c40)=>some (c40,c39,x33.From,x33.Event,x33.To))) else some (l29,c30,x33.From,x33.Event,x33.To))))).bind fun ((l42,c43,c44,c45,c46) : (List Int) × (List Bool) × Int × Int × Int)=>k31 ((IntKind.wrap .i64 (x28 + 1)),l42,c43)) else some (l29,c30))) Qbq (0,l20,c21)))).bind fun ((l47,c48) : (List Int) × (List Bool))=>k22 ((IntKind.wrap .i64 (i19 + 1)),l47,c48)) else some (l20,c21)))
   (fun x=>∃ i : Nat,x.1 = (i : Int) ∧ i ≤ x.2.1.length ∧ Fnd (Qoe a ev) x.2.1 ∧ Seen a.States.toNat x.2.1 x.2.2) (fun x=>a.States.toNat + 1 - x.1.toNat)
   (fun x r=>∃ c2,r = some (bfs (Qoe a ev) (a.States.toNat + 1 - x.1.toNat) x.1.toNat x.2.1,c2)) (by
    rintro k ⟨_,l,c⟩ ⟨i,rfl,hi,hF,hS⟩ ih
    replace hi : i ≤ l.length:=hi
    replace hF : Fnd (Qoe a ev) l:=hF
    replace hS : Seen a.States.toNat l c:=hS
    have hll:=hlo hF
    dsimp only
    by_cases hlt : i < l.length
    ·rw [if_pos (by omega),Qb6 hlt]
     have hx:=hF.rg _ (List.getElem_mem hlt)
     have hx : 0 ≤ l[i] ∧ l[i] < a.States:=hx
     simp only [Option.bind_some]
     rw [show getO (obsP a onto).out_ l[i] = _ from Qbis hx]
     simp only [Option.bind_some]
     have hlo2 : (outP a l[i]).length ≤ a.Edges.length:=List.length_filter_le _ _
     obtain ⟨c',hF',hS',hin⟩ : ∃ c',Fnd (Qoe a ev) ((Qts (Qoe a ev) l[i]).foldl ins l) ∧ Seen a.States.toNat ((Qts (Qoe a ev) l[i]).foldl ins l) c' ∧ Qcb (fun (k31 : Int × List Int × List Bool → Option (List Int × List Bool)) ((x28,l29,c30) : Int × (List Int) × (List Bool))=>(if (x28 < ((outP a l[i]).length : Int)) then ((((getO (outP a l[i]) x28).bind fun x33=>((Qy ev x33.Event).bind fun x36=>(if x36 then ((lenO c30 (Int.toNat a.States)).bind fun _=>((Q9 x33.To c30 l29).bind fun (c39,c40)=>some (c40,c39,x33.From,x33.Event,x33.To))) else some (l29,c30,x33.From,x33.Event,x33.To))))).bind fun ((l42,c43,c44,c45,c46) : (List Int) × (List Bool) × Int × Int × Int)=>k31 ((IntKind.wrap .i64 (x28 + 1)),l42,c43)) else some (l29,c30))) Qbq (0,l,c) = some ((Qts (Qoe a ev) l[i]).foldl ins l,c'):=by
      rw [Qbjl]
      have:=Qey (F:=fun (k31 : Int × List Int × List Bool → Option (List Int × List Bool)) ((x28,l29,c30) : Int × (List Int) × (List Bool))=>(if (x28 < ((outP a l[i]).length : Int)) then ((((getO (outP a l[i]) x28).bind fun x33=>((Qy ev x33.Event).bind fun x36=>(if x36 then ((lenO c30 (Int.toNat a.States)).bind fun _=>((Q9 x33.To c30 l29).bind fun (c39,c40)=>some (c40,c39,x33.From,x33.Event,x33.To))) else some (l29,c30,x33.From,x33.Event,x33.To))))).bind fun ((l42,c43,c44,c45,c46) : (List Int) × (List Bool) × Int × Int × Int)=>k31 ((IntKind.wrap .i64 (x28 + 1)),l42,c43)) else some (l29,c30)))
       (fun x=>∃ n : Nat,x.1 = (n : Int) ∧ n ≤ (outP a l[i]).length ∧ Fnd (Qoe a ev) x.2.1 ∧ Seen a.States.toNat x.2.1 x.2.2 ∧ ((((outP a l[i]).drop n).filter fun x=>decide (x.Event ∈ ev)).map (·.To)).foldl ins x.2.1 = (((outP a l[i]).filter fun x=>decide (x.Event ∈ ev)).map (·.To)).foldl ins l) (fun x=>(outP a l[i]).length - x.1.toNat)
       (fun x r=>∃ c1,Fnd (Qoe a ev) ((((outP a l[i]).filter fun x=>decide (x.Event ∈ ev)).map (·.To)).foldl ins l) ∧ Seen a.States.toNat ((((outP a l[i]).filter fun x=>decide (x.Event ∈ ev)).map (·.To)).foldl ins l) c1 ∧ r = some ((((outP a l[i]).filter fun x=>decide (x.Event ∈ ev)).map (·.To)).foldl ins l,c1)) (by
        rintro k ⟨_,l2,c2⟩ ⟨n,rfl,hn,hF,hS,he⟩ ih
        replace hF : Fnd (Qoe a ev) l2:=hF
        replace hS : Seen a.States.toNat l2 c2:=hS
        have hll:=hlo hF
        dsimp only at he ⊢
        by_cases hlt2 : n < (outP a l[i]).length
        ·rw [if_pos (by omega),Qb6 hlt2]
         simp only [Option.bind_some]
         rw [Qhy hev]
         rw [List.drop_eq_getElem_cons hlt2,List.filter_cons] at he
         have hed : (outP a l[i])[n] ∈ a.Edges:=(List.mem_filter.1 (List.getElem_mem hlt2)).1
         have hto:=(h.ed0 _ hed).2.2
         by_cases hx : (outP a l[i])[n].Event ∈ ev
         ·simp only [Option.bind_some,hx,decide_true,if_true] at he ⊢
          obtain ⟨c',hadd,hS'⟩:=Qbnv hS (x:=(outP a l[i])[n].To) ⟨hto.1,by omega⟩ (by unfold big; omega)
          unfold lenO
          rw [if_pos hS.len]
          simp only [Option.bind_some]
          rw [hadd]
          simp only [Option.bind_some]
          rw [Qbj (by omega)]
          exact ih _ ⟨n + 1,rfl,by omega,hF.ins ⟨hto.1,hto.2.1⟩,hS',he⟩ (by simp only; omega)
         ·simp only [Option.bind_some,hx,decide_false,Bool.false_eq_true,if_false] at he ⊢
          rw [Qbj (by omega)]
          exact ih _ ⟨n + 1,rfl,by omega,hF,hS,he⟩ (by simp only; omega)
        ·rw [if_neg (by omega)]
         have : (outP a l[i]).drop n = []:=List.drop_eq_nil_of_le (by omega)
         rw [this] at he
         simp only [List.filter_nil,List.map_nil,List.foldl_nil] at he
         exact ⟨c2,by rw [← he]; exact hF,by rw [← he]; exact hS,by rw [← he]⟩) Qbq (0,l,c) ⟨0,rfl,Nat.zero_le _,hF,hS,rfl⟩ (by simp only [Int.toNat_zero]; unfold Qbq; omega)
      exact this
     rw [hin]
     simp only [Option.bind_some]
     rw [Qbj (by omega)]
     have hpre:=(Q2k hF (Q7j hr l[i])).2.1
     obtain ⟨c3,hc3⟩:=ih ((i + 1 : Nat),_,c') ⟨i + 1,rfl,by have:=hpre.length_le; simp only; omega,hF',hS'⟩ (by simp only; omega)
     refine ⟨c3,hc3.trans ?_⟩
     simp only [Int.toNat_natCast]
     rw [show a.States.toNat + 1 - i = (a.States.toNat + 1 - (i + 1)) + 1 from by omega,Qbip hlt]
    ·rw [if_neg (by omega)]
     obtain rfl : i = l.length:=by omega
     exact ⟨c,by simp only [Int.toNat_natCast,Qblt]⟩) Qbq (0,fr.foldl ins [],c1) ⟨0,rfl,Nat.zero_le _,hF0,hc1⟩ (by simp only [Int.toNat_zero]; unfold Qbq; omega)
  simpa using this
 refine Qxn h2 ?_
 dsimp only
 obtain ⟨q1,q2⟩:=Qbgm h (ev:=ev) hf (o:=fr.foldl ins []) (fun s=>by rw [Q8u]; simp) hF0.nd
 have hql:=hlo q1
 unfold sortI
 rw [if_pos (by unfold lim; omega),q2]
 rfl
end Go.Abs
end
section
namespace Go.Abs
open Go
set_option linter.unusedSimpArgs false
set_option linter.unusedVariables false
def Qqp (a : Qb) (est : List Int) (e : Int) : List Int:=est.flatMap fun s=>((outP a s).filter fun x=>x.Event == e).map (·.To)
noncomputable def Qkn (a : Qb) (onto est : List Int) (e : Int) : List Int:=Qtu a (Qqp a est e) (Qnd a onto)
noncomputable def Qtw (a : Qb) (onto : List Int) : List Int:=if a.States = 0 then [] else Qtu a [0] (Qnd a onto)
structure Sts (a : Qb) (l : List Int) : Prop where
 rg : ∀ s ∈ l,0 ≤ s ∧ s < a.States
 so : l.Pairwise (· < ·)
theorem Sts.len {a : Qb} {l : List Int} (h : Sts a l) : l.length ≤ a.States.toNat:=by
 have:=Qgs (a:=0) (b:=a.States) h.so h.rg; omega
theorem Qbdt (a : Qb) (fr ev : List Int) : Sts a (Qtu a fr ev):=⟨fun s hs=>(Qtv.1 hs).1,Qbb8 _ _ _⟩
theorem Qbgo (a : Qb) (onto est : List Int) (e : Int) : Sts a (Qkn a onto est e):=Qbdt _ _ _
theorem Q23 (a : Qb) (onto : List Int) : Sts a (Qtw a onto):=by
 unfold Qtw; split
 ·exact ⟨by simp,by simp⟩
 ·exact Qbdt _ _ _
theorem Qbgp {a : Qb} {est : List Int} {e t : Int} : t ∈ Qqp a est e ↔ ∃ x ∈ a.Edges,x.From ∈ est ∧ x.Event = e ∧ x.To = t:=by
 simp only [Qqp,outP,List.mem_flatMap,List.mem_map,List.mem_filter,beq_iff_eq]
 constructor
 ·rintro ⟨s,hs,x,⟨⟨h1,h2⟩,h3⟩,h4⟩; exact ⟨x,h1,by rw [h2]; exact hs,h3,h4⟩
 ·rintro ⟨x,h1,h2,h3,h4⟩; exact ⟨x.From,h2,x,⟨⟨h1,rfl⟩,h3⟩,h4⟩
theorem Qbcb {a : Qb} (h : Right a) {est : List Int} {e : Int} : ∀ s ∈ Qqp a est e,0 ≤ s ∧ s < a.States:=by
 intro s hs
 obtain ⟨x,hx,_,_,rfl⟩:=Qbgp.1 hs
 exact ⟨(h.ed0 x hx).2.2.1,(h.ed0 x hx).2.2.2.1⟩
theorem Qbiu {α β : Type} {f : α → List β} {m : Nat} : ∀ {l : List α},(∀ x ∈ l,(f x).length ≤ m) → (l.flatMap f).length ≤ m * l.length
 | [],_=>by simp
 | x :: l,h=>by
  have h1:=h x (by simp)
  have h2:=Qbiu (l:=l) fun y hy=>h y (by simp [hy])
  simp only [List.flatMap_cons,List.length_append,List.length_cons,Nat.mul_succ]; omega
theorem Qbov (a : Qb) (s e : Int) : ((outP a s).filter fun x=>x.Event == e).length ≤ a.Edges.length:=Nat.le_trans (List.length_filter_le _ _) (List.length_filter_le _ _)
theorem Qbgq {a : Qb} (h : Right a) {est : List Int} (hl : est.length ≤ 5000) (e : Int) : (Qqp a est e).length ≤ 131072 * 5000:=by
 have:=Qbiu (f:=fun s=>((outP a s).filter fun x=>x.Event == e).map (·.To)) (m:=131072) (l:=est) fun s _=>by
  have:=Qbov a s e; have:=h.small.2.2.2; rw [List.length_map]; omega
 exact Nat.le_trans this (Nat.mul_le_mul_left _ hl)
theorem Qbdu {a : Qb} (h : Right a) (onto : List Int) : (Qnd a onto).length < big:=by
 have:=h.small.2.1
 have : (Qnd a onto).length ≤ a.Alphabet.length:=List.length_filter_le _ _
 unfold big; omega
theorem Qbiv {a : Qb} (h : Right a) (onto : List Int) : (Qjs a onto).length ≤ 32:=by
 have:=h.small.2.1
 have : (Qjs a onto).length ≤ a.Alphabet.length:=List.length_filter_le _ _
 omega
theorem Qbjn {a : Qb} (h : Right a) {onto est : List Int} (he : ∀ s ∈ est,0 ≤ s ∧ s < a.States) (hl : est.length ≤ 5000) (e : Int) :
  Qdb (obsP a onto) est e = some (Qkn a onto est e):=by
 have hsm:=h.small
 have hmax:=Qbgq h hl e
 unfold Qdb Q0
 refine Qxn (x:=Qqp a est e) ?_ ?_
 ·refine (Qgo (len:=est.length) (fun n (l : List Int)=>(l,(n : Int))) (fun n l=>l = Qqp a (est.take n) e) (fun n l=>some (Qqp a est e)) ?_ ?_ Qbq 0 [] (Nat.zero_le _) (by unfold Qbq; omega) (by simp [Qqp]))
  ·rintro k n l hn rfl ih
   have hx:=he _ (List.getElem_mem hn)
   dsimp only
   rw [if_pos (by omega),Qb6 hn]
   simp only [Option.bind_some]
   rw [show getO (obsP a onto).out_ est[n] = _ from Qbis hx]
   simp only [Option.bind_some]
   have hol : (outP a est[n]).length ≤ 131072:=Nat.le_trans (List.length_filter_le _ _) hsm.2.2.2
   have hml : (Qqp a (est.take n) e).length ≤ 131072 * 5000:=Qbgq h (by rw [List.length_take]; omega) e
   refine Qxn (x:=Qqp a (est.take n) e ++ ((outP a est[n]).filter fun x=>x.Event == e).map (·.To)) ?_ ?_
   ·refine (Qgo (len:=(outP a est[n]).length) (fun m (l : List Int)=>(l,(m : Int))) (fun m l=>l = Qqp a (est.take n) e ++ (((outP a est[n]).take m).filter fun x=>x.Event == e).map (·.To)) (fun m l=>some (Qqp a (est.take n) e ++ ((outP a est[n]).filter fun x=>x.Event == e).map (·.To))) ?_ ?_ Qbq 0 _ (Nat.zero_le _) (by unfold Qbq; omega) (by simp))
    ·rintro k m l hm rfl ih
     dsimp only
     rw [if_pos (by omega),Qb6 hm]
     simp only [Option.bind_some]
     have hfl : ((((outP a est[n]).take m).filter fun x=>x.Event == e).map (·.To)).length ≤ 131072:=by
      rw [List.length_map]
      exact Nat.le_trans (List.length_filter_le _ _) (by rw [List.length_take]; omega)
     by_cases hx : (outP a est[n])[m].Event = e
     ·rw [if_pos (by simp [hx]),Qdc (by rw [List.length_append]; simp only [List.length_cons,List.length_nil]; unfold lim; omega)]
      simp only [Option.bind_some]
      rw [Qbj (by omega)]
      refine ih _ ?_
      rw [List.take_succ_eq_append_getElem hm,List.filter_append,List.map_append,List.append_assoc]
      simp [hx]
     ·rw [if_neg (by simp [hx])]
      simp only [Option.bind_some]
      rw [Qbj (by omega)]
      refine ih _ ?_
      rw [List.take_succ_eq_append_getElem hm,List.filter_append,List.map_append]
      simp [hx]
    ·rintro k l rfl
     dsimp only
     rw [if_neg (by omega),List.take_length]
   ·rw [Qbj (by omega)]
    refine ih _ ?_
    rw [List.take_succ_eq_append_getElem hn]
    simp only [Qqp,List.flatMap_append,List.flatMap_cons,List.flatMap_nil,List.append_nil]
  ·rintro k l rfl
   dsimp only
   rw [if_neg (by omega),List.take_length]
 ·rw [show (obsP a onto).erased_ = Qnd a onto from rfl,Qbit h (Qbcb h) (by unfold big; omega) (Qbdu h onto)]
  rfl
theorem Qbm9 {a : Qb} (h : Right a) (onto : List Int) : Qc1 (obsP a onto) = some (Qtw a onto):=by
 have hst:=h.st
 unfold Qc1 Qx
 have hlen : ((obsP a onto).out_.length : Int) = a.States:=by show ((Qbcr a).length : Int) = _; rw [Q8v]; omega
 rw [hlen]
 unfold Qtw
 by_cases h0 : a.States = 0
 ·rw [if_pos (by simp [h0]),if_pos h0]
 ·rw [if_neg (by simp [h0]),if_neg h0,show (obsP a onto).erased_ = Qnd a onto from rfl,Qbit h (fun s hs=>by simp at hs; subst hs; omega) (by unfold big; simp) (Qbdu h onto)]
  rfl
theorem Qbhn {a : Qb} (h : Right a) {onto est : List Int} (hl : est.length < big) : Qde (obsP a onto) est = some (est.any fun x=>decide (x ∈ a.Marked)):=by
 have hm:=h.small.2.2.1
 unfold Qde Qbb
 rw [Q2m (p:=fun x=>decide (x ∈ a.Marked)) (fun x=>by
  unfold Qdz Q5
  rw [show (obsP a onto).marked_ = a.Marked from rfl,Qhy (by unfold big; omega)]; rfl) hl]
 rfl
theorem Qbgr {l : List Int} {n : Int} (hl : l.length < big) : Qhu l n = some (Qe6 n none l):=Q7g hl
theorem Qblz {a : Qb} (h : small a) {ev : List Int} (hl : ev.length < big) : Qdd a ev = some (if Qxk a = 0 then Qe6 32 none ev else Qxk a):=by
 unfold Qdd Qv
 rw [Qbin h]
 simp only [Option.bind_some]
 by_cases h0 : Qxk a = 0
 ·rw [if_neg (by simp [h0]),if_pos h0,Qbgr hl]; rfl
 ·rw [if_pos (by simp [h0]),if_neg h0]
theorem Qbgs {a : Qb} (h : Right a) {ev : List Int} (hl : ev.length < big) : Qdd a ev = some (Qe6 32 none ev):=by
 rw [Qblz h.small.1 hl,if_pos (Qbgd.2 h)]
structure EvSet (l : List Int) : Prop where
 rg : ∀ x ∈ l,0 ≤ x ∧ x < 32
 so : l.Pairwise (· < ·)
theorem EvSet.err {l : List Int} (h : EvSet l) : Qe6 32 none l = 0:=Qhz.2 ⟨h.rg,h.so,fun y hy=>by cases hy⟩
theorem EvSet.len {l : List Int} (h : EvSet l) : l.length ≤ 32:=by have:=Qgs (a:=0) (b:=32) h.so h.rg; omega
theorem Evs.set {l : List Int} (h : Evs l) : EvSet l:=⟨fun x hx=>by have:=h.rg x hx; omega,h.so⟩
end Go.Abs
end
section
namespace Go.Abs
open Go
set_option linter.unusedSimpArgs false
set_option linter.unusedVariables false
theorem Qbp2 {l : List Int} {v : Int} (hl : l.length < big) : Qi6 l v = some (decide (v ∈ l)):=Qbim hl
theorem Qbho {α β R : Type} {F : (List β × Int → Option R) → List β × Int → Option R} {l : List α} {fuel : Nat} (p : α → Bool) (f : α → β) (fin : List β → Option R)
  (step : ∀ (k : List β × Int → Option R) (n : Nat) (h : n < l.length) (s : List β),s.length ≤ n → F k (s,(n : Int)) = k (if p l[n] then s ++ [f l[n]] else s,((n + 1 : Nat) : Int)))
  (last : ∀ (k : List β × Int → Option R) (s : List β),F k (s,(l.length : Int)) = fin s) (hf : l.length < fuel) : Qcb F fuel ([],0) = fin ((l.filter p).map f):=by
 refine (Qgo (len:=l.length) (fun n (s : List β)=>(s,(n : Int))) (fun n s=>s = ((l.take n).filter p).map f) (fun n s=>fin ((l.filter p).map f)) ?_ ?_ fuel 0 [] (Nat.zero_le _) (by omega) (by simp))
 ·rintro k n s hn rfl ih
  rw [step k n hn _ (by rw [List.length_map]; exact Nat.le_trans (List.length_filter_le _ _) (by rw [List.length_take]; omega))]
  refine ih _ ?_
  rw [List.take_succ_eq_append_getElem hn,List.filter_append,List.map_append]
  cases hp : p l[n] <;> simp [hp]
 ·rintro k s rfl
  rw [last,List.take_length]
structure RI (a : Qb) (ev fr o : List Int) : Prop where
 rch : ∀ s ∈ o,Rch a ev fr s
 sub : ∃ ad,o = fr ++ ad ∧ Fnd a ad
theorem RI.len {a : Qb} {ev fr o : List Int} (h : RI a ev fr o) : o.length ≤ fr.length + a.States.toNat:=by
 obtain ⟨ad,rfl,hf⟩:=h.sub
 have:=hf.len
 rw [List.length_append]; omega
theorem RI.base {a : Qb} {ev fr o : List Int} (h : RI a ev fr o) : ∀ s ∈ fr,s ∈ o:=by
 obtain ⟨ad,rfl,hf⟩:=h.sub
 exact fun s hs=>List.mem_append_left _ hs
end Go.Abs
end
section
namespace Go.Abs
open Go
set_option linter.unusedSimpArgs false
set_option linter.unusedVariables false
section
variable {a b : Qb} {φ : Int → Int} (ha : Right a) (hb : Right b) (h : Like a b φ)
include ha hb h
end
theorem Qbgt {a : Qb} {F : List Int} : ∀ (l : List Int) (i : Nat),l.Nodup → (Qtt a F i l).length ≤ (a.Edges.filter fun x=>decide (x.From ∈ l)).length
 | [],i,_=>by simp [Qtt]
 | s :: l,i,hn=>by
  have hn:=List.nodup_cons.1 hn
  simp only [Qtt,List.length_append]
  have ih:=Qbgt (a:=a) (F:=F) l (i + 1) hn.2
  have h1 : (rowP a F i s).length = (a.Edges.filter fun x=>x.From == s).length:=by simp [rowP,outP]
  have h2 : a.Edges.filter (fun x=>decide (x.From ∈ s :: l)) = a.Edges.filter (fun x=>x.From == s || decide (x.From ∈ l)):=by
   congr 1; funext x; rw [Bool.eq_iff_iff]; simp
  rw [h1,h2]
  have h3 : ∀ L : List Qe,(L.filter (fun x=>x.From == s)).length + (L.filter fun x=>decide (x.From ∈ l)).length = (L.filter (fun x=>x.From == s || decide (x.From ∈ l))).length:=by
   intro L
   induction L with
   | nil=>simp
   | cons x L ih =>
    by_cases hx : x.From = s
    ·have : ¬ x.From ∈ l:=by rw [hx]; exact hn.1
     simp [hx,hn.1] at ih ⊢; omega
    ·by_cases hm : x.From ∈ l <;> simp [hx,hm] at ih ⊢ <;> omega
  have:=h3 a.Edges
  omega
theorem Qbjo {a : Qb} (ha : Right a) : (Qqo a).States ≤ a.States ∧ (Qqo a).Edges.length ≤ a.Edges.length:=by
 have hF:=(Q90 ha).1
 have:=hF.len
 have hst:=ha.st
 refine ⟨by simp only [Qqo]; omega,?_⟩
 exact Nat.le_trans (Qbgt _ _ hF.nd) (List.length_filter_le _ _)
end Go.Abs
end
section
namespace Go.Abs
open Go
set_option linter.unusedSimpArgs false
set_option linter.unusedVariables false
theorem Sts.err {a : Qb} {l : List Int} (h : Sts a l) : Qe6 a.States none l = 0:=Qhz.2 ⟨h.rg,h.so,fun y hy=>by cases hy⟩
theorem Sts.big {a : Qb} (ha : Right a) {l : List Int} (h : Sts a l) : l.length < big:=by have:=h.len; have:=ha.st; unfold Abs.big; omega
theorem EvSet.big {l : List Int} (h : EvSet l) : l.length < big:=by have:=h.len; unfold Abs.big; omega
theorem Sts.t {a : Qb} (ha : Right a) {l : List Int} (h : Sts a l) : l.length < 1000000000000:=by have:=h.len; have:=ha.st; omega
end Go.Abs
end
section
namespace Go.Abs
open Go
set_option linter.unusedSimpArgs false
set_option linter.unusedVariables false
theorem bytes_beq (a b : ByteArray) : (a == b) = decide (a = b):=by
 cases a; cases b
 rw [Bool.eq_iff_iff]
 simp only [decide_eq_true_eq,ByteArray.mk.injEq]
 exact beq_iff_eq (α:=Array UInt8)
theorem Qxq {x y : Int} (hx : 0 ≤ x ∧ x < 256) (hy : 0 ≤ y ∧ y < 256) (h : x.toNat.toUInt8 = y.toNat.toUInt8) : x = y:=by
 have:=congrArg UInt8.toNat h
 simp only [Nat.toUInt8,UInt8.toNat_ofNat'] at this
 omega
theorem Qbae {r : Int} (h0 : 1 ≤ r) (h1 : r ≤ 50000) :
  (r ≤ 127 ∧ Lib.encodeRuneZ r = [r]) ∨ (128 ≤ r ∧ r ≤ 2047 ∧ Lib.encodeRuneZ r = [192 + r / 64,128 + r % 64]) ∨ (2048 ≤ r ∧ Lib.encodeRuneZ r = [224 + r / 4096,128 + r / 64 % 64,128 + r % 64]):=by
 by_cases h2 : r ≤ 127
 ·exact .inl ⟨h2,Lib.encodeRuneZ_one (by omega) h2⟩
 ·by_cases h3 : r ≤ 2047
  ·exact .inr (.inl ⟨by omega,h3,Lib.encodeRuneZ_two (by omega) h3⟩)
  ·exact .inr (.inr ⟨by omega,Lib.encodeRuneZ_three (.inl ⟨by omega,by omega⟩)⟩)
theorem Qbjp {r q : Int} (hr : 1 ≤ r ∧ r ≤ 50000) (hq : 1 ≤ q ∧ q ≤ 50000) {s t : List UInt8} (h : Lib.encodeRune r ++ s = Lib.encodeRune q ++ t) : r = q ∧ s = t:=by
 unfold Lib.encodeRune at h
 rcases Qbae hr.1 hr.2 with ⟨a1,a2⟩ | ⟨a0,a1,a2⟩ | ⟨a1,a2⟩ <;> rcases Qbae hq.1 hq.2 with ⟨b1,b2⟩ | ⟨b0,b1,b2⟩ | ⟨b1,b2⟩ <;> rw [a2,b2] at h <;>
  simp only [List.map_cons,List.map_nil,List.cons_append,List.nil_append,List.cons.injEq] at h
 ·exact ⟨Qxq (by omega) (by omega) h.1,h.2⟩
 ·have:=Qxq (by omega) (by omega) h.1; omega
 ·have:=Qxq (by omega) (by omega) h.1; omega
 ·have:=Qxq (by omega) (by omega) h.1; omega
 ·have e1:=Qxq (by omega) (by omega) h.1
  have e2:=Qxq (by omega) (by omega) h.2.1
  exact ⟨by omega,h.2.2⟩
 ·have:=Qxq (by omega) (by omega) h.1; omega
 ·have:=Qxq (by omega) (by omega) h.1; omega
 ·have:=Qxq (by omega) (by omega) h.1; omega
 ·have e1:=Qxq (by omega) (by omega) h.1
  have e2:=Qxq (by omega) (by omega) h.2.1
  have e3:=Qxq (by omega) (by omega) h.2.2.1
  exact ⟨by omega,h.2.2.2⟩
theorem Qbgu (r : Int) : Lib.encodeRune r ≠ []:=by
 unfold Lib.encodeRune Lib.encodeRuneZ
 split
 ·simp
 ·split
  ·simp
  ·split
   ·simp
   ·split <;> simp
theorem Qbiw : ∀ {l m : List Int},(∀ x ∈ l,0 ≤ x ∧ x < 50000) → (∀ x ∈ m,0 ≤ x ∧ x < 50000) → (l.flatMap fun x=>Lib.encodeRune (x + 1)) = (m.flatMap fun x=>Lib.encodeRune (x + 1)) → l = m
 | [],[],_,_,_=>rfl
 | [],y :: m,_,_,h=>by
  simp only [List.flatMap_nil,List.flatMap_cons] at h
  exact absurd (List.append_eq_nil_iff.1 h.symm).1 (Qbgu _)
 | x :: l,[],_,_,h=>by
  simp only [List.flatMap_nil,List.flatMap_cons] at h
  exact absurd (List.append_eq_nil_iff.1 h).1 (Qbgu _)
 | x :: l,y :: m,hl,hm,h=>by
  simp only [List.flatMap_cons] at h
  have hx:=hl x (by simp); have hy:=hm y (by simp)
  obtain ⟨h1,h2⟩:=Qbjp ⟨by omega,by omega⟩ ⟨by omega,by omega⟩ h
  rw [Qbiw (fun z hz=>hl z (by simp [hz])) (fun z hz=>hm z (by simp [hz])) h2,show x = y from by omega]
theorem Qbe1 {l m : List Int} (hl : ∀ x ∈ l,0 ≤ x ∧ x < 50000) (hm : ∀ x ∈ m,0 ≤ x ∧ x < 50000) (h : keyB l = keyB m) : l = m:=by
 unfold keyB at h
 have h:=congrArg (fun b : ByteArray=>b.data.toList) h
 simp only [List.toList_toArray] at h
 exact Qbiw hl hm h
theorem Qbnw {l : List Int} (hl : l.length ≤ lim) (hx : ∀ x ∈ l,0 ≤ x ∧ x < 50000) : keyS l = some (keyB l):=by
 unfold keyS; rw [if_pos ⟨hl,hx⟩]
structure KM (S : List (List Int)) (c : List (ByteArray × Int)) : Prop where
 has : ∀ n,(∀ x ∈ n,0 ≤ x ∧ x < 50000) → hasM c (keyB n) = decide (n ∈ S)
 get : ∀ n ∈ S,getM c (keyB n) 0 = (S.idxOf n : Int)
 rg : ∀ n ∈ S,∀ x ∈ n,0 ≤ x ∧ x < 50000
theorem Qbcc {β : Type} {v : β} {k k' : ByteArray} : ∀ {m : List (ByteArray × β)},hasM (setM m k v) k' = (decide (k' = k) || hasM m k')
 | []=>by simp [setM,hasM,bytes_beq]
 | (q,w) :: m=>by
  have ih:=Qbcc (v:=v) (k:=k) (k':=k') (m:=m)
  simp only [setM]
  by_cases h : k = q
  ·subst h
   simp only [bytes_beq,decide_true,if_true,Qbbs]
   by_cases h2 : k' = k <;> simp [h2,bytes_beq]
  ·simp only [bytes_beq,h,decide_false,Bool.false_eq_true,if_false,Qbbs]
   rw [ih]
   cases decide (k' = q) <;> cases decide (k' = k) <;> rfl
theorem Qbcd {β : Type} {z v : β} {k k' : ByteArray} : ∀ {m : List (ByteArray × β)},getM (setM m k v) k' z = if k' = k then v else getM m k' z
 | []=>by simp [setM,getM,bytes_beq]
 | (q,w) :: m=>by
  have ih:=Qbcd (z:=z) (v:=v) (k:=k) (k':=k') (m:=m)
  simp only [setM]
  by_cases h : k = q
  ·subst h
   simp only [bytes_beq,decide_true,if_true,getM]
   by_cases h2 : k' = k
   ·subst h2; simp
   ·simp [h2]
  ·simp only [bytes_beq,h,decide_false,Bool.false_eq_true,if_false,getM]
   by_cases h2 : k' = q
   ·subst h2
    have : ¬ k' = k:=fun e=>h e.symm
    simp [this]
   ·simp only [h2,decide_false,Bool.false_eq_true,if_false,ih]
theorem KM.first {n : List Int} (hn : ∀ x ∈ n,0 ≤ x ∧ x < 50000) : KM [n] (setM ([] : List (ByteArray × Int)) (keyB n) 0):=by
 refine ⟨fun m hm=>?_,fun m hm=>?_,fun m hm=>?_⟩
 ·rw [Qbcc]
  have : hasM ([] : List (ByteArray × Int)) (keyB m) = false:=rfl
  rw [this,Bool.or_false]
  apply decide_eq_decide.2
  rw [List.mem_singleton]
  exact ⟨fun h=>Qbe1 hm hn h,fun h=>by rw [h]⟩
 ·rw [List.mem_singleton] at hm; subst hm
  rw [Qbcd,if_pos rfl]; simp
 ·rw [List.mem_singleton] at hm; subst hm; exact hn
theorem KM.add {S : List (List Int)} {c : List (ByteArray × Int)} (h : KM S c) {n : List Int} (hn : ∀ x ∈ n,0 ≤ x ∧ x < 50000) (hm : n ∉ S) : KM (S ++ [n]) (setM c (keyB n) (S.length : Int)):=by
 refine ⟨fun m hm'=>?_,fun m hm'=>?_,fun m hm'=>?_⟩
 ·rw [Qbcc,h.has m hm',← Bool.decide_or]
  apply decide_eq_decide.2
  rw [List.mem_append,List.mem_singleton]
  constructor
  ·rintro (e | e)
   ·exact .inr (Qbe1 hm' hn e)
   ·exact .inl e
  ·rintro (e | e)
   ·exact .inr e
   ·exact .inl (by rw [e])
 ·rw [Qbcd]
  rw [List.mem_append,List.mem_singleton] at hm'
  rcases hm' with hm' | rfl
  ·rw [if_neg (fun e=>hm (by rw [← Qbe1 (h.rg m hm') hn e]; exact hm')),h.get m hm',List.idxOf_append,if_pos hm']
  ·rw [if_pos rfl,List.idxOf_append,if_neg hm]; simp
 ·rw [List.mem_append,List.mem_singleton] at hm'
  rcases hm' with hm' | rfl
  ·exact h.rg m hm'
  ·exact hn
end Go.Abs
end
section
namespace Go.Abs
open Go
set_option linter.unusedSimpArgs false
set_option linter.unusedVariables false
def insL (o : List (List Int)) (t : List Int) : List (List Int) := if t ∈ o then o else o ++ [t]
noncomputable def Q2n (a : Qb) (onto est : List Int) (l : List Int) : List (Int × List Int) := l.filterMap fun x => if Qkn a onto est x = [] then none else some (x, Qkn a onto est x)
noncomputable def rowN (a : Qb) (onto est : List Int) : List (Int × List Int) := Q2n a onto est (Qjs a onto)
def Q8w (S : List (List Int)) (row : List (Int × List Int)) : List (List Int) := row.foldl (fun o p => insL o p.2) S
def rowE (S : List (List Int)) (i : Nat) (row : List (Int × List Int)) : List Qe := row.map fun p => ⟨(i : Int), p.1, (S.idxOf p.2 : Int)⟩
noncomputable def estB (a : Qb) (onto : List Int) : Nat → List (List Int)
  | 0 => [Qtw a onto]
  | i + 1 => match (estB a onto i)[i]? with
    | some s => Q8w (estB a onto i) (rowN a onto s)
    | none => estB a onto i
noncomputable def edN (a : Qb) (onto : List Int) (S : List (List Int)) : Nat → List (List Int) → List Qe
  | _, [] => []
  | i, s :: t => rowE S i (rowN a onto s) ++ edN a onto S (i + 1) t
def mkN (a : Qb) : Nat → List (List Int) → List Int
  | _, [] => []
  | i, s :: t => (if s.any (fun x => decide (x ∈ a.Marked)) then [(i : Int)] else []) ++ mkN a (i + 1) t
noncomputable def autN (a : Qb) (onto : List Int) (S : List (List Int)) : Qb := ⟨Qjs a onto, (S.length : Int), mkN a 0 S, edN a onto S 0 S⟩
theorem Qbe2 {o : List (List Int)} {t x : List Int} : x ∈ insL o t ↔ x ∈ o ∨ x = t := by
  unfold insL; split
  · rename_i h
    exact ⟨.inl, fun e => e.elim id fun e => by rw [e]; exact h⟩
  · simp
theorem Qbix (o : List (List Int)) (t : List Int) : o <+: insL o t := by
  unfold insL; split
  · exact List.prefix_refl o
  · exact List.prefix_append o _
theorem Qbdv {o : List (List Int)} (h : o.Nodup) (t : List Int) : (insL o t).Nodup := by
  unfold insL; split
  · exact h
  · rename_i hn
    rw [List.nodup_append]
    exact ⟨h, by simp, fun x hx y hy e => by simp at hy; subst hy; subst e; exact hn hx⟩
theorem Qbce : ∀ (row : List (Int × List Int)) (S : List (List Int)), S <+: Q8w S row
  | [], S => List.prefix_refl S
  | p :: row, S => (Qbix S p.2).trans (Qbce row (insL S p.2))
theorem Qbcf : ∀ (row : List (Int × List Int)) {S : List (List Int)}, S.Nodup → (Q8w S row).Nodup
  | [], S, h => h
  | p :: row, S, h => Qbcf row (Qbdv h p.2)
theorem Q2o : ∀ (row : List (Int × List Int)) (S : List (List Int)) (x : List Int), x ∈ Q8w S row ↔ x ∈ S ∨ ∃ p ∈ row, p.2 = x
  | [], S, x => by simp [Q8w]
  | p :: row, S, x => by
    show x ∈ Q8w (insL S p.2) row ↔ _
    rw [Q2o row, Qbe2]
    simp only [List.mem_cons, exists_eq_or_imp]
    constructor
    · rintro ((h | h) | h)
      · exact .inl h
      · exact .inr (.inl h.symm)
      · exact .inr (.inr h)
    · rintro (h | h | h)
      · exact .inl (.inl h)
      · exact .inl (.inr h.symm)
      · exact .inr h
theorem Qbgv : ∀ (row : List (Int × List Int)) (S : List (List Int)), (Q8w S row).length ≤ S.length + row.length
  | [], S => by simp [Q8w]
  | p :: row, S => by
    have := Qbgv row (insL S p.2)
    have h2 : (insL S p.2).length ≤ S.length + 1 := by unfold insL; split <;> simp
    show (Q8w (insL S p.2) row).length ≤ _
    simp only [List.length_cons]; omega
theorem Q2p {a : Qb} {onto est l : List Int} {p : Int × List Int} : p ∈ Q2n a onto est l ↔ p.1 ∈ l ∧ p.2 = Qkn a onto est p.1 ∧ p.2 ≠ [] := by
  obtain ⟨x, n⟩ := p
  simp only [Q2n, List.mem_filterMap]
  constructor
  · rintro ⟨y, hy, h⟩
    split at h
    · cases h
    · rename_i hne
      cases h; exact ⟨hy, rfl, hne⟩
  · rintro ⟨h1, h2, h3⟩
    refine ⟨x, h1, ?_⟩
    subst h2
    rw [if_neg h3]
theorem Qbgw {a : Qb} {onto est l : List Int} : (Q2n a onto est l).length ≤ l.length := List.length_filterMap_le _ _
theorem Qbdw {o F : List (List Int)} (h : o <+: F) {t : List Int} (ht : t ∈ o) : F.idxOf t = o.idxOf t := by
  obtain ⟨r, rfl⟩ := h
  rw [List.idxOf_append, if_pos ht]
structure Ests (a : Qb) (S : List (List Int)) : Prop where
  nd : S.Nodup
  ok : ∀ s ∈ S, Sts a s ∧ s ≠ []
theorem Ests.grow {a : Qb} {S : List (List Int)} (h : Ests a S) (onto est l : List Int) : Ests a (Q8w S (Q2n a onto est l)) := by
  refine ⟨Qbcf _ h.nd, fun s hs => ?_⟩
  rcases (Q2o _ _ _).1 hs with hs | ⟨p, hp, rfl⟩
  · exact h.ok s hs
  · obtain ⟨_, h2, h3⟩ := Q2p.1 hp
    exact ⟨by rw [h2]; exact Qbgo _ _ _ _, h3⟩
theorem Qbna {a : Qb} (h : 0 < a.States) (onto : List Int) : Qtw a onto ≠ [] := by
  unfold Qtw
  rw [if_neg (by omega)]
  intro e
  have : (0 : Int) ∈ Qtu a [0] (Qnd a onto) := Qtv.2 ⟨by omega, .base (by simp)⟩
  rw [e] at this; simp at this
theorem Ests.first {a : Qb} (h : 0 < a.States) (onto : List Int) : Ests a [Qtw a onto] :=
  ⟨by simp, fun s hs => by simp at hs; subst hs; exact ⟨Q23 _ _, Qbna h onto⟩⟩
theorem Q2q {a : Qb} (h : 0 < a.States) (onto : List Int) : ∀ i, Ests a (estB a onto i)
  | 0 => .first h onto
  | i + 1 => by
    unfold estB
    split
    · exact (Q2q h onto i).grow _ _ _
    · exact Q2q h onto i
theorem Qbgx {a : Qb} {onto : List Int} (i : Nat) : estB a onto i <+: estB a onto (i + 1) := by
  conv => rhs; unfold estB
  split
  · exact Qbce _ _
  · exact List.prefix_refl _
theorem Qbe3 {a : Qb} {onto : List Int} {i j : Nat} (h : i ≤ j) : estB a onto i <+: estB a onto j := by
  induction j with
  | zero => obtain rfl : i = 0 := by omega
            exact List.prefix_refl _
  | succ j ih =>
    rcases Nat.lt_or_ge i (j + 1) with hlt | hge
    · exact (ih (by omega)).trans (Qbgx j)
    · obtain rfl : i = j + 1 := by omega
      exact List.prefix_refl _
theorem Qbnb {a : Qb} {onto : List Int} {i j : Nat} (hij : i < j) {s : List Int} (hs : (estB a onto j)[i]? = some s) (hlt : i < (estB a onto i).length) : ∀ p ∈ rowN a onto s, p.2 ∈ estB a onto (i + 1) := by
  intro p hp
  have h1 : (estB a onto i)[i]? = some s := by
    rw [← hs]
    obtain ⟨r, hr⟩ := Qbe3 (a := a) (onto := onto) (Nat.le_of_lt hij)
    rw [← hr, List.getElem?_append_left hlt]
  unfold estB
  rw [h1]
  exact (Q2o _ _ _).2 (.inr ⟨p, hp, rfl⟩)
theorem Qbdx {a : Qb} {onto : List Int} {S : List (List Int)} : ∀ (l m : List (List Int)) (i : Nat), edN a onto S i (l ++ m) = edN a onto S i l ++ edN a onto S (i + l.length) m
  | [], m, i => by simp [edN]
  | s :: l, m, i => by
    simp only [List.cons_append, edN, Qbdx l m, List.length_cons, List.append_assoc]
    rw [show i + 1 + l.length = i + (l.length + 1) from by omega]
theorem Qbdy {a : Qb} : ∀ (l m : List (List Int)) (i : Nat), mkN a i (l ++ m) = mkN a i l ++ mkN a (i + l.length) m
  | [], m, i => by simp [mkN]
  | s :: l, m, i => by
    simp only [List.cons_append, mkN, Qbdy l m, List.length_cons, List.append_assoc]
    rw [show i + 1 + l.length = i + (l.length + 1) from by omega]
theorem Qbl0 {a : Qb} {onto : List Int} {S T : List (List Int)} (h : S <+: T) : ∀ (l : List (List Int)) (i : Nat), (∀ s ∈ l, ∀ p ∈ rowN a onto s, p.2 ∈ S) → edN a onto T i l = edN a onto S i l
  | [], i, _ => rfl
  | s :: l, i, hl => by
    simp only [edN]
    rw [Qbl0 h l (i + 1) fun t ht => hl t (by simp [ht])]
    congr 1
    refine List.map_congr_left fun p hp => ?_
    rw [Qbdw h (hl s (by simp) p hp)]
theorem Qbl1 {a : Qb} (h : Right a) {onto : List Int} {S : List (List Int)} : ∀ (l : List (List Int)) (i : Nat), (edN a onto S i l).length ≤ 32 * l.length
  | [], i => by simp [edN]
  | s :: l, i => by
    have := Qbl1 h (onto := onto) (S := S) l (i + 1)
    have h1 : (rowN a onto s).length ≤ (Qjs a onto).length := Qbgw
    have h2 := Qbiv h onto
    simp only [edN, rowE, List.length_append, List.length_map, List.length_cons]; omega
theorem Qbl2 {a : Qb} : ∀ (l : List (List Int)) (i : Nat), (mkN a i l).length ≤ l.length
  | [], i => by simp [mkN]
  | s :: l, i => by
    have := Qbl2 (a := a) l (i + 1)
    simp only [mkN, List.length_append, List.length_cons]
    split <;> simp <;> omega
theorem Sts.lt {a : Qb} (h : Right a) {l : List Int} (hl : Sts a l) : ∀ x ∈ l, 0 ≤ x ∧ x < 50000 := fun x hx => by
  have := hl.rg x hx; have := h.st; omega
end Go.Abs
end
section
namespace Go.Abs
open Go
set_option linter.unusedSimpArgs false
set_option linter.unusedVariables false
def Qbpq (a : Qb) (onto : List Int) (r : Qb × List (List Int) × Int) : Prop :=
 (∃ n,(estB a onto n).length = n ∧ n ≤ 4096 ∧ r = (autN a onto (estB a onto n),estB a onto n,0)) ∨ (∃ n,4096 < (estB a onto n).length ∧ r = (⟨[],0,[],[]⟩,[],3))
theorem Qbpr {α : Type} (l : List α) : ((l.length : Int) == 0) = decide (l = []):=by
 cases l with
 | nil=>rfl
 | cons x l=>simp; omega
theorem Qbjq {a : Qb} (h : Right a) {onto : List Int} (ho : EvSet onto) :
  ∃ r,Qes a onto = some r ∧ (if a.States = 0 then r = (⟨Qjs a onto,0,[],[]⟩,[],0) else Qbpq a onto r):=by
 have hol:=ho.len
 have hkl:=Qbiv h onto
 have hst:=h.st
 have hob : onto.length < big:=by unfold big; omega
 unfold Qes Qbd
 rw [Qbgs h hob,ho.err]
 simp only [Option.bind_some,show ((0 : Int) != 0) = false from rfl,Bool.false_eq_true,if_false]
 rw [Qbjm h hob]
 simp only [Option.bind_some]
 by_cases h0 : a.States = 0
 ·rw [if_pos (by simp [h0])]
  simp only [h0,if_true]
  exact ⟨_,rfl,rfl⟩
 ·have hpos : 0 < a.States:=by omega
  rw [if_neg (by simp [h0]),Qbm9 h onto]
  simp only [h0,if_false]
  simp only [Option.bind_some]
  have hsl:=(Q23 a onto).len
  rw [Qbnw (by unfold lim; omega) ((Q23 a onto).lt h)]
  simp only [Option.bind_some]
  refine Qey (fun x=>∃ (n : Nat) (c : List (ByteArray × Int)),n ≤ (estB a onto n).length ∧ (estB a onto n).length ≤ 4096 ∧ KM (estB a onto n) c ∧ (∀ i s,i < n → (estB a onto n)[i]? = some s → ∀ p ∈ rowN a onto s,p.2 ∈ estB a onto n) ∧
    x = (estB a onto n,(n : Int),[],[],[],mkN a 0 ((estB a onto n).take n),edN a onto (estB a onto n) 0 ((estB a onto n).take n),c)) (fun x=>5000 - x.2.1.toNat) (fun x r=>∃ y,r = some y ∧ Qbpq a onto y) ?_ Qbq _ ?_ ?_
  ·rintro k _ ⟨n,c,hn,hlen,hK,hcl,rfl⟩ ih
   have hE:=Q2q hpos onto n
   dsimp only
   by_cases hlt : n < (estB a onto n).length
   ·rw [if_pos (by omega),Qb6 hlt]
    generalize hs : (estB a onto n)[n] = s
    have hg : (estB a onto n)[n]? = some s:=by rw [List.getElem?_eq_getElem hlt,hs]
    have hsS : Sts a s:=(hE.ok s (List.mem_of_getElem? hg)).1
    have hsl:=hsS.len
    simp only [Option.bind_some]
    rw [Qbhn h (by unfold big; omega)]
    simp only [Option.bind_some]
    have hml:=Qbl2 (a:=a) ((estB a onto n).take n) 0
    rw [List.length_take] at hml
    have hel:=Qbl1 h (onto:=onto) (S:=estB a onto n) ((estB a onto n).take n) 0
    rw [List.length_take] at hel
    have htake : (estB a onto n).take (n + 1) = (estB a onto n).take n ++ [s]:=by rw [List.take_succ_eq_append_getElem hlt,hs]
    have hpre:=Qbgx (a:=a) (onto:=onto) n
    have hstep : estB a onto (n + 1) = Q8w (estB a onto n) (rowN a onto s):=by
     show (match (estB a onto n)[n]? with | some s=>_ | none=>_) = _
     rw [hg]
    have hlen' : (estB a onto (n + 1)).length ≤ (estB a onto n).length + 32:=by
     rw [hstep]
     have:=Qbgv (rowN a onto s) (estB a onto n)
     have h2 : (rowN a onto s).length ≤ (Qjs a onto).length:=Qbgw
     omega
    have htake2 : (estB a onto (n + 1)).take (n + 1) = (estB a onto n).take (n + 1):=by
     obtain ⟨r,hr⟩:=hpre
     rw [← hr,List.take_append_of_le_length (by omega)]
    refine Qbou (x:=mkN a 0 ((estB a onto n).take (n + 1))) ?_ ?_
    ·rw [htake,Qbdy]
     simp only [mkN,List.append_nil,List.length_take,Nat.zero_add,Nat.min_eq_left (Nat.le_of_lt hlt)]
     by_cases hm : s.any (fun x=>decide (x ∈ a.Marked)) = true
     ·rw [if_pos hm,if_pos hm,Qdc (by simp only [List.length_cons,List.length_nil]; unfold lim; omega)]
      rfl
     ·rw [if_neg hm,if_neg hm,List.append_nil]
    refine Qbm6 (fun y=>∃ c',KM (estB a onto (n + 1)) c' ∧ y = (estB a onto (n + 1),edN a onto (estB a onto n) 0 ((estB a onto n).take n) ++ rowE (estB a onto (n + 1)) n (rowN a onto s),c')) ?_ ?_
    ·-- the events of a state
     refine Qey (fun x=>∃ (m : Nat) (S : List (List Int)) (r : List Qe) (c : List (ByteArray × Int)),x = (S,(m : Int),r,c) ∧ m ≤ (Qjs a onto).length ∧ S[n]? = some s ∧ Ests a S ∧ S.length ≤ 4096 + m ∧ r.length ≤ 32 * 4096 + m ∧ KM S c ∧
      Q8w S (Q2n a onto s ((Qjs a onto).drop m)) = estB a onto (n + 1) ∧ r ++ rowE (estB a onto (n + 1)) n (Q2n a onto s ((Qjs a onto).drop m)) = edN a onto (estB a onto n) 0 ((estB a onto n).take n) ++ rowE (estB a onto (n + 1)) n (rowN a onto s))
      (fun x=>(Qjs a onto).length - x.2.1.toNat) (fun x r=>∃ y,r = some y ∧ ∃ c',KM (estB a onto (n + 1)) c' ∧ y = (estB a onto (n + 1),edN a onto (estB a onto n) 0 ((estB a onto n).take n) ++ rowE (estB a onto (n + 1)) n (rowN a onto s),c')) ?_ Qbq _ ?_ ?_
     ·rintro k _ ⟨m,S,r,c,rfl,hm,hgs,hES,hSl,hrl,hKS,hg1,hg2⟩ ih
      dsimp only
      by_cases hlm : m < (Qjs a onto).length
      ·rw [show (obsP a onto).kept_ = Qjs a onto from rfl,if_pos (by omega),Qb6 hlm]
       have hgn : getO S (n : Int) = some s:=by rw [Qkl]; exact ⟨by omega,by simpa using hgs⟩
       simp only [Option.bind_some]
       rw [hgn]
       simp only [Option.bind_some]
       rw [Qbjn h hsS.rg (by omega)]
       simp only [Option.bind_some,Qbpr]
       rw [List.drop_eq_getElem_cons hlm] at hg1 hg2
       generalize (Qjs a onto)[m] = x at hg1 hg2 ⊢
       have hNS:=Qbgo a onto s x
       have hcons : Q2n a onto s (x :: (Qjs a onto).drop (m + 1)) = if Qkn a onto s x = [] then Q2n a onto s ((Qjs a onto).drop (m + 1)) else (x,Qkn a onto s x) :: Q2n a onto s ((Qjs a onto).drop (m + 1)):=by
        simp only [Q2n,List.filterMap_cons]
        split <;> simp_all
       rw [hcons] at hg1 hg2
       generalize hN : Qkn a onto s x = N at hg1 hg2 hNS ⊢
       by_cases hne : N = []
       ·rw [if_pos hne] at hg1 hg2
        simp only [hne,decide_true,if_true,Option.bind_some]
        rw [Qbj (by omega)]
        exact ih _ ⟨m + 1,S,r,c,rfl,by omega,hgs,hES,by omega,by omega,hKS,hg1,hg2⟩ (by simp only; omega)
       ·rw [if_neg hne] at hg1 hg2
        have hNl:=hNS.len
        simp only [hne,decide_false,Bool.false_eq_true,if_false]
        rw [Qbnw (by unfold lim; omega) (hNS.lt h)]
        simp only [Option.bind_some]
        rw [hKS.has N (hNS.lt h)]
        have hg1' : Q8w (insL S N) (Q2n a onto s ((Qjs a onto).drop (m + 1))) = estB a onto (n + 1):=hg1
        have hfin : insL S N <+: estB a onto (n + 1):=by rw [← hg1']; exact Qbce _ _
        have hmemN : N ∈ insL S N:=Qbe2.2 (.inr rfl)
        have hidx : (estB a onto (n + 1)).idxOf N = (insL S N).idxOf N:=Qbdw hfin hmemN
        have hg2' : (r ++ [(⟨(n : Int),x,((insL S N).idxOf N : Int)⟩ : Qe)]) ++ rowE (estB a onto (n + 1)) n (Q2n a onto s ((Qjs a onto).drop (m + 1))) = edN a onto (estB a onto n) 0 ((estB a onto n).take n) ++ rowE (estB a onto (n + 1)) n (rowN a onto s):=by
         rw [← hg2,← hidx,List.append_assoc]
         rfl
        have hESi : Ests a (insL S N):=⟨Qbdv hES.nd N,fun t ht=>by
         rcases Qbe2.1 ht with ht | rfl
         ·exact hES.ok t ht
         ·exact ⟨hNS,hne⟩⟩
        have hgsi : (insL S N)[n]? = some s:=by
         obtain ⟨q,hq⟩:=Qbix S N
         rw [← hq,List.getElem?_append_left (List.getElem?_eq_some_iff.1 hgs).1]; exact hgs
        have hli : (insL S N).length ≤ S.length + 1:=by unfold insL; split <;> simp
        by_cases hin : N ∈ S
        ·have hi : insL S N = S:=by unfold insL; rw [if_pos hin]
         rw [if_pos (by simp [hin]),hKS.get N hin]
         simp only [Option.bind_some]
         rw [Qdc (by simp only [List.length_cons,List.length_nil]; unfold lim; omega)]
         simp only [Option.bind_some]
         rw [Qbj (by omega)]
         rw [hi] at hg1' hg2'
         exact ih _ ⟨m + 1,S,_,c,rfl,by omega,hgs,hES,by omega,by rw [List.length_append]; simp only [List.length_cons,List.length_nil]; omega,hKS,hg1',hg2'⟩ (by simp only; omega)
        ·have hi : insL S N = S ++ [N]:=by unfold insL; rw [if_neg hin]
         have hix : (insL S N).idxOf N = S.length:=by rw [hi,List.idxOf_append,if_neg hin]; simp
         rw [if_neg (by simp [hin]),Qdc (by simp only [List.length_cons,List.length_nil]; unfold lim; omega)]
         simp only [Option.bind_some]
         rw [Qdc (by simp only [List.length_cons,List.length_nil]; unfold lim; omega)]
         simp only [Option.bind_some]
         rw [Qbj (by omega)]
         have hKadd:=hKS.add (hNS.lt h) hin
         rw [hix] at hg2'
         rw [hi] at hg1' hESi hgsi
         exact ih _ ⟨m + 1,S ++ [N],_,_,rfl,by omega,hgsi,hESi,by simp; omega,by rw [List.length_append]; simp only [List.length_cons,List.length_nil]; omega,hKadd,hg1',hg2'⟩ (by simp only; omega)
      ·rw [show (obsP a onto).kept_ = Qjs a onto from rfl,if_neg (by omega)]
       have hd : (Qjs a onto).drop m = []:=List.drop_eq_nil_of_le (by omega)
       rw [hd] at hg1 hg2
       have hg1 : S = estB a onto (n + 1):=hg1
       subst hg1
       simp only [Q2n,List.filterMap_nil,rowE,List.map_nil,List.append_nil] at hg2
       exact ⟨_,rfl,c,hKS,by rw [hg2]; rfl⟩
     ·exact ⟨0,_,_,c,rfl,Nat.zero_le _,hg,hE,by omega,by omega,hK,by rw [List.drop_zero,hstep]; rfl,by rw [List.drop_zero]; rfl⟩
     ·simp only [Int.toNat_zero]; unfold Qbq; omega
    ·rintro _ ⟨c',hK',rfl⟩
     dsimp only
     have hrows : ∀ i t,i < n + 1 → (estB a onto (n + 1))[i]? = some t → ∀ p ∈ rowN a onto t,p.2 ∈ estB a onto (n + 1):=by
      intro i t hi ht p hp
      obtain ⟨q,hq⟩:=id hpre
      rcases Nat.lt_or_ge i n with hin | hin
      ·rw [← hq,List.getElem?_append_left (by omega)] at ht
       exact hpre.subset (hcl i t hin ht p hp)
      ·obtain rfl : i = n:=by omega
       rw [← hq,List.getElem?_append_left hlt,hg] at ht
       cases ht
       rw [hstep]
       exact (Q2o _ _ _).2 (.inr ⟨p,hp,rfl⟩)
     have hed : edN a onto (estB a onto n) 0 ((estB a onto n).take n) ++ rowE (estB a onto (n + 1)) n (rowN a onto s) = edN a onto (estB a onto (n + 1)) 0 ((estB a onto (n + 1)).take (n + 1)):=by
      rw [htake2,htake,Qbdx]
      simp only [edN,List.append_nil,List.length_take,Nat.zero_add,Nat.min_eq_left (Nat.le_of_lt hlt)]
      congr 1
      refine (Qbl0 hpre _ _ fun t ht p hp=>?_).symm
      obtain ⟨i,hi⟩:=List.getElem?_of_mem ht
      have hilt:=(List.getElem?_eq_some_iff.1 hi).1
      rw [List.length_take] at hilt
      rw [List.getElem?_take,if_pos (by omega)] at hi
      exact hcl i t (by omega) hi p hp
     rw [hed]
     by_cases hbig : 4096 < (estB a onto (n + 1)).length
     ·rw [if_pos (by omega)]
      exact ⟨_,rfl,.inr ⟨n + 1,hbig,rfl⟩⟩
     ·rw [if_neg (by omega),Qbj (by omega)]
      have:=hpre.length_le
      refine ih _ ⟨n + 1,c',by omega,by omega,hK',hrows,?_⟩ (by simp only; omega)
      rw [htake2]
   ·rw [if_neg (by omega)]
    have hnn : (estB a onto n).length = n:=by omega
    refine ⟨_,rfl,.inl ⟨n,hnn,by omega,?_⟩⟩
    rw [List.take_of_length_le (by omega)]
    rfl
  ·refine ⟨0,_,Nat.zero_le _,by simp [estB],.first ((Q23 a onto).lt h),fun i s hi=>by omega,rfl⟩
  ·simp only [Int.toNat_zero]; unfold Qbq; omega
end Go.Abs
end
section
namespace Go.Abs
open Go
set_option linter.unusedSimpArgs false
set_option linter.unusedVariables false
def Qbps (b : Qb) (onto : List Int) : Prop:=∀ x ∈ b.Edges,x.Event ∉ onto → x.To = x.From
section
variable {b : Qb} (hb : Right b) {onto : List Int} (hs : Qbps b onto)
include hb hs
end
end Go.Abs
end
section
namespace Go.Abs
open Go
set_option linter.unusedSimpArgs false
set_option linter.unusedVariables false
structure Proj (a : Qb) (onto : List Int) (S : List (List Int)) : Prop where
 es : Ests a S
 first : S[0]? = some (Qtw a onto)
 cl : ∀ s ∈ S,∀ e ∈ Qjs a onto,Qkn a onto s e ≠ [] → Qkn a onto s e ∈ S
 form : ∀ s ∈ S,∃ fr,(∀ t ∈ fr,0 ≤ t ∧ t < a.States) ∧ s = Qtu a fr (Qnd a onto)
theorem Qbcg {a : Qb} (h : Right a) (h0 : 0 < a.States) (onto : List Int) : ∀ i,∀ s ∈ estB a onto i,∃ fr,(∀ t ∈ fr,0 ≤ t ∧ t < a.States) ∧ s = Qtu a fr (Qnd a onto)
 | 0,s,hs=>by
  simp only [estB,List.mem_singleton] at hs
  subst hs
  unfold Qtw
  rw [if_neg (by omega)]
  exact ⟨[0],fun t ht=>by simp at ht; subst ht; omega,rfl⟩
 | i + 1,s,hs=>by
  unfold estB at hs
  split at hs
  ·rcases (Q2o _ _ _).1 hs with hs | ⟨p,hp,rfl⟩
   ·exact Qbcg h h0 onto i s hs
   ·obtain ⟨_,h2,_⟩:=Q2p.1 hp
    rw [h2]
    exact ⟨_,Qbcb h,rfl⟩
  ·exact Qbcg h h0 onto i s hs
theorem Qbl3 {a : Qb} {onto : List Int} (i : Nat) : (estB a onto i)[0]? = some (Qtw a onto):=by
 obtain ⟨r,hr⟩:=Qbe3 (a:=a) (onto:=onto) (Nat.zero_le i)
 rw [← hr]; rfl
theorem Qbow {a : Qb} (h : Right a) (h0 : 0 < a.States) {onto : List Int} {n : Nat} (hn : (estB a onto n).length = n) : Proj a onto (estB a onto n):=by
 refine ⟨Q2q h0 onto n,Qbl3 n,fun s hs e he hne=>?_,Qbcg h h0 onto n⟩
 obtain ⟨i,hi⟩:=List.getElem?_of_mem hs
 have hlt:=(List.getElem?_eq_some_iff.1 hi).1
 have hil : i < (estB a onto i).length:=by
  rcases Nat.lt_or_ge i (estB a onto i).length with hlt2 | hge
  ·exact hlt2
  ·exfalso
   -- the search has ended before
   have key : ∀ k,k ≤ i → (estB a onto i).length ≤ k → estB a onto n = estB a onto i ∨ k < i:=by
    intro k hk hkl
    by_cases hki : k = i
    ·left
     subst hki
     have : ∀ m,estB a onto (k + m) = estB a onto k:=by
      intro m
      induction m with
      | zero=>rfl
      | succ m ih =>
       rw [show estB a onto (k + (m + 1)) = (match (estB a onto (k + m))[k + m]? with | some s=>Q8w (estB a onto (k + m)) (rowN a onto s) | none=>estB a onto (k + m)) from rfl,ih,List.getElem?_eq_none (by omega)]
     rw [← this (n - k)]
     congr 1; omega
    ·right; omega
   rcases key i (Nat.le_refl i) hge with h1 | h1
   ·rw [h1] at hlt; omega
   ·omega
 have hp:=Qbnb (a:=a) (onto:=onto) (i:=i) (j:=n) (by omega) hi hil (e,Qkn a onto s e) (Q2p.2 ⟨he,rfl,hne⟩)
 exact (Qbe3 (a:=a) (onto:=onto) (show i + 1 ≤ n by omega)).subset hp
section
variable {a : Qb} {onto : List Int} {S : List (List Int)}
theorem Qbiy {i : Nat} {s : List Int} {x : Qe} : x ∈ rowE S i (rowN a onto s) ↔ x.From = i ∧ x.Event ∈ Qjs a onto ∧ Qkn a onto s x.Event ≠ [] ∧ x.To = (S.idxOf (Qkn a onto s x.Event) : Int):=by
 simp only [rowE,List.mem_map]
 constructor
 ·rintro ⟨p,hp,rfl⟩
  obtain ⟨h1,h2,h3⟩:=Q2p.1 hp
  exact ⟨rfl,h1,by rw [← h2]; exact h3,by rw [← h2]⟩
 ·rintro ⟨h1,h2,h3,h4⟩
  refine ⟨(x.Event,Qkn a onto s x.Event),Q2p.2 ⟨h2,rfl,h3⟩,?_⟩
  obtain ⟨f,e,t⟩:=x
  simp only at h1 h4 ⊢
  rw [h1,h4]
theorem Qbch : ∀ (l : List (List Int)) (i : Nat) (x : Qe),x ∈ edN a onto S i l ↔ ∃ (j : Nat) (s : List Int),l[j]? = some s ∧ x.From = ((i + j : Nat) : Int) ∧ x.Event ∈ Qjs a onto ∧ Qkn a onto s x.Event ≠ [] ∧ x.To = (S.idxOf (Qkn a onto s x.Event) : Int)
 | [],i,x=>by simp [edN]
 | s' :: l,i,x=>by
  simp only [edN,List.mem_append,Qbiy]
  rw [Qbch l (i + 1) x]
  constructor
  ·rintro (⟨h1,h2⟩ | ⟨j,s,h1,h2,h3⟩)
   ·exact ⟨0,s',rfl,by rw [h1,Nat.add_zero],h2⟩
   ·exact ⟨j + 1,s,by simpa using h1,by rw [h2]; congr 1; omega,h3⟩
  ·rintro ⟨j,s,h1,h2,h3⟩
   cases j with
   | zero=>simp at h1; subst h1; left; exact ⟨by simpa using h2,h3⟩
   | succ j=>right; exact ⟨j,s,by simpa using h1,by rw [h2]; congr 1; omega,h3⟩
theorem Qbe4 : ∀ (l : List (List Int)) (i : Nat) (x : Int),x ∈ mkN a i l ↔ ∃ (j : Nat) (s : List Int),l[j]? = some s ∧ (s.any fun t=>decide (t ∈ a.Marked)) = true ∧ x = ((i + j : Nat) : Int)
 | [],i,x=>by simp [mkN]
 | s' :: l,i,x=>by
  simp only [mkN,List.mem_append]
  rw [Qbe4 l (i + 1) x]
  constructor
  ·rintro (h | ⟨j,s,h1,h2,h3⟩)
   ·split at h
    ·rename_i hm; simp at h; exact ⟨0,s',rfl,hm,by simpa using h⟩
    ·simp at h
   ·exact ⟨j + 1,s,by simpa using h1,h2,by rw [h3]; congr 1; omega⟩
  ·rintro ⟨j,s,h1,h2,h3⟩
   cases j with
   | zero=>simp at h1; subst h1; left; rw [if_pos h2]; simpa using h3
   | succ j=>right; exact ⟨j,s,by simpa using h1,h2,by rw [h3]; congr 1; omega⟩
theorem Qbdz : ∀ (l : List (List Int)) (i : Nat),(mkN a i l).Pairwise (· < ·)
 | [],i=>.nil
 | s :: l,i=>by
  simp only [mkN]
  rw [List.pairwise_append]
  refine ⟨by split <;> simp,Qbdz l (i + 1),fun x hx y hy=>?_⟩
  obtain ⟨j,_,_,_,rfl⟩:=(Qbe4 l (i + 1) y).1 hy
  split at hx <;> simp at hx
  omega
theorem Qbaf : ∀ (s l : List Int),(Q2n a onto s l).map (·.1) = l.filter fun e=>!decide (Qkn a onto s e = [])
 | s,[]=>rfl
 | s,e :: l=>by
  have ih:=Qbaf s l
  by_cases h : Qkn a onto s e = []
  ·rw [List.filter_cons_of_neg (by simp [h]),← ih]
   simp only [Q2n,List.filterMap_cons,h,if_true]
  ·rw [List.filter_cons_of_pos (by simp [h]),← ih]
   simp only [Q2n,List.filterMap_cons,h,if_false,List.map_cons]
theorem Qbd0 (h : Right a) : ∀ (l : List (List Int)) (i : Nat),(edN a onto S i l).Pairwise Qkm
 | [],i=>.nil
 | s :: l,i=>by
  simp only [edN]
  rw [List.pairwise_append]
  refine ⟨?_,Qbd0 h l (i + 1),fun x hx y hy=>?_⟩
  ·unfold rowE
   rw [List.pairwise_map]
   have h1 : ((rowN a onto s).map (·.1)).Pairwise (· < ·):=by
    unfold rowN
    rw [Qbaf]
    exact ((h.al.filter _).filter _)
   rw [List.pairwise_map] at h1
   exact h1.imp fun h=>.inr ⟨rfl,h⟩
  ·have hx:=(Qbiy.1 hx).1
   obtain ⟨j,_,_,hy,_⟩:=(Qbch l (i + 1) y).1 hy
   exact .inl (by omega)
variable (h : Right a) (hP : Proj a onto S)
include h hP
theorem Qbiz {s : List Int} {e : Int} (hs : s ∈ S) (he : e ∈ Qjs a onto) (hne : Qkn a onto s e ≠ []) : S[S.idxOf (Qkn a onto s e)]? = some (Qkn a onto s e):=by
 have hm:=hP.cl s hs e he hne
 have hlt : S.idxOf (Qkn a onto s e) < S.length:=List.idxOf_lt_length_of_mem hm
 rw [List.getElem?_eq_getElem hlt,List.getElem_idxOf hlt]
theorem Qbd1 (hl : S.length ≤ 4096) : Right (autN a onto S):=by
 refine ⟨fun x hx=>h.al0 x (List.mem_filter.1 hx).1,h.al.filter _,⟨Int.natCast_nonneg _,by show (S.length : Int) ≤ 4096; omega⟩,fun x hx=>?_,Qbdz S 0,fun x hx=>?_,Qbd0 h S 0⟩
 ·obtain ⟨j,s,h1,_,h3⟩:=(Qbe4 S 0 x).1 hx
  have:=(List.getElem?_eq_some_iff.1 h1).1
  show 0 ≤ x ∧ x < (S.length : Int)
  omega
 ·obtain ⟨j,s,h1,h2,h3,h4,h5⟩:=(Qbch S 0 x).1 hx
  have hj:=(List.getElem?_eq_some_iff.1 h1).1
  have hi:=(List.getElem?_eq_some_iff.1 (Qbiz h hP (List.mem_of_getElem? h1) h3 h4)).1
  show 0 ≤ x.From ∧ x.From < (S.length : Int) ∧ 0 ≤ x.To ∧ x.To < (S.length : Int) ∧ x.Event ∈ Qjs a onto
  exact ⟨by omega,by omega,by omega,by omega,h3⟩
theorem Qbl4 (hl : S.length ≤ 4096) {k : Nat} {s : List Int} (hk : S[k]? = some s) {e : Int} (he : e ∈ Qjs a onto) : Qfg (autN a onto S) (k : Int) e = if Qkn a onto s e = [] then -1 else (S.idxOf (Qkn a onto s e) : Int):=by
 have hR:=Qbd1 h hP hl
 by_cases hne : Qkn a onto s e = []
 ·rw [if_pos hne]
  rcases Q7h hR (k : Int) e with hr | hr
  ·exact hr
  ·exfalso
   obtain ⟨x,hx,hxe⟩:=(Q2i hR).1 hr.1
   obtain ⟨hx1,hx2⟩:=List.mem_filter.1 hx
   obtain ⟨j,t,h1,h2,h3,h4,_⟩:=(Qbch S 0 x).1 hx1
   simp only [beq_iff_eq] at hx2
   have : j = k:=by omega
   subst this
   rw [hk] at h1; cases h1
   rw [hxe] at h4; exact h4 hne
 ·rw [if_neg hne]
  have hm : (⟨(k : Int),e,(S.idxOf (Qkn a onto s e) : Int)⟩ : Qe) ∈ (autN a onto S).Edges:=(Qbch S 0 _).2 ⟨k,s,hk,by simp,he,hne,rfl⟩
  exact Q2j hR (x:=⟨(k : Int),e,(S.idxOf (Qkn a onto s e) : Int)⟩) (List.mem_filter.2 ⟨hm,by simp⟩)
theorem Qbhp {k : Nat} {s : List Int} (hk : S[k]? = some s) : (k : Int) ∈ (autN a onto S).Marked ↔ ∃ t ∈ s,t ∈ a.Marked:=by
 show (k : Int) ∈ mkN a 0 S ↔ _
 rw [Qbe4]
 constructor
 ·rintro ⟨j,t,h1,h2,h3⟩
  have : j = k:=by omega
  subst this
  rw [hk] at h1; cases h1
  simpa using h2
 ·intro hm
  exact ⟨k,s,hk,by simpa using hm,by simp⟩
theorem Qbhq {s : List Int} (hs : s ∈ S) {x : Qe} (hx : x ∈ a.Edges) (hf : x.From ∈ s) (he : x.Event ∉ onto) : x.To ∈ s:=by
 obtain ⟨fr,hfr,rfl⟩:=hP.form s hs
 have hev : x.Event ∈ Qnd a onto:=List.mem_filter.2 ⟨(h.ed0 x hx).2.2.2.2,by simpa using he⟩
 exact (Qbb9 h hfr).2 (.step ((Qbb9 h hfr).1 hf) hx hev)
end
def Qbgy (l : List Int) : Nat:=l.foldr (fun x n=>n ||| 2 ^ x.toNat) 0
theorem Q24 : ∀ {l : List Int},(∀ x ∈ l,0 ≤ x) → ∀ k : Nat,(Qbgy l).testBit k = decide ((k : Int) ∈ l)
 | [],_,k=>by simp [Qbgy]
 | x :: l,h,k=>by
  have ih:=Q24 (l:=l) (fun y hy=>h y (by simp [hy])) k
  have hx:=h x (by simp)
  show ((Qbgy l) ||| 2 ^ x.toNat).testBit k = _
  rw [Nat.testBit_or,ih,Nat.testBit_two_pow]
  rw [Bool.eq_iff_iff]
  simp only [Bool.or_eq_true,decide_eq_true_eq,List.mem_cons]
  constructor
  ·rintro (h | h)
   ·exact .inr h
   ·left; omega
  ·rintro (h | h)
   ·right; omega
   ·exact .inl h
theorem Qbnc {l : List Int} {n : Nat} (h : ∀ x ∈ l,0 ≤ x ∧ x < n) : Qbgy l < 2 ^ n:=by
 refine Nat.lt_pow_two_of_testBit _ fun i hi=>?_
 rw [Q24 (fun x hx=>(h x hx).1)]
 simp only [decide_eq_false_iff_not]
 intro hm; have:=h _ hm; omega
theorem Qbnd {a : Qb} {S : List (List Int)} (hS : Ests a S) {n : Nat} (hn : a.States ≤ n) : S.length ≤ 2 ^ n:=by
 have h1 : (S.map fun s=>((Qbgy s : Nat) : Int)).Nodup:=by
  refine List.Pairwise.map _ (S:=fun a b=>a ≠ b) (fun p q h=>h) ?_
  refine List.Pairwise.imp_of_mem (fun {s t} hs ht hne e=>hne ?_) hS.nd
  have hs:=(hS.ok s hs).1; have ht:=(hS.ok t ht).1
  have e : Qbgy s = Qbgy t:=by omega
  refine Qblw hs.so ht.so fun x=>?_
  by_cases hx : 0 ≤ x
  ·have k1:=Q24 (fun y hy=>(hs.rg y hy).1) x.toNat
   have k2:=Q24 (fun y hy=>(ht.rg y hy).1) x.toNat
   rw [e,k2] at k1
   have:=decide_eq_decide.1 k1
   rw [show ((x.toNat : Nat) : Int) = x from by omega] at this
   exact this.symm
  ·exact ⟨fun h=>absurd (hs.rg x h).1 hx,fun h=>absurd (ht.rg x h).1 hx⟩
 have hb : ∀ x ∈ (S.map fun s=>((Qbgy s : Nat) : Int)),0 ≤ x ∧ x < ((2 ^ n : Nat) : Int):=fun x hx=>by
  obtain ⟨s,hs,rfl⟩:=List.mem_map.1 hx
  have:=Qbnc (l:=s) (n:=n) fun y hy=>by have:=(hS.ok s hs).1.rg y hy; omega
  omega
 obtain ⟨h3,h4⟩:=Qbgl h1
 generalize 2 ^ n = N at hb ⊢
 have:=Qgs (a:=0) (b:=(N : Int)) h3 fun x hx=>hb x ((h4 x).1 hx)
 rw [Qkg,List.length_map] at this
 omega
end Go.Abs
end
section
namespace Go.Abs
open Go
set_option linter.unusedSimpArgs false
set_option linter.unusedVariables false
end Go.Abs
end
section
namespace Go.Abs
open Go
set_option linter.unusedSimpArgs false
set_option linter.unusedVariables false
end Go.Abs
end
section
namespace Go.Abs
open Go
set_option linter.unusedSimpArgs false
set_option linter.unusedVariables false
def kids (a : Qb) (x : Qo) : List Qo:=(outP a x.state_).map fun e=>⟨x.word_ ++ [e.Event],e.To⟩
def wq (a : Qb) (most : Int) : Nat → Nat → List Qo → Option (List Qo)
 | 0,_,all=>some all
 | fuel + 1,i,all=>match all[i]? with
  | none=>some all
  | some x=>if (x.word_.length : Int) = most then some all else if (all ++ kids a x).length > 1024 then none else wq a most fuel (i + 1) (all ++ kids a x)
theorem Qbi0 {a : Qb} (h : Right a) (s : Int) : (outP a s).length ≤ a.Alphabet.length:=by
 have:=congrArg List.length (Qxm h s)
 rw [List.length_map] at this
 rw [this]; exact List.length_filter_le _ _
section
variable {a : Qb} (h : Right a)
include h
theorem Qbl5 (fuel : Nat) (hfu : 1099511627776 ≤ fuel) {all : List Qo} {i : Nat} {x : Qo} (hx : all[i]? = some x) (hall : all.length ≤ 2000) (hw : x.word_.length ≤ 2000) :
  Qcb (fun k24 ((all22,x23) : (List Qo) × Int)=>(if (x23 < ((outP a x.state_).length : Int)) then ((getO (outP a x.state_) x23).bind fun x26=>((getO all22 (i : Int)).bind fun x28=>((Qcu x28.word_).bind fun x31=>((appO x31 [x26.Event]).bind fun x32=>((appO all22 [(Qo.mk x32 x26.To)]).bind fun x34=>k24 (x34,(IntKind.wrap .i64 (x23 + 1)))))))) else some all22)) fuel (all,0) = some (all ++ kids a x):=by
 have hl:=Qbi0 h x.state_
 have hsm:=h.small.2.1
 refine (Qgo (len:=(outP a x.state_).length) (fun n (acc : List Qo)=>(acc,(n : Int))) (fun n acc=>acc = all ++ ((outP a x.state_).take n).map fun e=>⟨x.word_ ++ [e.Event],e.To⟩) (fun n acc=>some (all ++ kids a x)) ?_ ?_ fuel 0 all (Nat.zero_le _) (by omega) (by simp))
 ·intro k n acc hn hi ih
  subst hi
  dsimp only
  have hg : getO (all ++ ((outP a x.state_).take n).map fun e=>(⟨x.word_ ++ [e.Event],e.To⟩ : Qo)) (i : Int) = some x:=by
   rw [Qkl]
   refine ⟨by omega,?_⟩
   have:=(List.getElem?_eq_some_iff.1 hx).1
   rw [Int.toNat_natCast,List.getElem?_append_left this]; exact hx
  rw [if_pos (by omega),Qb6 hn]
  simp only [Option.bind_some]
  rw [hg]
  simp only [Option.bind_some]
  rw [Qbm5 (by unfold lim; omega)]
  simp only [Option.bind_some]
  rw [Qdc (by simp only [List.length_cons,List.length_nil]; unfold lim; omega)]
  simp only [Option.bind_some]
  rw [Qdc (by simp only [List.length_cons,List.length_nil,List.length_append,List.length_map,List.length_take]; unfold lim; omega)]
  simp only [Option.bind_some]
  rw [Qbj (by omega)]
  refine ih _ ?_
  rw [List.take_succ_eq_append_getElem hn,List.map_append,List.append_assoc]; rfl
 ·intro k acc hi
  subst hi
  dsimp only
  rw [if_neg (by omega),List.take_length]; rfl
theorem Qbci {x y : Qo} (hy : y ∈ kids a x) : y.word_.length = x.word_.length + 1:=by
 obtain ⟨e,_,rfl⟩:=List.mem_map.1 hy
 simp
theorem Qbjr {x y : Qo} (hy : y ∈ kids a x) : 0 ≤ y.state_ ∧ y.state_ < a.States:=by
 obtain ⟨e,he,rfl⟩:=List.mem_map.1 hy
 unfold outP at he
 have:=h.ed0 e (List.mem_filter.1 he).1
 simp only; omega
structure QOk (a : Qb) (i : Nat) (all : List Qo) : Prop where
 le : i ≤ all.length
 ln : all.length ≤ 1024
 wl : ∀ x ∈ all,x.word_.length ≤ i
 sr : ∀ x ∈ all,0 ≤ x.state_ ∧ x.state_ < a.States
theorem QOk.next {i : Nat} {all : List Qo} (q : QOk a i all) {x : Qo} (hx : all[i]? = some x) (hl : (all ++ kids a x).length ≤ 1024) : QOk a (i + 1) (all ++ kids a x):=by
 have hi:=(List.getElem?_eq_some_iff.1 hx).1
 have hm:=List.mem_of_getElem? hx
 refine ⟨by simp only [List.length_append]; omega,hl,fun y hy=>?_,fun y hy=>?_⟩
 ·rcases List.mem_append.1 hy with hy | hy
  ·have:=q.wl y hy; omega
  ·have:=Qbci h hy; have:=q.wl x hm; omega
 ·rcases List.mem_append.1 hy with hy | hy
  ·exact q.sr y hy
  ·exact Qbjr h hy
def Q5v (a : Qb) (marked : Bool) (all : List Qo) : List (List Int):=(all.filter fun x=>!marked || decide (x.state_ ∈ a.Marked)).map (·.word_)
theorem Qbhr (fuel : Nat) (hfu : 1099511627776 ≤ fuel) (marked : Bool) {all : List Qo} (hall : all.length ≤ 2000) (hw : ∀ x ∈ all,x.word_.length ≤ 2000) :
  ((Qcb (fun k41 ((l39,x40) : (List (List Int)) × Int)=>(if (x40 < (all.length : Int)) then ((((getO all x40).bind fun x43=>(((if marked then ((Qy a.Marked x43.state_).bind fun x47=>some x47) else some true)).bind fun (x48 : Bool)=>(if x48 then ((appO [] x43.word_).bind fun x50=>((appO l39 [x50]).bind fun x52=>some (x52,x43.word_,x43.state_))) else some (l39,x43.word_,x43.state_))))).bind fun ((l54,c55,c56) : (List (List Int)) × (List Int) × Int)=>k41 (l54,(IntKind.wrap .i64 (x40 + 1)))) else some l39)) fuel ([],0)).bind fun (l57 : List (List Int))=>some (l57,(0 : Int))) = some (Q5v a marked all,0):=by
 have hsm:=h.small.1
 have:=Qbls (l:=all) (f:=fun x=>if (!marked || decide (x.state_ ∈ a.Marked)) = true then some x.word_ else none) (fuel:=fuel) (F:=fun k41 ((l39,x40) : (List (List Int)) × Int)=>(if (x40 < (all.length : Int)) then ((((getO all x40).bind fun x43=>(((if marked then ((Qy a.Marked x43.state_).bind fun x47=>some x47) else some true)).bind fun (x48 : Bool)=>(if x48 then ((appO [] x43.word_).bind fun x50=>((appO l39 [x50]).bind fun x52=>some (x52,x43.word_,x43.state_))) else some (l39,x43.word_,x43.state_))))).bind fun ((l54,c55,c56) : (List (List Int)) × (List Int) × Int)=>k41 (l54,(IntKind.wrap .i64 (x40 + 1)))) else some l39)) (by unfold big; omega) (by omega) (by
  intro k acc n hn hacc
  dsimp only
  have hwl:=hw _ (List.getElem_mem hn)
  rw [if_pos (by omega),Qb6 hn]
  simp only [Option.bind_some]
  rw [Qhy hsm.2.1]
  have hb : (if marked = true then (some (decide (all[n].state_ ∈ a.Marked))).bind (fun x47=>some x47) else some true) = some (!marked || decide (all[n].state_ ∈ a.Marked)):=by cases marked <;> rfl
  rw [hb]
  simp only [Option.bind_some]
  by_cases hc : (!marked || decide (all[n].state_ ∈ a.Marked)) = true
  ·rw [if_pos hc,if_pos hc,Qdc (by simp only [List.length_nil]; unfold lim; omega)]
   simp only [Option.bind_some,List.nil_append]
   rw [Qdc (by simp only [List.length_cons,List.length_nil]; unfold lim; omega)]; rfl
  ·rw [if_neg hc,if_neg hc]; simp) (by
  intro k acc
  dsimp only
  rw [if_neg (by omega)])
 refine (congrArg (fun w=>Option.bind w _) this).trans ?_
 rw [Option.bind_some]
 congr 2
 unfold Q5v
 generalize all = l
 induction l with
 | nil=>rfl
 | cons x l ih =>
  by_cases hc : (!marked || decide (x.state_ ∈ a.Marked)) = true
  ·rw [List.filterMap_cons,List.filter_cons,if_pos hc,if_pos hc,ih]; rfl
  ·rw [List.filterMap_cons,List.filter_cons,if_neg hc,if_neg hc,ih]
theorem Qbjs (marked : Bool) (most : Int) (fuel : Nat) (hfu : 1099511627776 ≤ fuel) (i : Nat) (all : List Qo) (q : QOk a i all) (J : List Qo → Option (List (List Int) × Int)) (hJ : ∀ all : List Qo,all.length ≤ 2000 → (∀ x ∈ all,x.word_.length ≤ 2000) → J all = some (Q5v a marked all,0)) :
  Qcb (fun k13 ((all11,i12) : (List Qo) × Int)=>(if (i12 < (all11.length : Int)) then ((getO all11 i12).bind fun x15=>(if ((x15.word_.length : Int) == most) then J all11 else ((((getO all11 i12).bind fun x18=>((Qed a x18.state_).bind fun x21=>Qcb (fun k24 ((all22,x23) : (List Qo) × Int)=>(if (x23 < (x21.length : Int)) then ((getO x21 x23).bind fun x26=>((getO all22 i12).bind fun x28=>((Qcu x28.word_).bind fun x31=>((appO x31 [x26.Event]).bind fun x32=>((appO all22 [(Qo.mk x32 x26.To)]).bind fun x34=>k24 (x34,(IntKind.wrap .i64 (x23 + 1)))))))) else some all22)) fuel (all11,0)))).bind fun (all36 : List Qo)=>(if ((all36.length : Int) > 1024) then some ([],3) else k13 (all36,(IntKind.wrap .i64 (i12 + 1))))))) else J all11)) fuel (all,(i : Int)) =
  some (match wq a most (1025 - i) i all with | none=>([],3) | some all=>(Q5v a marked all,0)):=by
 have hsm:=h.small.1
 have hst:=h.st
 have key:=Qey (F:=(fun (k13 : List Qo × Int → Option (List (List Int) × Int)) ((all11,i12) : (List Qo) × Int)=>(if (i12 < (all11.length : Int)) then ((getO all11 i12).bind fun x15=>(if ((x15.word_.length : Int) == most) then J all11 else ((((getO all11 i12).bind fun x18=>((Qed a x18.state_).bind fun x21=>Qcb (fun k24 ((all22,x23) : (List Qo) × Int)=>(if (x23 < (x21.length : Int)) then ((getO x21 x23).bind fun x26=>((getO all22 i12).bind fun x28=>((Qcu x28.word_).bind fun x31=>((appO x31 [x26.Event]).bind fun x32=>((appO all22 [(Qo.mk x32 x26.To)]).bind fun x34=>k24 (x34,(IntKind.wrap .i64 (x23 + 1)))))))) else some all22)) fuel (all11,0)))).bind fun (all36 : List Qo)=>(if ((all36.length : Int) > 1024) then some ([],3) else k13 (all36,(IntKind.wrap .i64 (i12 + 1))))))) else J all11)))
  (fun x=>∃ i : Nat,x.2 = (i : Int) ∧ QOk a i x.1) (fun x=>1025 - x.2.toNat) (fun x r=>∀ i : Nat,x.2 = (i : Int) → r = some (match wq a most (1025 - i) i x.1 with | none=>([],3) | some all=>(Q5v a marked all,0))) (by
   rintro k ⟨all,_⟩ ⟨i,rfl,q⟩ ih j hj
   replace q : QOk a i all:=q
   obtain rfl : i = j:=by have : (i : Int) = j:=hj; omega
   have hfin : J all = some (Q5v a marked all,0):=hJ all (by have:=q.ln; omega) fun x hx=>by have:=q.wl x hx; have:=q.le; have:=q.ln; omega
   have hle:=q.le
   have hln:=q.ln
   dsimp only
   rw [show 1025 - i = (1024 - i) + 1 from by omega]
   by_cases hlt : i < all.length
   ·have hg:=List.getElem?_eq_getElem hlt
    have hsr:=q.sr _ (List.getElem_mem hlt)
    have hwl:=q.wl _ (List.getElem_mem hlt)
    simp only [wq,hg]
    rw [if_pos (by omega),Qb6 hlt]
    simp only [Option.bind_some]
    by_cases hm : (all[i].word_.length : Int) = most
    ·rw [if_pos (by simpa using hm),if_pos hm,hfin]
    ·rw [if_neg (by simpa using hm),if_neg hm,Qbnt h hsm (by omega) (by omega)]
     simp only [Option.bind_some]
     rw [Qbl5 h fuel hfu hg (by omega) (by omega)]
     simp only [Option.bind_some]
     by_cases hb : (all ++ kids a all[i]).length > 1024
     ·rw [if_pos (by omega),if_pos hb]
     ·rw [if_neg (by omega),if_neg hb,Qbj (by omega)]
      have:=ih (all ++ kids a all[i],((i + 1 : Nat) : Int)) ⟨i + 1,rfl,q.next h hg (by omega)⟩ (by simp only; omega) (i + 1) rfl
      rw [this,show 1025 - (i + 1) = 1024 - i from by omega]
   ·rw [if_neg (by omega),hfin]
    have : all[i]? = none:=List.getElem?_eq_none_iff.2 (by omega)
    simp only [wq,this]) fuel (all,(i : Int)) ⟨i,rfl,q⟩ (by simp only; omega)
 exact key i rfl
theorem Qbne (most : Int) (marked : Bool) : Qex a most marked = some (if most < 0 ∨ most > 4096 then ([],(2 : Int)) else if a.States = 0 then ([],0) else match wq a most 1025 0 [⟨[],0⟩] with | none=>([],3) | some all=>(Q5v a marked all,0)):=by
 have hst:=h.st
 unfold Qex Qc6
 obtain ⟨fuel,hfu,hge⟩ : ∃ f,Qbq = f ∧ 1099511627776 ≤ f:=⟨_,rfl,Nat.le_refl _⟩
 rw [hfu,Q7i h,Option.bind_some,if_neg (by simp)]
 by_cases h1 : most < 0 ∨ most > 4096
 ·rw [if_pos h1]
  rcases h1 with h1 | h1
  ·simp [h1]
  ·rw [if_neg (by omega)]; simp [h1]
 ·rw [if_neg h1,if_neg (by omega)]
  simp only [Option.bind_some,show decide (most > 4096) = false from by simp; omega,Bool.false_eq_true,if_false]
  by_cases h0 : a.States = 0
  ·simp [h0]
  ·rw [if_neg (by simpa using h0),if_neg h0]
   unfold letJ
   exact Qbjs h marked most fuel hge 0 [⟨[],0⟩] ⟨by simp,by simp,by simp,by simp; omega⟩ _ fun all h1 h2=>Qbhr h fuel hge marked h1 h2
end
end Go.Abs
end
section
namespace Go.Abs
open Go
set_option linter.unusedSimpArgs false
set_option linter.unusedVariables false
def wt : Nat → Nat
 | 0=>781
 | 1=>156
 | 2=>31
 | 3=>6
 | _=>1
theorem Qbox {l : Nat} (h : l < 4) : wt l = 1 + 5 * wt (l + 1):=by
 match l,h with
 | 0,_=>rfl
 | 1,_=>rfl
 | 2,_=>rfl
 | 3,_=>rfl
theorem Qbpt : ∀ l,1 ≤ wt l
 | 0=>by decide
 | 1=>by decide
 | 2=>by decide
 | 3=>by decide
 | _ + 4=>Nat.le_refl 1
def wsum (l : List Qo) : Nat:=(l.map fun x=>wt x.word_.length).sum
theorem Qbl6 : ∀ l : List Qo,l.length ≤ wsum l
 | []=>Nat.le_refl _
 | x :: l=>by
  have:=Qbl6 l
  have:=Qbpt x.word_.length
  unfold wsum at *
  simp only [List.map_cons,List.sum_cons,List.length_cons]; omega
theorem Qbhs (l m : List Qo) : wsum (l ++ m) = wsum l + wsum m:=by simp [wsum]
theorem Qbd2 {n : Nat} : ∀ l : List Qo,(∀ x ∈ l,x.word_.length = n) → wsum l = l.length * wt n
 | [],_=>by simp [wsum]
 | x :: l,h=>by
  have ih:=Qbd2 l fun y hy=>h y (by simp [hy])
  unfold wsum at *
  simp only [List.map_cons,List.sum_cons,List.length_cons,h x (by simp),ih,Nat.succ_mul]; omega
theorem Qbgz {a : Qb} {e : Int} : ∀ (w : List Int) (s t : Int) (n : Nat),runP a s n w = (t,((n + w.length : Nat) : Int)) → runP a s n (w ++ [e]) = if 0 ≤ Qfg a t e then (Qfg a t e,((n + w.length + 1 : Nat) : Int)) else (t,((n + w.length : Nat) : Int))
 | [],s,t,n,h=>by
  simp only [runP,Prod.mk.injEq] at h
  obtain ⟨rfl,_⟩:=h
  simp [runP]
 | x :: w,s,t,n,h=>by
  simp only [List.cons_append,runP] at h ⊢
  by_cases h0 : 0 ≤ Qfg a s x
  ·rw [if_pos h0] at h ⊢
   have:=Qbgz (e:=e) w (Qfg a s x) t (n + 1) (by rw [h]; simp only [List.length_cons]; congr 2; omega)
   rw [this]
   simp only [List.length_cons]
   rw [show n + 1 + w.length = n + (w.length + 1) from by omega]
  ·rw [if_neg h0] at h
   have:=(Prod.mk.inj h).2
   simp only [List.length_cons] at this; omega
section
variable {a : Qb} (h : Right a) (h5 : a.Alphabet.length ≤ 5) {most : Nat} (h4 : most ≤ 4)
structure QW (a : Qb) (most i : Nat) (all : List Qo) : Prop extends QOk a i all where
 ml : ∀ x ∈ all,x.word_.length ≤ most
 rn : ∀ x ∈ all,runP a 0 0 x.word_ = (x.state_,(x.word_.length : Int))
 ws : i + wsum (all.drop i) ≤ 781
include h h5 h4
theorem QW.next {i : Nat} {all : List Qo} (q : QW a most i all) {x : Qo} (hx : all[i]? = some x) (hm : x.word_.length ≠ most) : QW a most (i + 1) (all ++ kids a x) ∧ (all ++ kids a x).length ≤ 1024:=by
 obtain ⟨hi,hxi⟩:=List.getElem?_eq_some_iff.1 hx
 have hmem:=List.mem_of_getElem? hx
 have hml:=q.ml x hmem
 have hkl : (kids a x).length ≤ 5:=by
  have:=Qbi0 h x.state_
  simp only [kids,List.length_map]; omega
 have hws:=q.ws
 rw [List.drop_eq_getElem_cons hi,hxi] at hws
 have e1 : wsum (x :: all.drop (i + 1)) = wt x.word_.length + wsum (all.drop (i + 1)):=by simp [wsum]
 rw [e1,Qbox (by omega)] at hws
 have hk:=Qbd2 (n:=x.word_.length + 1) (kids a x) fun y hy=>Qbci h hy
 have hd : (all ++ kids a x).drop (i + 1) = all.drop (i + 1) ++ kids a x:=by rw [List.drop_append_of_le_length (by omega)]
 have hmul : (kids a x).length * wt (x.word_.length + 1) ≤ 5 * wt (x.word_.length + 1):=Nat.mul_le_mul_right _ hkl
 have hws' : i + 1 + wsum ((all ++ kids a x).drop (i + 1)) ≤ 781:=by rw [hd,Qbhs,hk]; omega
 have hlen : (all ++ kids a x).length ≤ 1024:=by
  have:=Qbl6 ((all ++ kids a x).drop (i + 1))
  rw [List.length_drop] at this; omega
 refine ⟨⟨q.toQOk.next h hx hlen,fun y hy=>?_,fun y hy=>?_,hws'⟩,hlen⟩
 ·rcases List.mem_append.1 hy with hy | hy
  ·exact q.ml y hy
  ·have:=Qbci h hy; omega
 ·rcases List.mem_append.1 hy with hy | hy
  ·exact q.rn y hy
  ·obtain ⟨e,he,rfl⟩:=List.mem_map.1 hy
   have hr:=q.rn x hmem
   have hse:=Q2j h he
   have he2 : 0 ≤ e.To:=by unfold outP at he; exact (h.ed0 e (List.mem_filter.1 he).1).2.2.1
   have:=Qbgz (a:=a) (e:=e.Event) x.word_ 0 x.state_ 0 (by rw [hr]; simp)
   rw [hse,if_pos he2] at this
   simp only
   rw [this]; simp
end
end Go.Abs
end
section
namespace Go.Abs
open Go
set_option linter.unusedSimpArgs false
set_option linter.unusedVariables false
section
variable {b : Qb} (hb : Right b) {onto : List Int} (hs : Qbps b onto)
include hb hs
end
end Go.Abs
end
section
namespace Go.Abs
open Go
set_option linter.unusedSimpArgs false
set_option linter.unusedVariables false
end Go.Abs
end
section
namespace Go.Abs
open Go
set_option linter.unusedSimpArgs false
set_option linter.unusedVariables false
section
variable {a : Qb} (h : Right a) (h5 : a.Alphabet.length ≤ 5) {most : Nat} (h4 : most ≤ 4)
include h h5 h4
theorem Qbl7 : ∀ (f i : Nat) (all : List Qo),QW a most i all → ∃ fin,wq a most f i all = some fin ∧ ∃ j,QW a most j fin
 | 0,i,all,q=>⟨all,rfl,i,q⟩
 | f + 1,i,all,q=>by
  unfold wq
  cases hg : all[i]? with
  | none=>exact ⟨all,rfl,i,q⟩
  | some x =>
   dsimp only
   by_cases hm : x.word_.length = most
   ·rw [if_pos (by omega)]
    exact ⟨all,rfl,i,q⟩
   ·obtain ⟨q1,q2⟩:=q.next h h5 h4 hg hm
    rw [if_neg (by omega),if_neg (by omega)]
    exact Qbl7 f (i + 1) _ q1
theorem Qbl8 : ∃ l,Qex a most false = some (l,0) ∧ l.length ≤ 1024 ∧ ∀ w ∈ l,w.length ≤ most ∧ 0 < a.States ∧ ∃ t,runP a 0 0 w = (t,(w.length : Int)):=by
 rw [Qbne h]
 rw [if_neg (by omega)]
 by_cases h0 : a.States = 0
 ·rw [if_pos h0]
  exact ⟨[],rfl,by simp,by simp⟩
 ·have hst:=h.st
  rw [if_neg h0]
  obtain ⟨fin,h1,j,q⟩:=Qbl7 h h5 h4 1025 0 [⟨[],0⟩] ⟨⟨by simp,by simp,by simp,by simp; omega⟩,by simp,by simp [runP],by simp [wsum,wt]⟩
  rw [h1]
  refine ⟨Q5v a false fin,rfl,?_,fun w hw=>?_⟩
  ·simp only [Q5v,List.length_map]
   exact Nat.le_trans (List.length_filter_le _ _) q.ln
  ·simp only [Q5v,List.mem_map,List.mem_filter] at hw
   obtain ⟨x,⟨hx,_⟩,rfl⟩:=hw
   exact ⟨q.ml x hx,by omega,x.state_,q.rn x hx⟩
end
def obsW (onto w : List Int) : List Int:=w.filter fun e=>decide (e ∈ onto)
theorem Qbht {onto w : List Int} (ho : onto.length < big) (hw : w.length < big) : Qeu onto w = some (obsW onto w):=by
 unfold Qeu Qbu
 refine Qxn (x:=obsW onto w) ?_ rfl
 rw [Qbho (l:=w) (fun x=>decide (x ∈ onto)) id some ?_ ?_ (by unfold Qbq; unfold Abs.big at hw; omega)]
 ·simp [obsW]
 ·intro k n hn s hs
  unfold Abs.big at hw
  dsimp only
  rw [if_pos (by omega),Qb6 hn]
  simp only [Option.bind_some]
  rw [Qbp2 ho]
  simp only [Option.bind_some]
  by_cases hx : w[n] ∈ onto
  ·simp only [hx,decide_true,if_true]
   rw [Qdc (by simp only [List.length_cons,List.length_nil]; unfold lim; omega),Qbj (by omega)]
   rfl
  ·simp only [hx,decide_false,Bool.false_eq_true,if_false,Option.bind_some]
   rw [Qbj (by omega)]
 ·intro k s
  dsimp only
  rw [if_neg (by omega)]
theorem Qbg0 {a : Qb} (h : Right a) {s e : Int} (h0 : 0 ≤ Qfg a s e) : ∃ x ∈ a.Edges,x.From = s ∧ x.Event = e ∧ x.To = Qfg a s e:=by
 obtain ⟨x,hx,he⟩:=(Q2i h).1 h0
 obtain ⟨h1,h2⟩:=List.mem_filter.1 hx
 refine ⟨x,h1,by simpa using h2,he,?_⟩
 rw [← Q2j h hx,he]
theorem Q92 {a : Qb} (h : Right a) : ∀ (w : List Int) (s t : Int) (n : Nat),runP a s n w = (t,((n + w.length : Nat) : Int)) → ∀ e ∈ w,e ∈ a.Alphabet
 | [],_,_,_,_=>by simp
 | e :: w,s,t,n,hr=>by
  unfold runP at hr
  split at hr
  ·rename_i h0
   intro y hy
   rcases List.mem_cons.1 hy with rfl | hy
   ·obtain ⟨x,hx,_,he,_⟩:=Qbg0 h h0
    rw [← he]; exact (h.ed0 x hx).2.2.2.2
   ·exact Q92 h w _ t (n + 1) (by rw [hr]; simp only [List.length_cons]; congr 1; omega) y hy
  ·have:=(Prod.mk.inj hr).2
   simp only [List.length_cons] at this; omega
section
variable {a : Qb} (h : Right a) {onto : List Int} {S : List (List Int)} (hP : Proj a onto S) (hl : S.length ≤ 4096)
include h hP hl
theorem Qbe5 : ∀ (w : List Int) (s t : Int) (n m : Nat),runP a s n w = (t,((n + w.length : Nat) : Int)) → ∀ (k : Nat) (est : List Int),S[k]? = some est → s ∈ est →
  ∃ (k' : Nat) (est' : List Int),runP (autN a onto S) (k : Int) m (obsW onto w) = ((k' : Int),((m + (obsW onto w).length : Nat) : Int)) ∧ S[k']? = some est' ∧ t ∈ est'
 | [],s,t,n,m,hr,k,est,hk,hs=>by
  have : s = t:=(Prod.mk.inj hr).1
  subst this
  exact ⟨k,est,rfl,hk,hs⟩
 | e :: w,s,t,n,m,hr,k,est,hk,hs=>by
  unfold runP at hr
  split at hr
  ·rename_i h0
   obtain ⟨x,hx,hf,he,ht⟩:=Qbg0 h h0
   have hr' : runP a (Qfg a s e) (n + 1) w = (t,((n + 1 + w.length : Nat) : Int)):=by rw [hr]; simp only [List.length_cons]; congr 1; omega
   by_cases ho : e ∈ onto
   ·have hob : obsW onto (e :: w) = e :: obsW onto w:=by simp [obsW,ho]
    have hke : e ∈ Qjs a onto:=List.mem_filter.2 ⟨by rw [← he]; exact (h.ed0 x hx).2.2.2.2,by simpa using ho⟩
    have hmem : Qfg a s e ∈ Qkn a onto est e:=by
     refine Qtv.2 ⟨?_,.base (Qbgp.2 ⟨x,hx,by rw [hf]; exact hs,he,ht⟩)⟩
     rw [← ht]; exact ⟨(h.ed0 x hx).2.2.1,(h.ed0 x hx).2.2.2.1⟩
    have hne : Qkn a onto est e ≠ []:=fun hn=>by rw [hn] at hmem; simp at hmem
    have hst:=Qbl4 h hP hl hk hke
    rw [if_neg hne] at hst
    obtain ⟨k',est',h1,h2,h3⟩:=Qbe5 w (Qfg a s e) t (n + 1) (m + 1) hr' _ _ (Qbiz h hP (List.mem_of_getElem? hk) hke hne) hmem
    refine ⟨k',est',?_,h2,h3⟩
    rw [hob]
    unfold runP
    rw [hst,if_pos (Int.natCast_nonneg _),h1]
    simp only [List.length_cons]
    congr 1; omega
   ·have hob : obsW onto (e :: w) = obsW onto w:=by simp [obsW,ho]
    rw [hob]
    refine Qbe5 w (Qfg a s e) t (n + 1) m hr' k est hk ?_
    rw [← ht]
    exact Qbhq h hP (List.mem_of_getElem? hk) hx (by rw [hf]; exact hs) (by rw [he]; exact ho)
  ·have:=(Prod.mk.inj hr).2
   simp only [List.length_cons] at this; omega
end
theorem Qbi1 (s : Int × Int) (g : Qba) (hs1 : 0 ≤ s.1 ∧ s.1 < 256) (hs2 : 0 ≤ s.2 ∧ s.2 < 256) (hg : Qblu g) : Qd6 s g = some true:=by
 unfold Qd6 Qc8
 rw [Qblv]
 simp only [Option.bind_some,if_true]
 obtain ⟨ev,hE,hev⟩:=Qbgh hs1.1 hs1.2
 obtain ⟨on,hE2,hon'⟩:=Qbgh hs2.1 hs2.2
 obtain ⟨m,hm,hmal,hM,hm5⟩:=Qbot hev hg
 have ha:=Qbgf hm
 have h5 : (Qqo m).States ≤ 5:=Int.le_trans (Qbjo hm).1 hm5
 have hal : (Qqo m).Alphabet.length ≤ 5:=by show m.Alphabet.length ≤ 5; rw [hmal]; exact hev.len
 have hon:=hon'.set
 rw [hE]
 simp only [Option.bind_some]
 rw [hM]
 simp only [Option.bind_some]
 rw [hE2]
 simp only [Option.bind_some]
 generalize Qqo m = a at ha h5 hal ⊢
 have hst:=ha.st
 obtain ⟨r,h1,h2⟩:=Qbjq ha hon
 obtain ⟨L,hW,hLl,hL⟩:=Qbl8 ha hal (most:=3) (by omega)
 replace hW : Qex a 3 false = some (L,0):=hW
 rw [h1]
 simp only [Option.bind_some]
 rw [hW]
 simp only [Option.bind_some]
 by_cases h0 : a.States = 0
 ·rw [if_pos h0] at h2
  subst h2
  have hLe : L = []:=by
   cases L with
   | nil=>rfl
   | cons w _=>have:=(hL w (by simp)).2.1; omega
  subst hLe
  simp only [show ((0 : Int) != 0) = false from rfl,Bool.false_eq_true,if_false,List.length_nil,Int.natCast_zero,Option.bind_some]
  obtain ⟨f,hf⟩ : ∃ f,Qbq = f + 1:=⟨1099511627775,rfl⟩
  rw [hf]
  rfl
 ·have hpos : 0 < a.States:=by omega
  rw [if_neg h0] at h2
  rcases h2 with ⟨n,j1,j2,rfl⟩ | ⟨n,j1,rfl⟩
  ·have hP:=Qbow ha hpos j1
   have hSl : (estB a on n).length ≤ 4096:=by omega
   have hR:=Qbd1 ha hP hSl
   generalize estB a on n = S at hP hSl hR ⊢
   have hlen : ((S.length : Int) != (autN a on S).States) = false:=by
    show ((S.length : Int) != (S.length : Int)) = false; simp
   have hSpos : 0 < S.length:=(List.getElem?_eq_some_iff.1 hP.first).1
   simp only [show ((0 : Int) != 0) = false from rfl,Bool.false_eq_true,if_false,hlen,Option.bind_some]
   refine Qbmz (fun i : Int=>∃ n : Nat,i = n ∧ n ≤ L.length) (fun i=>L.length - i.toNat) _ ⟨0,rfl,Nat.zero_le _⟩ (by simp only [Int.toNat_zero]; unfold Qbq; omega) ?_
   rintro k _ ⟨i,rfl,hi⟩ ih
   by_cases hlt : i < L.length
   ·rw [if_pos (by omega),Qb6 hlt]
    simp only [Option.bind_some]
    obtain ⟨hw3,_,t,hrun⟩:=hL _ (List.getElem_mem hlt)
    generalize L[i] = w at hw3 hrun ⊢
    have hwb : w.length < big:=by unfold Abs.big; omega
    have hrun0 : runP a 0 0 w = (t,((0 + w.length : Nat) : Int)):=by rw [hrun]; simp
    have hoP : 0 < a.States:=hpos
    have hs0 : (0 : Int) ∈ Qtw a on:=by
     unfold Qtw; rw [if_neg h0]
     exact Qtv.2 ⟨by omega,.base (by simp)⟩
    obtain ⟨k',est',r1,r2,r3⟩:=Qbe5 ha hP hSl w 0 t 0 0 hrun0 0 _ hP.first hs0
    rw [Nat.zero_add] at r1
    have r1 : runP (autN a on S) 0 0 (obsW on w) = ((k' : Int),((obsW on w).length : Int)):=r1
    have hobl : (obsW on w).length < big:=Nat.lt_of_le_of_lt (List.length_filter_le _ _) hwb
    have hkl:=(List.getElem?_eq_some_iff.1 r2).1
    have hev1 : (w.any fun x=>decide (x ∉ a.Alphabet)) = false:=by
     rw [List.any_eq_false]
     intro x hx
     simpa using Q92 ha w 0 t 0 hrun0 x hx
    have hev2 : ((obsW on w).any fun x=>decide (x ∉ (autN a on S).Alphabet)) = false:=by
     rw [List.any_eq_false]
     intro x hx
     obtain ⟨q1,q2⟩:=List.mem_filter.1 hx
     have : x ∈ (autN a on S).Alphabet:=List.mem_filter.2 ⟨Q92 ha w 0 t 0 hrun0 x q1,q2⟩
     simpa using this
    rw [Qbht hon.big hwb]
    simp only [Option.bind_some]
    rw [Qbnu hR hobl,if_pos ⟨Int.le_refl _,by show (0 : Int) < (S.length : Int); omega⟩,hev2]
    simp only [Bool.false_eq_true,if_false,Option.bind_some]
    rw [Qbnu ha hwb,if_pos ⟨Int.le_refl _,hpos⟩,hev1]
    simp only [Bool.false_eq_true,if_false,Option.bind_some,show ((0 : Int) != 0) = false from rfl]
    rw [r1,hrun]
    dsimp only
    have hg : getO S (k' : Int) = some est':=by rw [Qkl]; exact ⟨by omega,by simpa using r2⟩
    rw [if_neg (by simp),if_neg (by omega),hg]
    simp only [Option.bind_some]
    have hes:=(hP.es.ok est' (List.mem_of_getElem? r2)).1
    rw [Qbpo (hes.big ha)]
    simp only [Option.bind_some,r3,decide_true,Bool.not_true,Bool.false_eq_true,if_false]
    rw [Qbds ha hwb]
    simp only [Option.bind_some]
    rw [Qbds hR hobl]
    simp only [Option.bind_some]
    have hacc : (if accP a w = true then some (!accP (autN a on S) (obsW on w)) else some false) = some false:=by
     by_cases hac : accP a w = true
     ·rw [if_pos hac]
      simp only [accP,genP,Bool.and_eq_true,decide_eq_true_eq,beq_iff_eq] at hac
      obtain ⟨_,hmk⟩:=hac
      rw [hrun] at hmk
      have : accP (autN a on S) (obsW on w) = true:=by
       simp only [accP,genP,Bool.and_eq_true,decide_eq_true_eq,beq_iff_eq]
       rw [r1]
       exact ⟨⟨by show (0 : Int) < (S.length : Int); omega,rfl⟩,(Qbhp ha hP r2).2 ⟨t,r3,hmk⟩⟩
      rw [this]; rfl
     ·rw [if_neg hac]
    rw [hacc]
    simp only [Option.bind_some,Bool.false_eq_true,if_false]
    rw [Qbj (by omega)]
    exact ih _ ⟨i + 1,rfl,by omega⟩ (by omega)
   ·rw [if_neg (by omega)]
  ·exfalso
   have:=Qbnd (Q2q hpos on n) (n:=12) (by omega)
   omega
end Go.Abs
end
