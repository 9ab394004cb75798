/-
  Part 7 of the proof: see the last text.
-/
import Derived.Test.YtddmeallinaokaaP6
set_option linter.unusedVariables false
set_option linter.unusedSimpArgs false
set_option linter.unusedSectionVars false
section
namespace Go.Abs
open Go
set_option linter.unusedSimpArgs false
set_option linter.unusedVariables false
theorem Qbd3 : ∀ (ts o : List Int),o <+: ts.foldl ins o
 | [],o=>List.prefix_refl o
 | t :: ts,o=>(Qbjd o t).trans (Qbd3 ts _)
theorem Q65 {P : Int → Prop} : ∀ (ts o : List Int),(∀ s ∈ o,P s) → (∀ t ∈ ts,P t) → ∀ s ∈ ts.foldl ins o,P s
 | [],o,h,_=>h
 | t :: ts,o,h,ht=>Q65 ts (ins o t) (fun s hs=>by
   rcases Q5g.1 hs with hs | rfl
   ·exact h s hs
   ·exact ht _ (by simp)) fun u hu=>ht u (by simp [hu])
theorem Qbd4 {a : Qa} {P : Int → Prop} (hP : ∀ s,P s → ∀ t ∈ Qfz a s,P t) : ∀ (fuel i : Nat) (o : List Int),(∀ s ∈ o,P s) → ∀ s ∈ bfs a fuel i o,P s
 | 0,i,o,h=>h
 | fuel + 1,i,o,h=>by
  unfold bfs
  cases hg : o[i]? with
  | none=>exact h
  | some s=>exact Qbd4 hP fuel (i + 1) _ (Q65 _ _ h (hP s (h s (List.mem_of_getElem? hg))))
theorem Qbjk {a : Qa} : ∀ (fuel i : Nat) (o : List Int),o <+: bfs a fuel i o
 | 0,i,o=>List.prefix_refl o
 | fuel + 1,i,o=>by
  unfold bfs
  cases hg : o[i]? with
  | none=>exact List.prefix_refl o
  | some s=>exact (Qbd3 _ _).trans (Qbjk fuel (i + 1) _)
theorem Qbcr {a : Qa} {o : List Int} {i : Nat} (h : o[i]? = none) : ∀ fuel,bfs a fuel i o = o
 | 0=>rfl
 | fuel + 1=>by unfold bfs; rw [h]
theorem Qbgd {a : Qa} {f i : Nat} {o : List Int} {s : Int} (hg : o[i]? = some s) : bfs a (f + 1) i o = bfs a f (i + 1) ((Qfz a s).foldl ins o):=by
 simp only [bfs,hg]
theorem Qbge {a : Qa} : ∀ (f g i : Nat) (o : List Int),(bfs a f i o).length < f + i → (bfs a f i o).length < g + i → bfs a g i o = bfs a f i o
 | 0,g,i,o,h1,_=>by
  have h1 : o.length < 0 + i:=h1
  rw [Qbcr (List.getElem?_eq_none_iff.2 (by omega)) g]; rfl
 | f + 1,g,i,o,h1,h2=>by
  cases hg : o[i]? with
  | none=>rw [Qbcr hg,Qbcr hg]
  | some s =>
   have hlt:=(List.getElem?_eq_some_iff.1 hg).1
   have hle:=(Qbjk (a:=a) (f + 1) i o).length_le
   cases g with
   | zero=>omega
   | succ g =>
    rw [Qbgd hg] at h1 h2 ⊢
    rw [Qbgd hg]
    exact Qbge f g (i + 1) _ (by omega) (by omega)
structure Like (a b : Qa) (φ : Int → Int) : Prop where
 al : b.Alphabet = a.Alphabet
 st : 0 < b.States ↔ 0 < a.States
 zero : 0 < a.States → φ 0 = 0
 inj : ∀ s ∈ Qce a,∀ t ∈ Qce a,φ s = φ t → s = t
 out : ∀ s ∈ Qce a,outP b (φ s) = (outP a s).map fun x=>⟨φ s,x.Event,φ x.To⟩
 ma : ∀ s ∈ Qce a,(φ s ∈ b.Marked ↔ s ∈ a.Marked)
section
variable {F : List Int} {φ : Int → Int} (inj : ∀ s ∈ F,∀ t ∈ F,φ s = φ t → s = t)
include inj
theorem Qbag {o : List Int} (ho : ∀ s ∈ o,s ∈ F) {t : Int} (ht : t ∈ F) : φ t ∈ o.map φ ↔ t ∈ o:=by
 constructor
 ·intro h
  obtain ⟨s,hs,he⟩:=List.mem_map.1 h
  exact inj s (ho s hs) t ht he ▸ hs
 ·exact fun h=>List.mem_map.2 ⟨t,h,rfl⟩
theorem Qbme {o : List Int} (ho : ∀ s ∈ o,s ∈ F) {t : Int} (ht : t ∈ F) : ins (o.map φ) (φ t) = (ins o t).map φ:=by
 unfold ins
 by_cases h : t ∈ o
 ·rw [if_pos ((Qbag inj ho ht).2 h),if_pos h]
 ·rw [if_neg (fun hh=>h ((Qbag inj ho ht).1 hh)),if_neg h]; simp
theorem Qbd5 : ∀ (ts o : List Int),(∀ s ∈ o,s ∈ F) → (∀ t ∈ ts,t ∈ F) → (ts.map φ).foldl ins (o.map φ) = (ts.foldl ins o).map φ
 | [],o,_,_=>rfl
 | t :: ts,o,ho,ht=>by
  simp only [List.map_cons,List.foldl_cons]
  rw [Qbme inj ho (ht t (by simp))]
  exact Qbd5 ts _ (fun s hs=>by
   rcases Q5g.1 hs with hs | rfl
   ·exact ho s hs
   ·exact ht _ (by simp)) fun u hu=>ht u (by simp [hu])
end
section
variable {a b : Qa} {φ : Int → Int} (ha : Right a) (hb : Right b) (h : Like a b φ)
include ha h
theorem Q71 {s : Int} (hs : s ∈ Qce a) : ∀ t ∈ Qfz a s,t ∈ Qce a:=(Qjp ha).2.2 s hs
theorem Qbg2 {s : Int} (hs : s ∈ Qce a) : Qfz b (φ s) = (Qfz a s).map φ:=by
 unfold Qfz
 rw [h.out s hs]; simp
theorem Qbd6 : ∀ (f i : Nat) (o : List Int),(∀ s ∈ o,s ∈ Qce a) → bfs b f i (o.map φ) = (bfs a f i o).map φ
 | 0,i,o,_=>rfl
 | f + 1,i,o,ho=>by
  unfold bfs
  rw [List.getElem?_map]
  cases hg : o[i]? with
  | none=>rfl
  | some s =>
   have hs:=ho s (List.mem_of_getElem? hg)
   simp only [Option.map_some]
   rw [Qbg2 ha h hs,Qbd5 h.inj _ _ ho (Q71 ha h hs)]
   exact Qbd6 f (i + 1) _ (Q65 _ _ ho (Q71 ha h hs))
theorem Qbe6 : (if 0 < b.States then [0] else []) = (if 0 < a.States then [0] else ([] : List Int)).map φ:=by
 by_cases h0 : 0 < a.States
 ·rw [if_pos h0,if_pos (h.st.2 h0)]; simp [h.zero h0]
 ·rw [if_neg h0,if_neg (fun hh=>h0 (h.st.1 hh))]; rfl
theorem Qbah : ∀ s ∈ (if 0 < a.States then [0] else ([] : List Int)),s ∈ Qce a:=fun s hs=>(Qjp ha).2.1.subset hs
include hb
theorem Qbe7 : ∀ s ∈ Qce a,0 ≤ φ s ∧ φ s < b.States:=by
 have : ∀ s ∈ Qce a,s ∈ Qce a ∧ 0 ≤ φ s ∧ φ s < b.States:=by
  refine Qbd4 (P:=fun s=>s ∈ Qce a ∧ 0 ≤ φ s ∧ φ s < b.States) ?_ _ _ _ ?_
  ·rintro s ⟨h1,h2⟩ t ht
   refine ⟨Q71 ha h h1 t ht,?_⟩
   obtain ⟨x,hx,rfl⟩:=List.mem_map.1 ht
   have : (⟨φ s,x.Event,φ x.To⟩ : Qd) ∈ outP b (φ s):=by rw [h.out s h1]; exact List.mem_map.2 ⟨x,hx,rfl⟩
   have:=hb.ed0 _ (List.mem_filter.1 this).1
   simp only at this; omega
  ·intro s hs
   refine ⟨Qbah ha h s hs,?_⟩
   split at hs
   ·rename_i h0
    simp at hs; subst hs
    have:=h.st.2 h0
    rw [h.zero h0]; omega
   ·simp at hs
 exact fun s hs=>(this s hs).2
theorem Qbe8 : Qce b = (Qce a).map φ:=by
 have hF:=(Qjp ha).1
 have hl:=hF.len
 have key : bfs b (a.States.toNat + 1) 0 (if 0 < b.States then [0] else []) = (Qce a).map φ:=by
  rw [Qbe6 ha h]
  exact Qbd6 ha h _ _ _ (Qbah ha h)
 have hn : Fnd b ((Qce a).map φ):=⟨by
  have hnd:=hF.nd
  have hinj:=h.inj
  unfold List.Nodup at hnd ⊢
  rw [List.pairwise_map]
  exact List.Pairwise.imp_of_mem (fun hx hy hne he=>hne (hinj _ hx _ hy he)) hnd,fun s hs=>by
  obtain ⟨t,ht,rfl⟩:=List.mem_map.1 hs
  exact Qbe7 ha hb h t ht⟩
 have hl2:=hn.len
 rw [List.length_map] at hl2
 unfold Qce at hl hl2 ⊢
 have:=Qbge (a:=b) (a.States.toNat + 1) (b.States.toNat + 1) 0 (if 0 < b.States then [0] else []) (by rw [key,List.length_map]; unfold Qce; omega) (by rw [key,List.length_map]; unfold Qce; omega)
 rw [this,key]; rfl
end
theorem Qbbu {a : Qa} {F : List Int} : ∀ (l : List Int) (k j : Nat) (s : Int),l[j]? = some s → (Qgq a F k l).filter (fun x=>x.From == ((k + j : Nat) : Int)) = rowP a F (k + j) s
 | [],k,j,s,h=>by simp at h
 | s' :: l,k,j,s,h=>by
  simp only [Qgq,List.filter_append]
  cases j with
  | zero =>
   simp at h; subst h
   have e1 : (rowP a F k s').filter (fun x=>x.From == ((k + 0 : Nat) : Int)) = rowP a F k s':=List.filter_eq_self.2 fun x hx=>by
    obtain ⟨y,_,rfl⟩:=List.mem_map.1 hx; simp
   have e2 : (Qgq a F (k + 1) l).filter (fun x=>x.From == ((k + 0 : Nat) : Int)) = []:=List.filter_eq_nil_iff.2 fun x hx=>by
    have:=(Qvm x hx).1; simp; omega
   rw [e1,e2]; simp
  | succ j =>
   simp at h
   have e1 : (rowP a F k s').filter (fun x=>x.From == ((k + (j + 1) : Nat) : Int)) = []:=List.filter_eq_nil_iff.2 fun x hx=>by
    obtain ⟨y,_,rfl⟩:=List.mem_map.1 hx; simp; omega
   have:=Qbbu (a:=a) (F:=F) l (k + 1) j s h
   rw [e1,List.nil_append,show k + (j + 1) = k + 1 + j from by omega,this]
theorem Q72 {m : List Int} : ∀ (l : List Int) (k : Nat) (x : Int),x ∈ Qjq m k l ↔ ∃ j s,l[j]? = some s ∧ s ∈ m ∧ x = ((k + j : Nat) : Int)
 | [],k,x=>by simp [Qjq]
 | s' :: l,k,x=>by
  simp only [Qjq,List.mem_append]
  rw [Q72 l (k + 1) x]
  constructor
  ·rintro (h | ⟨j,s,h1,h2,h3⟩)
   ·split at h
    ·rename_i hm; simp at h; exact ⟨0,s',by simp,hm,by simpa using h⟩
    ·simp at h
   ·exact ⟨j + 1,s,by simpa using h1,h2,by rw [h3]; congr 1; omega⟩
  ·rintro ⟨j,s,h1,h2,h3⟩
   cases j with
   | zero=>simp at h1; subst h1; left; rw [if_pos h2]; simpa using h3
   | succ j=>right; exact ⟨j,s,by simpa using h1,h2,by rw [h3]; congr 1; omega⟩
theorem Qn3 {l : List Int} {s : Int} (h : s ∈ l) : l[l.idxOf s]? = some s:=by
 have hlt:=List.idxOf_lt_length_iff.2 h
 rw [List.getElem?_eq_getElem hlt,List.getElem_idxOf hlt]
theorem Qbjl {l : List Int} {s t : Int} (hs : s ∈ l) (ht : t ∈ l) (h : l.idxOf s = l.idxOf t) : s = t:=by
 have h1:=Qn3 hs
 rw [h,Qn3 ht] at h1
 exact (Option.some.inj h1).symm
theorem Qbe9 {a : Qa} (ha : Right a) : Like a (Qfi a) (fun s=>((Qce a).idxOf s : Int)):=by
 obtain ⟨hF,hpre,hcl⟩:=Qjp ha
 refine ⟨rfl,?_,?_,?_,?_,?_⟩
 ·simp only [Qfi]
  constructor
  ·intro h
   have:=hF.len; omega
  ·intro h
   rw [if_pos h] at hpre
   have:=hpre.length_le; simp at this; omega
 ·intro h
  rw [if_pos h] at hpre
  obtain ⟨r,hr⟩:=hpre
  rw [← hr]; simp
 ·intro s hs t ht h
  exact Qbjl hs ht (by omega)
 ·intro s hs
  have:=Qbbu (a:=a) (F:=Qce a) (Qce a) 0 ((Qce a).idxOf s) s (Qn3 hs)
  unfold outP Qfi
  simp only [Nat.zero_add] at this
  simp only
  rw [this]; rfl
 ·intro s hs
  show _ ∈ Qjq a.Marked 0 (Qce a) ↔ _
  rw [Q72]
  constructor
  ·rintro ⟨j,t,h1,h2,h3⟩
   have h4 : (Qce a).idxOf s = j:=by omega
   rw [← h4,Qn3 hs] at h1
   cases h1; exact h2
  ·exact fun h=>⟨_,s,Qn3 hs,h,by simp⟩
section
variable {a b : Qa} {φ : Int → Int} (ha : Right a) (hb : Right b) (h : Like a b φ)
include ha h
end
end Go.Abs
end
section
namespace Go.Abs
open Go
set_option linter.unusedSimpArgs false
set_option linter.unusedVariables false
theorem Q73 {α β : Type} {o : Option α} {x : α} {K : α → Option β} {r : Option β} (h : o = some x) (h2 : K x = r) : o.bind K = r:=by rw [h]; exact h2
theorem Qbjm {l m : List Int} (hl : l.Pairwise (· < ·)) (hm : m.Pairwise (· < ·)) (h : ∀ x,x ∈ l ↔ x ∈ m) : l = m:=by
 refine List.Perm.eq_of_pairwise (le:=(· < ·)) (fun a b _ _ h1 h2=>by omega) hl hm ?_
 rw [List.perm_ext_iff_of_nodup (hl.imp fun h=>by omega) (hm.imp fun h=>by omega)]
 exact h
theorem swoI : Go.Sort.SWO Qeb:=⟨fun x=>by simp [Qeb],fun x y z h1 h2=>by simp [Qeb] at *; omega,fun x y z h1 h2=>by simp [Qeb] at *; omega⟩
inductive Rch (a : Qa) (ev fr : List Int) : Int → Prop where
 | base {s : Int} : s ∈ fr → Rch a ev fr s
 | step {x : Qd} : Rch a ev fr x.From → x ∈ a.Edges → x.Event ∈ ev → Rch a ev fr x.To
def upto (n : Int) : List Int:=(List.range n.toNat).map fun (i : Nat)=>(i : Int)
theorem Q81 {n x : Int} : x ∈ upto n ↔ 0 ≤ x ∧ x < n:=by
 simp only [upto,List.mem_map,List.mem_range]
 constructor
 ·rintro ⟨i,hi,rfl⟩; omega
 ·rintro ⟨h1,h2⟩; exact ⟨x.toNat,by omega,by omega⟩
theorem Qbai (n : Int) : (upto n).Pairwise (· < ·):=by
 unfold upto
 rw [List.pairwise_map]
 exact List.pairwise_lt_range.imp fun h=>by omega
theorem Qis (n : Int) : (upto n).length = n.toNat:=by simp [upto]
theorem Qbgf {n : Int} {i : Nat} (h : i < n.toNat) : (upto n)[i]'(by rw [Qis]; exact h) = (i : Int):=by simp [upto]
open Classical in
noncomputable def Qbd7 (a : Qa) (fr ev : List Int) : List Int:=(upto a.States).filter fun s=>decide (Rch a ev fr s)
theorem Qbfa (a : Qa) (fr ev : List Int) : (Qbd7 a fr ev).Pairwise (· < ·):=(Qbai _).filter _
theorem Qbg3 {a : Qa} {fr ev : List Int} {s : Int} : s ∈ Qbd7 a fr ev ↔ (0 ≤ s ∧ s < a.States) ∧ Rch a ev fr s:=by
 classical
 simp only [Qbd7,List.mem_filter,Q81,decide_eq_true_eq]
theorem Rch.range {a : Qa} (h : Right a) {ev fr : List Int} (hf : ∀ s ∈ fr,0 ≤ s ∧ s < a.States) {s : Int} (hr : Rch a ev fr s) : 0 ≤ s ∧ s < a.States:=by
 induction hr with
 | base hs=>exact hf _ hs
 | step _ hx _ _=>have:=h.ed0 _ hx; exact ⟨this.2.2.1,this.2.2.2.1⟩
theorem Rch.mono {a : Qa} {ev fr fr' : List Int} (hf : ∀ s ∈ fr,Rch a ev fr' s) {s : Int} (hr : Rch a ev fr s) : Rch a ev fr' s:=by
 induction hr with
 | base hs=>exact hf _ hs
 | step _ hx he ih=>exact .step ih hx he
end Go.Abs
end
section
namespace Go.Abs
open Go
set_option linter.unusedSimpArgs false
set_option linter.unusedVariables false
def Qbnj (a : Qa) (onto : List Int) : List Int:=a.Alphabet.filter fun x=>decide (x ∈ onto)
def Qbmf (a : Qa) (onto : List Int) : List Int:=a.Alphabet.filter fun x=>!decide (x ∈ onto)
end Go.Abs
end
section
namespace Go.Abs
open Go
set_option linter.unusedSimpArgs false
set_option linter.unusedVariables false
def Qbm9 (a : Qa) (est : List Int) (e : Int) : List Int:=est.flatMap fun s=>((outP a s).filter fun x=>x.Event == e).map (·.To)
noncomputable def Qbku (a : Qa) (onto est : List Int) (e : Int) : List Int:=Qbd7 a (Qbm9 a est e) (Qbmf a onto)
structure Sts (a : Qa) (l : List Int) : Prop where
 rg : ∀ s ∈ l,0 ≤ s ∧ s < a.States
 so : l.Pairwise (· < ·)
theorem Sts.len {a : Qa} {l : List Int} (h : Sts a l) : l.length ≤ a.States.toNat:=by
 have:=Qfg (a:=0) (b:=a.States) h.so h.rg; omega
theorem Qbg4 (a : Qa) (fr ev : List Int) : Sts a (Qbd7 a fr ev):=⟨fun s hs=>(Qbg3.1 hs).1,Qbfa _ _ _⟩
theorem Qbjn (a : Qa) (onto est : List Int) (e : Int) : Sts a (Qbku a onto est e):=Qbg4 _ _ _
theorem Qbcs {α β : Type} {f : α → List β} {m : Nat} : ∀ {l : List α},(∀ x ∈ l,(f x).length ≤ m) → (l.flatMap f).length ≤ m * l.length
 | [],_=>by simp
 | x :: l,h=>by
  have h1:=h x (by simp)
  have h2:=Qbcs (l:=l) fun y hy=>h y (by simp [hy])
  simp only [List.flatMap_cons,List.length_append,List.length_cons,Nat.mul_succ]; omega
theorem Qbd8 {l : List Int} {n : Int} (hl : l.length < big) : Qhd l n = some (Qdl n none l):=Q5d hl
theorem Qbjo {a : Qa} (h : small a) {ev : List Int} (hl : ev.length < big) : Qev a ev = some (if Qvi a = 0 then Qdl 32 none ev else Qvi a):=by
 unfold Qev Qci
 rw [Qbf8 h]
 simp only [Option.bind_some]
 by_cases h0 : Qvi a = 0
 ·rw [if_neg (by simp [h0]),if_pos h0,Qbd8 hl]; rfl
 ·rw [if_pos (by simp [h0]),if_neg h0]
theorem Q8i {a : Qa} (h : Right a) {ev : List Int} (hl : ev.length < big) : Qev a ev = some (Qdl 32 none ev):=by
 rw [Qbjo h.small.1 hl,if_pos (Qbdx.2 h)]
structure EvSet (l : List Int) : Prop where
 rg : ∀ x ∈ l,0 ≤ x ∧ x < 32
 so : l.Pairwise (· < ·)
theorem EvSet.err {l : List Int} (h : EvSet l) : Qdl 32 none l = 0:=Qhe.2 ⟨h.rg,h.so,fun y hy=>by cases hy⟩
theorem Qbjp {l : List Int} : Qdl 32 none l = 0 ↔ EvSet l:=⟨fun h=>by obtain ⟨h1,h2,_⟩:=Qhe.1 h; exact ⟨h1,h2⟩,EvSet.err⟩
theorem EvSet.len {l : List Int} (h : EvSet l) : l.length ≤ 32:=by have:=Qfg (a:=0) (b:=32) h.so h.rg; omega
theorem Evs.set {l : List Int} (h : Evs l) : EvSet l:=⟨fun x hx=>by have:=h.rg x hx; omega,h.so⟩
end Go.Abs
end
section
namespace Go.Abs
open Go
set_option linter.unusedSimpArgs false
set_option linter.unusedVariables false
theorem bytes_beq (a b : ByteArray) : (a == b) = decide (a = b):=by
 cases a; cases b
 rw [Bool.eq_iff_iff]
 simp only [decide_eq_true_eq,ByteArray.mk.injEq]
 exact beq_iff_eq (α:=Array UInt8)
theorem Qvt {x y : Int} (hx : 0 ≤ x ∧ x < 256) (hy : 0 ≤ y ∧ y < 256) (h : x.toNat.toUInt8 = y.toNat.toUInt8) : x = y:=by
 have:=congrArg UInt8.toNat h
 simp only [Nat.toUInt8,UInt8.toNat_ofNat'] at this
 omega
theorem Q8j {r : Int} (h0 : 1 ≤ r) (h1 : r ≤ 50000) :
  (r ≤ 127 ∧ Lib.encodeRuneZ r = [r]) ∨ (128 ≤ r ∧ r ≤ 2047 ∧ Lib.encodeRuneZ r = [192 + r / 64,128 + r % 64]) ∨ (2048 ≤ r ∧ Lib.encodeRuneZ r = [224 + r / 4096,128 + r / 64 % 64,128 + r % 64]):=by
 by_cases h2 : r ≤ 127
 ·exact .inl ⟨h2,Lib.encodeRuneZ_one (by omega) h2⟩
 ·by_cases h3 : r ≤ 2047
  ·exact .inr (.inl ⟨by omega,h3,Lib.encodeRuneZ_two (by omega) h3⟩)
  ·exact .inr (.inr ⟨by omega,Lib.encodeRuneZ_three (.inl ⟨by omega,by omega⟩)⟩)
theorem Qbg5 {r q : Int} (hr : 1 ≤ r ∧ r ≤ 50000) (hq : 1 ≤ q ∧ q ≤ 50000) {s t : List UInt8} (h : Lib.encodeRune r ++ s = Lib.encodeRune q ++ t) : r = q ∧ s = t:=by
 unfold Lib.encodeRune at h
 rcases Q8j hr.1 hr.2 with ⟨a1,a2⟩ | ⟨a0,a1,a2⟩ | ⟨a1,a2⟩ <;> rcases Q8j hq.1 hq.2 with ⟨b1,b2⟩ | ⟨b0,b1,b2⟩ | ⟨b1,b2⟩ <;> rw [a2,b2] at h <;>
  simp only [List.map_cons,List.map_nil,List.cons_append,List.nil_append,List.cons.injEq] at h
 ·exact ⟨Qvt (by omega) (by omega) h.1,h.2⟩
 ·have:=Qvt (by omega) (by omega) h.1; omega
 ·have:=Qvt (by omega) (by omega) h.1; omega
 ·have:=Qvt (by omega) (by omega) h.1; omega
 ·have e1:=Qvt (by omega) (by omega) h.1
  have e2:=Qvt (by omega) (by omega) h.2.1
  exact ⟨by omega,h.2.2⟩
 ·have:=Qvt (by omega) (by omega) h.1; omega
 ·have:=Qvt (by omega) (by omega) h.1; omega
 ·have:=Qvt (by omega) (by omega) h.1; omega
 ·have e1:=Qvt (by omega) (by omega) h.1
  have e2:=Qvt (by omega) (by omega) h.2.1
  have e3:=Qvt (by omega) (by omega) h.2.2.1
  exact ⟨by omega,h.2.2.2⟩
theorem Qbd9 (r : Int) : Lib.encodeRune r ≠ []:=by
 unfold Lib.encodeRune Lib.encodeRuneZ
 split
 ·simp
 ·split
  ·simp
  ·split
   ·simp
   ·split <;> simp
theorem Qbgg : ∀ {l m : List Int},(∀ x ∈ l,0 ≤ x ∧ x < 50000) → (∀ x ∈ m,0 ≤ x ∧ x < 50000) → (l.flatMap fun x=>Lib.encodeRune (x + 1)) = (m.flatMap fun x=>Lib.encodeRune (x + 1)) → l = m
 | [],[],_,_,_=>rfl
 | [],y :: m,_,_,h=>by
  simp only [List.flatMap_nil,List.flatMap_cons] at h
  exact absurd (List.append_eq_nil_iff.1 h.symm).1 (Qbd9 _)
 | x :: l,[],_,_,h=>by
  simp only [List.flatMap_nil,List.flatMap_cons] at h
  exact absurd (List.append_eq_nil_iff.1 h).1 (Qbd9 _)
 | x :: l,y :: m,hl,hm,h=>by
  simp only [List.flatMap_cons] at h
  have hx:=hl x (by simp); have hy:=hm y (by simp)
  obtain ⟨h1,h2⟩:=Qbg5 ⟨by omega,by omega⟩ ⟨by omega,by omega⟩ h
  rw [Qbgg (fun z hz=>hl z (by simp [hz])) (fun z hz=>hm z (by simp [hz])) h2,show x = y from by omega]
theorem Qbgh {l m : List Int} (hl : ∀ x ∈ l,0 ≤ x ∧ x < 50000) (hm : ∀ x ∈ m,0 ≤ x ∧ x < 50000) (h : keyB l = keyB m) : l = m:=by
 unfold keyB at h
 have h:=congrArg (fun b : ByteArray=>b.data.toList) h
 simp only [List.toList_toArray] at h
 exact Qbgg hl hm h
structure KM (S : List (List Int)) (c : List (ByteArray × Int)) : Prop where
 has : ∀ n,(∀ x ∈ n,0 ≤ x ∧ x < 50000) → hasM c (keyB n) = decide (n ∈ S)
 get : ∀ n ∈ S,getM c (keyB n) 0 = (S.idxOf n : Int)
 rg : ∀ n ∈ S,∀ x ∈ n,0 ≤ x ∧ x < 50000
theorem Qbea {β : Type} {v : β} {k k' : ByteArray} : ∀ {m : List (ByteArray × β)},hasM (setM m k v) k' = (decide (k' = k) || hasM m k')
 | []=>by simp [setM,hasM,bytes_beq]
 | (q,w) :: m=>by
  have ih:=Qbea (v:=v) (k:=k) (k':=k') (m:=m)
  simp only [setM]
  by_cases h : k = q
  ·subst h
   simp only [bytes_beq,decide_true,if_true,Q9x]
   by_cases h2 : k' = k <;> simp [h2,bytes_beq]
  ·simp only [bytes_beq,h,decide_false,Bool.false_eq_true,if_false,Q9x]
   rw [ih]
   cases decide (k' = q) <;> cases decide (k' = k) <;> rfl
theorem Qbeb {β : Type} {z v : β} {k k' : ByteArray} : ∀ {m : List (ByteArray × β)},getM (setM m k v) k' z = if k' = k then v else getM m k' z
 | []=>by simp [setM,getM,bytes_beq]
 | (q,w) :: m=>by
  have ih:=Qbeb (z:=z) (v:=v) (k:=k) (k':=k') (m:=m)
  simp only [setM]
  by_cases h : k = q
  ·subst h
   simp only [bytes_beq,decide_true,if_true,getM]
   by_cases h2 : k' = k
   ·subst h2; simp
   ·simp [h2]
  ·simp only [bytes_beq,h,decide_false,Bool.false_eq_true,if_false,getM]
   by_cases h2 : k' = q
   ·subst h2
    have : ¬ k' = k:=fun e=>h e.symm
    simp [this]
   ·simp only [h2,decide_false,Bool.false_eq_true,if_false,ih]
theorem KM.add {S : List (List Int)} {c : List (ByteArray × Int)} (h : KM S c) {n : List Int} (hn : ∀ x ∈ n,0 ≤ x ∧ x < 50000) (hm : n ∉ S) : KM (S ++ [n]) (setM c (keyB n) (S.length : Int)):=by
 refine ⟨fun m hm'=>?_,fun m hm'=>?_,fun m hm'=>?_⟩
 ·rw [Qbea,h.has m hm',← Bool.decide_or]
  apply decide_eq_decide.2
  rw [List.mem_append,List.mem_singleton]
  constructor
  ·rintro (e | e)
   ·exact .inr (Qbgh hm' hn e)
   ·exact .inl e
  ·rintro (e | e)
   ·exact .inr e
   ·exact .inl (by rw [e])
 ·rw [Qbeb]
  rw [List.mem_append,List.mem_singleton] at hm'
  rcases hm' with hm' | rfl
  ·rw [if_neg (fun e=>hm (by rw [← Qbgh (h.rg m hm') hn e]; exact hm')),h.get m hm',List.idxOf_append,if_pos hm']
  ·rw [if_pos rfl,List.idxOf_append,if_neg hm]; simp
 ·rw [List.mem_append,List.mem_singleton] at hm'
  rcases hm' with hm' | rfl
  ·exact h.rg m hm'
  ·exact hn
end Go.Abs
end
section
namespace Go.Abs
open Go
set_option linter.unusedSimpArgs false
set_option linter.unusedVariables false
def insL (o : List (List Int)) (t : List Int) : List (List Int):=if t ∈ o then o else o ++ [t]
noncomputable def Qbmg (a : Qa) (onto est : List Int) (l : List Int) : List (Int × List Int):=l.filterMap fun x=>if Qbku a onto est x = [] then none else some (x,Qbku a onto est x)
def Qbjq (S : List (List Int)) (row : List (Int × List Int)) : List (List Int):=row.foldl (fun o p=>insL o p.2) S
theorem Qbkv {o : List (List Int)} {t x : List Int} : x ∈ insL o t ↔ x ∈ o ∨ x = t:=by
 unfold insL; split
 ·rename_i h
  exact ⟨.inl,fun e=>e.elim id fun e=>by rw [e]; exact h⟩
 ·simp
theorem Qbg6 {o : List (List Int)} (h : o.Nodup) (t : List Int) : (insL o t).Nodup:=by
 unfold insL; split
 ·exact h
 ·rename_i hn
  rw [List.nodup_append]
  exact ⟨h,by simp,fun x hx y hy e=>by simp at hy; subst hy; subst e; exact hn hx⟩
theorem Qbaj : ∀ (row : List (Int × List Int)) {S : List (List Int)},S.Nodup → (Qbjq S row).Nodup
 | [],S,h=>h
 | p :: row,S,h=>Qbaj row (Qbg6 h p.2)
theorem Qbec : ∀ (row : List (Int × List Int)) (S : List (List Int)) (x : List Int),x ∈ Qbjq S row ↔ x ∈ S ∨ ∃ p ∈ row,p.2 = x
 | [],S,x=>by simp [Qbjq]
 | p :: row,S,x=>by
  show x ∈ Qbjq (insL S p.2) row ↔ _
  rw [Qbec row,Qbkv]
  simp only [List.mem_cons,exists_eq_or_imp]
  constructor
  ·rintro ((h | h) | h)
   ·exact .inl h
   ·exact .inr (.inl h.symm)
   ·exact .inr (.inr h)
  ·rintro (h | h | h)
   ·exact .inl (.inl h)
   ·exact .inl (.inr h.symm)
   ·exact .inr h
theorem Qbjr {a : Qa} {onto est l : List Int} {p : Int × List Int} : p ∈ Qbmg a onto est l ↔ p.1 ∈ l ∧ p.2 = Qbku a onto est p.1 ∧ p.2 ≠ []:=by
 obtain ⟨x,n⟩:=p
 simp only [Qbmg,List.mem_filterMap]
 constructor
 ·rintro ⟨y,hy,h⟩
  split at h
  ·cases h
  ·rename_i hne
   cases h; exact ⟨hy,rfl,hne⟩
 ·rintro ⟨h1,h2,h3⟩
  refine ⟨x,h1,?_⟩
  subst h2
  rw [if_neg h3]
structure Ests (a : Qa) (S : List (List Int)) : Prop where
 nd : S.Nodup
 ok : ∀ s ∈ S,Sts a s ∧ s ≠ []
theorem Ests.grow {a : Qa} {S : List (List Int)} (h : Ests a S) (onto est l : List Int) : Ests a (Qbjq S (Qbmg a onto est l)):=by
 refine ⟨Qbaj _ h.nd,fun s hs=>?_⟩
 rcases (Qbec _ _ _).1 hs with hs | ⟨p,hp,rfl⟩
 ·exact h.ok s hs
 ·obtain ⟨_,h2,h3⟩:=Qbjr.1 hp
  exact ⟨by rw [h2]; exact Qbjn _ _ _ _,h3⟩
theorem Sts.lt {a : Qa} (h : Right a) {l : List Int} (hl : Sts a l) : ∀ x ∈ l,0 ≤ x ∧ x < 50000:=fun x hx=>by
 have:=hl.rg x hx; have:=h.st; omega
end Go.Abs
end
section
namespace Go.Abs
open Go
set_option linter.unusedSimpArgs false
set_option linter.unusedVariables false
end Go.Abs
end
section
namespace Go.Abs
open Go
set_option linter.unusedSimpArgs false
set_option linter.unusedVariables false
section
variable {a b : Qa} {φ : Int → Int} (ha : Right a) (hb : Right b) (h : Like a b φ)
include ha hb h
end
theorem Qbed {a : Qa} {F : List Int} : ∀ (l : List Int) (i : Nat),l.Nodup → (Qgq a F i l).length ≤ (a.Edges.filter fun x=>decide (x.From ∈ l)).length
 | [],i,_=>by simp [Qgq]
 | s :: l,i,hn=>by
  have hn:=List.nodup_cons.1 hn
  simp only [Qgq,List.length_append]
  have ih:=Qbed (a:=a) (F:=F) l (i + 1) hn.2
  have h1 : (rowP a F i s).length = (a.Edges.filter fun x=>x.From == s).length:=by simp [rowP,outP]
  have h2 : a.Edges.filter (fun x=>decide (x.From ∈ s :: l)) = a.Edges.filter (fun x=>x.From == s || decide (x.From ∈ l)):=by
   congr 1; funext x; rw [Bool.eq_iff_iff]; simp
  rw [h1,h2]
  have h3 : ∀ L : List Qd,(L.filter (fun x=>x.From == s)).length + (L.filter fun x=>decide (x.From ∈ l)).length = (L.filter (fun x=>x.From == s || decide (x.From ∈ l))).length:=by
   intro L
   induction L with
   | nil=>simp
   | cons x L ih =>
    by_cases hx : x.From = s
    ·have : ¬ x.From ∈ l:=by rw [hx]; exact hn.1
     simp [hx,hn.1] at ih ⊢; omega
    ·by_cases hm : x.From ∈ l <;> simp [hx,hm] at ih ⊢ <;> omega
  have:=h3 a.Edges
  omega
theorem Qbg7 {a : Qa} (ha : Right a) : (Qfi a).States ≤ a.States ∧ (Qfi a).Edges.length ≤ a.Edges.length:=by
 have hF:=(Qjp ha).1
 have:=hF.len
 have hst:=ha.st
 refine ⟨by simp only [Qfi]; omega,?_⟩
 exact Nat.le_trans (Qbed _ _ hF.nd) (List.length_filter_le _ _)
end Go.Abs
end
section
namespace Go.Abs
open Go
set_option linter.unusedSimpArgs false
set_option linter.unusedVariables false
theorem Qoj? {n : Int} {i : Nat} (h : i < n.toNat) : (upto n)[i]? = some (i : Int):=by
 simp only [upto,List.getElem?_map,List.getElem?_range h,Option.map_some]
theorem Qbkw {n x : Int} (h : 0 ≤ x ∧ x < n) : ((upto n).idxOf x : Int) = x:=by
 have hm:=Q81.2 h
 have h1:=Qn3 hm
 have hlt:=(List.getElem?_eq_some_iff.1 h1).1
 rw [Qis] at hlt
 rw [Qoj? hlt] at h1
 exact Option.some.inj h1
theorem Qbmh {l : List Int} (h : l.Nodup) : l.map (fun s=>(l.idxOf s : Int)) = upto (l.length : Int):=by
 refine List.ext_getElem? fun i=>?_
 by_cases hi : i < l.length
 ·rw [Qoj? (by omega),List.getElem?_map,List.getElem?_eq_getElem hi]
  simp only [Option.map_some]
  congr 2
  have h1:=Qn3 (List.getElem_mem hi)
  have hlt:=(List.getElem?_eq_some_iff.1 h1).1
  have h2 : l[l.idxOf l[i]] = l[i]:=by
   rw [List.getElem?_eq_getElem hlt] at h1; exact Option.some.inj h1
  rcases Nat.lt_trichotomy (l.idxOf l[i]) i with h3 | h3 | h3
  ·exact absurd h2 (List.pairwise_iff_getElem.1 h _ _ hlt hi h3)
  ·exact h3
  ·exact absurd h2.symm (List.pairwise_iff_getElem.1 h _ _ hi hlt h3)
 ·rw [List.getElem?_eq_none (by simp; omega),List.getElem?_eq_none (by rw [Qis]; omega)]
theorem Qbfb {a : Qa} (ha : Right a) : Qce (Qfi a) = upto (Qfi a).States:=by
 rw [Qbe8 ha (Q8h ha) (Qbe9 ha)]
 exact Qbmh (Qjp ha).1.nd
theorem Qbg8 {l : List Qd} (h : l.Pairwise Qd0) (i : Int) : l.filter (fun x=>decide (i ≤ x.From)) = l.filter (fun x=>x.From == i) ++ l.filter fun x=>decide (i + 1 ≤ x.From):=by
 induction l with
 | nil=>rfl
 | cons x xs ih =>
  obtain ⟨h1,h2⟩:=List.pairwise_cons.1 h
  have ih:=ih h2
  have hge : ∀ y ∈ xs,x.From ≤ y.From:=fun y hy=>by have:=h1 y hy; unfold Qd0 at this; omega
  rcases Int.lt_trichotomy x.From i with hlt | heq | hgt
  ·rw [List.filter_cons_of_neg (by simp; omega),List.filter_cons_of_neg (by simp; omega),List.filter_cons_of_neg (by simp; omega),ih]
  ·rw [List.filter_cons_of_pos (by simp; omega),List.filter_cons_of_pos (by simp [heq]),List.filter_cons_of_neg (by simp; omega),ih]; rfl
  ·have e1 : (x :: xs).filter (fun x=>x.From == i) = []:=List.filter_eq_nil_iff.2 fun y hy=>by
    rcases List.mem_cons.1 hy with rfl | hy
    ·simp; omega
    ·have:=hge y hy; simp; omega
   rw [e1,List.nil_append]
   refine List.filter_congr fun y hy=>?_
   rcases List.mem_cons.1 hy with rfl | hy
   ·simp; omega
   ·have:=hge y hy; simp; omega
theorem Qbak {b : Qa} (hb : Right b) {n : Int} (hn : b.States = n) : ∀ (k i : Nat),i + k = n.toNat → Qgq b (upto n) i ((upto n).drop i) = b.Edges.filter fun x=>decide ((i : Int) ≤ x.From)
 | 0,i,h=>by
  rw [List.drop_eq_nil_of_le (by rw [Qis]; omega)]
  simp only [Qgq]
  refine (List.filter_eq_nil_iff.2 fun x hx=>?_).symm
  have:=hb.ed0 x hx
  simp; omega
 | k + 1,i,h=>by
  have hlt : i < (upto n).length:=by rw [Qis]; omega
  rw [List.drop_eq_getElem_cons hlt,Qbgf (by omega)]
  simp only [Qgq]
  rw [Qbak hb hn k (i + 1) (by omega),Qbg8 hb.ed (i : Int)]
  congr 1
  unfold rowP outP
  conv=>rhs; rw [← List.map_id (b.Edges.filter fun x=>x.From == (i : Int))]
  refine List.map_congr_left fun x hx=>?_
  obtain ⟨h1,h2⟩:=List.mem_filter.1 hx
  have:=hb.ed0 x h1
  simp only [beq_iff_eq] at h2
  rw [Qbkw ⟨this.2.2.1,by omega⟩,← h2]
  rfl
theorem Qbfc {m : List Int} {n : Int} (hr : ∀ x ∈ m,0 ≤ x ∧ x < n) (hs : m.Pairwise (· < ·)) : Qjq m 0 (upto n) = m:=by
 refine Qbjm Qvl hs fun x=>?_
 rw [Q72]
 constructor
 ·rintro ⟨j,s,h1,h2,h3⟩
  have hlt:=(List.getElem?_eq_some_iff.1 h1).1
  rw [Qis] at hlt
  rw [Qoj? hlt] at h1
  cases h1
  rw [h3,Nat.zero_add]; exact h2
 ·intro hx
  have:=hr x hx
  exact ⟨x.toNat,x,by rw [Qoj? (by omega)]; congr 1; omega,hx,by omega⟩
theorem Qbau {b : Qa} (hb : Right b) (hf : Qce b = upto b.States) : Qfi b = b:=by
 have hst:=hb.st
 unfold Qfi
 rw [hf,Qis]
 have h1:=Qbak hb rfl b.States.toNat 0 (by omega)
 rw [List.drop_zero] at h1
 rw [h1,Qbfc hb.ma0 hb.ma]
 have h2 : (b.Edges.filter fun x=>decide (((0 : Nat) : Int) ≤ x.From)) = b.Edges:=List.filter_eq_self.2 fun x hx=>by
  have:=hb.ed0 x hx; simp; omega
 rw [h2]
 obtain ⟨al,st,ma,ed⟩:=b
 simp only [Qa.mk.injEq,true_and,and_true] at hst ⊢
 omega
def Qbna (b : Qa) (onto : List Int) : Prop:=∀ x ∈ b.Edges,x.Event ∉ onto → x.To = x.From
section
variable {b : Qa} (hb : Right b) {onto : List Int} (hs : Qbna b onto)
include hb hs
end
end Go.Abs
end
section
namespace Go.Abs
open Go
set_option linter.unusedSimpArgs false
set_option linter.unusedVariables false
section
variable {b : Qa} (hb : Right b) {onto : List Int} (hs : Qbna b onto)
include hb hs
end
end Go.Abs
end
section
namespace Go.Abs
open Go
set_option linter.unusedSimpArgs false
set_option linter.unusedVariables false
theorem Qbfd {l : List Int} (h : l.Pairwise (· ≤ ·)) : (Lib.compact l).Pairwise (· < ·):=by
 unfold Lib.compact Lib.compactUpTo
 rw [List.pairwise_map]
 refine List.Pairwise.imp_of_mem ?_ (List.pairwise_lt_range.filter _)
 intro i j hi hj hij
 have hj2:=List.mem_filter.1 hj
 have hjl : j < l.length:=List.mem_range.1 hj2.1
 have hk:=hj2.2
 simp only [Lib.keeps,decide_eq_true_eq] at hk
 have hne : l.toArray[j]! ≠ l.toArray[j - 1]!:=hk.resolve_left (by omega)
 have e : ∀ k,k < l.length → l.toArray[k]! = l[k]!:=fun k hk=>by simp [hk]
 have hle : ∀ p q,p ≤ q → q < l.length → l[p]! ≤ l[q]!:=fun p q hpq hq=>by
  rw [getElem!_pos l p (by omega),getElem!_pos l q hq]
  rcases Nat.lt_or_ge p q with hlt | hge
  ·exact List.pairwise_iff_getElem.1 h p q (by omega) hq hlt
  ·have : p = q:=by omega
   subst this; exact Int.le_refl _
 rw [e i (by omega),e j hjl]
 rw [e j hjl,e (j - 1) (by omega)] at hne
 have h1:=hle i (j - 1) (by omega) (by omega)
 have h2:=hle (j - 1) j (by omega) hjl
 omega
theorem Qbkx {l : List Int} {x : Int} : x ∈ Lib.compact l ↔ x ∈ l:=by
 unfold Lib.compact Lib.compactUpTo
 rw [List.mem_map]
 constructor
 ·rintro ⟨j,hj,rfl⟩
  have hjl : j < l.length:=List.mem_range.1 (List.mem_filter.1 hj).1
  have : l.toArray[j]! = l[j]:=by simp [hjl]
  rw [this]; exact List.getElem_mem hjl
 ·intro hx
  have hlt : l.idxOf x < l.length:=List.idxOf_lt_length_of_mem hx
  have hget : ∀ k (h : k < l.length),l.toArray[k]! = l[k]:=fun k h=>by simp [h]
  refine ⟨l.idxOf x,List.mem_filter.2 ⟨List.mem_range.2 hlt,?_⟩,by rw [hget _ hlt]; exact List.getElem_idxOf hlt⟩
  simp only [Lib.keeps,decide_eq_true_eq]
  by_cases h0 : l.idxOf x = 0
  ·exact .inl h0
  ·refine .inr ?_
   rw [hget _ hlt,hget _ (by omega),List.getElem_idxOf hlt]
   intro he
   have:=List.not_of_lt_findIdx (p:=(· == x)) (xs:=l) (i:=l.idxOf x - 1) (by show _ < l.idxOf x; omega)
   simp [← he] at this
def Qd2 (l m : List Int) : List Int:=Lib.compact (Qhm Qeb (l ++ m))
theorem Qfw (l m : List Int) : (Qd2 l m).Pairwise (· < ·):=Qbfd ((Qkd swoI (l ++ m)).imp fun h=>by simp [Qeb] at h; omega)
theorem Q1k {l m : List Int} {x : Int} : x ∈ Qd2 l m ↔ x ∈ l ∨ x ∈ m:=by
 unfold Qd2
 rw [Qbkx,(Qjk Qeb _).mem_iff,List.mem_append]
theorem Qbnk : ∃ f,Qb5 = f + 1 + 1 + 1:=⟨1099511627773,rfl⟩
theorem Qbjs {l m : List Int} (h : l.length + m.length ≤ 1000) : Qfu [l,m] = some (l ++ m):=by
 unfold Qfu Qb8
 have w1 : IntKind.wrap .i64 (0 + (l.length : Int)) = (l.length : Int):=by rw [Qlz (by omega) (by omega)]; omega
 have w2 : IntKind.wrap .i64 ((l.length : Int) + (m.length : Int)) = (l.length : Int) + (m.length : Int):=Qlz (by omega) (by omega)
 have w3 : IntKind.wrap .i64 (0 + 1) = 1:=by decide
 have w4 : IntKind.wrap .i64 (1 + 1) = 2:=by decide
 have g0 : getO [l,m] 0 = some l:=rfl
 have g1 : getO [l,m] 1 = some m:=rfl
 obtain ⟨f,hf⟩:=Qbnk
 rw [hf]
 refine Q73 (x:=(l.length : Int) + (m.length : Int)) ?_ ?_
 ·simp only [Qcy,List.length_cons,List.length_nil,g0,g1,w1,w2,w3,w4,Option.bind_some]
  rw [if_pos (by decide),if_neg (by omega),if_pos (by decide),if_neg (by omega),if_neg (by decide)]
 ·unfold Qbkm
  rw [if_pos ⟨by omega,by unfold lim; omega⟩]
  simp only [Option.bind_some]
  refine Q73 (x:=l ++ m) ?_ rfl
  have a1 : appO [] l = some l:=by rw [Qdf (by simp; unfold lim; omega)]; rfl
  have a2 : appO l m = some (l ++ m):=Qdf (by unfold lim; omega)
  simp only [Qcy,List.length_cons,List.length_nil,g0,g1,a1,a2,w3,w4,Option.bind_some]
  rw [if_pos (by decide),if_pos (by decide),if_neg (by decide)]
theorem Qbjt {l : List Qd} (hl : l.length ≤ lim) : Qft l = some l:=by
 unfold Qft Qb7
 cases l with
 | nil=>rfl
 | cons x l =>
  simp only [nilO,Bool.false_eq_true,if_false]
  rw [Qdf (by simpa using hl)]
  rfl
def Qn4 (a : Qa) (U : List Int) (s : Int) : List Qd:=(U.filter fun e=>decide (e ∉ a.Alphabet ∨ 0 ≤ Qd6 a s e)).map fun e=>⟨s,e,if e ∈ a.Alphabet then Qd6 a s e else s⟩
def invE (a : Qa) (U : List Int) : List Qd:=(upto a.States).flatMap (Qn4 a U)
def invA (a : Qa) (al : List Int) : Qa:=⟨Qd2 a.Alphabet al,a.States,a.Marked,invE a (Qd2 a.Alphabet al)⟩
theorem Q1l {a : Qa} {U : List Int} {s : Int} {x : Qd} : x ∈ Qn4 a U s ↔ x.From = s ∧ x.Event ∈ U ∧ ((x.Event ∉ a.Alphabet ∧ x.To = s) ∨ (x.Event ∈ a.Alphabet ∧ 0 ≤ Qd6 a s x.Event ∧ x.To = Qd6 a s x.Event)):=by
 simp only [Qn4,List.mem_map,List.mem_filter,decide_eq_true_eq]
 constructor
 ·rintro ⟨e,⟨h1,h2⟩,rfl⟩
  refine ⟨rfl,h1,?_⟩
  by_cases he : e ∈ a.Alphabet
  ·right; exact ⟨he,h2.resolve_left (fun h=>h he),by simp [he]⟩
  ·left; exact ⟨he,by simp [he]⟩
 ·rintro ⟨h1,h2,h3⟩
  refine ⟨x.Event,⟨h2,?_⟩,?_⟩
  ·rcases h3 with ⟨h3,_⟩ | ⟨_,h3,_⟩
   ·exact .inl h3
   ·exact .inr h3
  ·obtain ⟨f,e,t⟩:=x
   simp only at h1 h3 ⊢
   subst h1
   rcases h3 with ⟨h3,h4⟩ | ⟨h3,_,h4⟩
   ·rw [if_neg h3,h4]
   ·rw [if_pos h3,h4]
theorem Q66 {a : Qa} {U : List Int} (hU : U.Pairwise (· < ·)) (s : Int) : (Qn4 a U s).Pairwise Qd0:=by
 unfold Qn4
 rw [List.pairwise_map]
 exact (hU.filter _).imp fun h=>.inr ⟨rfl,h⟩
theorem Q5h {f : Int → List Qd} (h1 : ∀ s,(f s).Pairwise Qd0) (h2 : ∀ s x,x ∈ f s → x.From = s) : ∀ {l : List Int},l.Pairwise (· < ·) → (l.flatMap f).Pairwise Qd0
 | [],_=>by simp
 | s :: l,h=>by
  obtain ⟨k1,k2⟩:=List.pairwise_cons.1 h
  rw [List.flatMap_cons,List.pairwise_append]
  refine ⟨h1 s,Q5h h1 h2 k2,fun x hx y hy=>?_⟩
  obtain ⟨t,ht,hy⟩:=List.mem_flatMap.1 hy
  exact .inl (by rw [h2 s x hx,h2 t y hy]; exact k1 t ht)
theorem Qvn {a : Qa} {U : List Int} (hU : U.Pairwise (· < ·)) : (invE a U).Pairwise Qd0:=Q5h (Q66 hU) (fun s x hx=>(Q1l.1 hx).1) (Qbai _)
theorem Qbct {a : Qa} {U : List Int} {x : Qd} : x ∈ invE a U ↔ (0 ≤ x.From ∧ x.From < a.States) ∧ x.Event ∈ U ∧ ((x.Event ∉ a.Alphabet ∧ x.To = x.From) ∨ (x.Event ∈ a.Alphabet ∧ 0 ≤ Qd6 a x.From x.Event ∧ x.To = Qd6 a x.From x.Event)):=by
 simp only [invE,List.mem_flatMap,Q81]
 constructor
 ·rintro ⟨s,hs,hx⟩
  obtain ⟨h1,h2,h3⟩:=Q1l.1 hx
  rw [h1]; exact ⟨hs,h2,h3⟩
 ·rintro ⟨h1,h2,h3⟩
  exact ⟨x.From,h1,Q1l.2 ⟨rfl,h2,h3⟩⟩
theorem Q1m {a : Qa} (h : Right a) {al : List Int} (hal : EvSet al) : Right (invA a al):=by
 refine ⟨fun x hx=>?_,Qfw _ _,h.st,h.ma0,h.ma,fun x hx=>?_,Qvn (Qfw _ _)⟩
 ·rcases Q1k.1 hx with hx | hx
  ·exact h.al0 x hx
  ·exact hal.rg x hx
 ·obtain ⟨h1,h2,h3⟩:=Qbct.1 hx
  have h1 : 0 ≤ x.From ∧ x.From < (invA a al).States:=h1
  refine ⟨h1.1,h1.2,?_,?_,h2⟩
  ·rcases h3 with ⟨_,h3⟩ | ⟨_,h3,h4⟩ <;> omega
  ·rcases h3 with ⟨_,h3⟩ | ⟨_,h3,h4⟩
   ·rw [h3]; exact h1.2
   ·rcases Qbad h x.From x.Event with hr | hr
    ·omega
    ·rw [h4]; exact hr.2.1
theorem Q74 {x y : Qd} (h : Qd0 x y) : ¬ Qd0 y x:=by unfold Qd0 at *; omega
theorem Qbky {l m : List Qd} (hl : l.Pairwise Qd0) (hm : m.Pairwise Qd0) (h : ∀ x,x ∈ l ↔ x ∈ m) : l = m:=by
 have nd : ∀ {l : List Qd},l.Pairwise Qd0 → l.Nodup:=fun h=>h.imp fun h e=>by subst e; exact Q74 h h
 refine List.Perm.eq_of_pairwise (le:=Qd0) (fun a b _ _ h1 h2=>absurd h2 (Q74 h1)) hl hm ?_
 exact (List.perm_ext_iff_of_nodup (nd hl) (nd hm)).2 h
theorem Qbju {a : Qa} (h : Right a) {x : Qd} : x ∈ a.Edges ↔ (0 ≤ x.From ∧ x.From < a.States) ∧ x.Event ∈ a.Alphabet ∧ 0 ≤ Qd6 a x.From x.Event ∧ x.To = Qd6 a x.From x.Event:=by
 constructor
 ·intro hx
  have h1:=h.ed0 x hx
  have h2 : x ∈ outP a x.From:=List.mem_filter.2 ⟨hx,by simp⟩
  have h3:=Q63 h h2
  exact ⟨⟨h1.1,h1.2.1⟩,h1.2.2.2.2,by rw [h3]; exact h1.2.2.1,h3.symm⟩
 ·rintro ⟨h1,h2,h3,h4⟩
  obtain ⟨y,hy,hye⟩:=(Q8g h).1 h3
  have h5:=Q63 h hy
  obtain ⟨hy1,hy2⟩:=List.mem_filter.1 hy
  simp only [beq_iff_eq] at hy2
  have : x = y:=by
   obtain ⟨f,e,t⟩:=x; obtain ⟨f',e',t'⟩:=y
   simp only at hye h4 h5 hy2
   subst hye; subst hy2
   rw [h4,h5]
  rw [this]; exact hy1
theorem Qbjv {a : Qa} (h : Right a) (al : List Int) : Qbnj (invA a al) a.Alphabet = a.Alphabet:=by
 refine Qbjm ((Qfw _ _).filter _) h.al fun x=>?_
 show x ∈ (Qd2 _ _).filter _ ↔ _
 rw [List.mem_filter,Q1k]
 simp only [decide_eq_true_eq]
 exact ⟨fun h=>h.2,fun h=>⟨.inl h,h⟩⟩
theorem Qbkz {o : List Int} {t : Int} (h : t ∈ o) : ins o t = o:=by unfold ins; rw [if_pos h]
theorem Qbk0 {a : Qa} (h : Right a) (al : List Int) {s : Int} (hr : 0 ≤ s ∧ s < a.States) {o : List Int} (hs : s ∈ o) : (Qfz (invA a al) s).foldl ins o = (Qfz a s).foldl ins o:=by
 have e1 : outP (invA a al) s = Qn4 a (Qd2 a.Alphabet al) s:=by
  refine Qbky ((Qvn (Qfw _ _)).filter _) (Q66 (Qfw _ _) s) fun x=>?_
  show x ∈ (invE a _).filter _ ↔ _
  rw [List.mem_filter,Qbct,Q1l]
  simp only [beq_iff_eq]
  constructor
  ·rintro ⟨⟨h1,h2,h3⟩,rfl⟩; exact ⟨rfl,h2,h3⟩
  ·rintro ⟨rfl,h2,h3⟩; exact ⟨⟨hr,h2,h3⟩,rfl⟩
 have e2 : a.Alphabet = (Qd2 a.Alphabet al).filter fun e=>decide (e ∈ a.Alphabet):=(Qbjv h al).symm
 have e3 : Qfz a s = ((Qd2 a.Alphabet al).filter fun e=>decide (e ∈ a.Alphabet) && decide (0 ≤ Qd6 a s e)).map (Qd6 a s):=by
  rw [Q08 h]
  conv=>lhs; rw [e2]
  rw [List.filter_filter]
  congr 1
  refine List.filter_congr fun x _=>?_
  rw [Bool.and_comm]
 rw [e3]
 unfold Qfz
 rw [e1]
 unfold Qn4
 rw [List.map_map]
 generalize Qd2 a.Alphabet al = U
 clear e1 e2 e3
 induction U generalizing o with
 | nil=>rfl
 | cons e U ih =>
  by_cases he : e ∈ a.Alphabet
  ·by_cases h0 : 0 ≤ Qd6 a s e
   ·rw [List.filter_cons_of_pos (by simp [h0]),List.filter_cons_of_pos (by simp [he,h0])]
    simp only [List.map_cons,List.foldl_cons,Function.comp,he,if_true]
    exact ih (Q5g.2 (.inl hs))
   ·rw [List.filter_cons_of_neg (by simp [he,h0]),List.filter_cons_of_neg (by simp [h0])]
    exact ih hs
  ·rw [List.filter_cons_of_pos (by simp [he]),List.filter_cons_of_neg (by simp [he])]
   simp only [List.map_cons,List.foldl_cons,Function.comp,he,if_false]
   rw [Qbkz hs]
   exact ih hs
theorem Qbjw {a : Qa} (h : Right a) (al : List Int) : ∀ (f i : Nat) (o : List Int),(∀ s ∈ o,0 ≤ s ∧ s < a.States) → bfs (invA a al) f i o = bfs a f i o
 | 0,i,o,_=>rfl
 | f + 1,i,o,ho=>by
  unfold bfs
  cases hg : o[i]? with
  | none=>rfl
  | some s =>
   have hs:=List.mem_of_getElem? hg
   dsimp only
   rw [Qbk0 h al (ho s hs) hs]
   exact Qbjw h al f (i + 1) _ (Q65 (P:=fun s=>0 ≤ s ∧ s < a.States) _ _ ho (Qvk h s))
theorem Qbjx {a : Qa} (h : Right a) (al : List Int) : Qce (invA a al) = Qce a:=by
 unfold Qce
 exact Qbjw h al _ 0 _ fun s hs=>by
  split at hs
  ·simp at hs; subst hs; rename_i h0; exact ⟨Int.le_refl _,h0⟩
  ·simp at hs
end Go.Abs
end
section
namespace Go.Abs
open Go
set_option linter.unusedSimpArgs false
set_option linter.unusedVariables false
theorem Qbee {b : Qa} (h : Right b) : Qex b = some (Qfi b,0):=by
 unfold Qex Qbs
 rw [Qbe2 h]
 simp only [Option.bind_some]
 rw [if_neg (by decide),Qbat h]
 rfl
theorem Qbmi {l : List Qd} (h : l.Pairwise fun a b=>Qd0 a b ∨ Qd0 b a) : Q7v ltE l = true:=by
 induction l with
 | nil=>rfl
 | cons x l ih =>
  obtain ⟨h1,h2⟩:=List.pairwise_cons.1 h
  simp only [Q7v,Bool.and_eq_true,List.all_eq_true]
  refine ⟨fun y hy=>?_,ih h2⟩
  have:=h1 y hy
  simp only [ltE,Bool.or_eq_true,decide_eq_true_eq]
  unfold Qd0 at this; omega
theorem Qbnl : Go.Sort.SWO ltE:={
 irrefl x:=by simp [ltE]
 trans x y z h1 h2:=by simp only [ltE,decide_eq_true_eq] at *; omega
 ntrans x y z h1 h2:=by simp only [ltE,decide_eq_false_iff_not] at *; omega }
theorem Qbg9 {r m : List Qd} (hp : r.Perm m) (hm : m.Pairwise Qd0) (hl : r.length ≤ 65536) (hok : ∀ x ∈ m,0 ≤ x.From ∧ x.From < 4611686018427387904 ∧ 0 ≤ x.Event ∧ x.Event < 4611686018427387904) : Qbf7 r = some m:=by
 have hd : Q7v ltE r = true:=Qbmi ((hp.symm.pairwise_iff (R:=fun a b=>Qd0 a b ∨ Qd0 b a) (fun h=>h.symm)).1 (hm.imp fun h=>.inl h))
 unfold Qbf7 Qbkl
 rw [if_pos hl,if_pos]
 ·rw [← Q6u Qbnl hd hp.symm (hm.imp fun h=>by unfold Qd0 at h; simp only [ltE,decide_eq_false_iff_not]; omega)]
 ·rw [Bool.and_eq_true]
  refine ⟨List.all_eq_true.2 fun x hx=>?_,hd⟩
  have:=hok x (hp.mem_iff.1 hx)
  simp only [okE,decide_eq_true_eq]; exact this
theorem Qbef {l m : List Int} (hl : ∀ x ∈ l,0 ≤ x ∧ x < 32) (hm : ∀ x ∈ m,0 ≤ x ∧ x < 32) : (Qd2 l m).length ≤ 32:=by
 have:=Qfg (a:=0) (b:=32) (Qfw l m) fun x hx=>by
  rcases Q1k.1 hx with hx | hx
  ·exact hl x hx
  ·exact hm x hx
 omega
def Qbal (a : Qa) (U : List Int) : List Qd:=(upto a.States).flatMap fun s=>(U.filter fun e=>!decide (e ∈ a.Alphabet)).map fun e=>⟨s,e,s⟩
theorem Qbha {a : Qa} (h : Right a) {al : List Int} (hal : EvSet al) : (a.Edges ++ Qbal a (Qd2 a.Alphabet al)).Perm (invE a (Qd2 a.Alphabet al)):=by
 have nd : ∀ {l : List Qd},l.Pairwise Qd0 → l.Nodup:=fun h=>h.imp fun h e=>by subst e; exact Q74 h h
 have hmem : ∀ x : Qd,x ∈ Qbal a (Qd2 a.Alphabet al) ↔ (0 ≤ x.From ∧ x.From < a.States) ∧ x.Event ∈ Qd2 a.Alphabet al ∧ x.Event ∉ a.Alphabet ∧ x.To = x.From:=by
  intro x
  simp only [Qbal,List.mem_flatMap,List.mem_map,List.mem_filter,Q81,Bool.not_eq_true',decide_eq_false_iff_not]
  constructor
  ·rintro ⟨s,hs,e,⟨h1,h2⟩,rfl⟩; exact ⟨hs,h1,h2,rfl⟩
  ·rintro ⟨h1,h2,h3,h4⟩
   refine ⟨x.From,h1,x.Event,⟨h2,h3⟩,?_⟩
   obtain ⟨f,e,t⟩:=x
   simp only at h4 ⊢; rw [h4]
 have hls : (Qbal a (Qd2 a.Alphabet al)).Pairwise Qd0:=Q5h (fun s=>by rw [List.pairwise_map]; exact ((Qfw _ _).filter _).imp fun h=>.inr ⟨rfl,h⟩) (fun s x hx=>by obtain ⟨e,_,rfl⟩:=List.mem_map.1 hx; rfl) (Qbai _)
 refine (List.perm_ext_iff_of_nodup ?_ (nd (Qvn (Qfw _ _)))).2 fun x=>?_
 ·rw [List.nodup_append]
  refine ⟨nd h.ed,nd hls,fun x hx y hy e=>?_⟩
  subst e
  exact ((hmem x).1 hy).2.2.1 (h.ed0 x hx).2.2.2.2
 ·rw [List.mem_append,hmem,Qbju h,Qbct]
  constructor
  ·rintro (⟨h1,h2,h3⟩ | ⟨h1,h2,h3⟩)
   ·exact ⟨h1,Q1k.2 (.inl h2),.inr ⟨h2,h3⟩⟩
   ·exact ⟨h1,h2,.inl h3⟩
  ·rintro ⟨h1,h2,h3 | ⟨h3,h4⟩⟩
   ·exact .inr ⟨h1,h2,h3⟩
   ·exact .inl ⟨h1,h3,h4⟩
theorem Qbhb {a : Qa} (h : Right a) (h5 : a.States ≤ 5) {al : List Int} (hal : EvSet al) : Qdh a al = some (Qfi (invA a al),0):=by
 have hst:=h.st
 have hall:=hal.len
 have hsm:=h.small
 have hul:=Qbef h.al0 hal.rg
 have hel : a.Edges.length ≤ 1000:=by
  have h1 : ((a.Edges.map fun x=>x.From * 32 + x.Event)).Pairwise (· < ·):=by
   rw [List.pairwise_map]
   refine List.Pairwise.imp_of_mem (fun {x y} hx hy hk=>?_) h.ed
   have:=h.al0 _ (h.ed0 x hx).2.2.2.2; have:=h.al0 _ (h.ed0 y hy).2.2.2.2
   unfold Qd0 at hk; omega
  have:=Qfg (a:=0) (b:=1000) h1 fun z hz=>by
   obtain ⟨x,hx,rfl⟩:=List.mem_map.1 hz
   have:=h.ed0 x hx; have:=h.al0 _ this.2.2.2.2; omega
  rw [List.length_map] at this; omega
 unfold Qdh Qbi
 rw [Q8i h (by unfold big; omega),hal.err]
 simp only [Option.bind_some]
 rw [if_neg (by decide),Qbjt (by unfold lim; omega)]
 simp only [Option.bind_some]
 rw [Qbjs (by omega)]
 simp only [Option.bind_some]
 have hlen : (Qhm Qeb (a.Alphabet ++ al)).length ≤ lim:=by rw [Qhh,List.length_append]; unfold lim; omega
 unfold sortI Q6v
 rw [if_pos (by rw [List.length_append]; unfold lim; omega)]
 simp only [Option.bind_some]
 rw [if_pos hlen]
 simp only [Option.bind_some]
 rw [show Lib.compact (Qhm Qeb (a.Alphabet ++ al)) = Qd2 a.Alphabet al from rfl]
 have hlp : ∀ l : List Int,(l.flatMap fun s=>((Qd2 a.Alphabet al).filter fun e=>!decide (e ∈ a.Alphabet)).map fun e=>(⟨s,e,s⟩ : Qd)).length ≤ 32 * l.length:=fun l =>
  Qbcs (fun s _=>by rw [List.length_map]; exact Nat.le_trans (List.length_filter_le _ _) hul)
 refine Q73 (x:=a.Edges ++ Qbal a (Qd2 a.Alphabet al)) ?_ ?_
 ·refine (Qkh (len:=a.States.toNat) (fun n (r : List Qd)=>((n : Int),r)) (fun n r=>r = a.Edges ++ ((upto a.States).take n).flatMap fun s=>((Qd2 a.Alphabet al).filter fun e=>!decide (e ∈ a.Alphabet)).map fun e=>⟨s,e,s⟩) (fun n r=>some (a.Edges ++ Qbal a (Qd2 a.Alphabet al))) ?_ ?_ Qb5 0 _ (Nat.zero_le _) (by unfold Qb5; omega) (by simp))
  ·rintro k n r hn rfl ih
   dsimp only
   rw [if_pos (by omega)]
   have hrl:=hlp ((upto a.States).take n)
   rw [List.length_take,Qis] at hrl
   generalize hr0 : a.Edges ++ ((upto a.States).take n).flatMap (fun s=>((Qd2 a.Alphabet al).filter fun e=>!decide (e ∈ a.Alphabet)).map fun e=>(⟨s,e,s⟩ : Qd)) = r0
   have hr0l : r0.length ≤ 2000:=by rw [← hr0,List.length_append]; omega
   refine Q73 (x:=r0 ++ ((Qd2 a.Alphabet al).filter fun e=>!decide (e ∈ a.Alphabet)).map fun e=>(⟨(n : Int),e,(n : Int)⟩ : Qd)) ?_ ?_
   ·refine (Qkh (len:=(Qd2 a.Alphabet al).length) (fun m (r : List Qd)=>((m : Int),r)) (fun m r=>r = r0 ++ (((Qd2 a.Alphabet al).take m).filter fun e=>!decide (e ∈ a.Alphabet)).map fun e=>(⟨(n : Int),e,(n : Int)⟩ : Qd)) (fun m r=>some (r0 ++ ((Qd2 a.Alphabet al).filter fun e=>!decide (e ∈ a.Alphabet)).map fun e=>(⟨(n : Int),e,(n : Int)⟩ : Qd))) ?_ ?_ Qb5 0 _ (Nat.zero_le _) (by unfold Qb5; omega) (by simp))
    ·rintro k m r hm rfl ih
     dsimp only
     rw [if_pos (by omega),Qcs hm]
     simp only [Option.bind_some]
     rw [Q5e (by unfold big; omega)]
     simp only [Option.bind_some]
     have hfl : ((((Qd2 a.Alphabet al).take m).filter fun e=>!decide (e ∈ a.Alphabet)).map fun e=>(⟨(n : Int),e,(n : Int)⟩ : Qd)).length ≤ 32:=by
      rw [List.length_map]; exact Nat.le_trans (List.length_filter_le _ _) (by rw [List.length_take]; omega)
     rw [Qbj (by omega)]
     by_cases hx : (Qd2 a.Alphabet al)[m] ∈ a.Alphabet
     ·simp only [hx,decide_true,if_true,Option.bind_some]
      refine ih _ ?_
      rw [List.take_succ_eq_append_getElem hm,List.filter_append,List.map_append]
      simp [hx]
     ·simp only [hx,decide_false,Bool.false_eq_true,if_false]
      rw [Qdf (by rw [List.length_append]; simp only [List.length_cons,List.length_nil]; unfold lim; omega)]
      simp only [Option.bind_some]
      refine ih _ ?_
      rw [List.take_succ_eq_append_getElem hm,List.filter_append,List.map_append,List.append_assoc]
      simp [hx]
    ·rintro k r rfl
     dsimp only
     rw [if_neg (by omega),List.take_length]
   ·rw [Qbj (by omega)]
    refine ih _ ?_
    rw [← hr0,List.take_succ_eq_append_getElem (by rw [Qis]; omega),Qbgf (by omega),List.flatMap_append,List.append_assoc]
    simp only [List.flatMap_cons,List.flatMap_nil,List.append_nil]
  ·rintro k r rfl
   dsimp only
   rw [if_neg (by omega),List.take_of_length_le (by rw [Qis]; omega)]
   rfl
 ·have hll:=hlp (upto a.States)
  rw [Qis] at hll
  have hp:=Qbha h hal
  have hsort:=Qbg9 hp (Qvn (Qfw _ _)) (by
   rw [List.length_append]; have : (Qbal a (Qd2 a.Alphabet al)).length ≤ 32 * a.States.toNat:=hll; omega) (fun x hx=>by
   have h1:=(Q1m h hal).ed0 x hx
   have h2:=(Q1m h hal).al0 _ h1.2.2.2.2
   have h3 : (invA a al).States = a.States:=rfl
   omega)
  rw [hsort]
  simp only [Option.bind_some]
  rw [show (⟨Qd2 a.Alphabet al,a.States,a.Marked,invE a (Qd2 a.Alphabet al)⟩ : Qa) = invA a al from rfl,Qbee (Q1m h hal)]
  rfl
end Go.Abs
end
section
namespace Go.Abs
open Go
set_option linter.unusedSimpArgs false
set_option linter.unusedVariables false
theorem Qbhc : Qhc = some true:=by kernel_rfl
theorem Qbeg {w : List Qd} {p : Qd → Bool} {f : Qd → Option Bool} (hf : ∀ x,f x = some (p x)) (hw : w.length < big) : Qd4 w f = some (if w.any p then ((w.findIdx p : Nat) : Int) else -1):=by
 have hb : w.length < 1000000000000:=hw
 unfold Qd4 Qbb
 obtain ⟨fuel,hfu,hge⟩ : ∃ f,Qb5 = f ∧ 1099511627776 ≤ f:=⟨_,rfl,Nat.le_refl _⟩
 rw [hfu]
 have:=Qlo (F:=fun (k10 : Int → Option Int) (x9 : Int)=>(if (x9 < (w.length : Int)) then ((getO w x9).bind fun x12=>((f x12).bind fun x15=>(if x15 then some x9 else k10 (IntKind.wrap .i64 (x9 + 1))))) else some (-1))) (len:=w.length) (fuel:=fuel)
  (fun n=>some (if (w.drop n).any p then ((n + (w.drop n).findIdx p : Nat) : Int) else -1)) (by omega) (by
   intro k n hn ih
   rw [if_pos (by omega),Qcs hn,Qbj (by omega),ih]
   simp only [Option.bind_some,hf]
   rw [List.drop_eq_getElem_cons hn]
   cases hp : p w[n] with
   | true=>simp only [List.any_cons,hp,Bool.true_or,if_true,List.findIdx_cons,cond_true,Nat.add_zero]
   | false =>
    simp only [List.any_cons,hp,Bool.false_or,List.findIdx_cons,cond_false,Bool.false_eq_true,if_false]
    rw [show n + 1 + (w.drop (n + 1)).findIdx p = n + ((w.drop (n + 1)).findIdx p + 1) from by omega]) (by intro k; simp)
 rw [this]
 simp only [List.drop_zero,Nat.zero_add]
theorem Qbfe {l : List Int} {n : Int} (hl : l.length < big) : Qec l n = some (Qdl n none l):=by
 unfold Qec Q2
 refine (Qlo (len:=l.length) (fun k=>some (Qdl n (ahead l k) (l.drop k))) (by unfold Qb5; unfold big at hl; omega) ?_ ?_).trans (by simp [Qmx])
 ·intro k i hi ih
  have hb : i < 1000000000000:=by unfold big at hl; omega
  rw [Q8f hi]
  try dsimp only
  rw [if_pos (by omega),Qcs hi,Qbj (by omega),ih]
  simp only [Option.bind_some]
  by_cases h1 : l[i] < 0
  ·simp [h1]
  ·by_cases h2 : l[i] ≥ n
   ·simp [h1,h2]
   ·by_cases h0 : 0 < i
    ·rw [Qbab h0 (by omega),Qcs (by omega : i - 1 < l.length),Qbac l h0 (by omega)]
     by_cases h3 : l[i] ≤ l[i - 1] <;> simp [h1,h2,h3,h0]
    ·obtain rfl : i = 0:=by omega
     simp [h1,h2,Qmx]
 ·intro k; simp [Qdl]
theorem Qbgi {α : Type} (p : α → Bool) : ∀ l : List α,l.find? p = l[l.findIdx p]?
 | []=>rfl
 | x :: l=>by
  rw [List.find?_cons,List.findIdx_cons]
  cases hp : p x with
  | true=>rfl
  | false=>simpa using Qbgi p l
theorem Qbjy {a : Qa} (s e : Int) : (a.Edges.find? fun x=>x.From == s && x.Event == e) = none ∧ Qd6 a s e = -1 ∨ ∃ x,(a.Edges.find? fun x=>x.From == s && x.Event == e) = some x ∧ x.From = s ∧ x.Event = e ∧ Qd6 a s e = x.To:=by
 unfold Qd6
 cases hf : a.Edges.find? fun x=>x.From == s && x.Event == e with
 | none=>exact .inl ⟨rfl,rfl⟩
 | some x =>
  have:=List.find?_some hf
  simp only [Bool.and_eq_true,beq_iff_eq] at this
  exact .inr ⟨x,rfl,this.1,this.2,rfl⟩
theorem Qbhd (a : Qa) (U : List Int) (s : Int) : (Qn4 a U s).length ≤ U.length:=by
 unfold Qn4; rw [List.length_map]; exact List.length_filter_le _ _
theorem Qbeh (s : Int) (g : Qw) (al : List Int) (hs : 0 ≤ s ∧ s < 256) (hg : Qbjg g) : Qde s g al = some true:=by
 unfold Qde Qcj
 rw [Qbhc]
 simp only [Option.bind_some,if_true]
 by_cases hl : al.length ≤ 8
 ·rw [if_neg (by simp; omega)]
  obtain ⟨ev,hE,hev⟩:=Qbjf hs.1 hs.2
  obtain ⟨m,hm,hmal,hM,hm5⟩:=Qbmb hev hg
  have ha:=Q8h hm
  have h5 : (Qfi m).States ≤ 5:=Int.le_trans (Qbg7 hm).1 hm5
  have hfc:=Qbfb hm
  have hall : (Qfi m).Alphabet.length ≤ 5:=by show m.Alphabet.length ≤ 5; rw [hmal]; exact hev.len
  have halb : al.length < big:=by unfold big; omega
  rw [hE]
  simp only [Option.bind_some]
  rw [hM]
  simp only [Option.bind_some]
  generalize Qfi m = a at ha h5 hfc hall ⊢
  have hst:=ha.st
  have hsm:=ha.small
  rw [Qbfe halb]
  unfold Qjm Qb9
  by_cases hw : Qdl 32 none al = 0
  ·have hal:=Qbjp.1 hw
   rw [Qbhb ha h5 hal]
   have hR:=Q1m ha hal
   have hcan : Qfi (invA a al) = invA a al:=Qbau hR (by rw [Qbjx ha al,hfc]; rfl)
   rw [hcan,hw]
   simp only [Option.bind_some,show ((0 : Int) != 0) = false from rfl,Bool.false_eq_true,if_false]
   rw [Qbcq (by unfold lim; omega)]
   simp only [Option.bind_some]
   rw [Qdf (by unfold lim; omega)]
   simp only [Option.bind_some]
   have hun : Qei (a.Alphabet ++ al) = some (Qd2 a.Alphabet al):=by
    unfold Qei Qbg
    rw [Qbcq (by unfold lim; rw [List.length_append]; omega)]
    have hl:=Qhh Qeb (a.Alphabet ++ al)
    rw [List.length_append] at hl
    simp only [Option.bind_some,sortI,Q6v]
    rw [if_pos (by unfold lim; rw [List.length_append]; omega)]
    simp only [Option.bind_some]
    rw [if_pos (by unfold lim; omega)]
    rfl
   rw [hun]
   simp only [Option.bind_some]
   have hul:=Qbef ha.al0 hal.rg
   generalize hU : Qd2 a.Alphabet al = U at hul
   have hinv : invA a al = ⟨U,a.States,a.Marked,invE a U⟩:=by unfold invA; rw [hU]
   refine Q73 (x:=invE a U) ?_ ?_
   ·have hlen : ∀ n : Nat,n ≤ 5 → ((upto (n : Int)).flatMap (Qn4 a U)).length ≤ 32 * 5:=fun n hn=>by
     have:=Qbcs (f:=Qn4 a U) (m:=32) (l:=upto (n : Int)) fun x _=>Nat.le_trans (Qbhd a U x) hul
     rw [Qis] at this
     omega
    refine (Qkh (len:=a.States.toNat) (fun n (w : List Qd)=>((n : Int),w)) (fun n w=>w = (upto (n : Int)).flatMap (Qn4 a U)) (fun n w=>some (invE a U)) ?_ ?_ Qb5 0 [] (Nat.zero_le _) (by unfold Qb5; omega) (by simp [upto]))
    ·rintro k n w hn rfl ih
     dsimp only
     rw [if_pos (by omega)]
     have hW:=hlen n (by omega)
     have hup : upto ((n + 1 : Nat) : Int) = upto (n : Int) ++ [(n : Int)]:=by
      unfold upto
      rw [show ((n + 1 : Nat) : Int).toNat = n + 1 from rfl,show ((n : Nat) : Int).toNat = n from rfl,List.range_succ,List.map_append]
      rfl
     generalize hW0 : (upto (n : Int)).flatMap (Qn4 a U) = W0 at hW
     refine Q73 (x:=W0 ++ Qn4 a U (n : Int)) ?_ ?_
     ·refine (Qkh (len:=U.length) (fun q (w : List Qd)=>((q : Int),w)) (fun q w=>w = W0 ++ ((U.take q).filter fun e=>decide (e ∉ a.Alphabet ∨ 0 ≤ Qd6 a (n : Int) e)).map fun e=>(⟨(n : Int),e,if e ∈ a.Alphabet then Qd6 a (n : Int) e else (n : Int)⟩ : Qd)) (fun q w=>some (W0 ++ Qn4 a U (n : Int))) ?_ ?_ Qb5 0 W0 (Nat.zero_le _) (by unfold Qb5; omega) (by simp))
      ·intro k q w hq hw' ih
       dsimp only
       rw [if_pos (by omega),Qcs hq]
       simp only [Option.bind_some]
       rw [Q5e (by unfold big; omega)]
       simp only [Option.bind_some]
       have hwl : w.length ≤ 32 * 5 + 32:=by
        rw [hw',List.length_append,List.length_map]
        have : ((U.take q).filter fun e=>decide (e ∉ a.Alphabet ∨ 0 ≤ Qd6 a (n : Int) e)).length ≤ q:=Nat.le_trans (List.length_filter_le _ _) (by rw [List.length_take]; omega)
        omega
       have htk : U.take (q + 1) = U.take q ++ [U[q]]:=List.take_succ_eq_append_getElem hq
       rw [htk,List.filter_append,List.map_append,← List.append_assoc,← hw'] at ih
       generalize U[q] = e at ih ⊢
       by_cases he : e ∈ a.Alphabet
       ·simp only [he,decide_true,if_true]
        rw [Qbeg (p:=fun x=>x.From == (n : Int) && x.Event == e) (fun x=>by
         unfold Qc5 Qq
         by_cases h1 : x.From = (n : Int) <;> simp [h1]) hsm.1.2.2]
        simp only [Option.bind_some]
        rcases Qbjy (a:=a) (n : Int) e with ⟨f1,f2⟩ | ⟨x,f1,f2,f3,f4⟩
        ·have hany : (a.Edges.any fun x=>x.From == (n : Int) && x.Event == e) = false:=by
          rw [List.any_eq_false]; exact fun x hx=>by simpa using List.find?_eq_none.1 f1 x hx
         rw [hany]
         simp only [Bool.false_eq_true,if_false]
         rw [if_neg (by decide)]
         simp only [Option.bind_some]
         rw [Qbj (by omega)]
         refine ih w ?_
         have : ¬ (e ∉ a.Alphabet ∨ 0 ≤ Qd6 a (n : Int) e):=by rw [f2]; exact fun hh=>hh.elim (fun h=>h he) (by decide)
         simp [this]
        ·have hany : (a.Edges.any fun x=>x.From == (n : Int) && x.Event == e) = true:=by
          rw [List.any_eq_true]; exact ⟨x,List.mem_of_find?_eq_some f1,by simp [f2,f3]⟩
         have hx0:=(ha.ed0 x (List.mem_of_find?_eq_some f1)).2.2.1
         rw [hany,if_pos rfl,if_pos (by omega)]
         have hlt : a.Edges.findIdx (fun x=>x.From == (n : Int) && x.Event == e) < a.Edges.length:=List.findIdx_lt_length_of_exists ⟨x,List.mem_of_find?_eq_some f1,by simp [f2,f3]⟩
         have hgx : getO a.Edges ((a.Edges.findIdx (fun x=>x.From == (n : Int) && x.Event == e) : Nat) : Int) = some x:=by
          rw [Q62]; refine ⟨by omega,?_⟩
          rw [Int.toNat_natCast,← f1]; exact (Qbgi _ _).symm
         rw [hgx]
         simp only [Option.bind_some]
         rw [Qdf (by simp only [List.length_cons,List.length_nil]; unfold lim; omega)]
         simp only [Option.bind_some]
         rw [Qbj (by omega)]
         refine ih _ (congrArg (w ++ ·) ?_)
         have h0 : 0 ≤ Qd6 a (n : Int) e:=by rw [f4]; exact hx0
         obtain ⟨xf,xe,xt⟩:=x
         simp only at f2 f3 f4
         rw [List.filter_eq_self.2 (fun y hy=>by rw [List.mem_singleton.1 hy]; simp [h0])]
         simp [he,f2,f3,f4]
       ·simp only [he,decide_false,Bool.false_eq_true,if_false]
        rw [Qdf (by simp only [List.length_cons,List.length_nil]; unfold lim; omega)]
        simp only [Option.bind_some]
        rw [Qbj (by omega)]
        refine ih _ ?_
        simp [he]
      ·intro k w hw'
       dsimp only
       rw [if_neg (by omega),hw',List.take_length]
       rfl
     ·rw [Qbj (by omega)]
      refine ih _ ?_
      rw [hup,List.flatMap_append,hW0]
      simp
    ·rintro k w rfl
     dsimp only
     rw [if_neg (by omega),Int.toNat_of_nonneg hst.1]
     rfl
   ·simp only [show ((0 : Int) == 0) = true from rfl,if_true]
    rw [Qbd2 hR.small.1,hinv]
    simp
  ·have hinv : Qdh a al = some (⟨[],0,[],[]⟩,Qdl 32 none al):=by
    unfold Qdh Qbi; rw [Q8i ha halb]; simp [hw]
   rw [hinv]
   simp only [Option.bind_some]
   rw [if_pos (by simpa using hw)]
   simp only [BEq.rfl,if_true]
   rw [Qbd2 (by refine ⟨?_,?_,?_⟩ <;> simp [big])]
   simp
 ·rw [if_pos (by simp; omega)]
end Go.Abs
end
