/-
  Part 7 of the proof: see the last text.
-/
import Derived.Test.YtjoeogboieenlaaGreatDoorP6
import Derived.KernelRfl
import Derived.ChangeSame
import Derived.ChangeVars
import Derived.JoinedOf
import Derived.LaidLaws
import Derived.LaidHandle
import Derived.LaidMore
import Derived.SevenTiedAt
set_option linter.unusedVariables false
set_option linter.unusedSimpArgs false
set_option linter.unusedSectionVars false
section
namespace Go.Abs
open Go
def Qeq (n:Int):Option Int→List Int→Int
 | _,[]=>0
 | p,x :: xs=>if x < 0∨x≥n then 2 else if ∃ y,p=some y∧x≤y then 5 else Qeq n (some x) xs
def Qkx (al:List Int) (st:Int):Option Qc→List Qc→Int
 | _,[]=>0
 | p,x :: xs=>if x.From < 0∨x.From≥st∨x.To < 0∨x.To≥st then 2 else if x.Event∉al then 9 else if ∃ y,p=some y∧(x.From < y.From∨x.From=y.From∧x.Event≤y.Event) then 5 else Qkx al st (some x) xs
def Qbek (a:Qa):Int :=
 if Qeq 32 none a.zJ≠0 then Qeq 32 none a.zJ else if a.zM < 0 then 2 else if a.zM > 4096 then 3 else
 if Qeq a.zM none a.zK≠0 then Qeq a.zM none a.zK else Qkx a.zJ a.zM none a.zL
def ahead {α:Type} (l:List α) (n:Nat):Option α:=if n=0 then none else l[n - 1]?
theorem Qth {α:Type} (l:List α):ahead l 0=none:=rfl
theorem Qbhj {α:Type} (l:List α) {n:Nat} (h:n < l.length):ahead l (n+1)=some l[n]:=by simp [ahead,h]
theorem Qbf2 {α:Type} (l:List α) {n:Nat} (h0:0 < n) (h:n≤l.length):ahead l n=some (l[n - 1]'(by omega)):=by
 simp [ahead,show n≠0 from by omega,show n - 1 < l.length from by omega]
theorem Qbdm {n:Int} {l:List Int} {k:Nat} (h:k < l.length):Qeq n (ahead l k) (l.drop k)=if l[k] < 0∨l[k]≥n then 2 else if ∃ y,ahead l k=some y∧l[k]≤y then 5 else Qeq n (ahead l (k+1)) (l.drop (k+1)):=by
 rw [List.drop_eq_getElem_cons h,Qeq,Qbhj l h]
theorem Qbih {al:List Int} {n:Int} {l:List Qc} {k:Nat} (h:k < l.length):Qkx al n (ahead l k) (l.drop k)=if l[k].From < 0∨l[k].From≥n∨l[k].To < 0∨l[k].To≥n then 2 else if l[k].Event∉al then 9 else if ∃ y,ahead l k=some y∧(l[k].From < y.From∨l[k].From=y.From∧l[k].Event≤y.Event) then 5 else Qkx al n (ahead l (k+1)) (l.drop (k+1)):=by
 rw [List.drop_eq_getElem_cons h,Qkx,Qbhj l h]
theorem Qbf3 {l:List Int} {n:Int} (hl:l.length < big):Qgz l n=some (Qeq n none l):=by
 unfold Qgz Qck
 refine (Qkt (len:=l.length) (fun k=>some (Qeq n (ahead l k) (l.drop k))) (by unfold Qb2; unfold big at hl; omega) ?_ ?_).trans (by simp [Qth])
 ·intro k i hi ih
  have hb:i < 1000000000000:=by unfold big at hl; omega
  rw [Qbdm hi]
  try dsimp only
  rw [if_pos (by omega),Qbi hi,Qcu (by omega),ih]
  simp only [Option.bind_some]
  by_cases h1:l[i] < 0
  ·simp [h1]
  ·by_cases h2:l[i]≥n
   ·simp [h1,h2]
   ·by_cases h0:0 < i
    ·rw [Qbf1 h0 (by omega),Qbi (by omega:i - 1 < l.length),Qbf2 l h0 (by omega)]
     by_cases h3:l[i]≤l[i - 1] <;> simp [h1,h2,h3,h0]
    ·obtain rfl:i=0:=by omega
     simp [h1,h2,Qth]
 ·intro k; simp [Qeq]
theorem Qbp4 {l:List Int} {v:Int} (hl:l.length < big):Qji l v=some (if v∈l then (l.idxOf v:Int) else -1):=by
 unfold Qji Qdc
 refine (Qkt (len:=l.length) (fun k=>some (if v∈l.drop k then ((k+(l.drop k).idxOf v:Nat):Int) else -1)) (by unfold Qb2; unfold big at hl; omega) ?_ ?_).trans (by simp)
 ·intro k i hi ih
  have hb:i < 1000000000000:=by unfold big at hl; omega
  try dsimp only
  rw [if_pos (by omega),Qbi hi,Qcu (by omega),ih,List.drop_eq_getElem_cons hi]
  simp only [Option.bind_some,List.mem_cons,List.idxOf_cons]
  by_cases h:v=l[i]
  ·simp [← h]
  ·have:¬ l[i]=v:=fun e=>h e.symm
   have hbq:(l[i] == v)=false:=by simp [this]
   by_cases h2:v∈l.drop (i+1) <;> simp [h,h2,hbq]
   omega
 ·intro k; simp
theorem Qbf4 {l:List Int} {v:Int} (hl:l.length < big):Qe3 l v=some (decide (v∈l)):=by
 unfold Qe3 Q8
 rw [Qbp4 hl]
 simp only [Option.bind_some,Option.some.injEq]
 by_cases h:v∈l <;> simp [h]
theorem Qbq2 {l:List Int} {v:Int} (hl:l.length < big):Qdg l v=some (decide (v∈l)):=by
 unfold Qdg Qbn
 refine (Qkt (len:=l.length) (fun k=>some (decide (v∈l.drop k))) (by unfold Qb2; unfold big at hl; omega) ?_ ?_).trans (by simp)
 ·intro k i hi ih
  have hb:i < 1000000000000:=by unfold big at hl; omega
  try dsimp only
  rw [if_pos (by omega),Qbi hi,Qcu (by omega),ih,List.drop_eq_getElem_cons hi]
  simp only [Option.bind_some,List.mem_cons]
  by_cases h:l[i]=v
  ·simp [h]
  ·have:¬ v=l[i]:=fun e=>h e.symm
   simp [h,this]
 ·intro k; simp
theorem Qbii {a:Qa} (h:small a):Qf0 a=some (Qkx a.zJ a.zM none a.zL):=by
 obtain ⟨hal,_,hl⟩:=h
 unfold Qf0 Qch
 refine (Qkt (len:=a.zL.length) (fun k=>some (Qkx a.zJ a.zM (ahead a.zL k) (a.zL.drop k))) (by unfold Qb2; unfold big at hl; omega) ?_ ?_).trans (by simp [Qth])
 ·intro k i hi ih
  have hb:i < 1000000000000:=by unfold big at hl; omega
  rw [Qbih hi]
  unfold letJ
  try dsimp only
  rw [if_pos (by omega),Qbi hi,Qcu (by omega),ih]
  simp only [Option.bind_some,Qbf4 hal]
  generalize a.zL[i]=x
  by_cases h1:x.From < 0
  ·simp [h1]
  by_cases h2:x.From≥a.zM
  ·simp [h1,h2]
  by_cases h3:x.To < 0
  ·simp [h1,h2,h3]
  by_cases h4:x.To≥a.zM
  ·simp [h1,h2,h3,h4]
  by_cases h5:x.Event∈a.zJ
  ·by_cases h0:0 < i
   ·rw [Qbf1 h0 (by omega),Qbi (by omega:i - 1 < a.zL.length),Qbf2 a.zL h0 (by omega)]
    generalize a.zL[i - 1]=y
    have hi0:i≠0:=by omega
    by_cases h6:x.From < y.From
    ·simp [h1,h2,h3,h4,h5,h6,hi0]
    by_cases h7:y.From=x.From
    ·by_cases h8:x.Event≤y.Event <;> simp [h1,h2,h3,h4,h5,h6,h7,h8,hi0]
    ·have h7' : ¬ x.From=y.From:=fun e=>h7 e.symm
     simp [h1,h2,h3,h4,h5,h6,h7,hi0,h7']
   ·obtain rfl:i=0:=by omega
    simp [h1,h2,h3,h4,h5,Qth]
  ·simp [h1,h2,h3,h4,h5]
 ·intro k; unfold letJ; simp [Qkx]
theorem Qbp5 {a:Qa} (h:small a):Qeo a=some (Qbek a):=by
 unfold Qeo Q5 Qbek
 rw [Qbf3 h.1,Qbf3 h.2.1,Qbii h]
 simp only [Option.bind_some]
 by_cases h1:Qeq 32 none a.zJ=0
 ·by_cases h2:a.zM < 0
  ·simp [h1,h2]
  by_cases h3:a.zM > 4096
  ·simp [h1,h2,h3]
  by_cases h4:Qeq a.zM none a.zK=0 <;> simp [h1,h2,h3,h4]
 ·simp [h1]
end Go.Abs
end
section
namespace Go.Abs
open Go
def Qka (x y:Qc):Prop:=x.From < y.From∨x.From=y.From∧x.Event < y.Event
instance (x y:Qc):Decidable (Qka x y):=by unfold Qka; infer_instance
structure Right (a:Qa):Prop where
 al0:∀ x∈a.zJ,0≤x∧x < 32
 al:a.zJ.Pairwise (· < ·)
 st:0≤a.zM∧a.zM≤4096
 ma0:∀ x∈a.zK,0≤x∧x < a.zM
 ma:a.zK.Pairwise (· < ·)
 ed0:∀ x∈a.zL,0≤x.From∧x.From < a.zM∧0≤x.To∧x.To < a.zM∧x.Event∈a.zJ
 ed:a.zL.Pairwise Qka
theorem Qhi {n:Int}:∀ {l:List Int} {p:Option Int},Qeq n p l=0↔(∀ x∈l,0≤x∧x < n)∧l.Pairwise (· < ·)∧∀ y,p=some y→∀ x∈l,y < x
 | [],p=>by simp [Qeq]
 | x :: xs,p=>by
  rw [Qeq]
  split
  ·rename_i h
   refine ⟨fun h=>by omega,fun hh=>?_⟩
   have:=hh.1 x (by simp); omega
  ·rename_i h
   split
   ·rename_i h2
    obtain ⟨y,hy,hxy⟩:=h2
    refine ⟨fun h=>by omega,fun hh=>?_⟩
    have:=hh.2.2 y hy x (by simp); omega
   ·rename_i h2
    rw [Qhi]
    constructor
    ·rintro ⟨k1,k2,k3⟩
     refine ⟨fun z hz=>?_,List.pairwise_cons.2 ⟨fun z hz=>k3 x rfl z hz,k2⟩,fun y hy z hz=>?_⟩
     ·rcases List.mem_cons.1 hz with rfl | hz
      ·omega
      ·exact k1 z hz
     ·have hyx:y < x:=by
       rcases Int.lt_or_le y x with h | h
       ·exact h
       ·exact absurd ⟨y,hy,h⟩ h2
      rcases List.mem_cons.1 hz with rfl | hz
      ·exact hyx
      ·have:=k3 x rfl z hz; omega
    ·rintro ⟨k1,k2,k3⟩
     obtain ⟨k4,k5⟩:=List.pairwise_cons.1 k2
     exact ⟨fun z hz=>k1 z (by simp [hz]),k5,fun y hy z hz=>by cases hy; exact k4 z hz⟩
theorem Q2u {al:List Int} {n:Int}:∀ {l:List Qc} {p:Option Qc},Qkx al n p l=0↔(∀ x∈l,0≤x.From∧x.From < n∧0≤x.To∧x.To < n∧x.Event∈al)∧l.Pairwise Qka∧∀ y,p=some y→∀ x∈l,Qka y x
 | [],p=>by simp [Qkx]
 | x :: xs,p=>by
  have tr:∀ a b c:Qc,Qka a b→Qka b c→Qka a c:=fun a b c h k=>by unfold Qka at *; omega
  rw [Qkx]
  split
  ·rename_i h
   refine ⟨fun h=>by omega,fun hh=>?_⟩
   have:=hh.1 x (by simp); omega
  ·rename_i h
   split
   ·rename_i h2
    refine ⟨fun h=>by omega,fun hh=>?_⟩
    exact absurd (hh.1 x (by simp)).2.2.2.2 h2
   ·rename_i hal
    split
    ·rename_i h2
     obtain ⟨y,hy,hxy⟩:=h2
     refine ⟨fun h=>by omega,fun hh=>?_⟩
     have:=hh.2.2 y hy x (by simp)
     unfold Qka at this; omega
    ·rename_i h2
     rw [Q2u]
     constructor
     ·rintro ⟨k1,k2,k3⟩
      refine ⟨fun z hz=>?_,List.pairwise_cons.2 ⟨fun z hz=>k3 x rfl z hz,k2⟩,fun y hy z hz=>?_⟩
      ·rcases List.mem_cons.1 hz with rfl | hz
       ·exact ⟨by omega,by omega,by omega,by omega,Decidable.not_not.1 hal⟩
       ·exact k1 z hz
      ·have hyx:Qka y x:=by
        apply Decidable.byContradiction
        intro h
        exact h2 ⟨y,hy,by unfold Qka at h; omega⟩
       rcases List.mem_cons.1 hz with rfl | hz
       ·exact hyx
       ·exact tr _ _ _ hyx (k3 x rfl z hz)
     ·rintro ⟨k1,k2,k3⟩
      obtain ⟨k4,k5⟩:=List.pairwise_cons.1 k2
      exact ⟨fun z hz=>k1 z (by simp [hz]),k5,fun y hy z hz=>by cases hy; exact k4 z hz⟩
theorem Qbou {a:Qa}:Qbek a=0↔Right a:=by
 unfold Qbek
 constructor
 ·intro h
  split at h
  ·rename_i h1; exact absurd h h1
  rename_i h1
  split at h
  ·omega
  split at h
  ·omega
  split at h
  ·rename_i h4; exact absurd h h4
  rename_i h4
  have q1:=Qhi.1 (Decidable.not_not.1 h1)
  have q2:=Qhi.1 (Decidable.not_not.1 h4)
  have q3:=Q2u.1 h
  exact ⟨q1.1,q1.2.1,⟨by omega,by omega⟩,q2.1,q2.2.1,q3.1,q3.2.1⟩
 ·intro h
  have q1:Qeq 32 none a.zJ=0:=Qhi.2 ⟨h.al0,h.al,fun y hy=>by cases hy⟩
  have q2:Qeq a.zM none a.zK=0:=Qhi.2 ⟨h.ma0,h.ma,fun y hy=>by cases hy⟩
  have q3:Qkx a.zJ a.zM none a.zL=0:=Q2u.2 ⟨h.ed0,h.ed,fun y hy=>by cases hy⟩
  have:=h.st
  rw [if_neg (by simp [q1]),if_neg (by omega),if_neg (by omega),if_neg (by simp [q2]),q3]
def outP (a:Qa) (s:Int):List Qc:=a.zL.filter fun x=>x.From == s
def Qej (a:Qa) (s e:Int):Int:=match a.zL.find? fun x=>x.From == s && x.Event == e with
 | some x=>x.To
 | none=>-1
theorem Qbov {l:List Qc} (h:l.Pairwise Qka) (s:Int):l.Pairwise fun a b=>decide (b.From < s)=true→decide (a.From < s)=true :=
 h.imp fun h=>by unfold Qka at h; simp; omega
theorem Qbq3 {l:List Qc} {s:Int} {cmp:Qc→Int→Option Int} (hcmp:∀ x∈l,cmp x s=some (x.From - s)) (hs:l.Pairwise Qka) (hl:l.length < big) :
  ∃ b,Qd6 l s cmp=some (((l.filter fun x=>decide (x.From < s)).length:Int),b):=by
 have hc:=fun n h=>Qbc6 (p:=fun x:Qc=>decide (x.From < s)) (Qbov hs s) n h
 have hcl:(l.filter fun x=>decide (x.From < s)).length≤l.length:=List.length_filter_le _ _
 generalize (l.filter fun x=>decide (x.From < s)).length=c at hc hcl
 have hb:l.length < 1000000000000:=hl
 unfold Qd6 Q3
 have hloop:=Qhe (F:=fun (k13:Int×Int→Option Int) ((i11,j12):Int×Int)=>(if (i11 < j12) then ((getO l (IntKind.wrap .i64 (Int.fdiv (IntKind.wrap .u64 (IntKind.wrap .i64 (i11+j12))) (2 ^ (min (Int.toNat 1) (IntKind.bits .u64)))))).bind fun x15=>((cmp x15 s).bind fun x18=>(if (x18 < 0) then k13 ((IntKind.wrap .i64 ((IntKind.wrap .i64 (Int.fdiv (IntKind.wrap .u64 (IntKind.wrap .i64 (i11+j12))) (2 ^ (min (Int.toNat 1) (IntKind.bits .u64)))))+1)),j12) else k13 (i11,(IntKind.wrap .i64 (Int.fdiv (IntKind.wrap .u64 (IntKind.wrap .i64 (i11+j12))) (2 ^ (min (Int.toNat 1) (IntKind.bits .u64))))))))) else some i11))
  (fun x=>∃ i j:Nat,x=((i:Int),(j:Int))∧i≤c∧c≤j∧j≤l.length) (fun x=>(x.2 - x.1).toNat) (fun _ r=>r=some (c:Int)) (by
   rintro k _ ⟨i,j,rfl,h1,h2,h3⟩ ih
   dsimp only
   by_cases hij:i < j
   ·rw [if_pos (by omega),Qbq1 (by omega) (by omega)]
    have hm:(i+j) / 2 < l.length:=by omega
    rw [Qbi hm]
    simp only [Option.bind_some]
    rw [hcmp _ (List.getElem_mem hm)]
    simp only [Option.bind_some]
    have hcm:=hc ((i+j) / 2) hm
    by_cases hlt:l[(i+j) / 2].From < s
    ·rw [if_pos (by omega),Qcu (by omega)]
     have:(i+j) / 2 < c:=hcm.1 (by simpa using hlt)
     exact ih _ ⟨_,_,rfl,by omega,h2,h3⟩ (by simp only; omega)
    ·rw [if_neg (by omega)]
     have:¬ (i+j) / 2 < c:=fun h=>hlt (by simpa using hcm.2 h)
     exact ih _ ⟨_,_,rfl,h1,by omega,by omega⟩ (by simp only; omega)
   ·rw [if_neg (by omega)]
    have:i=c:=by omega
    rw [this]) Qb2 (0,(l.length:Int)) ⟨0,l.length,rfl,by omega,hcl,Nat.le_refl _⟩ (by unfold Qb2; simp only; omega)
 rw [hloop]
 simp only [Option.bind_some]
 by_cases hlt:c < l.length
 ·rw [if_pos (by omega),Qbi hlt]
  simp only [Option.bind_some]
  rw [hcmp _ (List.getElem_mem hlt)]
  exact ⟨_,rfl⟩
 ·rw [if_neg (by omega)]
  exact ⟨_,rfl⟩
theorem Qbjr:∀ {l:List Qc} (s:Int),l.Pairwise Qka→(l.take (l.filter fun x=>decide (x.From < s+1)).length).drop (l.filter fun x=>decide (x.From < s)).length=l.filter fun x=>x.From == s
 | [],s,_=>by simp
 | x :: xs,s,h=>by
  obtain ⟨h1,h2⟩:=List.pairwise_cons.1 h
  have ih:=Qbjr s h2
  have hge:∀ y∈xs,x.From≤y.From:=fun y hy=>by have:=h1 y hy; unfold Qka at this; omega
  by_cases hx:x.From < s
  ·have e1:decide (x.From < s)=true:=by simpa using hx
   have e2:decide (x.From < s+1)=true:=by simp; omega
   have e3:(x.From == s)=false:=by simp; omega
   simp only [List.filter_cons,e1,e2,e3,if_true,List.length_cons,List.take_succ_cons,List.drop_succ_cons,Bool.false_eq_true,if_false]
   exact ih
  ·have hz:xs.filter (fun x=>decide (x.From < s))=[]:=List.filter_eq_nil_iff.2 fun y hy=>by have:=hge y hy; simp; omega
   have e1:decide (x.From < s)=false:=by simpa using hx
   by_cases hq:x.From=s
   ·have e2:decide (x.From < s+1)=true:=by simp; omega
    have e3:(x.From == s)=true:=by simp [hq]
    simp only [List.filter_cons,e1,e2,e3,if_true,List.length_cons,List.take_succ_cons,Bool.false_eq_true,if_false,hz,List.length_nil,List.drop_zero]
    rw [hz,List.length_nil,List.drop_zero] at ih
    rw [ih]
   ·have e2:decide (x.From < s+1)=false:=by simp; omega
    have e3:(x.From == s)=false:=by simp [hq]
    have hz1:xs.filter (fun x=>decide (x.From < s+1))=[]:=List.filter_eq_nil_iff.2 fun y hy=>by have:=hge y hy; simp; omega
    have hz2:xs.filter (fun x=>x.From == s)=[]:=List.filter_eq_nil_iff.2 fun y hy=>by have:=hge y hy; simp; omega
    simp only [List.filter_cons,e1,e2,e3,Bool.false_eq_true,if_false,hz,hz1,hz2,List.length_nil,List.take_zero,List.drop_zero]
section
variable {a:Qa} (h:Right a) (hs:small a)
include h hs
theorem Qbs8 {s:Int} (h0 : -1000000000000 < s) (h1:s < 1000000000000):Qna a s=some (outP a s):=by
 unfold Qna Qed
 have hst:=h.st
 have hw:∀ t:Int,-1000000000002 < t→t < 1000000000002→∀ x∈a.zL,IntKind.wrap .i64 (x.From - t)=x.From - t:=fun t k1 k2 x hx=>by
  have:=h.ed0 x hx; exact Qrm (by omega) (by omega)
 have e1:IntKind.wrap .i64 (s+1)=s+1:=Qrm (by omega) (by omega)
 obtain ⟨b1,k1⟩:=Qbq3 (s:=s) (cmp:=Qj8) (fun x hx=>by unfold Qj8 Qdn; rw [hw s (by omega) (by omega) x hx]) h.ed hs.2.2
 obtain ⟨b2,k2⟩:=Qbq3 (s:=s+1) (cmp:=Qj9) (fun x hx=>by unfold Qj9 Qdo; rw [hw (s+1) (by omega) (by omega) x hx]) h.ed hs.2.2
 rw [k1,e1]
 simp only [Option.bind_some]
 rw [k2]
 simp only [Option.bind_some]
 have hle:(a.zL.filter fun x=>decide (x.From < s)).length≤(a.zL.filter fun x=>decide (x.From < s+1)).length :=
  by rw [← List.countP_eq_length_filter,← List.countP_eq_length_filter]; exact List.countP_mono_left fun x _ hx=>by simp at hx ⊢; omega
 rw [Qbej hle (List.length_filter_le _ _),Qbjr s h.ed]
 rfl
theorem Qbry {s e:Int} (h0 : -1000000000000 < s) (h1:s < 1000000000000):Qkw a s e=some (Qej a s e):=by
 unfold Qkw Qd5
 rw [Qbs8 h hs h0 h1]
 simp only [Option.bind_some]
 have hl:(outP a s).length < big:=Nat.lt_of_le_of_lt (List.length_filter_le _ _) hs.2.2
 have hf:Qej a s e=match (outP a s).find? (fun x=>x.Event == e) with | some x=>x.To | none=>-1:=by
  unfold Qej outP; rw [List.find?_filter]
  have:(fun x:Qc=>decide ((x.From == s)=true∧(x.Event == e)=true))=fun x=>x.From == s && x.Event == e:=by
   funext x; rw [Bool.eq_iff_iff]; simp
  rw [this]
 rw [hf]
 generalize outP a s=l at hl
 have hi:Qee l (fun a6=>Qjm a6 e)=some (if ∃ x∈l,x.Event=e then (l.findIdx (fun x=>x.Event == e):Int) else -1):=by
  have hb:l.length < 1000000000000:=hl
  unfold Qee Qz
  refine (Qkt (len:=l.length) (fun k=>some (if ∃ x∈l.drop k,x.Event=e then ((k+(l.drop k).findIdx (fun x=>x.Event == e):Nat):Int) else -1)) (by unfold Qb2; omega) ?_ ?_).trans (by simp)
  ·intro k i hi ih
   rw [if_pos (by omega),Qbi hi,Qcu (by omega),ih,List.drop_eq_getElem_cons hi]
   simp only [Option.bind_some,Qjm,Qdd,List.findIdx_cons]
   by_cases hx:l[i].Event=e
   ·have hxb:(l[i].Event == e)=true:=by simp [hx]
    have hz:∃ x∈l[i] :: l.drop (i+1),x.Event=e:=⟨l[i],List.mem_cons_self,hx⟩
    simp only [hxb,if_true,if_pos hz,cond_true]; rfl
   ·have hxb:(l[i].Event == e)=false:=by simp [hx]
    by_cases hy:∃ x∈l.drop (i+1),x.Event=e
    ·have hz:∃ x∈l[i] :: l.drop (i+1),x.Event=e:=by obtain ⟨x,k1,k2⟩:=hy; exact ⟨x,List.mem_cons_of_mem _ k1,k2⟩
     simp only [hxb,Bool.false_eq_true,if_false,if_pos hy,if_pos hz,cond_false]
     have:∀ n:Nat,i+1+n=i+(n+1):=fun n=>by omega
     rw [this]
    ·have hz:¬ ∃ x∈l[i] :: l.drop (i+1),x.Event=e:=by
      rintro ⟨x,k1,k2⟩
      rcases List.mem_cons.1 k1 with rfl | k1
      ·exact hx k2
      ·exact hy ⟨x,k1,k2⟩
     simp only [hxb,Bool.false_eq_true,if_false,if_neg hy,if_neg hz,cond_false]
  ·intro k; simp
 rw [hi]
 simp only [Option.bind_some]
 by_cases hx:∃ x∈l,x.Event=e
 ·rw [if_pos hx,if_neg (by omega)]
  have hlt:l.findIdx (fun x=>x.Event == e) < l.length:=by
   rw [List.findIdx_lt_length]; obtain ⟨x,k1,k2⟩:=hx; exact ⟨x,k1,by simp [k2]⟩
  rw [Qbi hlt]
  simp only [Option.bind_some]
  rw [show l.find? (fun x=>x.Event == e)=some l[l.findIdx (fun x=>x.Event == e)] from by
   rw [List.find?_eq_some_iff_getElem]
   refine ⟨List.findIdx_getElem (w:=hlt),_,hlt,rfl,fun j hj=>?_⟩
   have:=List.not_of_lt_findIdx hj
   simpa using this]
 ·rw [if_neg hx,if_pos (by omega)]
  rw [show l.find? (fun x=>x.Event == e)=none from List.find?_eq_none.2 fun x hx' hy=>hx ⟨x,hx',by simpa using hy⟩]
omit h in
theorem Qbhk {s e:Int}:Qc2 a s e=some (Qej a s e):=by
 have hb:a.zL.length < 1000000000000:=hs.2.2
 unfold Qc2 Qbc
 refine (Qkt (len:=a.zL.length) (fun k=>some (match (a.zL.drop k).find? (fun x=>x.From == s && x.Event == e) with | some x=>x.To | none=>-1)) (by unfold Qb2; omega) ?_ ?_).trans (by simp [Qej])
 ·intro k i hi ih
  rw [if_pos (by omega),Qbi hi,Qcu (by omega),ih,List.drop_eq_getElem_cons hi]
  simp only [Option.bind_some,List.find?_cons]
  cases h1:a.zL[i].From == s <;> cases h2:a.zL[i].Event == e <;> simp [h1,h2]
 ·intro k; simp
end
theorem Qbf5 {a:Qa} (h:Right a) (s e:Int):Qej a s e = -1∨0≤Qej a s e∧Qej a s e < a.zM∧0≤s∧s < a.zM∧e∈a.zJ:=by
 unfold Qej
 split
 ·rename_i x hx
  have hm:=List.mem_of_find?_eq_some hx
  have hp:=List.find?_some hx
  obtain ⟨k1,k2,k3,k4,k5⟩:=h.ed0 x hm
  simp at hp
  exact .inr ⟨k3,k4,by omega,by omega,hp.2 ▸ k5⟩
 ·exact .inl rfl
theorem Qbjs {a:Qa} (h:Right a) {s e:Int}:0≤Qej a s e↔∃ x∈outP a s,x.Event=e:=by
 unfold Qej outP
 split
 ·rename_i x hx
  have hm:=List.mem_of_find?_eq_some hx
  have hp:=List.find?_some hx
  simp at hp
  refine ⟨fun _=>⟨x,by simp [hm,hp.1],hp.2⟩,fun _=>(h.ed0 x hm).2.2.1⟩
 ·rename_i hx
  have:=List.find?_eq_none.1 hx
  refine ⟨fun h=>by omega,?_⟩
  rintro ⟨x,h1,h2⟩
  simp at h1
  exact absurd (by simp [h1.2,h2]) (this x h1.1)
theorem Q9p {a:Qa} (h:Right a) (s:Int):(outP a s).map (·.Event)=a.zJ.filter fun e=>decide (0≤Qej a s e):=by
 refine Qbmv ?_ (h.al.filter _) fun e=>?_
 ·rw [List.pairwise_map]
  have h1:(outP a s).Pairwise Qka:=h.ed.filter _
  have h2:∀ x∈outP a s,x.From=s:=fun x hx=>by unfold outP at hx; simp at hx; exact hx.2
  exact List.Pairwise.imp_of_mem (fun {x y} hx hy hk=>by have:=h2 x hx; have:=h2 y hy; unfold Qka at hk; omega) h1
 ·simp only [List.mem_map,List.mem_filter,decide_eq_true_eq,Qbjs h]
  constructor
  ·rintro ⟨x,hx,rfl⟩
   refine ⟨?_,x,hx,rfl⟩
   unfold outP at hx; simp at hx; exact (h.ed0 x hx.1).2.2.2.2
  ·rintro ⟨_,x,hx,rfl⟩; exact ⟨x,hx,rfl⟩
theorem Qbjt {a:Qa} (h:Right a) {s:Int} {x:Qc} (hx:x∈outP a s):Qej a s x.Event=x.To:=by
 unfold outP at hx
 simp at hx
 unfold Qej
 split
 ·rename_i y hy
  have hm:=List.mem_of_find?_eq_some hy
  have hp:=List.find?_some hy
  simp at hp
  have:x=y:=by
   rcases Classical.em (x=y) with e | hne
   ·exact e
   ·exfalso
    have hk:Qka x y∨Qka y x:=by
     have:=List.pairwise_iff_getElem.1 h.ed
     obtain ⟨i,hi,rfl⟩:=List.getElem_of_mem hx.1
     obtain ⟨j,hj,rfl⟩:=List.getElem_of_mem hm
     rcases Nat.lt_trichotomy i j with hij | hij | hij
     ·exact .inl (this i j hi hj hij)
     ·subst hij; exact absurd rfl hne
     ·exact .inr (this j i hj hi hij)
    unfold Qka at hk; omega
  rw [this]
 ·rename_i hn
  exact absurd (by simp [hx.2]) (List.find?_eq_none.1 hn x hx.1)
end Go.Abs
end
section
namespace Go.Abs
open Go
theorem Right.small {a:Qa} (h:Right a):small a∧a.zJ.length≤32∧a.zK.length≤4096∧a.zL.length≤131072:=by
 have h1:=Qlr h.al h.al0
 have h2:=Qlr h.ma h.ma0
 have h3:(a.zL.map fun x=>x.From * 32+x.Event).Pairwise (· < ·):=by
  rw [List.pairwise_map]
  refine List.Pairwise.imp_of_mem (fun {x y} hx hy hk=>?_) h.ed
  have:=h.al0 _ (h.ed0 x hx).2.2.2.2
  have:=h.al0 _ (h.ed0 y hy).2.2.2.2
  unfold Qka at hk; omega
 have h4:=Qlr (a:=0) (b:=131072) h3 (by
  intro z hz
  obtain ⟨x,hx,rfl⟩:=List.mem_map.1 hz
  have:=h.al0 _ (h.ed0 x hx).2.2.2.2
  have:=h.ed0 x hx
  have:=h.st
  omega)
 rw [List.length_map] at h4
 have:=h.st
 refine ⟨⟨?_,?_,?_⟩,?_,?_,?_⟩ <;> (try unfold big) <;> omega
theorem Qbf6 {a:Qa} (h:Right a):Qeo a=some 0:=by rw [Qbp5 h.small.1,Qbou.2 h]
theorem Qbij {a:Qa} (h:Right a) (s:Int):Qf3 a s=some (if 0≤s∧s < a.zM then 0 else 2):=by
 unfold Qf3 Qcj
 rw [Qbf6 h]
 by_cases h1:s < 0
 ·simp [h1]; omega
 ·by_cases h2:s≥a.zM
  ·simp [h1,h2]
  ·simp [h1,h2]
theorem Qbrz {a:Qa} (h:Right a) (s e:Int):Qik a s e=some (if 0≤s∧s < a.zM then (if e∈a.zJ then (if 0≤Qej a s e then (Qej a s e,true,0) else (0,false,0)) else (0,false,9)) else (0,false,2)):=by
 unfold Qik Qdi
 have hs:=h.small.1
 have hst:=h.st
 rw [Qbij h]
 by_cases h1:0≤s∧s < a.zM
 ·rw [Qbry h hs (by omega) (by omega),Qbf4 hs.1]
  by_cases h2:e∈a.zJ
  ·by_cases h3:0≤Qej a s e <;> simp [h1,h2,h3]
  ·simp [h1,h2]
 ·simp [h1]
end Go.Abs
end
section
namespace Go.Abs
open Go
def ins (o:List Int) (t:Int):List Int:=if t∈o then o else o ++ [t]
def Qbd9 (a:Qa) (s:Int):List Int:=(outP a s).map (·.To)
def bfs (a:Qa):Nat→Nat→List Int→List Int
 | 0,_,o=>o
 | fuel+1,i,o=>match o[i]? with
  | some s=>bfs a fuel (i+1) ((Qbd9 a s).foldl ins o)
  | none=>o
def Qvx (a:Qa):List Int:=bfs a (a.zM.toNat+1) 0 (if 0 < a.zM then [0] else [])
structure Fnd (a:Qa) (o:List Int):Prop where
 nd:o.Nodup
 rg:∀ s∈o,0≤s∧s < a.zM
theorem Fnd.len {a:Qa} {o:List Int} (h:Fnd a o):o.length≤a.zM.toNat:=by
 have hO:Go.Sort.SWO Qkq:=⟨fun x=>by simp [Qkq],fun x y z h1 h2=>by simp [Qkq] at *; omega,fun x y z h1 h2=>by simp [Qkq] at *; omega⟩
 have hp:=Q2k Qkq o
 have hs:=Q2m hO o
 have hn:(Q6d Qkq o).Nodup:=(hp.nodup_iff).2 h.nd
 have hlt:(Q6d Qkq o).Pairwise (· < ·):=by
  have:(Q6d Qkq o).Pairwise fun x y=>Qkq y x=false∧x≠y:=hs.and hn
  exact this.imp fun ⟨h1,h2⟩=>by simp [Qkq] at h1; omega
 have:=Qlr hlt (a:=0) (b:=a.zM) fun x hx=>h.rg x (hp.mem_iff.1 hx)
 rw [Q2l] at this
 simpa using this
theorem Qbku {o:List Int} {t x:Int}:x∈ins o t↔x∈o∨x=t:=by
 unfold ins; split
 ·rename_i h; constructor
  ·exact .inl
  ·rintro (h' | rfl)
   ·exact h'
   ·exact h
 ·simp
theorem Qbr0 (o:List Int) (t:Int):o <+: ins o t:=by
 unfold ins; split
 ·exact List.prefix_refl o
 ·exact List.prefix_append o [t]
theorem Fnd.ins {a:Qa} {o:List Int} (h:Fnd a o) {t:Int} (ht:0≤t∧t < a.zM):Fnd a (ins o t):=by
 refine ⟨?_,fun s hs=>?_⟩
 ·unfold Go.Abs.ins; split
  ·exact h.nd
  ·rename_i hn
   rw [List.nodup_append]
   exact ⟨h.nd,by simp,fun x hx y hy=>by simp at hy; subst hy; exact fun e=>hn (e ▸ hx)⟩
 ·rcases Qbku.1 hs with hs | rfl
  ·exact h.rg s hs
  ·exact ht
theorem Qbf7 {a:Qa}:∀ {ts o:List Int},Fnd a o→(∀ t∈ts,0≤t∧t < a.zM)→Fnd a (ts.foldl ins o)∧o <+: ts.foldl ins o∧(∀ t∈ts,t∈ts.foldl ins o)∧∀ x∈ts.foldl ins o,x∈o∨x∈ts
 | [],o,h,_=>⟨h,List.prefix_refl o,by simp,fun x hx=>.inl hx⟩
 | t :: ts,o,h,ht=>by
  obtain ⟨h1,h2,h3,h4⟩:=Qbf7 (ts:=ts) (h.ins (ht t (by simp))) fun t ht'=>ht t (by simp [ht'])
  refine ⟨h1,(Qbr0 o t).trans h2,fun x hx=>?_,fun x hx=>?_⟩
  ·rcases List.mem_cons.1 hx with rfl | hx
   ·exact h2.subset (Qbku.2 (.inr rfl))
   ·exact h3 x hx
  ·rcases h4 x hx with h5 | h5
   ·rcases Qbku.1 h5 with h6 | rfl
    ·exact .inl h6
    ·exact .inr (by simp)
   ·exact .inr (by simp [h5])
theorem Qbf8 {a:Qa} (h:Right a) (s:Int):∀ t∈Qbd9 a s,0≤t∧t < a.zM:=by
 intro t ht
 unfold Qbd9 outP at ht
 obtain ⟨x,hx,rfl⟩:=List.mem_map.1 ht
 have:=h.ed0 x ((List.mem_filter.1 hx).1)
 omega
theorem Q6x {α:Type} {l m:List α} (h:l <+: m) {i:Nat} {x:α} (hx:l[i]? = some x):m[i]? = some x:=by
 obtain ⟨t,rfl⟩:=h
 have:=(List.getElem?_eq_some_iff.1 hx).1
 rw [List.getElem?_append_left this]; exact hx
theorem Qblz {a:Qa} (h:Right a):∀ (fuel i:Nat) (o:List Int),Fnd a o→i≤o.length→a.zM.toNat+1≤fuel+i→(∀ j s,j < i→o[j]? = some s→∀ t∈Qbd9 a s,t∈o) →
  Fnd a (bfs a fuel i o)∧o <+: bfs a fuel i o∧∀ s∈bfs a fuel i o,∀ t∈Qbd9 a s,t∈bfs a fuel i o
 | 0,i,o,hf,hi,hfu,_=>by have:=hf.len; omega
 | fuel+1,i,o,hf,hi,hfu,hc=>by
  unfold bfs
  cases hg:o[i]? with
  | none =>
   dsimp only
   refine ⟨hf,List.prefix_refl o,fun s hs t ht=>?_⟩
   obtain ⟨j,hj⟩:=List.getElem?_of_mem hs
   have hlt:=(List.getElem?_eq_some_iff.1 hj).1
   exact hc j s (by have:=List.getElem?_eq_none_iff.1 hg; omega) hj t ht
  | some s =>
   dsimp only
   obtain ⟨h1,h2,h3,_⟩:=Qbf7 hf (Qbf8 h s)
   have hlen:i < o.length:=(List.getElem?_eq_some_iff.1 hg).1
   have hle:=h2.length_le
   obtain ⟨k1,k2,k3⟩:=Qblz h fuel (i+1) ((Qbd9 a s).foldl ins o) h1 (by omega) (by omega) (fun j s' hj hs' t ht=>by
    by_cases hji:j < i
    ·have hjl:j < o.length:=by omega
     have:o[j]? = some s':=by
      have:=Q6x h2 (List.getElem?_eq_getElem hjl)
      rw [hs'] at this; rw [List.getElem?_eq_getElem hjl]; exact this.symm
     exact h2.subset (hc j s' hji this t ht)
    ·obtain rfl:j=i:=by omega
     have:=Q6x h2 hg
     rw [hs'] at this; cases this
     exact h3 t ht)
   exact ⟨k1,h2.trans k2,k3⟩
theorem Qbc7 {a:Qa} (h:Right a):Fnd a (Qvx a)∧(if 0 < a.zM then [0] else []) <+: Qvx a∧∀ s∈Qvx a,∀ t∈Qbd9 a s,t∈Qvx a :=
 Qblz h _ 0 _ ⟨by split <;> simp,fun s hs=>by split at hs <;> simp at hs; subst hs; omega⟩ (Nat.zero_le _) (by omega) fun j s hj=>by omega
def Q8c (m:List Int):Nat→List Int→List Int
 | _,[]=>[]
 | i,s :: t=>(if s∈m then [(i:Int)] else []) ++ Q8c m (i+1) t
def rowP (a:Qa) (F:List Int) (i:Nat) (s:Int):List Qc:=(outP a s).map fun x=>⟨(i:Int),x.Event,(F.idxOf x.To:Int)⟩
def Q8d (a:Qa) (F:List Int):Nat→List Int→List Qc
 | _,[]=>[]
 | i,s :: t=>rowP a F i s ++ Q8d a F (i+1) t
def Qbbq (a:Qa):Qa:=⟨a.zJ,((Qvx a).length:Int),Q8c a.zK 0 (Qvx a),Q8d a (Qvx a) 0 (Qvx a)⟩
theorem Q6i {m:List Int}:∀ {l:List Int} {i:Nat},∀ x∈Q8c m i l,(i:Int)≤x∧x < (i+l.length:Nat)
 | [],i,x,hx=>by simp [Q8c] at hx
 | s :: t,i,x,hx=>by
  simp only [Q8c,List.mem_append] at hx
  rcases hx with hx | hx
  ·split at hx <;> simp at hx
   subst hx; simp only [List.length_cons]; omega
  ·have:=Q6i x hx; simp only [List.length_cons]; omega
theorem Qbbr {m:List Int}:∀ {l:List Int} {i:Nat},(Q8c m i l).Pairwise (· < ·)
 | [],i=>.nil
 | s :: t,i=>by
  simp only [Q8c]
  rw [List.pairwise_append]
  refine ⟨by split <;> simp,Qbbr,fun x hx y hy=>?_⟩
  have:=Q6i y hy
  split at hx <;> simp at hx
  omega
theorem Q9q {a:Qa} {F:List Int}:∀ {l:List Int} {i:Nat},∀ x∈Q8d a F i l,(i:Int)≤x.From∧x.From < (i+l.length:Nat)∧∃ s∈l,∃ y∈outP a s,x.Event=y.Event∧x.To=(F.idxOf y.To:Int)
 | [],i,x,hx=>by simp [Q8d] at hx
 | s :: t,i,x,hx=>by
  simp only [Q8d,List.mem_append] at hx
  rcases hx with hx | hx
  ·obtain ⟨y,hy,rfl⟩:=List.mem_map.1 hx
   simp only [List.length_cons]
   exact ⟨by omega,by omega,s,by simp,y,hy,rfl,rfl⟩
  ·obtain ⟨h1,h2,s',h3,h4⟩:=Q9q x hx
   simp only [List.length_cons]
   exact ⟨by omega,by omega,s',by simp [h3],h4⟩
theorem Qbbs {a:Qa} (h:Right a) {F:List Int}:∀ {l:List Int} {i:Nat},(Q8d a F i l).Pairwise Qka
 | [],i=>.nil
 | s :: t,i=>by
  simp only [Q8d]
  rw [List.pairwise_append]
  refine ⟨?_,Qbbs h,fun x hx y hy=>?_⟩
  ·unfold rowP
   rw [List.pairwise_map]
   have h1:(outP a s).Pairwise Qka:=h.ed.filter _
   have h2:∀ x∈outP a s,x.From=s:=fun x hx=>by unfold outP at hx; simp at hx; exact hx.2
   exact List.Pairwise.imp_of_mem (fun {x y} hx hy hk=>by have:=h2 x hx; have:=h2 y hy; unfold Qka at hk; exact .inr ⟨rfl,by show x.Event < y.Event; omega⟩) h1
  ·obtain ⟨z,_,rfl⟩:=List.mem_map.1 hx
   have:=(Q9q y hy).1
   unfold Qka; simp only; omega
theorem Qbju {a:Qa} (h:Right a):Right (Qbbq a):=by
 obtain ⟨h1,h2,h3⟩:=Qbc7 h
 have hl:=h1.len
 have hst:=h.st
 refine ⟨h.al0,h.al,⟨by simp only [Qbbq]; omega,by simp only [Qbbq]; omega⟩,fun x hx=>?_,Qbbr,fun x hx=>?_,Qbbs h⟩
 ·have:=Q6i x hx; simp only [Qbbq]; omega
 ·obtain ⟨k1,k2,s,hs,y,hy,k3,k4⟩:=Q9q x hx
  have hy' : y.To∈Qvx a:=h3 s hs y.To (List.mem_map.2 ⟨y,hy,rfl⟩)
  have:=List.idxOf_lt_length_iff.2 hy'
  simp only [Qbbq]
  refine ⟨by omega,by omega,by omega,by omega,?_⟩
  rw [k3]
  unfold outP at hy
  exact (h.ed0 y ((List.mem_filter.1 hy).1)).2.2.2.2
end Go.Abs
end
section
namespace Go.Abs
open Go
theorem Qbl0 {l:List Int} (hl:l.length≤lim):Qe4 l=some ⟨l,0,[],[]⟩:=by
 unfold Qe4 Q1
 rw [Qde (by simpa using hl)]; rfl
theorem Qbkv {l:List Int} {v:Int} (hl:l.length < big):Qe5 l v=some (if v∈l then (l.idxOf v:Int) else -1):=by
 have hb:l.length < 1000000000000:=hl
 unfold Qe5 Qcr
 refine (Qkt (len:=l.length) (fun k=>some (if v∈l.drop k then ((k+(l.drop k).idxOf v:Nat):Int) else -1)) (by unfold Qb2; omega) ?_ ?_).trans (by simp)
 ·intro k i hi ih
  rw [if_pos (by omega),Qbi hi,Qcu (by omega),ih,List.drop_eq_getElem_cons hi]
  simp only [Option.bind_some,List.mem_cons,List.idxOf_cons]
  by_cases h:v=l[i]
  ·simp [← h]
  ·have h' : ¬ l[i]=v:=fun e=>h e.symm
   have hbq:(l[i] == v)=false:=by simp [h']
   by_cases h2:v∈l.drop (i+1) <;> simp [h,h2,hbq]
   omega
 ·intro k; simp
theorem Qbdn {a:Qa} (h:Right a) (s:Int):Qbd9 a s=(a.zJ.filter fun e=>decide (0≤Qej a s e)).map (Qej a s):=by
 rw [← Q9p h,List.map_map]
 unfold Qbd9
 exact List.map_congr_left fun x hx=>(Qbjt h hx).symm
theorem Qbhl {a:Qa} (s:Int):∀ (al o:List Int),al.foldl (fun o e=>if 0≤Qej a s e then ins o (Qej a s e) else o) o=((al.filter fun e=>decide (0≤Qej a s e)).map (Qej a s)).foldl ins o
 | [],o=>rfl
 | e :: al,o=>by
  by_cases hx:0≤Qej a s e <;> simp [List.filter_cons,hx,Qbhl s al]
theorem Qbp6 {a:Qa} {fuel i:Nat} {o:List Int} (hi:i < o.length):bfs a (fuel+1) i o=bfs a fuel (i+1) ((Qbd9 a o[i]).foldl ins o):=by
 conv=>lhs; unfold bfs
 rw [List.getElem?_eq_getElem hi]
theorem Qbr1 {a:Qa} {fuel:Nat} {o:List Int}:bfs a fuel o.length o=o:=by
 cases fuel with
 | zero=>rfl
 | succ n=>unfold bfs; simp
section
variable {a:Qa} (h:Right a)
include h
theorem Qbmw (fuel:Nat) (hfu:1099511627776≤fuel) {s:Int} {o:List Int} {i:Nat} (hf:Fnd a o) (hi:o[i]? = some s) :
  Qcv (fun k12 ((out10,k11):(List Int)×Int)=>(if (k11 < (a.zJ.length:Int)) then ((((getO out10 (i:Int)).bind fun x14=>((getO a.zJ k11).bind fun x16=>((Qc2 a x14 x16).bind fun x19=>(((if (x19≥0) then ((Qdg out10 x19).bind fun x22=>some (!x22)) else some false)).bind fun (x23:Bool)=>(if x23 then ((appO out10 [x19]).bind fun x25=>some x25) else some out10)))))).bind fun (out27:List Int)=>k12 (out27,(IntKind.wrap .i64 (k11+1)))) else some out10)) fuel (o,0)=some ((Qbd9 a s).foldl ins o):=by
 have hs:=h.small.1
 have hst:=h.st
 have hb:a.zJ.length < 1000000000000:=hs.1
 rw [Qbdn h,← Qbhl]
 refine (Q0s (len:=a.zJ.length) (fun n (acc:List Int)=>(acc,(n:Int))) (fun n acc=>Fnd a acc∧acc[i]? = some s) (fun n acc=>some ((a.zJ.drop n).foldl (fun o e=>if 0≤Qej a s e then ins o (Qej a s e) else o) acc)) ?_ ?_ fuel 0 o (Nat.zero_le _) (by omega) ⟨hf,hi⟩).trans (by simp)
 ·intro k n acc hn ⟨k1,k2⟩ ih
  have hlen:=k1.len
  have hg:getO acc (i:Int)=some s:=by rw [Qbf0]; exact ⟨by omega,by simpa using k2⟩
  dsimp only
  rw [if_pos (by omega),hg,Qbi hn]
  simp only [Option.bind_some]
  rw [Qbhk hs,Qcu (by omega)]
  simp only [Option.bind_some]
  rw [Qbq2 (by unfold big; omega),List.drop_eq_getElem_cons hn,List.foldl_cons]
  rcases Qbf5 h s a.zJ[n] with hr | hr
  ·rw [hr]; simp only [show ¬ ((-1:Int)≥0) from by omega,show ¬ ((0:Int) ≤ -1) from by omega,if_false,Option.bind_some,Bool.false_eq_true]
   exact ih _ ⟨k1,k2⟩
  ·have hge:Qej a s a.zJ[n]≥0:=hr.1
   by_cases hm:Qej a s a.zJ[n]∈acc
   ·simp only [hge,hm,decide_true,Bool.not_true,if_true,Option.bind_some,Bool.false_eq_true,if_false,hr.1,ins]
    exact ih _ ⟨k1,k2⟩
   ·simp only [hge,hm,decide_false,Bool.not_false,if_true,Option.bind_some,hr.1,ins,if_false]
    rw [Qde (by simp only [List.length_cons,List.length_nil]; unfold lim; omega)]
    simp only [Option.bind_some]
    have hi':=k1.ins (t:=Qej a s a.zJ[n]) ⟨hr.1,hr.2.1⟩
    unfold ins at hi'
    rw [if_neg hm] at hi'
    exact ih _ ⟨hi',Q6x (List.prefix_append acc _) k2⟩
 ·intro k acc _
  dsimp only
  rw [if_neg (by omega)]; simp
theorem Qbkw:Qgi a=some (Qvx a):=by
 have hs:=h.small.1
 have hst:=h.st
 unfold Qgi Qcq
 obtain ⟨fuel,hfu,hge⟩ : ∃ f,Qb2=f∧1099511627776≤f:=⟨_,rfl,Nat.le_refl _⟩
 rw [hfu]
 have hloop:∀ o:List Int,Fnd a o→Qcv (fun (k8:List Int×Int→Option (List Int)) ((out6,i7):(List Int)×Int)=>(if (i7 < (out6.length:Int)) then ((Qcv (fun k12 ((out10,k11):(List Int)×Int)=>(if (k11 < (a.zJ.length:Int)) then ((((getO out10 i7).bind fun x14=>((getO a.zJ k11).bind fun x16=>((Qc2 a x14 x16).bind fun x19=>(((if (x19≥0) then ((Qdg out10 x19).bind fun x22=>some (!x22)) else some false)).bind fun (x23:Bool)=>(if x23 then ((appO out10 [x19]).bind fun x25=>some x25) else some out10)))))).bind fun (out27:List Int)=>k12 (out27,(IntKind.wrap .i64 (k11+1)))) else some out10)) fuel (out6,0)).bind fun (out28:List Int)=>k8 (out28,(IntKind.wrap .i64 (i7+1)))) else some out6)) fuel (o,0)=some (bfs a (a.zM.toNat+1) 0 o):=by
  intro o ho
  have:=Qhe (F:=fun (k8:List Int×Int→Option (List Int)) ((out6,i7):(List Int)×Int)=>(if (i7 < (out6.length:Int)) then ((Qcv (fun k12 ((out10,k11):(List Int)×Int)=>(if (k11 < (a.zJ.length:Int)) then ((((getO out10 i7).bind fun x14=>((getO a.zJ k11).bind fun x16=>((Qc2 a x14 x16).bind fun x19=>(((if (x19≥0) then ((Qdg out10 x19).bind fun x22=>some (!x22)) else some false)).bind fun (x23:Bool)=>(if x23 then ((appO out10 [x19]).bind fun x25=>some x25) else some out10)))))).bind fun (out27:List Int)=>k12 (out27,(IntKind.wrap .i64 (k11+1)))) else some out10)) fuel (out6,0)).bind fun (out28:List Int)=>k8 (out28,(IntKind.wrap .i64 (i7+1)))) else some out6))
   (fun x=>∃ i:Nat,x.2=(i:Int)∧i≤x.1.length∧Fnd a x.1) (fun x=>a.zM.toNat+1 - x.2.toNat) (fun x r=>r=some (bfs a (a.zM.toNat+1 - x.2.toNat) x.2.toNat x.1)) (by
    rintro k ⟨o,i⟩ ⟨i,rfl,hi,hf⟩ ih
    replace hi:i≤o.length:=hi
    replace hf:Fnd a o:=hf
    have hl:=hf.len
    dsimp only
    by_cases hlt:i < o.length
    ·rw [if_pos (by omega),Qbmw h fuel hge hf (List.getElem?_eq_getElem hlt),Option.bind_some,Qcu (by omega)]
     obtain ⟨q1,q2,_,_⟩:=Qbf7 hf (Qbf8 h o[i])
     have hle:=q2.length_le
     rw [ih _ ⟨i+1,rfl,by simp only; omega,q1⟩ (by simp only; omega)]
     simp only [Int.toNat_natCast]
     rw [show a.zM.toNat+1 - i=(a.zM.toNat+1 - (i+1))+1 from by omega,Qbp6 hlt]
    ·rw [if_neg (by omega)]
     obtain rfl:i=o.length:=by omega
     simp only [Int.toNat_natCast,Qbr1]) fuel (o,0) ⟨0,rfl,Nat.zero_le _,ho⟩ (by simp only; omega)
  simpa using this
 by_cases h0:0 < a.zM
 ·rw [if_pos (by omega),Qde (by simp only [List.length_cons,List.length_nil]; unfold lim; omega)]
  simp only [Option.bind_some]
  rw [show ([] ++ [0]:List Int)=[0] from rfl,hloop [0] ⟨by simp,fun s hs=>by simp at hs; subst hs; omega⟩]
  simp only [Option.bind_some,Qvx,if_pos h0]
 ·rw [if_neg (by omega)]
  simp only [Option.bind_some]
  rw [hloop [] ⟨by simp,fun s hs=>by simp at hs⟩]
  simp only [Option.bind_some,Qvx,if_neg h0]
theorem Qbhm (fuel:Nat) (hfu:1099511627776≤fuel) {F:List Int} (hF:Fnd a F) (hcl:∀ s∈F,∀ t∈Qbd9 a s,t∈F) {s:Int} {i:Nat} (hi:F[i]? = some s) (ms:List Int) (es:List Qc) (hes:es.length≤200000) :
  Qcv (fun (k24:Int×List Qc→Option (List Int×List Qc)) ((k22,out23):Int×(List Qc))=>(if (k22 < (a.zJ.length:Int)) then ((((getO F (i:Int)).bind fun x26=>((getO a.zJ k22).bind fun x28=>((Qc2 a x26 x28).bind fun x31=>(if (x31≥0) then ((getO a.zJ k22).bind fun x33=>((Qe5 F x31).bind fun x36=>((appO out23 [(Qc.mk (i:Int) x33 x36)]).bind fun x37=>some x37))) else some out23))))).bind fun (out39:List Qc)=>k24 ((IntKind.wrap .i64 (k22+1)),out39)) else some (ms,out23))) fuel (0,es)=some (ms,es ++ rowP a F i s):=by
 have hs:=h.small.1
 have hst:=h.st
 have hal:=h.small.2.1
 have hb:a.zJ.length < 1000000000000:=hs.1
 have hFl:=hF.len
 have hrow:rowP a F i s=(a.zJ.filter fun e=>decide (0≤Qej a s e)).map fun e=>⟨(i:Int),e,(F.idxOf (Qej a s e):Int)⟩:=by
  rw [← Q9p h,List.map_map]
  unfold rowP
  exact List.map_congr_left fun x hx=>by simp only [Function.comp]; rw [Qbjt h hx]
 rw [hrow]
 refine (Q0s (len:=a.zJ.length) (fun n (acc:List Qc)=>((n:Int),acc)) (fun n acc=>acc.length≤200000+n) (fun n acc=>some (ms,acc ++ ((a.zJ.drop n).filter fun e=>decide (0≤Qej a s e)).map fun e=>⟨(i:Int),e,(F.idxOf (Qej a s e):Int)⟩)) ?_ ?_ fuel 0 es (Nat.zero_le _) (by omega) (by omega)).trans (by simp)
 ·intro k n acc hn k1 ih
  have hg:getO F (i:Int)=some s:=by rw [Qbf0]; exact ⟨by omega,by simpa using hi⟩
  dsimp only
  rw [if_pos (by omega),hg,Qbi hn]
  simp only [Option.bind_some]
  rw [Qbhk hs,Qcu (by omega)]
  simp only [Option.bind_some]
  rw [List.drop_eq_getElem_cons hn,List.filter_cons]
  by_cases hr:0≤Qej a s a.zJ[n]
  ·have hm:Qej a s a.zJ[n]∈F:=hcl s (List.mem_of_getElem? hi) _ (by rw [Qbdn h]; exact List.mem_map.2 ⟨_,List.mem_filter.2 ⟨List.getElem_mem hn,by simpa using hr⟩,rfl⟩)
   rw [if_pos hr,Qbkv (by unfold big; omega),if_pos hm]
   simp only [Option.bind_some]
   rw [Qde (by simp only [List.length_cons,List.length_nil]; unfold lim; omega)]
   simp only [Option.bind_some]
   rw [ih _ (by simp only [List.length_append,List.length_cons,List.length_nil]; omega)]
   simp only [hr,decide_true,if_true,List.map_cons,List.append_assoc,List.cons_append,List.nil_append]
  ·rw [if_neg (by omega)]
   simp only [Option.bind_some]
   rw [ih _ (by omega)]
   simp only [hr,decide_false,Bool.false_eq_true,if_false]
 ·intro k acc _
  dsimp only
  rw [if_neg (by omega)]; simp
theorem Qbp7 {F:List Int} {i:Nat} {s:Int}:(rowP a F i s).length≤32:=by
 have:=h.small.2.1
 have h1:(rowP a F i s).length=((outP a s).map (·.Event)).length:=by simp [rowP]
 rw [h1,Q9p h]
 exact Nat.le_trans (List.length_filter_le _ _) this
theorem Qbf9:Qeu a=some (Qbbq a):=by
 have hs:=h.small.1
 have hst:=h.st
 have hal:=h.small.2.1
 have hb:a.zJ.length < 1000000000000:=hs.1
 obtain ⟨hF,_,hcl⟩:=Qbc7 h
 have hFl:=hF.len
 unfold Qeu Qbw
 obtain ⟨fuel,hfu,hge⟩ : ∃ f,Qb2=f∧1099511627776≤f:=⟨_,rfl,Nat.le_refl _⟩
 rw [hfu,Qbkw h,Option.bind_some,Qbl0 (by unfold lim; omega),Option.bind_some]
 unfold Qbbq
 generalize Qvx a=F at hF hcl hFl
 show Option.bind (Qcv _ fuel (((0:Nat):Int),[],[],[],[],[])) _=_
 rw [Q0s (len:=F.length) (R:=List Int×List Int×List Qc×List Int×List Qc) (fun n (acc:List Int×List Qc)=>((n:Int),([]:List Int),([]:List Int),([]:List Qc),acc.1,acc.2)) (fun n acc=>acc.1.length≤n∧acc.2.length≤32 * n)
  (fun n acc=>some (([]:List Int),([]:List Int),([]:List Qc),acc.1 ++ Q8c a.zK n (F.drop n),acc.2 ++ Q8d a F n (F.drop n))) ?_ ?_ fuel 0 ([],[]) (Nat.zero_le _) (by omega) ⟨Nat.zero_le _,Nat.zero_le _⟩]
 ·simp
 ·rintro k n ⟨ms,es⟩ hn ⟨k1,k2⟩ ih
  replace k1:ms.length≤n:=k1
  replace k2:es.length≤32 * n:=k2
  have hg:=List.getElem?_eq_getElem hn
  dsimp only
  rw [if_pos (by omega),Qbi hn]
  simp only [Option.bind_some]
  rw [Qbq2 hs.2.1]
  simp only [Option.bind_some]
  have hrl:=Qbp7 h (F:=F) (i:=n) (s:=F[n])
  rw [List.drop_eq_getElem_cons hn]
  simp only [Q8c,Q8d]
  by_cases hm:F[n]∈a.zK
  ·simp only [hm,decide_true,if_true]
   rw [Qde (by simp only [List.length_cons,List.length_nil]; unfold lim; omega)]
   simp only [Option.bind_some]
   have:=Qbhm h fuel hge hF hcl hg (ms ++ [(n:Int)]) es (by omega)
   rw [Qbi hn] at this
   simp only [Option.bind_some] at this
   rw [this]
   simp only [Option.bind_some]
   rw [Qcu (by omega),ih (ms ++ [(n:Int)],es ++ rowP a F n F[n]) ⟨by simp only [List.length_append,List.length_cons,List.length_nil]; omega,by simp only [List.length_append]; omega⟩]
   simp only [List.append_assoc]
  ·simp only [hm,decide_false,Bool.false_eq_true,if_false,Option.bind_some]
   have:=Qbhm h fuel hge hF hcl hg ms es (by omega)
   rw [Qbi hn] at this
   simp only [Option.bind_some] at this
   rw [this]
   simp only [Option.bind_some]
   rw [Qcu (by omega),ih (ms,es ++ rowP a F n F[n]) ⟨by simp only; omega,by simp only [List.length_append]; omega⟩]
   simp only [List.append_assoc,List.nil_append]
 ·rintro k ⟨ms,es⟩ _
  dsimp only
  rw [if_neg (by omega)]
  simp [Q8c,Q8d]
end
end Go.Abs
end
section
namespace Go.Abs
open Go
structure Evs (l:List Int):Prop where
 rg:∀ x∈l,0≤x∧x < 5
 so:l.Pairwise (· < ·)
theorem Evs.len {l:List Int} (h:Evs l):l.length≤5:=by have:=Qlr h.so h.rg; simpa using this
def Qbp8:List Int→Bool
 | []=>true
 | x :: xs=>xs.all (fun y=>decide (x < y)) && Qbp8 xs
theorem Qbjv:∀ {l:List Int},Qbp8 l=true→l.Pairwise (· < ·)
 | [],_=>.nil
 | x :: xs,h=>by
  simp only [Qbp8,Bool.and_eq_true,List.all_eq_true,decide_eq_true_eq] at h
  exact List.pairwise_cons.2 ⟨h.1,Qbjv h.2⟩
def evB (s:Nat):Bool:=match Qdr (s:Int) with
 | some l=>Qbp8 l && l.all fun x=>decide (0≤x) && decide (x < 5)
 | none=>false
theorem Qbr2:(List.range 256).all evB=true:=by kernel_rfl
theorem Qbow {s:Int} (h0:0≤s) (h1:s < 256):∃ l,Qdr s=some l∧Evs l:=by
 have:=List.all_eq_true.1 Qbr2 s.toNat (List.mem_range.2 (by omega))
 unfold evB at this
 rw [show ((s.toNat:Nat):Int)=s from by omega] at this
 split at this
 ·rename_i l hl
  simp only [Bool.and_eq_true,List.all_eq_true,decide_eq_true_eq] at this
  exact ⟨l,hl,fun x hx=>this.2 x hx,Qbjv this.1⟩
 ·cases this
structure Mks (n:Nat) (ms:List Int):Prop where
 rg:∀ x∈ms,0≤x∧x < n
 so:ms.Pairwise (· < ·)
structure Eds (al:List Int) (N:Int) (i k:Nat) (es:List Qc):Prop where
 rg:∀ x∈es,0≤x.From∧0≤x.To∧x.To < N∧x.Event∈al∧(x.From < i∨x.From=i∧∃ j:Nat,j < k∧al[j]? = some x.Event)
 so:es.Pairwise Qka
 ln:es.length≤5 * i+k
theorem Mks.up {n:Nat} {ms:List Int} (h:Mks n ms):Mks (n+1) ms:=⟨fun x hx=>by have:=h.rg x hx; omega,h.so⟩
theorem Mks.add {n:Nat} {ms:List Int} (h:Mks n ms):Mks (n+1) (ms ++ [(n:Int)]):=by
 refine ⟨fun x hx=>?_,?_⟩
 ·rcases List.mem_append.1 hx with hx | hx
  ·have:=h.rg x hx; omega
  ·simp at hx; omega
 ·rw [List.pairwise_append]
  exact ⟨h.so,by simp,fun x hx y hy=>by simp at hy; have:=h.rg x hx; omega⟩
theorem Mks.len {n:Nat} {ms:List Int} (h:Mks n ms):ms.length≤n:=by have:=Qlr h.so h.rg; simpa using this
section
variable {al:List Int} (hal:Evs al) {N:Int} {i k:Nat} {es:List Qc}
theorem Eds.up (h:Eds al N i k es):Eds al N i (k+1) es:=⟨fun x hx=>by
 obtain ⟨h1,h2,h3,h4,h5⟩:=h.rg x hx
 refine ⟨h1,h2,h3,h4,?_⟩
 rcases h5 with h5 | ⟨h5,j,h6,h7⟩
 ·exact .inl h5
 ·exact .inr ⟨h5,j,by omega,h7⟩,h.so,by have:=h.ln; omega⟩
theorem Eds.next (h:Eds al N i k es) (hk:k≤5):Eds al N (i+1) 0 es:=⟨fun x hx=>by
 obtain ⟨h1,h2,h3,h4,h5⟩:=h.rg x hx
 exact ⟨h1,h2,h3,h4,.inl (by rcases h5 with h5 | ⟨h5,_⟩ <;> omega)⟩,h.so,by have:=h.ln; omega⟩
include hal in
theorem Eds.add (h:Eds al N i k es) (hk:k < al.length) {t:Int} (ht:0≤t∧t < N):Eds al N i (k+1) (es ++ [⟨(i:Int),al[k],t⟩]):=by
 refine ⟨fun x hx=>?_,?_,by have:=h.ln; simp only [List.length_append,List.length_cons,List.length_nil]; omega⟩
 ·rcases List.mem_append.1 hx with hx | hx
  ·exact h.up.rg x hx
  ·simp at hx; subst hx
   exact ⟨by simp only; omega,ht.1,ht.2,List.getElem_mem hk,.inr ⟨rfl,k,by omega,List.getElem?_eq_getElem hk⟩⟩
 ·rw [List.pairwise_append]
  refine ⟨h.so,by simp,fun x hx y hy=>?_⟩
  simp at hy; subst hy
  obtain ⟨_,_,_,_,h5⟩:=h.rg x hx
  rcases h5 with h5 | ⟨h5,j,h6,h7⟩
  ·exact .inl h5
  ·refine .inr ⟨h5,?_⟩
   obtain ⟨h8,h9⟩:=List.getElem?_eq_some_iff.1 h7
   rw [← h9]
   exact List.pairwise_iff_getElem.1 hal.so j k h8 hk h6
end
structure Qbox (g:Qbs):Prop where
 st:0≤g.zM∧g.zM < 256
 to:∀ x∈[g.To.1.1,g.To.1.2.1,g.To.1.2.2.1,g.To.1.2.2.2.1,g.To.1.2.2.2.2,g.To.2.1.1,g.To.2.1.2.1,g.To.2.1.2.2.1,g.To.2.1.2.2.2.1,g.To.2.1.2.2.2.2,g.To.2.2.1.1,g.To.2.2.1.2.1,g.To.2.2.1.2.2.1,g.To.2.2.1.2.2.2.1,g.To.2.2.1.2.2.2.2,g.To.2.2.2.1.1,g.To.2.2.2.1.2.1,g.To.2.2.2.1.2.2.1,g.To.2.2.2.1.2.2.2.1,g.To.2.2.2.1.2.2.2.2,g.To.2.2.2.2.1,g.To.2.2.2.2.2.1,g.To.2.2.2.2.2.2.1,g.To.2.2.2.2.2.2.2.1,g.To.2.2.2.2.2.2.2.2],0≤x∧x < 256
theorem Qbl1 {al:List Int} (hal:Evs al) (fuel:Nat) (hfu:1099511627776≤fuel) {L:List Int} (hL:L.length=25) (hL2:∀ x∈L,0≤x∧x < 256) {N:Int} (hN:1≤N∧N≤5) {i:Nat} (hi:(i:Int) < N) {ms:List Int} {es:List Qc} (hes:Eds al N i 0 es) :
  ∃ es',Eds al N (i+1) 0 es' ∧ Qcv (fun (k25:Int×List Qc→Option (List Int×List Qc)) ((k23,a24):Int×(List Qc))=>(((if (k23 < (al.length:Int)) then some (decide (k23 < 5)) else some false)).bind fun (x27:Bool)=>(if x27 then ((((inO 5 (i:Int)).bind fun _=>((inO 5 k23).bind fun _=>((rowO L (Int.toNat (i:Int) * 5+Int.toNat k23 * 1)).bind fun x31=>((remO .i64 (IntKind.wrap .i64 x31) (IntKind.wrap .i64 (N+2))).bind fun s33=>(if (s33 < N) then ((getO al k23).bind fun x36=>((appO a24 [(Qc.mk (i:Int) x36 s33)]).bind fun x38=>some x38)) else some a24)))))).bind fun (a40:List Qc)=>k25 ((IntKind.wrap .i64 (k23+1)),a40)) else some (ms,a24)))) fuel (0,es)=some (ms,es'):=by
 have hl:=hal.len
 have:=Qhe (F:=fun (k25:Int×List Qc→Option (List Int×List Qc)) ((k23,a24):Int×(List Qc))=>(((if (k23 < (al.length:Int)) then some (decide (k23 < 5)) else some false)).bind fun (x27:Bool)=>(if x27 then ((((inO 5 (i:Int)).bind fun _=>((inO 5 k23).bind fun _=>((rowO L (Int.toNat (i:Int) * 5+Int.toNat k23 * 1)).bind fun x31=>((remO .i64 (IntKind.wrap .i64 x31) (IntKind.wrap .i64 (N+2))).bind fun s33=>(if (s33 < N) then ((getO al k23).bind fun x36=>((appO a24 [(Qc.mk (i:Int) x36 s33)]).bind fun x38=>some x38)) else some a24)))))).bind fun (a40:List Qc)=>k25 ((IntKind.wrap .i64 (k23+1)),a40)) else some (ms,a24))))
  (fun x=>∃ k:Nat,x.1=(k:Int)∧k≤al.length∧Eds al N i k x.2) (fun x=>al.length - x.1.toNat) (fun _ r=>∃ es',r=some (ms,es')∧Eds al N (i+1) 0 es') (by
   rintro kk ⟨k,es⟩ ⟨k,rfl,hk,he⟩ ih
   replace he:Eds al N i k es:=he
   replace hk:k≤al.length:=hk
   dsimp only
   by_cases hlt:k < al.length
   ·rw [if_pos (by omega)]
    simp only [Option.bind_some,show decide ((k:Int) < 5)=true from by simp; omega,if_true]
    rw [show inO 5 (i:Int)=some () from by unfold inO; rw [if_pos (by omega)],show inO 5 (k:Int)=some () from by unfold inO; rw [if_pos (by omega)]]
    simp only [Option.bind_some,Int.toNat_natCast]
    have hidx:i * 5+k * 1 < L.length:=by omega
    have hx:=hL2 _ (List.getElem_mem hidx)
    rw [show rowO L (i * 5+k * 1)=some L[i * 5+k * 1] from by unfold rowO; exact List.getElem?_eq_getElem hidx]
    simp only [Option.bind_some]
    rw [Qrm (x:=L[i * 5+k * 1]) (by omega) (by omega),Qrm (x:=N+2) (by omega) (by omega),show remO .i64 L[i * 5+k * 1] (N+2)=some (L[i * 5+k * 1].tmod (N+2)) from by unfold remO; rw [if_neg (by omega)]]
    simp only [Option.bind_some]
    have hmod:0≤L[i * 5+k * 1].tmod (N+2):=Int.tmod_nonneg _ hx.1
    have hln:=he.ln
    by_cases hm:L[i * 5+k * 1].tmod (N+2) < N
    ·rw [if_pos hm,Qbi hlt]
     simp only [Option.bind_some]
     rw [Qde (by simp only [List.length_cons,List.length_nil]; unfold lim; omega)]
     simp only [Option.bind_some]
     rw [Qcu (by omega)]
     exact ih _ ⟨k+1,rfl,hlt,he.add hal hlt ⟨hmod,hm⟩⟩ (by simp only; omega)
    ·rw [if_neg hm]
     simp only [Option.bind_some]
     rw [Qcu (by omega)]
     exact ih _ ⟨k+1,rfl,hlt,he.up⟩ (by simp only; omega)
   ·rw [if_neg (by omega)]
    exact ⟨es,rfl,he.next (by omega)⟩) fuel (0,es) ⟨0,rfl,Nat.zero_le _,hes⟩ (by simp only; omega)
 obtain ⟨es',h1,h2⟩:=this
 exact ⟨es',h2,h1⟩
theorem Qbkx {al:List Int} (hal:Evs al):Right ⟨al,0,[],[]⟩ :=
 ⟨fun x hx=>by have:=hal.rg x hx; omega,hal.so,⟨by simp,by simp⟩,by simp,.nil,by simp,.nil⟩
theorem Qbr3 {al:List Int} (hal:Evs al) {g:Qbs} (hg:Qbox g):∃ m,Right m∧m.zJ=al∧Qfg al g=some (Qbbq m)∧m.zM≤5:=by
 have hl:=hal.len
 obtain ⟨hst,hto⟩:=hg
 unfold Qfg Qcz
 obtain ⟨fuel,hfu,hge⟩ : ∃ f,Qb2=f∧1099511627776≤f:=⟨_,rfl,Nat.le_refl _⟩
 rw [hfu,Qbl0 (by unfold lim; omega)]
 simp only [Option.bind_some]
 by_cases h250:g.zM≥250
 ·rw [if_pos h250]
  exact ⟨⟨al,0,[],[]⟩,Qbkx hal,rfl,rfl,by simp⟩
 rw [if_neg h250]
 have hL:[g.To.1.1,g.To.1.2.1,g.To.1.2.2.1,g.To.1.2.2.2.1,g.To.1.2.2.2.2,g.To.2.1.1,g.To.2.1.2.1,g.To.2.1.2.2.1,g.To.2.1.2.2.2.1,g.To.2.1.2.2.2.2,g.To.2.2.1.1,g.To.2.2.1.2.1,g.To.2.2.1.2.2.1,g.To.2.2.1.2.2.2.1,g.To.2.2.1.2.2.2.2,g.To.2.2.2.1.1,g.To.2.2.2.1.2.1,g.To.2.2.2.1.2.2.1,g.To.2.2.2.1.2.2.2.1,g.To.2.2.2.1.2.2.2.2,g.To.2.2.2.2.1,g.To.2.2.2.2.2.1,g.To.2.2.2.2.2.2.1,g.To.2.2.2.2.2.2.2.1,g.To.2.2.2.2.2.2.2.2].length=25:=rfl
 generalize [g.To.1.1,g.To.1.2.1,g.To.1.2.2.1,g.To.1.2.2.2.1,g.To.1.2.2.2.2,g.To.2.1.1,g.To.2.1.2.1,g.To.2.1.2.2.1,g.To.2.1.2.2.2.1,g.To.2.1.2.2.2.2,g.To.2.2.1.1,g.To.2.2.1.2.1,g.To.2.2.1.2.2.1,g.To.2.2.1.2.2.2.1,g.To.2.2.1.2.2.2.2,g.To.2.2.2.1.1,g.To.2.2.2.1.2.1,g.To.2.2.2.1.2.2.1,g.To.2.2.2.1.2.2.2.1,g.To.2.2.2.1.2.2.2.2,g.To.2.2.2.2.1,g.To.2.2.2.2.2.1,g.To.2.2.2.2.2.2.1,g.To.2.2.2.2.2.2.2.1,g.To.2.2.2.2.2.2.2.2]=L at hto hL ⊢
 have hmod:0≤g.zM.tmod 5∧g.zM.tmod 5 < 5:=⟨Int.tmod_nonneg _ hst.1,Int.tmod_lt_of_pos _ (by omega)⟩
 have hN:1≤IntKind.wrap .i64 (1+(IntKind.wrap .i64 (Int.tmod g.zM 5)))∧IntKind.wrap .i64 (1+(IntKind.wrap .i64 (Int.tmod g.zM 5)))≤5:=by
  rw [Qrm (x:=g.zM.tmod 5) (by omega) (by omega),Qrm (by omega) (by omega)]; omega
 generalize IntKind.wrap .i64 (1+(IntKind.wrap .i64 (Int.tmod g.zM 5)))=N at hN ⊢
 have hloop:=Qhe (F:=(fun (k15:Int×List Int×List Int×List Qc×Int×List Int×List Qc→Option (List Int×List Int×List Qc×Int×List Int×List Qc)) ((i8,c9,c10,c11,a12,a13,a14):Int×(List Int)×(List Int)×(List Qc)×Int×(List Int)×(List Qc))=>(if (i8 < a12) then ((((((shrO .u8 g.Marks i8).bind fun s17=>(if ((andI .u8 s17 1) == 1) then ((appO a13 [i8]).bind fun x20=>some x20) else some a13))).bind fun (a22:List Int)=>Qcv (fun k25 ((k23,a24):Int×(List Qc))=>(((if (k23 < (al.length:Int)) then some (decide (k23 < 5)) else some false)).bind fun (x27:Bool)=>(if x27 then ((((inO 5 i8).bind fun _=>((inO 5 k23).bind fun _=>((rowO L (Int.toNat i8 * 5+Int.toNat k23 * 1)).bind fun x31=>((remO .i64 (IntKind.wrap .i64 x31) (IntKind.wrap .i64 (a12+2))).bind fun s33=>(if (s33 < a12) then ((getO al k23).bind fun x36=>((appO a24 [(Qc.mk i8 x36 s33)]).bind fun x38=>some x38)) else some a24)))))).bind fun (a40:List Qc)=>k25 ((IntKind.wrap .i64 (k23+1)),a40)) else some (a22,a24)))) fuel (0,a14))).bind fun ((a41,a42):(List Int)×(List Qc))=>k15 ((IntKind.wrap .i64 (i8+1)),c9,c10,c11,a12,a41,a42)) else some (c9,c10,c11,a12,a13,a14))))
  (fun x=>∃ (i:Nat) (ms:List Int) (es:List Qc),x=((i:Int),[],[],[],N,ms,es)∧(i:Int)≤N∧Mks i ms∧Eds al N i 0 es) (fun x=>(N - x.1).toNat)
  (fun _ r=>∃ (i:Nat) (ms:List Int) (es:List Qc),r=some ([],[],[],N,ms,es)∧(i:Int)=N∧Mks i ms∧Eds al N i 0 es) (by
   rintro k _ ⟨i,ms,es,rfl,hi,hm,he⟩ ih
   dsimp only
   by_cases hlt:(i:Int) < N
   ·rw [if_pos hlt,show shrO .u8 g.Marks (i:Int)=some (g.Marks.fdiv (2 ^ (min (Int.toNat (i:Int)) (IntKind.bits .u8)))) from by unfold shrO; rw [if_neg (by omega)]]
    simp only [Option.bind_some]
    have hml:=hm.len
    by_cases hb:(andI .u8 (g.Marks.fdiv (2 ^ (min (Int.toNat (i:Int)) (IntKind.bits .u8)))) 1 == 1)=true
    ·rw [if_pos hb,Qde (by simp only [List.length_cons,List.length_nil]; unfold lim; omega)]
     simp only [Option.bind_some]
     obtain ⟨es',h1,h2⟩:=Qbl1 hal fuel hge hL hto hN hlt (ms:=ms ++ [(i:Int)]) he
     rw [h2]
     simp only [Option.bind_some]
     rw [Qcu (by omega)]
     exact ih _ ⟨i+1,_,_,rfl,by omega,hm.add,h1⟩ (by simp only; omega)
    ·rw [if_neg hb]
     simp only [Option.bind_some]
     obtain ⟨es',h1,h2⟩:=Qbl1 hal fuel hge hL hto hN hlt (ms:=ms) he
     rw [h2]
     simp only [Option.bind_some]
     rw [Qcu (by omega)]
     exact ih _ ⟨i+1,_,_,rfl,by omega,hm.up,h1⟩ (by simp only; omega)
   ·rw [if_neg hlt]
    exact ⟨i,ms,es,rfl,by omega,hm,he⟩) fuel (0,[],[],[],N,[],[]) ⟨0,[],[],rfl,by omega,⟨by simp,.nil⟩,⟨by simp,.nil,by simp⟩⟩ (by simp only; omega)
 obtain ⟨i,ms,es,h1,h2,h3,h4⟩:=hloop
 rw [h1]
 simp only [Option.bind_some]
 have hr:Right ⟨al,N,ms,es⟩:=⟨fun x hx=>by have:=hal.rg x hx; omega,hal.so,⟨by simp only; omega,by simp only; omega⟩,fun x hx=>by have:=h3.rg x hx; simp only; omega,h3.so,fun x hx=>by
  obtain ⟨k1,k2,k3,k4,k5⟩:=h4.rg x hx
  refine ⟨k1,?_,k2,k3,k4⟩
  rcases k5 with k5 | ⟨_,j,k6,_⟩
  ·simp only; omega
  ·omega,h4.so⟩
 rw [Qbf9 hr]
 exact ⟨_,hr,rfl,rfl,by simp only; omega⟩
end Go.Abs
end
section
namespace Go.Abs
open Go
def upto (n:Int):List Int:=(List.range n.toNat).map fun (i:Nat)=>(i:Int)
theorem Qbl2 {n x:Int}:x∈upto n↔0≤x∧x < n:=by
 simp only [upto,List.mem_map,List.mem_range]
 constructor
 ·rintro ⟨i,hi,rfl⟩; omega
 ·rintro ⟨h1,h2⟩; exact ⟨x.toNat,by omega,by omega⟩
theorem Qvy (n:Int):(upto n).length=n.toNat:=by simp [upto]
theorem Qbl3 {n:Int} {i:Nat} (h:i < (upto n).length):(upto n)[i]=(i:Int):=by simp [upto]
theorem Qu9 {X S R α:Type} {F:(X→Option R)→X→Option R} {fuel:Nat} {l:List α} (mk:Int→S→X) (stp:S→α→S) (I:Nat→S→Prop) (K:S→Option R) (hl:l.length < big) (hf:1099511627776≤fuel)
  (step:∀ (k:X→Option R) (n:Nat) (s:S) (h:n < l.length),I n s→F k (mk n s)=k (mk (IntKind.wrap .i64 ((n:Int)+1)) (stp s l[n])))
  (keep:∀ (n:Nat) (s:S) (h:n < l.length),I n s→I (n+1) (stp s l[n]))
  (last:∀ (k:X→Option R) (s:S),I l.length s→F k (mk l.length s)=K s) {s0:S} (h0:I 0 s0):Qcv F fuel (mk 0 s0)=K (l.foldl stp s0):=by
 have hb:l.length < 1000000000000:=hl
 have:=Q0s (F:=F) (len:=l.length) (fun n s=>mk n s) I (fun n s=>K ((l.drop n).foldl stp s)) (fun k n s hn hi ih=>by
  rw [step k n s hn hi,Qcu (by omega),ih _ (keep n s hn hi),List.drop_eq_getElem_cons hn,List.foldl_cons]) (fun k s hi=>by rw [last k s hi]; simp) fuel 0 s0 (Nat.zero_le _) (by omega) h0
 simpa using this
theorem Qbga {X R α:Type} {F:(X→Option R)→X→Option R} {fuel:Nat} {l:List α} (mk:Int→X) (p:α→Bool) (hit:α→Option R) (K:Option R) (hl:l.length < big) (hf:1099511627776≤fuel)
  (step:∀ (k:X→Option R) (n:Nat) (h:n < l.length),F k (mk n)=if p l[n] then hit l[n] else k (mk (IntKind.wrap .i64 ((n:Int)+1))))
  (last:∀ (k:X→Option R),F k (mk l.length)=K):Qcv F fuel (mk 0)=match l.find? p with | some x=>hit x | none=>K:=by
 have hb:l.length < 1000000000000:=hl
 have:=Q0s (F:=F) (len:=l.length) (fun n (_:Unit)=>mk n) (fun _ _=>True) (fun n _=>match (l.drop n).find? p with | some x=>hit x | none=>K) (fun k n s hn hi ih=>by
  rw [step k n hn,Qcu (by omega),ih () trivial,List.drop_eq_getElem_cons hn,List.find?_cons]
  cases p l[n] <;> simp) (fun k s hi=>by rw [last k]; simp) fuel 0 () (Nat.zero_le _) (by omega) trivial
 simpa using this
theorem Qbp9 {X α:Type} {F:(X→Option Bool)→X→Option Bool} {fuel:Nat} {l:List α} (mk:Int→X) (p:α→Bool) (hl:l.length < big) (hf:1099511627776≤fuel)
  (step:∀ (k:X→Option Bool) (n:Nat) (h:n < l.length),F k (mk n)=if p l[n] then some true else k (mk (IntKind.wrap .i64 ((n:Int)+1))))
  (last:∀ (k:X→Option Bool),F k (mk l.length)=some false):Qcv F fuel (mk 0)=some (l.any p):=by
 rw [Qbga mk p (fun _=>some true) (some false) hl hf step last]
 cases h:l.find? p with
 | none =>
  show some false=some (l.any p)
  rw [List.any_eq_false.2 (List.find?_eq_none.1 h)]
 | some x =>
  show some true=some (l.any p)
  rw [List.any_eq_true.2 ⟨x,List.mem_of_find?_eq_some h,List.find?_some h⟩]
def at0 {α:Type} (d:α) (l:List α) (x:Int):α:=l.getD x.toNat d
abbrev lf (L:List Bool) (x:Int):Bool:=at0 false L x
abbrev ati (l:List Int) (x:Int):Int:=at0 0 l x
theorem Qbtl {α:Type} {d:α} {l:List α} {x:Int} (h0:0≤x) (h1:x < l.length):getO l x=some (at0 d l x):=by
 have h:x.toNat < l.length:=by omega
 unfold getO at0
 rw [if_pos h0,List.getD_eq_getElem?_getD,List.getElem?_eq_getElem h]; rfl
theorem Qbr4 {α:Type} {l:List α} {x:Int} {y:α} (h0:0≤x) (h1:x < l.length):setO l x y=some (l.set x.toNat y):=by
 unfold setO; rw [if_pos ⟨h0,by omega⟩]
theorem Qbs9 {n:Nat} {x:Int} (h0:0≤x) (h1:x < n):inO n x=some ():=by
 unfold inO; rw [if_pos ⟨h0,h1⟩]
theorem Qboy {α:Type} {l:List α} {n:Nat} (h:l.length=n):lenO l n=some ():=by
 unfold lenO; rw [if_pos h]
end Go.Abs
end
section
namespace Go.Abs
open Go
theorem Qbr5 (x y:Int):Qkr x y=some (decide (x < y)):=by
 unfold Qkr Qer Qu4 Qdz
 simp
theorem Qbqa (x:Int):Qjj x=some false:=by
 unfold Qjj Qc5
 simp
theorem Qboz {l:List Int} (h:l.Pairwise (· < ·)) (v:Int):l.Pairwise fun a b=>decide (b < v)=true→decide (a < v)=true :=
 h.imp fun h=>by simp; omega
theorem Qbo0 {l:List Int} {v:Int} (hs:l.Pairwise (· < ·)) (hl:l.length < big):∃ n,Qet l v=some (n,decide (v∈l)):=by
 have hc:=fun n h=>Qbc6 (p:=fun x:Int=>decide (x < v)) (Qboz hs v) n h
 have hcl:(l.filter fun x=>decide (x < v)).length≤l.length:=List.length_filter_le _ _
 generalize (l.filter fun x=>decide (x < v)).length=c at hc hcl
 have hb:l.length < 1000000000000:=hl
 unfold Qet Qbv
 obtain ⟨fuel,hfu,hge⟩ : ∃ f,Qb2=f∧1099511627776≤f:=⟨_,rfl,Nat.le_refl _⟩
 rw [hfu]
 have hloop:=Qhe (F:=fun (k5:Int×Int→Option Int) ((i3,j4):Int×Int)=>(if (i3 < j4) then ((getO l (IntKind.wrap .i64 (Int.fdiv (IntKind.wrap .u64 (IntKind.wrap .i64 (i3+j4))) (2 ^ (min (Int.toNat 1) (IntKind.bits .u64)))))).bind fun x7=>((Qkr x7 v).bind fun x10=>(if x10 then k5 ((IntKind.wrap .i64 ((IntKind.wrap .i64 (Int.fdiv (IntKind.wrap .u64 (IntKind.wrap .i64 (i3+j4))) (2 ^ (min (Int.toNat 1) (IntKind.bits .u64)))))+1)),j4) else k5 (i3,(IntKind.wrap .i64 (Int.fdiv (IntKind.wrap .u64 (IntKind.wrap .i64 (i3+j4))) (2 ^ (min (Int.toNat 1) (IntKind.bits .u64))))))))) else some i3))
  (fun x=>∃ i j:Nat,x=((i:Int),(j:Int))∧i≤c∧c≤j∧j≤l.length) (fun x=>(x.2 - x.1).toNat) (fun _ r=>r=some (c:Int)) (by
   rintro k _ ⟨i,j,rfl,h1,h2,h3⟩ ih
   dsimp only
   by_cases hij:i < j
   ·rw [if_pos (by omega),Qbq1 (by omega) (by omega)]
    have hm:(i+j) / 2 < l.length:=by omega
    rw [Qbi hm]
    simp only [Option.bind_some]
    rw [Qbr5]
    simp only [Option.bind_some]
    have hcm:=hc ((i+j) / 2) hm
    by_cases hlt:l[(i+j) / 2] < v
    ·rw [if_pos (by simpa using hlt),Qcu (by omega)]
     have:(i+j) / 2 < c:=hcm.1 (by simpa using hlt)
     exact ih _ ⟨_,_,rfl,by omega,h2,h3⟩ (by simp only; omega)
    ·rw [if_neg (by simpa using hlt)]
     have:¬ (i+j) / 2 < c:=fun h=>hlt (by simpa using hcm.2 h)
     exact ih _ ⟨_,_,rfl,h1,by omega,by omega⟩ (by simp only; omega)
   ·rw [if_neg (by omega)]
    have:i=c:=by omega
    rw [this]) fuel (0,(l.length:Int)) ⟨0,l.length,rfl,by omega,hcl,Nat.le_refl _⟩ (by simp only; omega)
 rw [hloop]
 simp only [Option.bind_some]
 have hmem:v∈l↔∃ h:c < l.length,l[c]=v:=by
  constructor
  ·intro hv
   obtain ⟨j,hj,rfl⟩:=List.getElem_of_mem hv
   have h1:¬ j < c:=fun h=>by have:=(hc j hj).2 h; simp at this
   have h2:c < l.length:=by omega
   refine ⟨h2,?_⟩
   have h3:¬ l[c] < l[j]:=fun h=>by have:=(hc c h2).1 (by simpa using h); omega
   rcases Nat.lt_or_ge c j with h | h
   ·have:=List.pairwise_iff_getElem.1 hs c j h2 hj h; omega
   ·have:c=j:=by omega
    subst this; rfl
  ·rintro ⟨h,rfl⟩; exact List.getElem_mem h
 by_cases hlt:c < l.length
 ·rw [if_pos (by omega),Qbi hlt]
  simp only [Option.bind_some]
  by_cases he:l[c]=v
  ·rw [if_pos (by simpa using he)]
   exact ⟨_,by rw [decide_eq_true (hmem.2 ⟨hlt,he⟩)]⟩
  ·rw [if_neg (by simpa using he),Qbqa]
   exact ⟨_,by rw [decide_eq_false (fun h=>he (hmem.1 h).2)]; rfl⟩
 ·rw [if_neg (by omega)]
  exact ⟨_,by rw [decide_eq_false (fun h=>hlt (hmem.1 h).1)]⟩
structure Num (a:Qa) (o num:List Int):Prop where
 len:num.length=a.zM.toNat
 at1:∀ s:Nat,s < a.zM.toNat→num[s]? = some (if (s:Int)∈o then (o.idxOf (s:Int):Int) else -1)
theorem Num.get {a:Qa} {o num:List Int} (h:Num a o num) {t:Int} (ht:0≤t∧t < a.zM):getO num t=some (if t∈o then (o.idxOf t:Int) else -1):=by
 rw [Qbf0]
 refine ⟨ht.1,?_⟩
 have:=h.at1 t.toNat (by omega)
 rwa [show ((t.toNat:Nat):Int)=t from by omega] at this
theorem Num.set {a:Qa} {o num:List Int} (h:Num a o num) {t:Int} (ht:0≤t∧t < a.zM) (hn:t∉o):∃ num',setO num t (o.length:Int)=some num' ∧ Num a (o ++ [t]) num':=by
 refine ⟨num.set t.toNat (o.length:Int),by unfold setO; rw [if_pos ⟨ht.1,by rw [h.len]; omega⟩],by rw [List.length_set]; exact h.len,fun s hs=>?_⟩
 rw [List.getElem?_set]
 by_cases he:t.toNat=s
 ·subst he
  rw [if_pos rfl,if_pos (by rw [h.len]; omega),show ((t.toNat:Nat):Int)=t from by omega,if_pos (by simp),List.idxOf_append,if_neg hn]
  simp
 ·rw [if_neg he,h.at1 s hs]
  have hne:(s:Int)≠t:=by omega
  by_cases hm:(s:Int)∈o
  ·rw [if_pos hm,if_pos (by simp [hm]),List.idxOf_append,if_pos hm]
  ·rw [if_neg hm,if_neg (by simp [hm,hne])]
section
variable {a:Qa} (h:Right a)
include h
end
end Go.Abs
end
section
namespace Go.Abs
open Go
theorem Qok (a b:ByteArray):(a == b)=decide (a=b):=by
 cases a; cases b
 rw [Bool.eq_iff_iff]
 simp only [decide_eq_true_eq,ByteArray.mk.injEq]
 exact beq_iff_eq (α:=Array UInt8)
theorem Qbky {i j:Nat} (hi:i < 10) (hj:j < 10) (h:UInt8.ofNat (48+i)=UInt8.ofNat (48+j)):i=j:=by
 have:=congrArg UInt8.toNat h
 simp only [UInt8.toNat_ofNat'] at this
 omega
theorem Qbq4 {i:Nat} (hi:i < 10) (h:UInt8.ofNat (48+i)=32):False:=by
 have:=congrArg UInt8.toNat h
 simp only [UInt8.toNat_ofNat'] at this
 have h32:(32:UInt8).toNat=32:=rfl
 omega
theorem Qbr6 {x y:Nat} (hx:x < 100) (hy:y < 100) {s t:List UInt8} (h:Lib.decDigits x ++ 32 :: s=Lib.decDigits y ++ 32 :: t):x=y∧s=t:=by
 by_cases h1:x < 10 <;> by_cases h2:y < 10
 ·rw [Lib.decDigits_one h1,Lib.decDigits_one h2] at h
  simp only [List.cons_append,List.nil_append,List.cons.injEq] at h
  exact ⟨Qbky h1 h2 h.1,h.2.2⟩
 ·rw [Lib.decDigits_one h1,Lib.decDigits_two h2 hy] at h
  simp only [List.cons_append,List.nil_append,List.cons.injEq] at h
  exact (Qbq4 (by omega) h.2.1.symm).elim
 ·rw [Lib.decDigits_two h1 hx,Lib.decDigits_one h2] at h
  simp only [List.cons_append,List.nil_append,List.cons.injEq] at h
  exact (Qbq4 (by omega) h.2.1).elim
 ·rw [Lib.decDigits_two h1 hx,Lib.decDigits_two h2 hy] at h
  simp only [List.cons_append,List.nil_append,List.cons.injEq] at h
  have e1:=Qbky (by omega) (by omega) h.1
  have e2:=Qbky (by omega) (by omega) h.2.1
  exact ⟨by omega,h.2.2.2⟩
def Qbik (t:List Int):Prop:=∀ x∈t,0≤x∧x < 100
theorem Qbjw:∀ {l m:List Int},Qbik l→Qbik m→keyL l=keyL m→l=m
 | [],[],_,_,_=>rfl
 | [],y :: m,_,_,h=>by
  have:=congrArg List.length h
  simp [keyL] at this
 | x :: l,[],_,_,h=>by
  have:=congrArg List.length h
  simp [keyL] at this
 | x :: l,y :: m,hl,hm,h=>by
  have hx:=hl x (by simp)
  have hy:=hm y (by simp)
  have h' : Lib.decDigits x.toNat ++ 32 :: keyL l=Lib.decDigits y.toNat ++ 32 :: keyL m:=by simpa [keyL] using h
  obtain ⟨h1,h2⟩:=Qbr6 (by omega) (by omega) h'
  rw [Qbjw (fun z hz=>hl z (by simp [hz])) (fun z hz=>hm z (by simp [hz])) h2,show x=y from by omega]
theorem Qbo1 {l m:List Int} (hl:Qbik l) (hm:Qbik m) (h:keyB l=keyB m):l=m:=by
 unfold keyB at h
 simp only [ByteArray.mk.injEq] at h
 exact Qbjw hl hm (by simpa using congrArg Array.toList h)
theorem Qbjx {β:Type} {v:β} {k k' : ByteArray}:∀ {m:List (ByteArray×β)},hasM (setM m k v) k' = (decide (k' = k) || hasM m k')
 | []=>by simp [setM,hasM,Qok]
 | (q,w) :: m=>by
  by_cases h1:k=q
  ·subst h1
   simp only [setM,Qok,decide_true,if_true,Qtq]
   cases decide (k' = k) <;> simp
  ·simp only [setM,Qok,decide_eq_false h1,Bool.false_eq_true,if_false,Qtq,Qbjx (m:=m)]
   cases decide (k' = q) <;> cases decide (k' = k) <;> simp
theorem Qbjy {β:Type} {z v:β} {k k' : ByteArray}:∀ {m:List (ByteArray×β)},getM (setM m k v) k' z=if k' = k then v else getM m k' z
 | []=>by simp [setM,getM,Qok]
 | (q,w) :: m=>by
  by_cases h1:k=q
  ·subst h1
   by_cases h2:k' = k <;> simp [setM,getM,Qok,h2]
  ·by_cases h2:k' = q
   ·subst h2
    have h3:¬ k' = k:=fun e=>h1 e.symm
    simp [setM,getM,Qok,h1,h3]
   ·simp [setM,getM,Qok,h1,h2,Qbjy (m:=m)]
def MapK (m:List (ByteArray×Int)) (st:List (List Int)):Prop:=∀ r,Qbik r→hasM m (keyB r)=decide (r∈st)∧(r∈st→getM m (keyB r) 0=(st.idxOf r:Int))
theorem MapK.ins {m:List (ByteArray×Int)} {st:List (List Int)} (h:MapK m st) {r:List Int} (hr:r∉st) (hk:Qbik r):MapK (setM m (keyB r) (st.length:Int)) (st ++ [r]):=by
 intro x hx
 obtain ⟨h1,h2⟩:=h x hx
 have hiff:keyB x=keyB r↔x=r:=⟨fun e=>Qbo1 hx hk e,fun e=>by rw [e]⟩
 refine ⟨?_,fun hm=>?_⟩
 ·rw [Qbjx,h1,Bool.eq_iff_iff]; simp [hiff]; exact Or.comm
 ·rw [Qbjy]
  by_cases hxr:x=r
  ·subst hxr
   rw [if_pos rfl,List.idxOf_append]
   simp [hr]
  ·rw [if_neg (fun e=>hxr (hiff.1 e))]
   have hx' : x∈st:=by
    rcases List.mem_append.1 hm with hx | hx
    ·exact hx
    ·simp at hx; exact absurd hx hxr
   rw [h2 hx',List.idxOf_append,if_pos hx']
abbrev TS:=List (List Int)×List Qc×List (ByteArray×Int)
def rowM (stp:List Int→Int→Option (List Int)) (i:Nat) (s:List Int) (p:TS) (e:Int):TS :=
 match stp s e with
 | none=>p
 | some t=>if t∈p.1 then (p.1,p.2.1 ++ [⟨(i:Int),e,(p.1.idxOf t:Int)⟩],p.2.2) else (p.1 ++ [t],p.2.1 ++ [⟨(i:Int),e,(p.1.length:Int)⟩],setM p.2.2 (keyB t) (p.1.length:Int))
def bldM (stp:List Int→Int→Option (List Int)) (mk:List Int→Bool) (al:List Int):Nat→Nat→List Int→TS→List (List Int)×List Int×List Qc
 | 0,_,ms,p=>(p.1,ms,p.2.1)
 | f+1,i,ms,p=>match p.1[i]? with
  | none=>(p.1,ms,p.2.1)
  | some s=>bldM stp mk al f (i+1) (if mk s then ms ++ [(i:Int)] else ms) (al.foldl (rowM stp i s) p)
structure DomT (stp:List Int→Int→Option (List Int)) (al:List Int) (P:List Int→Prop) (N:Nat):Prop where
 ky:∀ x,P x→Qbik x
 cl:∀ x,P x→∀ e∈al,∀ t,stp x e=some t→P t
 bd:∀ l:List (List Int),l.Nodup→(∀ x∈l,P x)→l.length≤N
 nn:N≤4000
 so:al.Pairwise (· < ·)
 rg:∀ x∈al,0≤x∧x < 32
structure FndT (al:List Int) (P:List Int→Prop) (i:Nat) (p:TS):Prop where
 nd:p.1.Nodup
 su:∀ x∈p.1,P x
 mp:MapK p.2.2 p.1
 ed:p.2.1.Pairwise Qka
 er:∀ x∈p.2.1,0≤x.From∧x.From < i∧0≤x.To∧x.To < p.1.length∧x.Event∈al
theorem Qbel {l:List Int} (h:l.Pairwise (· < ·)) (h0:∀ x∈l,0≤x∧x < 32):l.length≤32:=by
 have hr:Right ⟨l,0,[],[]⟩:={ al0:=h0,al:=h,st:=⟨Int.le_refl 0,by show (0:Int)≤4096; decide⟩,ma0:=fun x hx=>by simp at hx,ma:=List.Pairwise.nil,ed0:=fun x hx=>by simp at hx,ed:=List.Pairwise.nil }
 exact hr.small.2.1
section
variable {stp:List Int→Int→Option (List Int)} {mk:List Int→Bool} {al:List Int} {P:List Int→Prop} {N:Nat} (hd:DomT stp al P N)
structure RowT (al:List Int) (P:List Int→Prop) (i:Nat) (done:List Int) (p0 p:TS):Prop where
 nd:p.1.Nodup
 su:∀ x∈p.1,P x
 mp:MapK p.2.2 p.1
 pre:p0.1 <+: p.1
 ed:p.2.1.Pairwise Qka
 er:∀ x∈p.2.1,0≤x.From∧x.From≤i∧0≤x.To∧x.To < p.1.length∧x.Event∈al∧(x.From=i→x.Event∈done)
 ln:p.2.1.length≤p0.2.1.length+done.length
include hd
theorem RowT.step {i:Nat} {done:List Int} {p0 p:TS} {s:List Int} {e:Int} (h:RowT al P i done p0 p) (hs:P s) (he:e∈al) (hlt:∀ x∈done,x < e):RowT al P i (done ++ [e]) p0 (rowM stp i s p e):=by
 have hln:=h.ln
 unfold rowM
 cases hst:stp s e with
 | none =>
  exact ⟨h.nd,h.su,h.mp,h.pre,h.ed,fun x hx=>by
   obtain ⟨a1,a2,a3,a4,a5,a6⟩:=h.er x hx
   exact ⟨a1,a2,a3,a4,a5,fun hf=>List.mem_append_left _ (a6 hf)⟩,by simp only [List.length_append,List.length_cons,List.length_nil]; omega⟩
 | some t =>
  have ht:=hd.cl s hs e he t hst
  have new:∀ (k:Int),0≤k→∀ (L:List (List Int)),k < L.length→(p.1 <+: L)→(p.2.1 ++ [(⟨(i:Int),e,k⟩ : Qc)]).Pairwise Qka ∧
    ∀ x∈p.2.1 ++ [(⟨(i:Int),e,k⟩ : Qc)],0≤x.From∧x.From≤i∧0≤x.To∧x.To < L.length∧x.Event∈al∧(x.From=i→x.Event∈done ++ [e]):=by
   intro k hk L hkL hpre
   have hle:=hpre.length_le
   refine ⟨List.pairwise_append.2 ⟨h.ed,List.pairwise_singleton _ _,fun x hx y hy=>?_⟩,fun x hx=>?_⟩
   ·simp only [List.mem_singleton] at hy; subst hy
    obtain ⟨a1,a2,a3,a4,a5,a6⟩:=h.er x hx
    unfold Qka
    dsimp only
    by_cases hf:x.From=i
    ·exact .inr ⟨hf,hlt _ (a6 hf)⟩
    ·exact .inl (by omega)
   ·rcases List.mem_append.1 hx with hx | hx
    ·obtain ⟨a1,a2,a3,a4,a5,a6⟩:=h.er x hx
     exact ⟨a1,a2,a3,by omega,a5,fun hf=>List.mem_append_left _ (a6 hf)⟩
    ·simp only [List.mem_singleton] at hx; subst hx
     exact ⟨by dsimp only; omega,Int.le_refl _,hk,hkL,he,fun _=>by simp⟩
  dsimp only
  by_cases hm:t∈p.1
  ·rw [if_pos hm]
   obtain ⟨k1,k2⟩:=new (p.1.idxOf t:Int) (by omega) p.1 (by have:=List.idxOf_lt_length_of_mem hm; omega) (List.prefix_refl _)
   exact ⟨h.nd,h.su,h.mp,h.pre,k1,k2,by simp only [List.length_append,List.length_cons,List.length_nil]; omega⟩
  ·rw [if_neg hm]
   obtain ⟨k1,k2⟩:=new (p.1.length:Int) (by omega) (p.1 ++ [t]) (by simp only [List.length_append,List.length_cons,List.length_nil]; omega) (List.prefix_append _ _)
   refine ⟨?_,fun x hx=>?_,h.mp.ins hm (hd.ky t ht),List.IsPrefix.trans h.pre (List.prefix_append _ _),k1,k2,by simp only [List.length_append,List.length_cons,List.length_nil]; omega⟩
   ·dsimp only
    rw [List.nodup_append]
    refine ⟨h.nd,by simp,fun a ha b hb=>?_⟩
    simp only [List.mem_singleton] at hb; subst hb
    rintro rfl; exact hm ha
   ·rcases List.mem_append.1 hx with hx | hx
    ·exact h.su x hx
    ·simp only [List.mem_singleton] at hx; subst hx; exact ht
theorem RowT.fold {i:Nat} {p0:TS} {s:List Int} (hs:P s):∀ {es done:List Int} {p:TS},done ++ es=al→RowT al P i done p0 p→RowT al P i al p0 (es.foldl (rowM stp i s) p)
 | [],done,p,he,h=>by rw [List.append_nil] at he; subst he; exact h
 | e :: es,done,p,he,h=>by
  rw [List.foldl_cons]
  refine RowT.fold hs (done:=done ++ [e]) (by rw [← he]; simp) (h.step hd hs (by rw [← he]; simp) fun x hx=>?_)
  have:=hd.so
  rw [← he,List.pairwise_append] at this
  exact this.2.2 x hx e (by simp)
theorem FndT.row {i:Nat} {p:TS} (h:FndT al P i p) {s:List Int} (hs:P s):FndT al P (i+1) (al.foldl (rowM stp i s) p)∧p.1 <+: (al.foldl (rowM stp i s) p).1∧(al.foldl (rowM stp i s) p).2.1.length≤p.2.1.length+al.length:=by
 have:=RowT.fold hd (i:=i) (p0:=p) (p:=p) hs (es:=al) (done:=[]) rfl ⟨h.nd,h.su,h.mp,List.prefix_refl _,h.ed,fun x hx=>by
  obtain ⟨a1,a2,a3,a4,a5⟩:=h.er x hx
  exact ⟨a1,by omega,a3,a4,a5,fun hf=>by omega⟩,by simp⟩
 exact ⟨⟨this.nd,this.su,this.mp,this.ed,fun x hx=>by
  obtain ⟨a1,a2,a3,a4,a5,_⟩:=this.er x hx
  exact ⟨a1,by omega,a3,a4,a5⟩⟩,this.pre,this.ln⟩
theorem FndT.len {i:Nat} {p:TS} (h:FndT al P i p):p.1.length≤N:=hd.bd _ h.nd h.su
structure MksT (i:Nat) (ms:List Int):Prop where
 rg:∀ x∈ms,0≤x∧x < i
 so:ms.Pairwise (· < ·)
theorem Qbhn (mk:List Int→Bool):∀ {f i:Nat} {ms:List Int} {p:TS},FndT al P i p→MksT i ms→i≤p.1.length→N+1≤f+i →
  Right ⟨al,((bldM stp mk al f i ms p).1.length:Int),(bldM stp mk al f i ms p).2.1,(bldM stp mk al f i ms p).2.2⟩∧(∀ x∈(bldM stp mk al f i ms p).1,P x)∧(bldM stp mk al f i ms p).1.length≤N∧p.1 <+: (bldM stp mk al f i ms p).1
 | 0,i,ms,p,h,hm,hi,hf=>by have:=h.len hd; omega
 | f+1,i,ms,p,h,hm,hi,hf=>by
  have hN:=hd.nn
  have hl:=h.len hd
  rw [bldM]
  cases hg:p.1[i]? with
  | none =>
   have hi2:i=p.1.length:=by have:=List.getElem?_eq_none_iff.1 hg; omega
   dsimp only
   refine ⟨⟨hd.rg,hd.so,⟨by dsimp only; omega,by dsimp only; omega⟩,fun x hx=>?_,hm.so,fun x hx=>?_,h.ed⟩,h.su,hl,List.prefix_refl _⟩
   ·have:=hm.rg x hx; dsimp only; omega
   ·have:=h.er x hx; dsimp only; exact ⟨this.1,by omega,this.2.2.1,this.2.2.2.1,this.2.2.2.2⟩
  | some s =>
   have hs:=h.su s (List.mem_of_getElem? hg)
   obtain ⟨h1,h2,h3⟩:=h.row hd hs
   have hlt:i < p.1.length:=(List.getElem?_eq_some_iff.1 hg).1
   have hle:=h2.length_le
   dsimp only
   obtain ⟨k1,k2,k3,k4⟩:=Qbhn mk (f:=f) (i:=i+1) (ms:=if mk s then ms ++ [(i:Int)] else ms) h1 (by
    split
    ·refine ⟨fun x hx=>?_,List.pairwise_append.2 ⟨hm.so,List.pairwise_singleton _ _,fun a ha b hb=>?_⟩⟩
     ·rcases List.mem_append.1 hx with hx | hx
      ·have:=hm.rg x hx; omega
      ·simp only [List.mem_singleton] at hx; omega
     ·simp only [List.mem_singleton] at hb; have:=hm.rg a ha; omega
    ·exact ⟨fun x hx=>by have:=hm.rg x hx; omega,hm.so⟩) (by omega) (by omega)
   exact ⟨k1,k2,k3,List.IsPrefix.trans h2 k4⟩
end
end Go.Abs
end
section
namespace Go.Abs
open Go
structure Mrg (kp:Bool→Bool→Bool) (l m a b out:List Int):Prop where
 sa:a.Pairwise (· < ·)
 sb:b.Pairwise (· < ·)
 so:out.Pairwise (· < ·)
 oa:∀ o∈out,∀ x∈a,o < x
 ob:∀ o∈out,∀ x∈b,o < x
 ln:out.length+a.length+b.length < big
 eq:∀ x,(x∈out∨kp (decide (x∈a)) (decide (x∈b))=true)↔kp (decide (x∈l)) (decide (x∈m))=true
theorem Mrg.step {kp:Bool→Bool→Bool} (h0:kp false false=false) {l m a b out a' b' : List Int} {z:Int} {p q:Bool} (h:Mrg kp l m a b out) (ha:a=if p then z :: a' else a') (hb:b=if q then z :: b' else b') (hpq:p=true∨q=true)
  (hza:∀ x∈a',z < x) (hzb:∀ x∈b',z < x):Mrg kp l m a' b' (if kp p q then out ++ [z] else out):=by
 have ma:∀ x,x∈a↔(p=true∧x=z)∨x∈a':=fun x=>by rw [ha]; cases p <;> simp
 have mb:∀ x,x∈b↔(q=true∧x=z)∨x∈b':=fun x=>by rw [hb]; cases q <;> simp
 have hoz:∀ o∈out,o < z:=fun o ho=>by
  rcases hpq with rfl | rfl
  ·exact h.oa o ho z ((ma z).2 (.inl ⟨rfl,rfl⟩))
  ·exact h.ob o ho z ((mb z).2 (.inl ⟨rfl,rfl⟩))
 have hm:∀ o,o∈(if kp p q then out ++ [z] else out)↔o∈out∨(kp p q=true∧o=z):=fun o=>by cases kp p q <;> simp
 have hza' : z∉a':=fun hx=>by have:=hza z hx; omega
 have hzb' : z∉b':=fun hx=>by have:=hzb z hx; omega
 refine ⟨?_,?_,?_,?_,?_,?_,fun x=>?_⟩
 ·have:=h.sa; rw [ha] at this; cases p
  ·exact this
  ·exact (List.pairwise_cons.1 this).2
 ·have:=h.sb; rw [hb] at this; cases q
  ·exact this
  ·exact (List.pairwise_cons.1 this).2
 ·cases kp p q
  ·exact h.so
  ·simp only [if_true]
   rw [List.pairwise_append]
   exact ⟨h.so,by simp,fun o ho y hy=>by simp at hy; subst hy; exact hoz o ho⟩
 ·intro o ho x hx
  rcases (hm o).1 ho with ho | ⟨_,rfl⟩
  ·exact h.oa o ho x ((ma x).2 (.inr hx))
  ·exact hza x hx
 ·intro o ho x hx
  rcases (hm o).1 ho with ho | ⟨_,rfl⟩
  ·exact h.ob o ho x ((mb x).2 (.inr hx))
  ·exact hzb x hx
 ·have h1:=h.ln
  have h2:a.length=a'.length+if p then 1 else 0:=by rw [ha]; cases p <;> simp
  have h3:b.length=b'.length+if q then 1 else 0:=by rw [hb]; cases q <;> simp
  have h4:(if kp p q then out ++ [z] else out).length≤out.length+1:=by split <;> simp
  rcases hpq with rfl | rfl <;> simp at h2 h3 <;> omega
 ·rw [← h.eq x,hm]
  by_cases hx:x=z
  ·subst hx
   have e1:decide (x∈a)=p:=by rw [Bool.eq_iff_iff,decide_eq_true_eq,ma]; simp [hza']
   have e2:decide (x∈b)=q:=by rw [Bool.eq_iff_iff,decide_eq_true_eq,mb]; simp [hzb']
   rw [e1,e2,decide_eq_false hza',decide_eq_false hzb',h0]
   simp
  ·have e1:decide (x∈a)=decide (x∈a'):=decide_eq_decide.2 (by rw [ma]; simp [hx])
   have e2:decide (x∈b)=decide (x∈b'):=decide_eq_decide.2 (by rw [mb]; simp [hx])
   rw [e1,e2]; simp [hx]
theorem Qbqb {kp:Bool→Bool→Bool} {keep:Bool→Bool→Option Bool} (hk:∀ p q,keep p q=some (kp p q)) (h0:kp false false=false) {l m:List Int} (hl:l.Pairwise (· < ·)) (hm:m.Pairwise (· < ·)) (hlm:l.length+m.length < big) :
  ∃ R,Qga l m keep=some R∧R.Pairwise (· < ·)∧∀ x,x∈R↔kp (decide (x∈l)) (decide (x∈m))=true:=by
 unfold Qga Qb8
 obtain ⟨fuel,hfu,hge⟩ : ∃ f,Qb2=f∧1099511627776≤f:=⟨_,rfl,Nat.le_refl _⟩
 rw [hfu]
 have hg:∀ (x:Int) (l:List Int),getO (x :: l) 0=some x:=fun x l=>Qbi (l:=x :: l) (n:=0) (by simp)
 have hd:∀ (x:Int) (l:List Int),slcO (x :: l) 1 ((x :: l).length:Int)=some l:=fun x l=>by
  have:=Qbej (l:=x :: l) (i:=1) (j:=(x :: l).length) (by simp) (by simp)
  rw [List.take_length] at this
  exact this
 have key:=Qhe (F:=fun (k14:List Int×List Int×List Int→Option (List Int)) ((a11,b12,out13):(List Int)×(List Int)×(List Int))=>(((if ((a11.length:Int) > 0) then some true else some (decide ((b12.length:Int) > 0)))).bind fun (x16:Bool)=>(if x16 then (((if ((a11.length:Int) > 0) then (if ((b12.length:Int) == 0) then some true else ((getO a11 0).bind fun x20=>((getO b12 0).bind fun x22=>some (decide (x20≤x22))))) else some false)).bind fun (inA24:Bool)=>(((if ((b12.length:Int) > 0) then (if ((a11.length:Int) == 0) then some true else ((getO b12 0).bind fun x27=>((getO a11 0).bind fun x29=>some (decide (x27≤x29))))) else some false)).bind fun (inB31:Bool)=>(((if inA24 then ((getO a11 0).bind fun x33=>((slcO a11 1 (a11.length:Int)).bind fun x35=>some (x35,x33))) else some (a11,0))).bind fun ((a37,x38):(List Int)×Int)=>(((if inB31 then ((getO b12 0).bind fun x40=>((slcO b12 1 (b12.length:Int)).bind fun x42=>some (x42,x40))) else some (b12,x38))).bind fun ((b44,x45):(List Int)×Int)=>((keep inA24 inB31).bind fun x47=>(if x47 then ((appO out13 [x45]).bind fun x49=>k14 (a37,b44,x49)) else k14 (a37,b44,out13))))))) else some out13)))
  (fun x:List Int×List Int×List Int=>Mrg kp l m x.1 x.2.1 x.2.2) (fun x=>x.1.length+x.2.1.length) (fun _ r=>∃ R,r=some R∧R.Pairwise (· < ·)∧∀ x,x∈R↔kp (decide (x∈l)) (decide (x∈m))=true) ?_ fuel (l,m,[]) ⟨hl,hm,by simp,by simp,by simp,by simpa using hlm,by simp⟩ (by unfold big at hlm; dsimp only; omega)
 ·obtain ⟨R,h1,h2,h3⟩:=key
  exact ⟨R,by rw [h1]; rfl,h2,h3⟩
 rintro k ⟨a,b,out⟩ h ih
 dsimp only at h ih ⊢
 have hln:=h.ln
 have happ:∀ z:Int,out.length+1≤big→appO out [z]=some (out ++ [z]):=fun z hz=>Qde (by simp only [List.length_cons,List.length_nil]; unfold lim; unfold big at hz; omega)
 have fin:∀ (a' b' : List Int) (z:Int) (p q:Bool),out.length+1≤big→Mrg kp l m a' b' (if kp p q then out ++ [z] else out)→a'.length+b'.length < a.length+b.length →
   ∃ R,((keep p q).bind fun x47=>if x47 then ((appO out [z]).bind fun x49=>k (a',b',x49)) else k (a',b',out))=some R∧R.Pairwise (· < ·)∧∀ x,x∈R↔kp (decide (x∈l)) (decide (x∈m))=true:=by
  intro a' b' z p q hz hM hlt
  rw [hk,happ z hz]
  simp only [Option.bind_some]
  have:=ih (a',b',if kp p q then out ++ [z] else out) hM hlt
  cases hkp:kp p q <;> simp only [hkp,Bool.false_eq_true,if_false,if_true] at this ⊢ <;> exact this
 match a,b,h,fin,hln with
 | [],[],h,fin,hln =>
  refine ⟨out,by simp,h.so,fun x=>?_⟩
  rw [← h.eq x]; simp [h0]
 | [],y :: ys,h,fin,hln =>
  rw [show ((([]:List Int).length:Nat):Int)=0 from rfl]
  have hp:(((y :: ys).length:Nat):Int) > 0:=by simp only [List.length_cons]; omega
  rw [if_neg (by omega),Option.bind_some,if_pos (by simp)]
  rw [if_neg (by omega),Option.bind_some,if_pos hp,if_pos (by rfl),Option.bind_some,if_neg (by simp),Option.bind_some,if_pos rfl,hg,hd]
  simp only [Option.bind_some]
  exact fin [] ys y false true (by simp only [List.length_cons] at hln; omega) (h.step h0 (z:=y) (p:=false) (q:=true) rfl rfl (.inr rfl) (by simp) (List.pairwise_cons.1 h.sb).1) (by simp)
 | x :: xs,[],h,fin,hln =>
  rw [show ((([]:List Int).length:Nat):Int)=0 from rfl]
  have hp:(((x :: xs).length:Nat):Int) > 0:=by simp only [List.length_cons]; omega
  rw [if_pos hp,Option.bind_some,if_pos rfl,if_pos hp,if_pos (by rfl),Option.bind_some,if_neg (by omega),Option.bind_some,if_pos rfl,hg,hd]
  simp only [Option.bind_some,Bool.false_eq_true,if_false]
  exact fin xs [] x true false (by simp only [List.length_cons] at hln; omega) (h.step h0 (z:=x) (p:=true) (q:=false) rfl rfl (.inl rfl) (List.pairwise_cons.1 h.sa).1 (by simp)) (by simp)
 | x :: xs,y :: ys,h,fin,hln =>
  obtain ⟨ha1,ha2⟩:=List.pairwise_cons.1 h.sa
  obtain ⟨hb1,hb2⟩:=List.pairwise_cons.1 h.sb
  have hp:(((x :: xs).length:Nat):Int) > 0:=by simp only [List.length_cons]; omega
  have hq:(((y :: ys).length:Nat):Int) > 0:=by simp only [List.length_cons]; omega
  have hp0:((((x :: xs).length:Nat):Int) == 0)=false:=by simp only [beq_eq_false_iff_ne]; omega
  have hq0:((((y :: ys).length:Nat):Int) == 0)=false:=by simp only [beq_eq_false_iff_ne]; omega
  rw [if_pos hp,Option.bind_some,if_pos rfl,if_pos hp,if_neg (by rw [hq0]; simp),hg,hg,Option.bind_some,Option.bind_some,Option.bind_some,if_pos hq,if_neg (by rw [hp0]; simp),Option.bind_some,Option.bind_some,Option.bind_some,hd,hd]
  simp only [List.length_cons] at hln
  rcases Int.lt_trichotomy x y with hxy | rfl | hxy
  ·have e1:decide (x≤y)=true:=decide_eq_true (by omega)
   have e2:decide (y≤x)=false:=decide_eq_false (by omega)
   simp only [e1,e2,Option.bind_some,if_true,Bool.false_eq_true,if_false]
   exact fin xs (y :: ys) x true false (by omega) (h.step h0 (z:=x) (p:=true) (q:=false) rfl rfl (.inl rfl) ha1 (fun z hz=>by
    rcases List.mem_cons.1 hz with rfl | hz
    ·exact hxy
    ·have:=hb1 z hz; omega)) (by simp)
  ·have e1:decide (x≤x)=true:=decide_eq_true (by omega)
   simp only [e1,Option.bind_some,if_true]
   exact fin xs ys x true true (by omega) (h.step h0 (z:=x) (p:=true) (q:=true) rfl rfl (.inl rfl) ha1 hb1) (by simp; omega)
  ·have e1:decide (x≤y)=false:=decide_eq_false (by omega)
   have e2:decide (y≤x)=true:=decide_eq_true (by omega)
   simp only [e1,e2,Option.bind_some,if_true,Bool.false_eq_true,if_false]
   exact fin (x :: xs) ys y false true (by omega) (h.step h0 (z:=y) (p:=false) (q:=true) rfl rfl (.inr rfl) (fun z hz=>by
    rcases List.mem_cons.1 hz with rfl | hz
    ·exact hxy
    ·have:=ha1 z hz; omega) hb1) (by simp)
end Go.Abs
end
section
namespace Go.Abs
open Go
theorem Qbqc {l m:List Int} (hl:l.Pairwise (· < ·)) (hm:m.Pairwise (· < ·)) (hlm:l.length+m.length < big) :
  ∃ R,Qij l m=some R∧R.Pairwise (· < ·)∧∀ x,x∈R↔x∈l∨x∈m:=by
 unfold Qij Qd3
 obtain ⟨R,h1,h2,h3⟩:=Qbqb (kp:=fun p q=>p || q) (keep:=Qm9) (fun p q=>by cases p <;> cases q <;> rfl) rfl hl hm hlm
 exact ⟨R,by rw [h1]; rfl,h2,fun x=>by rw [h3]; simp⟩
end Go.Abs
end
section
namespace Go.Abs
open Go
theorem Qbmx:Qj3=some true:=by kernel_rfl
end Go.Abs
end
section
namespace Go.Abs
open Go
theorem Qbjz {α:Type} [DecidableEq α] {s t:List α} {ne:α→α→Bool} (hne:∀ x y,ne x y=decide (x≠y)) (hl:s.length=t.length) (h:s.length < 1000000000000) :
  Qcv (fun k5 (i4:Int)=>(if (i4 < (s.length:Int)) then ((getO s i4).bind fun x7=>((getO t i4).bind fun x9=>(if ne x7 x9 then some false else k5 (IntKind.wrap .i64 (i4+1))))) else some true)) Qb2 0=some (decide (s=t)):=by
 refine Qbei (fun i:Int=>∃ n:Nat,i=n∧n≤s.length∧s.take n=t.take n) (fun i=>s.length - i.toNat) _ ⟨0,rfl,by omega,by simp⟩ (by unfold Qb2; omega) ?_
 rintro k _ ⟨n,rfl,hn,he⟩ ih
 by_cases hlt:n < s.length
 ·rw [if_pos (by omega),Qbi hlt,Qbi (by omega:n < t.length)]
  simp only [Option.bind_some,hne]
  by_cases hx:s[n]=t[n]
  ·rw [if_neg (by simp [hx]),Qcu (by omega)]
   exact ih _ ⟨n+1,rfl,by omega,Qbjq hlt (by omega) he hx⟩ (by omega)
  ·rw [if_pos (by simp [hx])]
   have:s≠t:=fun e=>hx (by subst e; rfl)
   simp [this]
 ·rw [if_neg (by omega)]
  have e:n=s.length:=by omega
  have:s=t:=by
   rw [e,List.take_length,hl,List.take_length] at he; exact he
  simp [this]
theorem Qbr7 (x y:Qc):(!((x.From == y.From) && ((x.Event == y.Event) && ((x.To == y.To) && true))))=decide (x≠y):=by
 cases x; cases y
 simp only [Qc.mk.injEq,Bool.and_true,ne_eq,decide_not]
 congr 1
 rw [Bool.eq_iff_iff]; simp
theorem Qbgb {s t:List Int} (h:s.length < 1000000000000):Qgh s t=some (decide (s=t)):=by
 unfold Qgh Qbm
 by_cases hl:s.length=t.length
 ·rw [if_neg (by simp [hl])]
  exact Qbjz (ne:=fun x y=>x != y) (fun x y=>by rw [Bool.eq_iff_iff]; simp) hl h
 ·rw [if_pos (by simp; omega)]
  have:s≠t:=fun e=>hl (by rw [e])
  simp [this]
theorem Qbta {R:Type} (b:Bool) (A B:R):(if b then A else B)=if (!b) then B else A:=by cases b <;> rfl
theorem Qbmy {s t:List Qc} (h:s.length < 1000000000000):Qhl s t=some (decide (s=t)):=by
 unfold Qhl Qc7
 by_cases hl:s.length=t.length
 ·rw [if_neg (by simp [hl])]
  have:=Qbjz (ne:=fun x y=>!((x.From == y.From) && ((x.Event == y.Event) && ((x.To == y.To) && true)))) Qbr7 hl h
  simp only [← Qbta] at this
  exact this
 ·rw [if_pos (by simp; omega)]
  have:s≠t:=fun e=>hl (by rw [e])
  simp [this]
theorem Qbj0 {a b:Qa} (h:small a):Qhd a b=some (decide (a=b)):=by
 unfold Qhd Qb6
 rw [Qbgb h.1,Qbgb h.2.1,Qbmy h.2.2]
 obtain ⟨al,s,m,e⟩:=a
 obtain ⟨al',s',m',e'⟩:=b
 simp only [Option.bind_some,Qa.mk.injEq]
 by_cases h1:s=s' <;> by_cases h2:al=al' <;> by_cases h3:m=m' <;> by_cases h4:e=e' <;> simp [h1,h2,h3,h4]
end Go.Abs
end
section
namespace Go.Abs
open Go
theorem Qln {l:List Int} {v:Int} (hs:l.Pairwise (· < ·)) (hl:l.length < big):Qbt l v=some (decide (v∈l)):=by
 unfold Qbt Qi
 obtain ⟨n,h⟩:=Qbo0 (v:=v) hs hl
 rw [h]; rfl
theorem Qbgc {l:List Int} {n:Int} (hl:l.length < big):Qd8 l n=some (Qeq n none l):=by
 unfold Qd8 Qy
 refine (Qkt (len:=l.length) (fun k=>some (Qeq n (ahead l k) (l.drop k))) (by unfold Qb2; unfold big at hl; omega) ?_ ?_).trans (by simp [Qth])
 ·intro k i hi ih
  have hb:i < 1000000000000:=by unfold big at hl; omega
  rw [Qbdm hi]
  try dsimp only
  rw [if_pos (by omega),Qbi hi,Qcu (by omega),ih]
  simp only [Option.bind_some]
  by_cases h1:l[i] < 0
  ·simp [h1]
  ·by_cases h2:l[i]≥n
   ·simp [h1,h2]
   ·by_cases h0:0 < i
    ·rw [Qbf1 h0 (by omega),Qbi (by omega:i - 1 < l.length),Qbf2 l h0 (by omega)]
     by_cases h3:l[i]≤l[i - 1] <;> simp [h1,h2,h3,h0]
    ·obtain rfl:i=0:=by omega
     simp [h1,h2,Qth]
 ·intro k; simp [Qeq]
theorem Qbqd {l:List Int} {v:Int} (hl:l.length < big):Qhm l v=some (decide (v∈l)):=by
 have hb:l.length < 1000000000000:=hl
 unfold Qhm Qc8
 obtain ⟨fuel,hfu,hge⟩ : ∃ f,Qb2=f∧1099511627776≤f:=⟨_,rfl,Nat.le_refl _⟩
 rw [hfu]
 refine (Qbp9 (fun x=>x) (fun y=>y == v) hl hge (fun k n hn=>?_) (fun k=>?_)).trans ?_
 ·try dsimp only
  rw [if_pos (by omega),Qbi hn]; rfl
 ·try dsimp only
  rw [if_neg (by omega)]
 ·congr 1; rw [Bool.eq_iff_iff,List.any_eq_true]; simp
structure SetP (n:Int) (l:List Int):Prop where
 rg:∀ x∈l,0≤x∧x < n
 so:l.Pairwise (· < ·)
theorem Qbqe {n:Int} {l:List Int}:Qeq n none l=0↔SetP n l :=
 ⟨fun h=>⟨(Qhi.1 h).1,(Qhi.1 h).2.1⟩,fun h=>Qhi.2 ⟨h.rg,h.so,fun _ h=>by cases h⟩⟩
structure RightP (p:Qh):Prop where
 a:Right p.zA
 fo:SetP p.zA.zM p.zC
 un:SetP 32 p.zB
 fc:SetP 32 p.zD
 ti:0≤p.Tick∧p.Tick < 32
 tu:p.Tick∉p.zB
 tf:p.Tick∉p.zD
def Qbtb (p:Qh):Prop:=small p.zA∧p.zC.length < big∧p.zB.length < big∧p.zD.length < big
theorem SetP.small {n:Int} {l:List Int} (h:SetP n l) (hn:n≤4096):l.length≤4096:=by
 have:=Qlr h.so h.rg; omega
theorem RightP.small {p:Qh} (h:RightP p):Qbtb p:=by
 have h1:=h.fo.small h.a.st.2
 have h2:=h.un.small (by omega)
 have h3:=h.fc.small (by omega)
 refine ⟨h.a.small.1,?_,?_,?_⟩ <;> (unfold big; omega)
section
variable {p:Qh} (hp:RightP p) {L:List Bool} (hL:L.length=p.zA.zM.toNat) {s:Int} (hs:0≤s∧s < p.zA.zM)
include hp
include hs
include hL
end
end Go.Abs
end
section
namespace Go.Abs
open Go
theorem Qbj1 {κ β:Type} [BEq κ] [LawfulBEq κ] [DecidableEq κ] {v:β} {k k' : κ}:∀ {m:List (κ×β)},hasM (setM m k v) k' = (decide (k' = k) || hasM m k')
 | []=>by simp only [setM,hasM,List.any_cons,List.any_nil,Bool.or_false]; rw [Bool.eq_iff_iff]; simp
 | (q,w) :: m=>by
  by_cases h1:k=q
  ·subst h1
   simp only [setM,beq_self_eq_true,if_true,Qtq]
   rw [Bool.eq_iff_iff]; simp
  ·have h1' : (k == q)=false:=by simp [h1]
   simp only [setM,h1',Bool.false_eq_true,if_false,Qtq,Qbj1 (m:=m)]
   cases (k' == q) <;> cases decide (k' = k) <;> simp
theorem Qbj2 {κ β:Type} [BEq κ] [LawfulBEq κ] [DecidableEq κ] {z v:β} {k k' : κ}:∀ {m:List (κ×β)},getM (setM m k v) k' z=if k' = k then v else getM m k' z
 | []=>by simp [setM,getM]
 | (q,w) :: m=>by
  by_cases h1:k=q
  ·subst h1
   by_cases h2:k' = k <;> simp [setM,getM,h2]
  ·have h1' : (k == q)=false:=by simp [h1]
   by_cases h2:k' = q
   ·subst h2
    have h3:¬ k' = k:=fun e=>h1 e.symm
    simp [setM,getM,h1',h3]
   ·have h2' : (k' == q)=false:=by simp [h2]
    simp [setM,getM,h1',h2',Qbj2 (m:=m)]
def edM (a:Qa):List ((Int×Int)×Int):=a.zL.foldl (fun c x=>setM c (x.From,x.Event) x.To) []
theorem Qbil:∀ {es:List Qc} {c:List ((Int×Int)×Int)} {s e:Int},es.Pairwise Qka →
  hasM (es.foldl (fun c x=>setM c (x.From,x.Event) x.To) c) (s,e)=((es.find? fun x=>x.From == s && x.Event == e).isSome || hasM c (s,e)) ∧
  getM (es.foldl (fun c x=>setM c (x.From,x.Event) x.To) c) (s,e) 0=match es.find? (fun x=>x.From == s && x.Event == e) with | some x=>x.To | none=>getM c (s,e) 0
 | [],c,s,e,_=>by simp
 | x :: es,c,s,e,h=>by
  obtain ⟨h1,h2⟩:=List.pairwise_cons.1 h
  obtain ⟨i1,i2⟩:=Qbil (es:=es) (c:=setM c (x.From,x.Event) x.To) (s:=s) (e:=e) h2
  rw [List.foldl_cons,i1,i2,Qbj1,Qbj2,List.find?_cons]
  by_cases hx:x.From=s∧x.Event=e
  ·obtain ⟨rfl,rfl⟩:=hx
   have hn:es.find? (fun y=>y.From == x.From && y.Event == x.Event)=none:=by
    rw [List.find?_eq_none]
    intro y hy hq
    simp only [Bool.and_eq_true,beq_iff_eq] at hq
    have:=h1 y hy
    unfold Qka at this
    omega
   simp [hn]
  ·have hb:(x.From == s && x.Event == e)=false:=by
    rw [Bool.and_eq_false_iff]
    by_cases h3:x.From=s
    ·exact .inr (beq_eq_false_iff_ne.2 fun h4=>hx ⟨h3,h4⟩)
    ·exact .inl (beq_eq_false_iff_ne.2 h3)
   have hne:¬ ((s,e)=(x.From,x.Event)):=fun h4=>hx ⟨by injection h4 with h5 h6; exact h5.symm,by injection h4 with h5 h6; exact h6.symm⟩
   rw [hb,decide_eq_false hne,if_neg hne]
   simp
theorem Qbkz {a:Qa} (h:Right a) (s e:Int):hasM (edM a) (s,e)=decide (0≤Qej a s e):=by
 unfold edM Qej
 rw [(Qbil h.ed).1]
 cases hf:a.zL.find? fun x=>x.From == s && x.Event == e with
 | none=>simp [hasM]
 | some x =>
  have:=(h.ed0 x (List.mem_of_find?_eq_some hf)).2.2.1
  simp [this]
theorem Qbo2 {a:Qa} (h:Right a) {s e:Int} (h0:0≤Qej a s e):getM (edM a) (s,e) 0=Qej a s e:=by
 unfold edM Qej at *
 rw [(Qbil h.ed).2]
 cases hf:a.zL.find? fun x=>x.From == s && x.Event == e with
 | none=>rw [hf] at h0; simp at h0
 | some x=>rfl
def InT:List Qa→List Int→Prop
 | [],[]=>True
 | a :: l,x :: t=>(0≤x∧x < a.zM)∧InT l t
 | _,_=>False
theorem InT.len:∀ {l:List Qa} {t:List Int},InT l t→t.length=l.length
 | [],[],_=>rfl
 | a :: l,x :: t,h=>by simp [InT.len h.2]
 | [],_ :: _,h=>h.elim
 | _ :: _,[],h=>h.elim
theorem InT.get:∀ {l:List Qa} {t:List Int},InT l t→∀ (i:Nat) (hi:i < l.length) (hj:i < t.length),0≤t[i]∧t[i] < l[i].zM
 | a :: l,x :: t,h,0,_,_=>h.1
 | a :: l,x :: t,h,i+1,hi,hj=>InT.get h.2 i (by simpa using hi) (by simpa using hj)
 | [],_,_,i,hi,_=>by simp at hi
 | _ :: _,[],h,_,_,_=>h.elim
def allT:List Qa→List (List Int)
 | []=>[[]]
 | a :: l=>(upto a.zM).flatMap fun x=>(allT l).map (x :: ·)
theorem Qbl4:∀ {l:List Qa} {t:List Int},InT l t→t∈allT l
 | [],[],_=>by simp [allT]
 | a :: l,x :: t,h=>by
  simp only [allT,List.mem_flatMap,List.mem_map]
  exact ⟨x,Qbl2.2 h.1,t,Qbl4 h.2,rfl⟩
 | [],_ :: _,h=>h.elim
 | _ :: _,[],h=>h.elim
theorem Qbim:∀ {l:List Qa},(allT l).length=l.foldr (fun a n=>a.zM.toNat * n) 1
 | []=>rfl
 | a :: l=>by
  simp only [allT,List.length_flatMap,List.length_map,List.foldr_cons,← Qbim (l:=l)]
  generalize (allT l).length=n
  have:∀ u:List Int,(u.map fun _=>n).sum=u.length * n:=fun u=>by
   induction u with
   | nil=>simp
   | cons x u ih=>simp only [List.map_cons,List.sum_cons,ih,List.length_cons,Nat.add_mul]; omega
  rw [this,Qvy]
theorem Qbl5 {τ:Type} [DecidableEq τ]:∀ {l m:List τ},l.Nodup→(∀ x∈l,x∈m)→l.length≤m.length
 | [],_,_,_=>by simp
 | x :: l,m,h,hs=>by
  obtain ⟨a1,a2⟩:=List.nodup_cons.1 h
  have hx:=hs x (by simp)
  have:=Qbl5 (l:=l) (m:=m.erase x) a2 fun y hy=>(List.mem_erase_of_ne (by rintro rfl; exact a1 hy)).2 (hs y (by simp [hy]))
  rw [List.length_erase_of_mem hx] at this
  have:0 < m.length:=List.length_pos_of_mem hx
  simp only [List.length_cons]; omega
def Qbmz (a:Qa) (x e:Int):Option Int:=if e∈a.zJ then (if 0≤Qej a x e then some (Qej a x e) else none) else some x
def Q6j:List Qa→List Int→Int→Option (List Int)
 | a :: l,x :: t,e=>match Qbmz a x e with
  | some y=>(Q6j l t e).map (y :: ·)
  | none=>none
 | _,_,_=>some []
def Qbgm (e:Int):List Int→List (Qa×Int)→Option (List Int)
 | acc,[]=>some acc
 | acc,q :: qs=>match Qbmz q.1 q.2 e with
  | some y=>Qbgm e (acc ++ [y]) qs
  | none=>none
theorem Qbl6 {e:Int}:∀ {l:List Qa} {t acc:List Int},Qbgm e acc (l.zip t)=(Q6j l t e).map (acc ++ ·)
 | [],t,acc=>by simp [Qbgm,Q6j]
 | a :: l,[],acc=>by simp [Qbgm,Q6j]
 | a :: l,x :: t,acc=>by
  rw [List.zip_cons_cons,Qbgm,Q6j]
  cases Qbmz a x e with
  | none=>rfl
  | some y =>
   dsimp only
   rw [Qbl6]
   cases Q6j l t e <;> simp
theorem Qbin:∀ {l:List Qa} {t:List Int} {e:Int} {r:List Int},(∀ a∈l,Right a)→InT l t→Q6j l t e=some r→InT l r
 | [],[],e,r,_,_,h=>by simp [Q6j] at h; subst h; trivial
 | a :: l,x :: t,e,r,hr,hi,h=>by
  rw [Q6j] at h
  cases h1:Qbmz a x e with
  | none=>rw [h1] at h; cases h
  | some y =>
   rw [h1] at h
   dsimp only at h
   obtain ⟨r',h2,rfl⟩:=Option.map_eq_some_iff.1 h
   refine ⟨?_,Qbin (fun b hb=>hr b (by simp [hb])) hi.2 h2⟩
   unfold Qbmz at h1
   split at h1
   ·split at h1 <;> cases h1
    rename_i h3
    have:=Qbf5 (hr a (by simp)) x e
    omega
   ·cases h1; exact hi.1
 | [],_ :: _,_,_,_,h,_=>h.elim
 | _ :: _,[],_,_,_,h,_=>h.elim
def mkT (l:List Qa) (t:List Int):Bool:=(l.zip t).all fun q=>decide (q.2∈q.1.zK)
structure Parts (l:List Qa):Prop where
 r:∀ a∈l,Right a
 s:∀ a∈l,a.zM≤100
 n:l.length≤12
 b:(allT l).length≤4000
section
variable {l:List Qa} (h:Parts l)
include h
theorem Parts.big:l.length < Go.Abs.big:=by have:=h.n; unfold Go.Abs.big; omega
theorem Qva:Qj4 l=some 0:=by
 unfold Qj4 Qcs
 have hn:=h.n
 rw [if_neg (by omega)]
 refine Qkt (len:=l.length) (fun _=>some 0) (by unfold Qb2; omega) (fun k n hn' hk=>?_) (fun k=>?_)
 ·rw [if_pos (by omega),Qbi hn',Option.bind_some,Qbf6 (h.r _ (List.getElem_mem hn')),Option.bind_some,if_neg (by simp),Qcu (by omega)]
  exact hk
 ·rw [if_neg (by omega)]
structure EvsU (l:List Qa) (R:List Int):Prop where
 so:R.Pairwise (· < ·)
 me:∀ x,x∈R↔∃ a∈l,x∈a.zJ
theorem EvsU.rg {R:List Int} (hR:EvsU l R):∀ x∈R,0≤x∧x < 32:=fun x hx=>by
 obtain ⟨a,ha,hx⟩:=(hR.me x).1 hx
 exact (h.r a ha).al0 x hx
theorem Qbr8:∃ R,Qfd l=some R∧EvsU l R:=by
 unfold Qfd Qd4
 have hb:=h.n
 obtain ⟨R,h1,h2⟩ : ∃ R,Qcv (fun k4 ((out2,x3):(List Int)×Int)=>(if (x3 < (l.length:Int)) then ((getO l x3).bind fun x6=>((Qij out2 x6.zJ).bind fun x9=>k4 (x9,(IntKind.wrap .i64 (x3+1))))) else some out2)) Qb2 ([],0)=some R∧EvsU l R:=by
  refine Qhe (fun x:List Int×Int=>∃ n:Nat,x.2=n∧n≤l.length∧EvsU (l.take n) x.1) (fun x=>l.length - x.2.toNat) (fun _ r=>∃ R,r=some R∧EvsU l R) ?_ Qb2 ([],0) ⟨0,rfl,Nat.zero_le _,.nil,fun x=>by simp⟩ (by unfold Qb2; dsimp only; omega)
  rintro k ⟨out,x⟩ ⟨n,hx,hn,he⟩ ih
  dsimp only at hx he ih ⊢
  subst hx
  by_cases hlt:n < l.length
  ·have ha:=h.r _ (List.getElem_mem hlt)
   have hl1:out.length≤32:=Qbel he.so fun x hx=>by
    obtain ⟨a,ha,hx⟩:=(he.me x).1 hx
    exact (h.r a (List.mem_of_mem_take ha)).al0 x hx
   have hl2:=ha.small.2.1
   obtain ⟨R,k1,k2,k3⟩:=Qbqc he.so ha.al (by unfold Go.Abs.big; omega)
   rw [if_pos (by omega),Qbi hlt,Option.bind_some,k1,Option.bind_some,Qcu (by omega)]
   refine ih (R,((n+1:Nat):Int)) ⟨n+1,rfl,hlt,k2,fun x=>?_⟩ (by dsimp only; omega)
   rw [k3,he.me]
   have htk:l.take (n+1)=l.take n ++ [l[n]]:=List.take_succ_eq_append_getElem hlt
   rw [htk]
   constructor
   ·rintro (⟨a,ha,hx⟩ | hx)
    ·exact ⟨a,List.mem_append_left _ ha,hx⟩
    ·exact ⟨l[n],List.mem_append_right _ (List.mem_singleton_self _),hx⟩
   ·rintro ⟨a,ha,hx⟩
    rcases List.mem_append.1 ha with ha | ha
    ·exact .inl ⟨a,ha,hx⟩
    ·simp only [List.mem_singleton] at ha; subst ha; exact .inr hx
  ·rw [if_neg (by omega)]
   have:n=l.length:=by omega
   subst this
   rw [List.take_length] at he
   exact ⟨out,rfl,he⟩
 rw [h1]
 exact ⟨R,rfl,h2⟩
theorem Qbl7 {R:List Int} (hR:Qfd l=some R):Qoo l=some ⟨l,R,l.map edM⟩:=by
 unfold Qoo Qes
 obtain ⟨fuel,hfu,hge⟩ : ∃ f,Qb2=f∧1099511627776≤f:=⟨_,rfl,Nat.le_refl _⟩
 have hn:=h.n
 rw [hfu,hR,Option.bind_some]
 refine Option.bind_eq_some_iff.2 ⟨([],[],[],l.map edM),?_,rfl⟩
 refine (Qu9 (l:=l) (fun i (s:List (List ((Int×Int)×Int)))=>(i,([]:List Qa),([]:List Int),([]:List (List ((Int×Int)×Int))),s)) (fun s a=>s ++ [edM a]) (fun n s=>s.length≤n) (fun s=>some ([],[],[],s)) h.big hge (fun k n s hn' hs=>?_) (fun n s _ hs=>by simp only [List.length_append,List.length_cons,List.length_nil]; omega) (fun k s hs=>?_) (s0:=[]) (by simp)).trans ?_
 ·dsimp only
  rw [if_pos (by omega),Qbi hn',Option.bind_some]
  have ha:=(h.r _ (List.getElem_mem hn')).small
  rw [Qu9 (l:=l[n].zL) (fun i (s:List ((Int×Int)×Int))=>(i,s)) (fun c x=>setM c (x.From,x.Event) x.To) (fun _ _=>True) (fun s=>some s) ha.1.2.2 hge (fun k m s hm _=>?_) (fun _ _ _ _=>trivial) (fun k s _=>?_) (s0:=[]) trivial]
  ·rw [Option.bind_some,Qde (by simp only [List.length_cons,List.length_nil]; unfold lim; omega),Option.bind_some,Option.bind_some]
   rfl
  ·dsimp only
   rw [if_pos (by omega),Qbi hm,Option.bind_some]
  ·dsimp only
   rw [if_neg (by omega)]
 ·dsimp only
  rw [if_neg (by omega)]
 ·have:∀ (m:List Qa) (s:List (List ((Int×Int)×Int))),m.foldl (fun s a=>s ++ [edM a]) s=s ++ m.map edM:=fun m=>by
   induction m with
   | nil=>intro s; simp
   | cons a m ih=>intro s; rw [List.foldl_cons,ih]; simp
  rw [this,List.nil_append]
variable {R:List Int} (hR:EvsU l R)
theorem Qbho:Qev ⟨l,R,l.map edM⟩=some (if l.any (fun a=>a.zM == 0) then ([],false) else (List.replicate l.length 0,true)):=by
 unfold Qev Qbx
 obtain ⟨fuel,hfu,hge⟩ : ∃ f,Qb2=f∧1099511627776≤f:=⟨_,rfl,Nat.le_refl _⟩
 have hn:=h.n
 rw [hfu]
 dsimp only
 have hmk:mkO ((l.length:Nat):Int) (0:Int)=some (List.replicate l.length 0):=by unfold mkO lim; rw [if_pos (by omega),Int.toNat_natCast]
 rw [Qbga (l:=l) (fun i=>i) (fun a=>a.zM == 0) (fun _=>some ([],false)) (some (List.replicate l.length 0,true)) h.big hge (fun k n hn'=>?_) (fun k=>?_)]
 ·cases hf:l.find? fun a=>a.zM == 0 with
  | none =>
   have:l.any (fun a=>a.zM == 0)=false:=by
    rw [List.find?_eq_none] at hf
    rw [List.any_eq_false]; exact hf
   rw [this]; rfl
  | some x =>
   have:l.any (fun a=>a.zM == 0)=true:=List.any_eq_true.2 ⟨x,List.mem_of_find?_eq_some hf,List.find?_some (p:=fun a:Qa=>a.zM == 0) hf⟩
   rw [this]; rfl
 ·rw [if_pos (by omega),Qbi hn',Option.bind_some]
 ·rw [if_neg (by omega),hmk,Option.bind_some,Qboy (by simp),Option.bind_some]
theorem Qbo3 {t:List Int} (ht:InT l t):Qe7 ⟨l,R,l.map edM⟩ t=some (mkT l t):=by
 unfold Qe7 Qb5
 obtain ⟨fuel,hfu,hge⟩ : ∃ f,Qb2=f∧1099511627776≤f:=⟨_,rfl,Nat.le_refl _⟩
 have hn:=h.n
 have hl:=ht.len
 rw [hfu]
 dsimp only
 unfold mkT
 refine Qkt (len:=l.length) (fun n=>some (((l.zip t).drop n).all fun q=>decide (q.2∈q.1.zK))) (by omega) (fun k n hn' hk=>?_) (fun k=>?_)
 ·have ha:=h.r _ (List.getElem_mem hn')
  rw [if_pos (by omega),Qbi hn',Option.bind_some,Qbi (show n < t.length by omega),Option.bind_some,Qln ha.ma ha.small.1.2.1,Option.bind_some,Qcu (by omega),hk,List.drop_eq_getElem_cons (show n < (l.zip t).length by rw [List.length_zip]; omega),List.all_cons,List.getElem_zip]
  by_cases hm:t[n]∈l[n].zK
  ·rw [decide_eq_true hm,if_pos rfl,Bool.true_and]
  ·rw [decide_eq_false hm,if_neg (by simp),Bool.false_and]
 ·rw [if_neg (by omega),List.drop_of_length_le (by rw [List.length_zip]; omega)]; rfl
theorem Qbqf {t:List Int} (ht:InT l t) (hne:t≠[]) (e:Int):Qf1 ⟨l,R,l.map edM⟩ t e=some (match Q6j l t e with | some r=>(r,true) | none=>([],false)):=by
 unfold Qf1 Qci
 obtain ⟨fuel,hfu,hge⟩ : ∃ f,Qb2=f∧1099511627776≤f:=⟨_,rfl,Nat.le_refl _⟩
 have hn:=h.n
 have hl:=ht.len
 have hc:Qgg t=some t:=by
  unfold Qgg Qbr
  cases t with
  | nil=>exact absurd rfl hne
  | cons x t=>first | rfl | (show (appO [] (x :: t)).bind _=_; rw [Qde (by simp only [List.length_nil]; unfold lim; simp only [List.length_cons] at hl ⊢; omega)]; simp)
 have hno:neO t=some ():=by
  cases t with
  | nil=>exact absurd rfl hne
  | cons x t=>rfl
 rw [hfu,hc,Option.bind_some,hno,Option.bind_some]
 dsimp only
 have hS:Qbgm e [] (l.zip t)=Q6j l t e:=by rw [Qbl6]; cases Q6j l t e <;> simp
 rw [← hS]
 refine Qbei (fun x:Int×List Int=>∃ (n:Nat) (acc:List Int),x.1=n∧n≤l.length∧acc.length=n∧x.2=acc ++ t.drop n∧Qbgm e acc ((l.zip t).drop n)=Qbgm e [] (l.zip t)) (fun x=>l.length - x.1.toNat) _ ⟨0,[],rfl,Nat.zero_le _,rfl,by simp,by simp⟩ (by dsimp only; omega) ?_
 rintro k ⟨x,nx⟩ ⟨n,acc,hx,hnl,hacc,hnx,hst⟩ ih
 dsimp only at hx hnx hst ih ⊢
 subst hx hnx
 by_cases hlt:n < l.length
 ·have ha:=h.r _ (List.getElem_mem hlt)
  rw [if_pos (by omega)]
  unfold letJ
  dsimp only
  rw [Qbi hlt,Option.bind_some,Qln ha.al ha.small.1.1,Option.bind_some,Qcu (by omega)]
  rw [List.drop_eq_getElem_cons (show n < (l.zip t).length by rw [List.length_zip]; omega),List.getElem_zip,Qbgm] at hst
  have htn:t.drop n=t[n] :: t.drop (n+1):=List.drop_eq_getElem_cons (by omega)
  unfold Qbmz at hst
  dsimp only at hst
  by_cases hm:e∈l[n].zJ
  ·rw [if_pos hm] at hst
   rw [decide_eq_true hm,if_pos rfl,Qbi (show n < (l.map edM).length by simpa using hlt),Option.bind_some,Qbi (show n < t.length by omega),Option.bind_some,List.getElem_map,Qbkz ha]
   by_cases h0:0≤Qej l[n] t[n] e
   ·rw [if_pos h0] at hst
    dsimp only at hst
    rw [decide_eq_true h0,if_pos rfl,Qbs9 (by omega) (by omega),Option.bind_some,Qbo2 ha h0,Qbr4 (by omega) (by simp only [List.length_append,List.length_drop]; omega),Option.bind_some]
    refine ih _ ⟨n+1,acc ++ [Qej l[n] t[n] e],rfl,hlt,by simp [hacc],?_,hst⟩ (by dsimp only; omega)
    dsimp only
    rw [htn,Int.toNat_natCast,List.set_append_right _ _ (by omega),hacc,Nat.sub_self,List.set_cons_zero,List.append_assoc]; rfl
   ·rw [if_neg h0] at hst
    dsimp only at hst
    rw [decide_eq_false h0,if_neg (by simp),← hst]
  ·rw [if_neg hm] at hst
   dsimp only at hst
   rw [decide_eq_false hm,if_neg (by simp)]
   refine ih _ ⟨n+1,acc ++ [t[n]],rfl,hlt,by simp [hacc],?_,hst⟩ (by dsimp only; omega)
   dsimp only
   rw [htn,List.append_assoc]
   first | done | rfl
 ·rw [if_neg (by omega)]
  have hnn:n=l.length:=by omega
  rw [List.drop_of_length_le (by rw [List.length_zip]; omega),Qbgm] at hst
  rw [← hst,List.drop_of_length_le (by omega),List.append_nil,Qboy (by omega),Option.bind_some]
include hR in
theorem Parts.dom:DomT (Q6j l) R (InT l) 4000 where
 ky:=fun t ht x hx=>by
  obtain ⟨i,hi,rfl⟩:=List.getElem_of_mem hx
  have:=ht.get i (by rw [← ht.len]; exact hi) hi
  have:=h.s _ (List.getElem_mem (show i < l.length by rw [← ht.len]; exact hi))
  omega
 cl:=fun t ht e _ r hr=>Qbin h.r ht hr
 bd:=fun m hm hs=>Nat.le_trans (Qbl5 hm fun x hx=>Qbl4 (hs x hx)) h.b
 nn:=Nat.le_refl _
 so:=hR.so
 rg:=hR.rg h
end
end Go.Abs
end
section
namespace Go.Abs
open Go
theorem Qbk0 {l:List Qa} (h:Parts l) {t:List Int} (ht:InT l t):keyI t=some (keyB t)∧Qbik t:=by
 have hk:Qbik t:=fun x hx=>by
  obtain ⟨i,hi,rfl⟩:=List.getElem_of_mem hx
  have:=ht.get i (by rw [← ht.len]; exact hi) hi
  have:=h.s _ (List.getElem_mem (show i < l.length by rw [← ht.len]; exact hi))
  omega
 have hn:=h.n
 have hl:=ht.len
 refine ⟨?_,hk⟩
 unfold keyI
 rw [if_pos ⟨by unfold lim; omega,hk⟩]
theorem InT.zero:∀ {l:List Qa},(∀ a∈l,Right a)→l.any (fun a=>a.zM == 0)=false→InT l (List.replicate l.length 0)
 | [],_,_=>trivial
 | a :: l,hr,h=>by
  simp only [List.any_cons,Bool.or_eq_false_iff,beq_eq_false_iff_ne] at h
  have:=(hr a (by simp)).st
  exact ⟨⟨Int.le_refl _,by omega⟩,InT.zero (fun b hb=>hr b (by simp [hb])) h.2⟩
def bld0 (l:List Qa) (R:List Int):List (List Int)×List Int×List Qc :=
 bldM (Q6j l) (mkT l) R 4001 0 [] ([List.replicate l.length 0],[],setM ([]:List (ByteArray×Int)) (keyB (List.replicate l.length 0)) 0)
section
variable {l:List Qa} (h:Parts l) {R:List Int} (hR:EvsU l R)
include h
theorem Qbj3 (h0:l.any (fun a=>a.zM == 0)=false):FndT R (InT l) 0 ([List.replicate l.length 0],[],setM ([]:List (ByteArray×Int)) (keyB (List.replicate l.length 0)) 0):=by
 have hz:=InT.zero h.r h0
 refine ⟨by simp,fun x hx=>?_,?_,.nil,fun x hx=>by simp at hx⟩
 ·simp only [List.mem_singleton] at hx; subst hx; exact hz
 ·have h1:MapK ([]:List (ByteArray×Int)) []:=fun r _=>⟨by simp [hasM],fun h=>by simp at h⟩
  exact h1.ins (by simp) (Qbk0 h hz).2
include hR
theorem Qbm0 (h0:l.any (fun a=>a.zM == 0)=false):Right ⟨R,((bld0 l R).1.length:Int),(bld0 l R).2.1,(bld0 l R).2.2⟩∧(∀ x∈(bld0 l R).1,InT l x)∧(bld0 l R).1.length≤4000∧[List.replicate l.length 0] <+: (bld0 l R).1 :=
 Qbhn (h.dom hR) (mkT l) (Qbj3 h h0) ⟨fun x hx=>by simp at hx,.nil⟩ (by simp) (by omega)
theorem Qbo4 (hne:l≠[]) (h0:l.any (fun a=>a.zM == 0)=false) (hE:Qfd l=some R):Qcd l=some (⟨R,((bld0 l R).1.length:Int),(bld0 l R).2.1,(bld0 l R).2.2⟩,(bld0 l R).1,0):=by
 unfold Qcd Q2
 obtain ⟨fuel,hfu,hge⟩ : ∃ f,Qb2=f∧1099511627776≤f:=⟨_,rfl,Nat.le_refl _⟩
 have hz:=InT.zero h.r h0
 have hd:=h.dom hR
 have hRl:=Qbel hR.so (hR.rg h)
 rw [hfu,Qva h,Option.bind_some,if_neg (by simp),Qbl7 h hE,Option.bind_some,Qbho h,h0,if_neg (by simp),Option.bind_some]
 dsimp only
 rw [if_pos rfl,(Qbk0 h hz).1,Option.bind_some]
 have hlen:=hz.len
 refine Qbei (fun x:List (List Int)×Int×List Int×List Qc×List (ByteArray×Int)=>∃ i:Nat,x.2.1=i∧i≤x.1.length∧FndT R (InT l) i (x.1,x.2.2.2.1,x.2.2.2.2)∧x.2.2.1.length≤i∧x.2.2.2.1.length≤32 * i ∧
  bldM (Q6j l) (mkT l) R (4001 - i) i x.2.2.1 (x.1,x.2.2.2.1,x.2.2.2.2)=bld0 l R) (fun x=>4001 - x.2.1.toNat) _ ⟨0,rfl,by simp,Qbj3 h h0,by simp,by simp,rfl⟩ (by dsimp only; omega) ?_
 rintro k ⟨st,x,ms,es,c⟩ ⟨i,hx,hi,hf,hms,hes,hB⟩ ih
 dsimp only at hx hi hf hms hes hB ih ⊢
 subst hx
 have hN:st.length≤4000:=hf.len hd
 by_cases hlt:i < st.length
 ·have hs:InT l st[i]:=hf.su _ (List.getElem_mem hlt)
  have hg:st[i]? = some st[i]:=List.getElem?_eq_getElem hlt
  generalize hsd:st[i]=s at hs hg
  rw [if_pos (by omega),Qbi hlt,Option.bind_some,hsd,Qbo3 h hs,Option.bind_some]
  obtain ⟨f,hfi⟩ : ∃ f,4001 - i=f+1:=⟨4000 - i,by omega⟩
  rw [hfi,bldM] at hB
  dsimp only at hB
  rw [hg] at hB
  dsimp only at hB
  have hm2:(if mkT l s=true then (appO ms [(i:Int)]).bind fun x25=>some x25 else some ms)=some (if mkT l s then ms ++ [(i:Int)] else ms):=by
   cases mkT l s with
   | true=>rw [if_pos rfl,if_pos rfl,Qde (by simp only [List.length_cons,List.length_nil]; unfold lim; omega),Option.bind_some]
   | false=>rfl
  rw [hm2,Option.bind_some]
  obtain ⟨r1,r2,r3⟩:=hf.row hd (i:=i) hs
  have hml:(if mkT l s=true then ms ++ [(i:Int)] else ms).length≤i+1:=by
   split
   ·simp only [List.length_append,List.length_cons,List.length_nil]; omega
   ·omega
  generalize (if mkT l s=true then ms ++ [(i:Int)] else ms)=ms' at hB hml
  have hsne:s≠[]:=by
   intro e
   have:=hs.len
   rw [e] at this
   exact hne (List.eq_nil_of_length_eq_zero this.symm)
  have hRw:∀ (n:Nat) (p:TS),n≤R.length→RowT R (InT l) i (R.take n) (st,es,c) p→p.1.length≤4000:=fun n p _ hp=>Nat.le_trans (hd.bd _ hp.nd hp.su) (Nat.le_refl _)
  refine (Qu9 (l:=R) (fun j (p:TS)=>(p.1,j,p.2.1,p.2.2)) (rowM (Q6j l) i s) (fun n p=>n≤R.length∧RowT R (InT l) i (R.take n) (st,es,c) p) (fun p=>k (p.1,(IntKind.wrap .i64 ((i:Int)+1)),ms',p.2.1,p.2.2)) (by unfold big; omega) hge (fun k2 n p hn hp=>?_) (fun n p hn hp=>?_) (fun k2 p hp=>?_) (s0:=(st,es,c)) ⟨Nat.zero_le _,hf.nd,hf.su,hf.mp,List.prefix_refl _,hf.ed,fun x hx=>by
   obtain ⟨a1,a2,a3,a4,a5⟩:=hf.er x hx
   exact ⟨a1,by omega,a3,a4,a5,fun hq=>by omega⟩,by simp⟩).trans ?_
  ·obtain ⟨hp0,hp⟩:=hp
   have hpl:=hRw n p hp0 hp
   have hpe:=hp.ln
   have htl:(R.take n).length≤32:=by rw [List.length_take]; omega
   dsimp only at hpe
   dsimp only
   rw [if_pos (by omega)]
   unfold letJ
   dsimp only
   have hgs:getO p.1 (i:Int)=some s:=by
    have:=Q6x hp.pre hg
    rw [Qbi (List.getElem?_eq_some_iff.1 this).1]
    exact (List.getElem?_eq_getElem _).symm.trans this
   rw [Qbi hn,Option.bind_some,hgs,Option.bind_some,Qbqf h hs hsne,Option.bind_some]
   unfold rowM
   cases hst:Q6j l s R[n] with
   | none=>rfl
   | some t =>
    have ht:=Qbin h.r hs hst
    obtain ⟨hk1,hk2⟩:=Qbk0 h ht
    obtain ⟨hm1,hm2⟩:=hp.mp t hk2
    dsimp only
    rw [if_pos rfl,hk1,Option.bind_some,hm1]
    by_cases hmem:t∈p.1
    ·rw [decide_eq_true hmem,if_pos rfl,if_pos hmem,hm2 hmem,Qde (by simp only [List.length_cons,List.length_nil]; unfold lim; omega),Option.bind_some]
    ·rw [decide_eq_false hmem,if_neg (by simp),if_neg hmem,if_neg (by simp only [beq_iff_eq]; omega),Option.bind_some,Qde (by simp only [List.length_cons,List.length_nil]; unfold lim; omega),Option.bind_some,Qde (by simp only [List.length_cons,List.length_nil]; unfold lim; omega),Option.bind_some]
  ·obtain ⟨hp0,hp⟩:=hp
   refine ⟨hn,?_⟩
   have htk:R.take (n+1)=R.take n ++ [R[n]]:=List.take_succ_eq_append_getElem hn
   rw [htk]
   refine hp.step hd hs (List.getElem_mem hn) fun x hx=>?_
   have hso:=hR.so
   obtain ⟨j,hj,rfl⟩:=List.getElem_of_mem hx
   rw [List.length_take] at hj
   rw [List.getElem_take]
   exact List.pairwise_iff_getElem.1 hso j n (by omega) hn (by omega)
  ·dsimp only
   rw [if_neg (by omega)]
  ·rw [Qcu (by omega)]
   have hle:=r2.length_le
   dsimp only at hle r3
   refine ih _ ⟨i+1,rfl,by dsimp only; omega,r1,hml,?_,?_⟩ (by dsimp only; omega)
   ·dsimp only; omega
   ·dsimp only
    rw [show 4001 - (i+1)=f from by omega]
    exact hB
 ·rw [if_neg (by omega)]
  have hg:st[i]? = none:=List.getElem?_eq_none (by omega)
  obtain ⟨f,hfi⟩ : ∃ f,4001 - i=f+1:=⟨4000 - i,by omega⟩
  rw [hfi,bldM] at hB
  dsimp only at hB
  rw [hg] at hB
  dsimp only at hB
  rw [← hB]
omit hR in
theorem Qbo5 (h0:l.any (fun a=>a.zM == 0)=true) (hE:Qfd l=some R):Qcd l=some (⟨R,0,[],[]⟩,[],0):=by
 unfold Qcd Q2
 rw [Qva h,Option.bind_some,if_neg (by simp),Qbl7 h hE,Option.bind_some,Qbho h,h0,if_pos rfl,Option.bind_some]
 rfl
end
structure Prd (l:List Qa) (A:Qa) (T:List (List Int)):Prop where
 r:Right A
 st:A.zM=T.length
 t:∀ x∈T,InT l x
 n:T.length≤4000
 ev:EvsU l A.zJ
theorem Qbr9 {l:List Qa} (h:Parts l) (hne:l≠[]):∃ A T,Qcd l=some (A,T,0)∧Prd l A T:=by
 obtain ⟨R,hE,hR⟩:=Qbr8 h
 cases h0:l.any fun a=>a.zM == 0 with
 | true=>exact ⟨_,_,Qbo5 h h0 hE,{ r:={ al0:=hR.rg h,al:=hR.so,st:=⟨Int.le_refl 0,by show (0:Int)≤4096; decide⟩,ma0:=fun x hx=>by simp at hx,ma:=List.Pairwise.nil,ed0:=fun x hx=>by simp at hx,ed:=List.Pairwise.nil },st:=rfl,t:=fun x hx=>by simp at hx,n:=by simp,ev:=hR }⟩
 | false =>
  obtain ⟨k1,k2,k3,k4⟩:=Qbm0 h hR h0
  exact ⟨_,_,Qbo4 h hR hne h0 hE,k1,rfl,k2,k3,hR⟩
end Go.Abs
end
section
namespace Go.Abs
open Go
structure Qbsa (p:Qh) (R:List Int):Prop where
 ln:R.length=p.zA.zM.toNat
 nn:∀ x:Int,0≤x→x < p.zA.zM→0≤ati R x
section
variable {p:Qh} (hp:RightP p) {R:List Int} (hR:Qbsa p R) {s:Int} (T:List Qo) (r:Int)
include hp hR
end
end Go.Abs
end
section
namespace Go.Abs
open Go
structure Grow (p:Qh) (L:List Bool) (d:Int) (out out' : List Int):Prop where
 ln:out'.length=out.length
 vl:∀ y,0≤y→y < p.zA.zM→ati out' y=ati out y∨(ati out y < 0∧ati out' y=d+1∧lf L y=true∧∃ e∈p.zA.zL,e.From=y∧lf L e.To=true∧ati out e.To=d)
section
variable {p:Qh} (hp:RightP p) {L:List Bool} {d:Int} (hd:0≤d)
theorem Grow.refl (out:List Int):Grow p L d out out:=⟨rfl,fun _ _ _=>.inl rfl⟩
include hp hd
theorem Grow.trans {a b c:List Int} (h:Grow p L d a b) (k:Grow p L d b c):Grow p L d a c:=by
 refine ⟨k.ln.trans h.ln,fun y h0 h1=>?_⟩
 rcases k.vl y h0 h1 with e | ⟨k1,k2,k3,e,he,k4,k5,k6⟩
 ·rw [e]; exact h.vl y h0 h1
 ·rcases h.vl y h0 h1 with e1 | ⟨_,e1,_⟩
  ·refine .inr ⟨by omega,k2,k3,e,he,k4,k5,?_⟩
   have hr:=hp.a.ed0 e he
   rcases h.vl e.To hr.2.2.1 hr.2.2.2.1 with e2 | ⟨_,e2,_⟩ <;> omega
  ·omega
end
section
variable {p:Qh} (hp:RightP p) (L:List Bool)
include hp
end
end Go.Abs
end
section
namespace Go.Abs
open Go
theorem Qbj4 {n:Int} {k:Nat} (h:k < (upto n).length):k < n.toNat:=by rw [Qvy] at h; exact h
section
variable {p:Qh} (hp:RightP p) {L:List Bool} {d:Int} (hd:0≤d)
include hp hd
end
section
variable {p:Qh} (hp:RightP p) {L:List Bool} (hL:L.length=p.zA.zM.toNat)
include hp hL
end
section
variable {p:Qh} (hp:RightP p) {R:List Int} (hR:Qbsa p R) (T:List Qo) (r:Int)
include hp hR
end
end Go.Abs
end
section
namespace Go.Abs
open Go
section
variable {p:Qh} (hp:RightP p) {L:List Bool} (hL:L.length=p.zA.zM.toNat) (rank:Int)
include hp hL
end
section
variable {p:Qh} (hp:RightP p) {R:List Int} (hR:Qbsa p R) (T:List Qo) (r rank:Int)
include hp hR
end
end Go.Abs
end
section
namespace Go.Abs
open Go
abbrev nS (p:Qh):Nat:=p.zA.zM.toNat
structure Okt (p:Qh) (T:List Qo):Prop where
 rg:∀ x∈T,0≤x.State∧x.State < p.zA.zM
 rk:∀ x∈T,1≤x.Rank
 nd:(T.map (·.State)).Nodup
theorem Okt.len {p:Qh} {T:List Qo} (h:Okt p T):T.length≤nS p:=by
 have hsub:∀ x∈T.map (·.State),x∈upto p.zA.zM:=fun x hx=>by
  obtain ⟨y,hy,rfl⟩:=List.mem_map.1 hx
  exact Qbl2.2 (h.rg y hy)
 have hlen:∀ {l m:List Int},l.Nodup→(∀ x∈l,x∈m)→l.length≤m.length:=fun {l m} h hs=>by
  induction l generalizing m with
  | nil=>simp
  | cons x l ih =>
   obtain ⟨a1,a2⟩:=List.nodup_cons.1 h
   have hx:=hs x (by simp)
   have:=ih (m:=m.erase x) a2 fun y hy=>(List.mem_erase_of_ne (by rintro rfl; exact a1 hy)).2 (hs y (by simp [hy]))
   rw [List.length_erase_of_mem hx] at this
   have:0 < m.length:=List.length_pos_of_mem hx
   simp only [List.length_cons]; omega
 have:=hlen h.nd hsub
 rw [List.length_map,Qvy] at this
 exact this
def r0 (p:Qh):Int:=if p.zC=[] then 0 else 1
end Go.Abs
end
section
namespace Go.Abs
open Go
section
variable {p:Qh} (hp:RightP p)
include hp
end
end Go.Abs
end
section
namespace Go.Abs
open Go
theorem Qbl8 {β:Type} {z v:β} {k k' : Int}:∀ {m:List (Int×β)},getM (setM m k v) k' z=if k' = k then v else getM m k' z
 | []=>by simp [setM,getM]
 | (q,w) :: m=>by
  by_cases h1:k=q
  ·subst h1
   by_cases h2:k' = k <;> simp [setM,getM,h2]
  ·have h1' : (k == q)=false:=by simp [h1]
   simp only [setM,h1',Bool.false_eq_true,if_false,getM]
   rw [Qbl8 (m:=m)]
   by_cases h2:k' = q
   ·subst h2
    have:k' ≠ k:=fun e=>h1 e.symm
    simp [this]
   ·simp [h2]
theorem Qbl9 {β:Type} {v:β} {k k' : Int}:∀ {m:List (Int×β)},hasM (setM m k v) k' = (decide (k' = k) || hasM m k')
 | []=>by
  simp only [setM,hasM,List.any_cons,List.any_nil,Bool.or_false]
  rw [Bool.eq_iff_iff]; simp
 | (q,w) :: m=>by
  by_cases h1:k=q
  ·subst h1
   simp only [setM,beq_self_eq_true,if_true,Qtq]
   rw [Bool.eq_iff_iff]; simp
  ·have h1' : (k == q)=false:=by simp [h1]
   simp only [setM,h1',Bool.false_eq_true,if_false,Qtq]
   rw [Qbl9 (m:=m)]
   cases (k' == q) <;> cases decide (k' = k) <;> simp
def MapOk (m:List (Int×Int)) (st:List Int):Prop:=∀ r,hasM m r=decide (r∈st)∧(r∈st→getM m r 0=(st.idxOf r:Int))
theorem MapOk.ins {m:List (Int×Int)} {st:List Int} (h:MapOk m st) {r:Int} (hr:r∉st):MapOk (setM m r (st.length:Int)) (st ++ [r]):=by
 intro x
 obtain ⟨h1,h2⟩:=h x
 refine ⟨?_,fun hx=>?_⟩
 ·rw [Qbl9,h1,Bool.eq_iff_iff]; simp; exact Or.comm
 ·rw [Qbl8]
  by_cases hxr:x=r
  ·subst hxr
   rw [if_pos rfl,List.idxOf_append]
   simp [hr]
  ·rw [if_neg hxr]
   have hx' : x∈st:=by
    rcases List.mem_append.1 hx with hx | hx
    ·exact hx
    ·simp at hx; exact absurd hx hxr
   rw [h2 hx',List.idxOf_append,if_pos hx']
section
variable {p:Qh} (hp:RightP p) {L:List Bool}
include hp
variable (hL:L.length=nS p)
include hL
end
end Go.Abs
end
section
namespace Go.Abs
open Go
section
variable {p:Qh} (hp:RightP p)
include hp
end
end Go.Abs
end
section
namespace Go.Abs
open Go
section
variable {p:Qh} (hp:RightP p) {T:List Qo} (hT:Okt p T) (r:Int)
include hp
include hT
end
end Go.Abs
end
section
namespace Go.Abs
open Go
section
variable {p:Qh} (hp:RightP p)
include hp
end
theorem Qbo6 {a b:List Int} (h:a.length < big):Qp7 a b=some (decide (a=b)):=by
 unfold Qp7 Qdv
 rw [Qbgb h]; rfl
end Go.Abs
end
section
namespace Go.Abs
open Go
theorem Qbqg {l m:List Int} (hl:l.Pairwise (· < ·)) (hm:m.Pairwise (· < ·)) (h1:l.length < big) (h2:m.length < 1000000):Qkv l m=some (l.filter fun x=>decide (x∉m)):=by
 unfold Qkv Qd2 Qga Qb8
 obtain ⟨fuel,hfu,hge⟩ : ∃ f,Qb2=f∧1099511627776≤f:=⟨_,rfl,Nat.le_refl _⟩
 rw [hfu]
 have hg:∀ (x:Int) (l:List Int),getO (x :: l) 0=some x:=fun x l=>Qbi (l:=x :: l) (n:=0) (by simp)
 have hd:∀ (x:Int) (l:List Int),slcO (x :: l) 1 ((x :: l).length:Int)=some l:=fun x l=>by
  have:=Qbej (l:=x :: l) (i:=1) (j:=(x :: l).length) (by simp) (by simp)
  rw [List.take_length] at this
  exact this
 have hk:∀ p q,Qm8 p q=some (p && !q):=fun p q=>by cases p <;> cases q <;> rfl
 rw [Qbei (fun x:List Int×List Int×List Int=>x.1.Pairwise (· < ·)∧x.2.1.Pairwise (· < ·)∧x.2.2.length+x.1.length < big∧x.2.2 ++ x.1.filter (fun z=>decide (z∉x.2.1))=l.filter fun z=>decide (z∉m)) (fun x=>x.1.length+x.2.1.length) (some (l.filter fun z=>decide (z∉m))) ⟨hl,hm,by simpa using h1,by simp⟩ (by unfold big at h1; dsimp only; omega) ?_]
 ·rfl
 rintro k ⟨a,b,out⟩ ⟨ha,hb,ho,he⟩ ih
 dsimp only at ha hb ho he ih ⊢
 match a,b with
 | [],[]=>simpa using he
 | [],y :: ys =>
  rw [show ((([]:List Int).length:Nat):Int)=0 from rfl]
  have hp:(((y :: ys).length:Nat):Int) > 0:=by simp only [List.length_cons]; omega
  rw [if_neg (by omega),Option.bind_some,if_pos (by simp)]
  rw [if_neg (by omega),Option.bind_some,if_pos hp,if_pos (by rfl),Option.bind_some,if_neg (by simp),Option.bind_some,if_pos rfl,hg,hd]
  simp only [Option.bind_some,hk,Bool.false_and,Bool.false_eq_true,if_false]
  exact ih ([],ys,out) ⟨ha,(List.pairwise_cons.1 hb).2,ho,by simpa using he⟩ (by simp)
 | x :: xs,[] =>
  rw [show ((([]:List Int).length:Nat):Int)=0 from rfl]
  have hp:(((x :: xs).length:Nat):Int) > 0:=by simp only [List.length_cons]; omega
  rw [if_pos hp,Option.bind_some,if_pos rfl,if_pos hp,if_pos (by rfl),Option.bind_some,if_neg (by omega),Option.bind_some,if_pos rfl,hg,hd]
  simp only [Option.bind_some,hk,Bool.true_and,Bool.not_false,Bool.false_eq_true,if_false,if_true]
  simp only [List.length_cons] at ho
  rw [Qde (by simp only [List.length_cons,List.length_nil]; unfold lim; unfold big at ho; omega),Option.bind_some]
  exact ih (xs,[],out ++ [x]) ⟨(List.pairwise_cons.1 ha).2,hb,by simp only [List.length_append,List.length_cons,List.length_nil]; omega,by simpa using he⟩ (by simp)
 | x :: xs,y :: ys =>
  obtain ⟨ha1,ha2⟩:=List.pairwise_cons.1 ha
  obtain ⟨hb1,hb2⟩:=List.pairwise_cons.1 hb
  have hp:(((x :: xs).length:Nat):Int) > 0:=by simp only [List.length_cons]; omega
  have hq:(((y :: ys).length:Nat):Int) > 0:=by simp only [List.length_cons]; omega
  have hp0:((((x :: xs).length:Nat):Int) == 0)=false:=by simp only [beq_eq_false_iff_ne]; omega
  have hq0:((((y :: ys).length:Nat):Int) == 0)=false:=by simp only [beq_eq_false_iff_ne]; omega
  rw [if_pos hp,Option.bind_some,if_pos rfl,if_pos hp,if_neg (by rw [hq0]; simp),hg,hg,Option.bind_some,Option.bind_some,Option.bind_some,if_pos hq,if_neg (by rw [hp0]; simp),Option.bind_some,Option.bind_some,Option.bind_some,hd,hd]
  simp only [List.length_cons] at ho
  rcases Int.lt_trichotomy x y with hxy | rfl | hxy
  ·have e1:decide (x≤y)=true:=decide_eq_true (by omega)
   have e2:decide (y≤x)=false:=decide_eq_false (by omega)
   simp only [e1,e2,Option.bind_some,hk,Bool.not_false,Bool.true_and,if_true,Bool.false_eq_true,if_false]
   rw [Qde (by simp only [List.length_cons,List.length_nil]; unfold lim; unfold big at ho; omega),Option.bind_some]
   have:x∉y :: ys:=fun hm=>by
    rcases List.mem_cons.1 hm with rfl | hm
    ·omega
    ·have:=hb1 _ hm; omega
   rw [List.filter_cons_of_pos (by simpa using this)] at he
   exact ih (xs,y :: ys,out ++ [x]) ⟨ha2,hb,by simp only [List.length_append,List.length_cons,List.length_nil]; omega,by rw [← he]; simp⟩ (by simp)
  ·have e1:decide (x≤x)=true:=decide_eq_true (by omega)
   simp only [e1,Option.bind_some,hk,Bool.not_true,Bool.and_false,if_true,Bool.false_eq_true,if_false]
   rw [List.filter_cons_of_neg (by simp)] at he
   refine ih (xs,ys,out) ⟨ha2,hb2,by simp only; omega,?_⟩ (by simp; omega)
   rw [← he]
   congr 1
   refine List.filter_congr fun z hz=>?_
   have:=ha1 z hz
   have hne:z≠x:=by omega
   simp [hne]
  ·have e1:decide (x≤y)=false:=decide_eq_false (by omega)
   have e2:decide (y≤x)=true:=decide_eq_true (by omega)
   simp only [e1,e2,Option.bind_some,hk,Bool.false_and,if_true,Bool.false_eq_true,if_false]
   refine ih (x :: xs,ys,out) ⟨ha,hb2,by simp only [List.length_cons]; omega,?_⟩ (by simp)
   rw [← he]
   congr 1
   refine List.filter_congr fun z hz=>?_
   have hne:z≠y:=by
    rcases List.mem_cons.1 hz with rfl | hz
    ·omega
    ·have:=ha1 z hz; omega
   simp [hne]
theorem Qbj5 {l m:List Int} (hl:l.Pairwise (· < ·)) (hm:m.Pairwise (· < ·)) (h1:l.length < big) (h2:m.length < 1000000):Qfn l m=some (decide (∀ x∈l,x∈m)):=by
 unfold Qfn Qb4
 rw [Qbqg hl hm h1 h2,Option.bind_some]
 congr 1
 rw [Bool.eq_iff_iff]
 simp only [beq_iff_eq,decide_eq_true_eq]
 constructor
 ·intro h x hx
  have:l.filter (fun x=>decide (x∉m))=[]:=List.eq_nil_of_length_eq_zero (by omega)
  have:=List.filter_eq_nil_iff.1 this x hx
  simpa using this
 ·intro h
  have:l.filter (fun x=>decide (x∉m))=[]:=List.filter_eq_nil_iff.2 fun x hx=>by simpa using h x hx
  rw [this]; rfl
section
variable {p:Qh} (hp:RightP p)
include hp
end
end Go.Abs
end
section
namespace Go.Abs
open Go
def evn (x:Int):Bool:=decide (0≤x) && decide (x < 32)
theorem Qbqh (x:Int):Qdy x=some (evn x):=by
 unfold Qdy Qt evn
 by_cases h:0≤x
 ·rw [if_pos (by omega)]; simp [h]
 ·rw [if_neg (by omega)]; simp [h]
theorem Qbbt {α β:Type} {f:α→List β}:∀ {l:List α} {acc:List β},l.foldl (fun acc x=>acc ++ f x) acc=acc ++ l.flatMap f
 | [],acc=>by simp
 | x :: l,acc=>by rw [List.foldl_cons,Qbbt,List.flatMap_cons,List.append_assoc]
section
variable {F T K:Int} (hF:evn F=true) (hT:evn T=true) (hK:evn K=true) (h1:F≠T) (h2:F≠K) (h3:T≠K)
include hF hT hK h1 h2 h3
end
theorem Qbo7 {α β:Type} {fuel:Nat} (hge:1099511627776≤fuel) {l:List α} {f:α→Option β} (hl:l.length < big) {X R:Type} {G:(X→Option R)→X→Option R} (mk:Int→List β→X) (K:List β→Option R) (B:Nat) (hB:B≤1000000000)
  (step:∀ (k:X→Option R) (n:Nat) (acc:List β) (h:n < l.length),acc.length≤B+n→G k (mk n acc)=k (mk (IntKind.wrap .i64 ((n:Int)+1)) (acc ++ (f l[n]).toList)))
  (last:∀ (k:X→Option R) (acc:List β),G k (mk l.length acc)=K acc) {acc:List β} (ha:acc.length≤B):Qcv G fuel (mk 0 acc)=K (acc ++ l.filterMap f):=by
 refine (Qu9 (l:=l) mk (fun acc x=>acc ++ (f x).toList) (fun n acc=>acc.length≤B+n) K hl hge (fun k n s hn hs=>step k n s hn hs) (fun n s hn hs=>?_) (fun k s hs=>last k s) (s0:=acc) (by simpa using ha)).trans ?_
 ·rw [List.length_append]
  have:(f l[n]).toList.length≤1:=by cases f l[n] <;> simp
  omega
 ·congr 1
  rw [Qbbt]
  congr 1
  clear ha step last
  induction l with
  | nil=>rfl
  | cons x l ih =>
   rw [List.flatMap_cons,List.filterMap_cons]
   have hl' : l.length < big:=by simp only [List.length_cons] at hl; omega
   cases f x with
   | none=>simpa using ih hl'
   | some y=>simpa using ih hl'
section
variable {F T K n:Int} (hF:evn F=true) (hT:evn T=true) (hK:evn K=true) (h1:F≠T) (h2:F≠K) (h3:T≠K) (hn:0≤n∧n≤16)
include hF hT hK h1 h2 h3 hn
end
end Go.Abs
end
section
namespace Go.Abs
open Go
section
variable {F T K n:Int} (hF:evn F=true) (hT:evn T=true) (hK:evn K=true) (h1:F≠T) (h2:F≠K) (h3:T≠K) (hn:0≤n∧n≤16)
include hF hT hK h1 h2 h3 hn
end
theorem Qbo8 {a:Qa} (h:small a):Qg1 a=some (decide (a=⟨[],0,[],[]⟩)):=by
 unfold Qg1 Qc1
 rw [Qbj0 h]; rfl
end Go.Abs
end
section
namespace Go.Abs
open Go
theorem Qbma {a:Qa} (h:Right a):Qf2 a=some (edM a):=by
 unfold Qf2 Qb7
 obtain ⟨fuel,hfu,hge⟩ : ∃ f,Qb2=f∧1099511627776≤f:=⟨_,rfl,Nat.le_refl _⟩
 rw [hfu]
 have ha:=h.small
 have key:∀ (G:(Int×List ((Int×Int)×Int)→Option (List ((Int×Int)×Int)))→Int×List ((Int×Int)×Int)→Option (List ((Int×Int)×Int))),(∀ k n c,(hn:n < a.zL.length)→G k ((n:Int),c)=k (IntKind.wrap .i64 ((n:Int)+1),setM c (a.zL[n].From,a.zL[n].Event) a.zL[n].To))→(∀ k c,G k ((a.zL.length:Int),c)=some c)→Qcv G fuel (0,[])=some (edM a):=by
  intro G h1 h2
  exact Qu9 (l:=a.zL) (fun i (s:List ((Int×Int)×Int))=>(i,s)) (fun c x=>setM c (x.From,x.Event) x.To) (fun _ _=>True) (fun s=>some s) ha.1.2.2 hge (fun k m s hm _=>h1 k m s hm) (fun _ _ _ _=>trivial) (fun k s _=>h2 k s) (s0:=[]) trivial
 first
  | exact key _ (fun k n c hn=>by dsimp only; rw [if_pos (by omega),Qbi hn,Option.bind_some]) (fun k c=>by dsimp only; rw [if_neg (by omega)])
  | (rw [key _ (fun k n c hn=>by dsimp only; rw [if_pos (by omega),Qbi hn,Option.bind_some]) (fun k c=>by dsimp only; rw [if_neg (by omega)])]; rfl)
def Qkm (p:Qa) (r:Qa):Bool:=!decide (∀ x∈r.zJ,x∈p.zJ)
def errD (unc:List Int) (tick:Int):Int:=if Qeq 32 none unc≠0 then Qeq 32 none unc else if evn tick then 0 else 2
def errC (p:Qa) (rs:List Qa) (unc:List Int) (tick:Int):Int:=if rs.any (Qkm p) then 9 else errD unc tick
def at1 (T:List (List Int)) (i:Int):Int:=((T.getD i.toNat []).getD 0 0)
def Qbc8 (p:Qa) (A:Qa) (T:List (List Int)) (unc:List Int) (tick:Int) (i x:Int):Option Qc :=
 if 0≤Qej A i x then some ⟨i,x,Qej A i x⟩ else if 0≤Qej p (at1 T i) x∧(x=tick∨x∈unc) then some ⟨i,x,A.zM⟩ else none
def Qbbu (p:Qa) (A:Qa) (T:List (List Int)) (unc:List Int) (tick:Int):List Qc:=(upto A.zM).flatMap fun i=>A.zJ.filterMap (Qbc8 p A T unc tick i)
theorem Qbmb {α β:Type} {f:α→List β} {k:Nat} (h:∀ x,(f x).length≤k):∀ l:List α,(l.flatMap f).length≤k * l.length
 | []=>by simp
 | x :: l=>by
  have:=h x
  have ih:=Qbmb h l
  rw [List.flatMap_cons,List.length_append,List.length_cons,Nat.mul_add]; omega
section
variable {p:Qa} {rs:List Qa} (h:Parts (p :: rs)) {A:Qa} {T:List (List Int)} (hP:Prd (p :: rs) A T) {unc:List Int} {tick:Int} (hu:unc.length≤1000)
include hP in
theorem Qbo9 {n:Nat} (hn:n < T.length):∃ t,getO T (n:Int)=some t∧getO t 0=some (at1 T (n:Int))∧0≤at1 T (n:Int)∧at1 T (n:Int) < p.zM:=by
 have ht:=hP.t _ (List.getElem_mem hn)
 refine ⟨T[n],Qbi hn,?_⟩
 have e:at1 T (n:Int)=T[n].getD 0 0:=by
  unfold at1
  rw [Int.toNat_natCast,show T.getD n []=T[n] from by rw [List.getD_eq_getElem?_getD,List.getElem?_eq_getElem hn]; rfl]
 rw [e]
 cases hq:T[n] with
 | nil=>rw [hq] at ht; exact ht.elim
 | cons x t=>rw [hq] at ht; exact ⟨rfl,ht.1.1,ht.1.2⟩
include h hP hu
theorem Qbk1 (hs:Qcd (p :: rs)=some (A,T,0)) (hg:rs.length < big):Qd0 p rs unc tick=some (if errC p rs unc tick≠0 then (⟨[],0,[],[]⟩,[],errC p rs unc tick) else (⟨A.zJ,A.zM+1,A.zK,Qbbu p A T unc tick⟩,[A.zM],0)):=by
 unfold Qd0 Qby
 obtain ⟨fuel,hfu,hge⟩ : ∃ f,Qb2=f∧1099511627776≤f:=⟨_,rfl,Nat.le_refl _⟩
 have hn:=h.n
 simp only [List.length_cons] at hn
 have hp:=h.r p (by simp)
 have hAS:=hP.st
 have hTn:=hP.n
 have hAl:=Qbel hP.ev.so (hP.ev.rg h)
 rw [hfu,Qde (by simp only [List.length_cons,List.length_nil]; unfold lim; omega),Option.bind_some,show [p] ++ rs=p :: rs from rfl,Qva h,Option.bind_some,if_neg (by simp)]
 have hstr:∀ (n:Nat) (hn:n < rs.length),Qfn rs[n].zJ p.zJ=some (!Qkm p rs[n]):=fun n hn=>by
  have hr:=h.r rs[n] (List.mem_cons_of_mem _ (List.getElem_mem hn))
  rw [Qbj5 hr.al hp.al hr.small.1.1 (by have:=hp.small.2.1; omega)]
  unfold Qkm; simp
 rw [Qbga (l:=rs) (fun i=>i) (Qkm p) (fun _=>some ((Qa.mk [] 0 [] []),[],9)) (some (if errD unc tick≠0 then (⟨[],0,[],[]⟩,[],errD unc tick) else (⟨A.zJ,A.zM+1,A.zK,Qbbu p A T unc tick⟩,[A.zM],0))) hg hge (fun k n hn'=>?_) (fun k=>?_)]
 ·unfold errC
  cases hf:rs.find? (Qkm p) with
  | some x =>
   have:rs.any (Qkm p)=true:=List.any_eq_true.2 ⟨x,List.mem_of_find?_eq_some hf,List.find?_some hf⟩
   rw [this]; rfl
  | none =>
   have:rs.any (Qkm p)=false:=by
    rw [List.find?_eq_none] at hf
    rw [List.any_eq_false]; exact hf
   rw [this]; rfl
 ·rw [if_pos (by omega),Qbi hn',Option.bind_some,hstr n hn',Option.bind_some]
  cases Qkm p rs[n] <;> rfl
 ·rw [if_neg (by omega),Qbgc (by unfold big; omega),Option.bind_some]
  by_cases hle:Qeq 32 none unc=0
  case neg =>
   have hD:errD unc tick=Qeq 32 none unc:=by unfold errD; rw [if_pos hle]
   rw [if_pos (by simpa using hle),hD,if_pos hle]
  have hset:=Qbqe.1 hle
  have hD:errD unc tick=if evn tick then 0 else 2:=by unfold errD; rw [if_neg (by simpa using hle)]
  rw [if_neg (by simpa using hle),hD,Qbqh,Option.bind_some]
  cases hev:evn tick with
  | false=>rfl
  | true =>
   rw [if_pos rfl,if_pos rfl,if_neg (show ¬ ((0:Int)≠0) from by simp),hs,Option.bind_some]
   dsimp only
   rw [if_neg (by simp),Option.bind_some,if_neg (by simp only [beq_iff_eq]; omega),Qbma hp,Option.bind_some,Qbma hP.r,Option.bind_some,Qrm (by omega) (by omega)]
   have hrow:∀ (n:Nat) (hn:n < T.length) (acc:List Qc),acc.length≤1000000→∀ t,getO T (n:Int)=some t→getO t 0=some (at1 T (n:Int)) →
     Qcv (fun k44 ((x42,a43):Int×(List Qc))=>(if (x42 < (A.zJ.length:Int)) then ((((getO A.zJ x42).bind fun x46=>(if (hasM (edM A) ((n:Int),x46)) then ((appO a43 [(Qc.mk (n:Int) x46 (getM (edM A) ((n:Int),x46) 0))]).bind fun x49=>some x49) else ((getO t 0).bind fun x51=>(((if (hasM (edM p) (x51,x46)) then (if (x46 == tick) then some true else ((Qbt unc x46).bind fun x56=>some x56)) else some false)).bind fun (x57:Bool)=>(if x57 then ((appO a43 [(Qc.mk (n:Int) x46 A.zM)]).bind fun x59=>some x59) else some a43)))))).bind fun (a61:List Qc)=>k44 ((IntKind.wrap .i64 (x42+1)),a61)) else some a43)) fuel (0,acc)=some (acc ++ A.zJ.filterMap (Qbc8 p A T unc tick (n:Int))):=by
    intro n hn acc hacc t ht1 ht2
    refine Qbo7 hge (l:=A.zJ) (f:=Qbc8 p A T unc tick (n:Int)) (by unfold big; omega) (fun i acc=>(i,acc)) (fun acc=>some acc) 1000000 (by omega) (fun k m acc hm hacc=>?_) (fun k acc=>?_) hacc
    ·dsimp only
     rw [if_pos (by omega),Qbi hm,Option.bind_some,Qbkz hP.r]
     unfold Qbc8
     by_cases h0:0≤Qej A (n:Int) A.zJ[m]
     ·rw [decide_eq_true h0,if_pos rfl,if_pos h0,Qbo2 hP.r h0,Qde (by simp only [List.length_cons,List.length_nil]; unfold lim; omega)]
      rfl
     ·rw [decide_eq_false h0,if_neg (by simp),if_neg h0,ht2,Option.bind_some,Qbkz hp]
      by_cases h1:0≤Qej p (at1 T (n:Int)) A.zJ[m]
      ·rw [decide_eq_true h1,if_pos rfl]
       by_cases h2:A.zJ[m]=tick
       ·rw [if_pos (by simpa using h2),Option.bind_some,if_pos rfl,if_pos ⟨h1,.inl h2⟩,Qde (by simp only [List.length_cons,List.length_nil]; unfold lim; omega)]
        rfl
       ·rw [if_neg (by simpa using h2),Qln hset.so (by unfold big; omega)]
        by_cases h3:A.zJ[m]∈unc
        ·rw [decide_eq_true h3,if_pos ⟨h1,.inr h3⟩]
         show ((appO acc _).bind _).bind _=_
         rw [Qde (by simp only [List.length_cons,List.length_nil]; unfold lim; omega)]
         rfl
        ·rw [decide_eq_false h3,if_neg (by simp [h2,h3])]
         simp
      ·rw [decide_eq_false h1,if_neg (by simp),if_neg (fun hc=>h1 hc.1)]
       simp
    ·dsimp only
     rw [if_neg (by omega)]
   refine Option.bind_eq_some_iff.2 ⟨(A.zM+1,Qbbu p A T unc tick),?_,rfl⟩
   refine (Qu9 (l:=upto A.zM) (fun i (s:List Qc)=>(i,A.zM+1,s)) (fun s i=>s ++ A.zJ.filterMap (Qbc8 p A T unc tick i)) (fun n s=>s.length≤32 * n) (fun s=>some (A.zM+1,s)) (by rw [Qvy]; unfold big; omega) hge (fun k n s hn hs=>?_) (fun n s hn hs=>?_) (fun k s hs=>?_) (s0:=[]) (by simp)).trans ?_
   ·have hn':=Qbj4 hn
    have hnT:n < T.length:=by omega
    obtain ⟨t,ht1,ht2,ht3,ht4⟩:=Qbo9 hP hnT
    dsimp only
    rw [Qbl3 hn,if_pos (by omega),ht1,Option.bind_some,hrow n hnT s (by omega) t ht1 ht2,Option.bind_some]
   ·have:=List.length_filterMap_le (Qbc8 p A T unc tick (upto A.zM)[n]) A.zJ
    rw [List.length_append]; omega
   ·dsimp only
    rw [Qvy,if_neg (by omega)]
   ·rw [Qbbt,List.nil_append]; rfl
end
end Go.Abs
end
section
namespace Go.Abs
open Go
structure Qbqi (x:Q4):Prop where
 ev:0≤x.Events∧x.Events < 256
 gr:Qbox x.Graph
theorem Qbsb {x:Q4} (hx:Qbqi x):∃ ev m,Qdr x.Events=some ev∧Qfg ev x.Graph=some m∧Right m∧m.zM≤5:=by
 obtain ⟨ev,hE,hev⟩:=Qbow hx.ev.1 hx.ev.2
 obtain ⟨m,hm,hmal,hM,hm5⟩:=Qbr3 hev hx.gr
 refine ⟨ev,Qbbq m,hE,hM,Qbju hm,?_⟩
 have:=(Qbc7 hm).1.len
 show ((Qvx m).length:Int)≤5
 omega
theorem Qbsc {α:Type} {o:Option α} {P:α→Prop} (h:∃ q,o=some q∧P q):∃ r,(o.bind fun x=>some x)=some r∧P r:=by
 obtain ⟨q,rfl,h⟩:=h
 exact ⟨q,rfl,h⟩
def Few3 (r:List Qa):Prop:=∀ a∈r,Right a∧a.zM≤5
theorem Qbqj {l:List Q4} (hl:∀ x∈l,Qbqi x):∃ r,Qg0 l=some r∧r.length≤3∧Few3 r:=by
 unfold Qg0 Qc0
 obtain ⟨fuel,hfu,hge⟩ : ∃ f,Qb2=f∧1099511627776≤f:=⟨_,rfl,Nat.le_refl _⟩
 rw [hfu]
 refine Qbsc ?_
 refine Qhe (fun x:List Qa×Int=>Few3 x.1∧x.2=x.1.length∧x.1.length≤3) (fun x=>3 - x.1.length) (fun _ r=>∃ q,r=some q∧(q.length≤3∧Few3 q)) (fun k x hx ih=>?_) fuel ([],0) ⟨fun a ha=>by simp at ha,rfl,by simp⟩ (by simp only [List.length_nil]; omega)
 ·obtain ⟨out,i⟩:=x
  obtain ⟨h1,h2,h3⟩:=hx
  simp only at h1 h2 h3
  subst h2
  by_cases hc:out.length < l.length∧out.length < 3
  ·obtain ⟨ev,m,hE,hM,hm,h5⟩:=Qbsb (hl _ (List.getElem_mem hc.1))
   have he:(out ++ [m]).length=out.length+1:=by simp
   obtain ⟨q,hq,k1,k2⟩:=ih (out ++ [m],(((out ++ [m]).length:Nat):Int)) ⟨fun a ha=>by
    rcases List.mem_append.1 ha with h | h
    ·exact h1 a h
    ·simp at h; subst h; exact ⟨hm,h5⟩,rfl,by simp only [he]; omega⟩ (by simp only [he]; omega)
   refine ⟨q,?_,k1,k2⟩
   dsimp only
   rw [if_pos (by omega),Option.bind_some,show decide ((out.length:Int) < 3)=true from decide_eq_true (by omega),if_pos rfl,Qbi hc.1,Option.bind_some,hE,Option.bind_some]
   refine (congrArg (Option.bind · _) hM).trans ?_
   rw [Option.bind_some,Qde (by simp only [List.length_cons,List.length_nil]; unfold lim; omega),Option.bind_some,Qcu (by omega),← hq,he]
  ·refine ⟨out,?_,h3,h1⟩
   dsimp only
   by_cases hlt:out.length < l.length
   ·rw [if_pos (by omega),Option.bind_some,show decide ((out.length:Int) < 3)=false from decide_eq_false (by omega),if_neg (by simp)]
   ·rw [if_neg (by omega),Option.bind_some,if_neg (by simp)]
theorem Qbj6:∀ {l:List Qa},Few3 l→(allT l).length≤5 ^ l.length
 | [],_=>by simp [allT]
 | a :: l,h=>by
  rw [Qbim,List.foldr_cons,← Qbim,List.length_cons,Nat.pow_succ]
  have ih:=Qbj6 (l:=l) fun b hb=>h b (List.mem_cons_of_mem _ hb)
  have h5:=(h a (by simp)).2
  have:a.zM.toNat≤5:=by omega
  calc a.zM.toNat * (allT l).length≤5 * (allT l).length:=Nat.mul_le_mul_right _ this
   _≤5 * 5 ^ l.length:=Nat.mul_le_mul_left _ ih
   _=5 ^ l.length * 5:=Nat.mul_comm _ _
theorem Qbsd {l:List Qa} (h:Few3 l) (hl:l.length≤3):Parts l:=by
 refine { r:=fun a ha=>(h a ha).1,s:=fun a ha=>Int.le_trans (h a ha).2 (by decide),n:=by omega,b:=Nat.le_trans (Qbj6 h) ?_ }
 exact Nat.le_trans (Nat.pow_le_pow_right (by decide) hl) (by decide)
theorem Qbpa:Right (Qa.mk [0] 0 [] []) :=
 { al0:=fun x hx=>by simp at hx; subst hx; decide,al:=by simp,st:=⟨Int.le_refl 0,by show (0:Int)≤4096; decide⟩,ma0:=fun x hx=>by simp at hx,ma:=List.Pairwise.nil,ed0:=fun x hx=>by simp at hx,ed:=List.Pairwise.nil }
theorem Qbqk {a:Qa} (h:Right a) {s e:Int} (h0:0≤Qej a s e):e∈a.zJ:=by
 unfold Qej at h0
 cases hf:a.zL.find? fun x=>x.From == s && x.Event == e with
 | none=>rw [hf] at h0; simp at h0
 | some x =>
  have h1:=(h.ed0 x (List.mem_of_find?_eq_some hf)).2.2.2.2
  have h2:=List.find?_some (p:=fun x:Qc=>x.From == s && x.Event == e) hf
  simp only [Bool.and_eq_true,beq_iff_eq] at h2
  exact h2.2 ▸ h1
theorem Qbmc {a:Qa} (h:Right a) {s e:Int} (h0:0≤s) (h1:s < a.zM):∃ t c,Qik a s e=some (t,decide (0≤Qej a s e),c)∧(0≤Qej a s e→t=Qej a s e):=by
 rw [Qbrz h,if_pos ⟨h0,h1⟩]
 by_cases hs:0≤Qej a s e
 ·exact ⟨_,_,by rw [if_pos (Qbqk h hs),if_pos hs,decide_eq_true hs],fun _=>rfl⟩
 ·by_cases he:e∈a.zJ
  ·exact ⟨0,0,by rw [if_pos he,if_neg hs,decide_eq_false hs],fun hc=>absurd hc hs⟩
  ·exact ⟨0,9,by rw [if_neg he,decide_eq_false hs],fun hc=>absurd hc hs⟩
section
variable {p:Qa} {rs:List Qa} (h:Parts (p :: rs)) {unc:List Int} {tick:Int} (hu:unc.length≤8)
include h hu
theorem Qbgn (hr:rs.length≤3) {R:Option Bool} (hR:R=some true) {F:Option Bool}
  (hF:∀ A T,Qcd (p :: rs)=some (A,T,0)→Prd (p :: rs) A T→∀ r20 r21 r22,Qd0 p rs unc tick=some (r20,r21,r22) →
   ((r20,r21,r22)=if errC p rs unc tick≠0 then (⟨[],0,[],[]⟩,[],errC p rs unc tick) else (⟨A.zJ,A.zM+1,A.zK,Qbbu p A T unc tick⟩,[A.zM],0))→F=some true):F=R:=by
 obtain ⟨A,T,hs,hP⟩:=Qbr9 h (by simp)
 have hc:=Qbk1 h hP (tick:=tick) (unc:=unc) (by omega) hs (by unfold big; omega)
 rw [hR]
 generalize hv:(if errC p rs unc tick≠0 then ((⟨[],0,[],[]⟩,[],errC p rs unc tick):Qa×List Int×Int) else (⟨A.zJ,A.zM+1,A.zK,Qbbu p A T unc tick⟩,[A.zM],0))=v at hc
 obtain ⟨r20,r21,r22⟩:=v
 exact hF A T hs hP r20 r21 r22 hc hv.symm
end
theorem Qbgd {l:List Q4} {unc:List Int} {tick:Int} (hl:∀ x∈l,Qbqi x):Qdh l unc tick=some true:=by
 unfold Qdh Qct
 obtain ⟨fuel,hfu,hge⟩ : ∃ f,Qb2=f∧1099511627776≤f:=⟨_,rfl,Nat.le_refl _⟩
 rw [hfu,Qbmx,Option.bind_some,if_pos rfl,Option.bind_some]
 by_cases hu:(unc.length:Int) > 8
 ·rw [decide_eq_true hu,if_pos rfl]
  rfl
 rw [decide_eq_false hu,if_neg (by simp)]
 obtain ⟨r,hr,hr3,hrw⟩:=Qbqj hl
 obtain ⟨p,rs,hall,hps,hrs⟩ : ∃ p rs,(if ((r.length:Int) == 0) then some ([(Qa.mk [0] 0 [] [])]) else some r)=some (p :: rs)∧Few3 (p :: rs)∧(p :: rs).length≤3:=by
  cases r with
  | nil=>exact ⟨_,[],rfl,fun a ha=>by simp at ha; subst ha; exact ⟨Qbpa,by show (0:Int)≤5; decide⟩,by simp⟩
  | cons p rs=>exact ⟨p,rs,by rw [if_neg (by simp only [List.length_cons,beq_iff_eq]; omega)],hrw,hr3⟩
 have hPa:=Qbsd hps hrs
 simp only [List.length_cons] at hrs
 have hp:=hPa.r p (by simp)
 have hg0:getO (p :: rs) 0=some p:=rfl
 have hs1:slcO (p :: rs) 1 (((p :: rs).length:Nat):Int)=some rs:=by
  rw [show (1:Int)=((1:Nat):Int) from rfl,Qbej (by simp) (Nat.le_refl _),List.take_length]; rfl
 rw [hr,Option.bind_some,hall,Option.bind_some,hg0,Option.bind_some,hs1,Option.bind_some]
 refine Qbgn hPa (by omega) (tick:=tick) (unc:=unc) (by omega) rfl fun A T hS hP r20 r21 r22 hc hv=>?_
 rw [hc,Option.bind_some]
 dsimp only
 have hloop:∀ (G:(Int×Int→Option Int)→Int×Int→Option Int),(∀ k n w,(hn:n < (p :: rs).length)→G k (w,(n:Int))=if w=0 then k (if Qkm p (p :: rs)[n] then 9 else w,IntKind.wrap .i64 ((n:Int)+1)) else some w)→(∀ k w,G k (w,(((p :: rs).length:Nat):Int))=some w)→Qcv G fuel (0,1)=some (if rs.any (Qkm p) then 9 else 0):=by
  intro G h1 h2
  have:=Qbly (F:=G) (len:=(p :: rs).length) (fun n (w:Int)=>(w,(n:Int))) (fun n w=>some (if w=0 then (if ((p :: rs).drop n).any (Qkm p) then 9 else 0) else w)) (fun k n w hn ih=>?_) (fun k w=>?_) fuel 1 0 (by simp) (by simp only [List.length_cons]; omega)
  ·simpa using this
  ·rw [h1 k n w hn]
   by_cases hw:w=0
   ·subst hw
    rw [if_pos rfl,Qcu (by simp only [List.length_cons] at hn; omega),ih,List.drop_eq_getElem_cons hn,List.any_cons]
    cases Qkm p (p :: rs)[n] <;> simp
   ·rw [if_neg hw,if_neg hw]
  ·rw [h2]
   by_cases hw:w=0
   ·subst hw; simp
   ·rw [if_neg hw]
 rw [hloop _ (fun k n w hn=>?_) (fun k w=>?_)]
 rotate_left
 ·have hr':=hPa.r _ (List.getElem_mem hn)
  dsimp only
  rw [if_pos (by omega),Option.bind_some]
  by_cases hw:w=0
  ·subst hw
   rw [if_pos (by rfl),Qbi hn,Option.bind_some,Option.bind_some,Qbj5 hr'.al hp.al hr'.small.1.1 (by have:=hp.small.2.1; omega),Option.bind_some,if_pos rfl]
   unfold Qkm
   by_cases hm:∀ x∈(p :: rs)[n].zJ,x∈p.zJ
   ·rw [decide_eq_true hm]; rfl
   ·rw [decide_eq_false hm]; rfl
  ·rw [if_neg (by simpa using hw),if_neg hw]
 ·dsimp only
  rw [if_neg (by omega)]
  rfl
 rw [Option.bind_some]
 have hAS:=hP.st
 have hTn:=hP.n
 -- the error
 have hw:∀ {K:Int→Option Bool},(((if ((if rs.any (Qkm p) then (9:Int) else 0) == 0) then ((Qd8 unc 32).bind fun x40=>some x40) else some (if rs.any (Qkm p) then (9:Int) else 0))).bind fun (want41:Int)=>(((((if (want41 == 0) then (if (tick < 0) then some true else some (decide (tick≥32))) else some false)).bind fun (x44:Bool)=>(if x44 then some 2 else some want41))).bind K))=K (errC p rs unc tick):=by
  intro K
  unfold errC
  cases rs.any (Qkm p) with
  | true=>rfl
  | false =>
   simp only [Bool.false_eq_true,if_false]
   rw [if_pos (by rfl),Qbgc (by unfold big; omega),Option.bind_some,Option.bind_some]
   unfold errD
   by_cases hle:Qeq 32 none unc=0
   case neg=>rw [if_neg (by simpa using hle),if_pos hle]; rfl
   rw [hle,if_pos (show ((0:Int) == 0)=true from rfl),if_neg (show ¬ ((0:Int)≠0) from by simp)]
   unfold evn
   by_cases h1:tick < 0
   ·rw [if_pos h1]
    first | (rw [if_neg (by simp only [Bool.and_eq_true,decide_eq_true_eq]; omega)]; rfl) | (simp [h1]; omega)
   ·rw [if_neg h1]
    by_cases h2:tick≥32
    ·first | (rw [decide_eq_true h2,if_neg (by simp only [Bool.and_eq_true,decide_eq_true_eq]; omega)]; rfl) | (simp; omega)
    ·first | (rw [decide_eq_false h2,if_pos (by simp only [Bool.and_eq_true,decide_eq_true_eq]; omega)]; rfl) | (simp; omega)
 rw [hw]
 by_cases hC:errC p rs unc tick≠0
 ·rw [if_pos (by simpa using hC)]
  rw [if_pos hC] at hv
  injection hv with e1 e2
  injection e2 with e2 e3
  subst e1 e2 e3
  rw [Qbo8 ⟨by simp [big],by simp [big],by simp [big]⟩,Option.bind_some,if_pos (by simp),if_pos (by rfl)]
  simp
 ·rw [if_neg (by simpa using hC)]
  rw [if_neg hC] at hv
  injection hv with e1 e2
  injection e2 with e2 e3
  subst e1 e2 e3
  rw [hS,Option.bind_some]
  dsimp only
  have hAl:=Qbel hP.ev.so (hP.ev.rg hPa)
  rw [if_neg (by simp),if_neg (by simp),Qbo6 (by simp [big]),Option.bind_some,decide_eq_true rfl,Option.bind_some,if_neg (by simp)]
  have hcell:∀ (n:Nat) (hn:n < T.length) (x:Int),∃ t,getO T (n:Int)=some t∧getO t 0=some (at1 T (n:Int))∧0≤at1 T (n:Int)∧at1 T (n:Int) < p.zM:=fun n hn x=>Qbo9 hP hn
  have hrow:∀ (n:Nat) (hn:n < T.length) (acc:List Qc),acc.length≤1000000 →
    ∀ (G:(Int×List Qc→Option (List Qc))→Int×List Qc→Option (List Qc)),(∀ k m acc,(hm:m < A.zJ.length)→acc.length≤2000000→G k ((m:Int),acc)=k (IntKind.wrap .i64 ((m:Int)+1),match Qbc8 p A T unc tick (n:Int) A.zJ[m] with | some y=>acc ++ [y] | none=>acc))→(∀ k acc,G k ((A.zJ.length:Int),acc)=some acc) →
    Qcv G fuel (0,acc)=some (acc ++ A.zJ.filterMap (Qbc8 p A T unc tick (n:Int))):=by
   intro n hn acc hacc G h1 h2
   exact Qbo7 hge (l:=A.zJ) (f:=Qbc8 p A T unc tick (n:Int)) (by unfold big; omega) (fun i acc=>(i,acc)) (fun acc=>some acc) 1000000 (by omega) (fun k m acc hm hacc=>by
    rw [h1 k m acc hm (by omega)]
    cases Qbc8 p A T unc tick (n:Int) A.zJ[m] with
    | none=>rw [Option.toList_none,List.append_nil]
    | some y=>rfl) (fun k acc=>h2 k acc) hacc
  refine Option.bind_eq_some_iff.2 ⟨(A.zM+1,Qbbu p A T unc tick),?_,?_⟩
  ·refine (Qu9 (l:=upto A.zM) (fun i (s:List Qc)=>(i,s)) (fun s i=>s ++ A.zJ.filterMap (Qbc8 p A T unc tick i)) (fun n s=>s.length≤32 * n) (fun s=>some (A.zM+1,s)) (by rw [Qvy]; unfold big; omega) hge (fun k n s hn hs=>?_) (fun n s hn hs=>?_) (fun k s hs=>?_) (s0:=[]) (by simp)).trans ?_
   ·have hn':=Qbj4 hn
    have hnT:n < T.length:=by omega
    obtain ⟨t,ht1,ht2,ht3,ht4⟩:=Qbo9 hP hnT
    dsimp only
    rw [Qbl3 hn,if_pos (by omega),hrow n hnT s (by omega) _ (fun k m acc hm hacc=>?_) (fun k acc=>?_),Option.bind_some]
    ·dsimp only
     obtain ⟨t1,c1,hst1,hst2⟩:=Qbmc hP.r (s:=(n:Int)) (e:=A.zJ[m]) (by omega) (by omega)
     obtain ⟨t3,c3,hst3,_⟩:=Qbmc hp (s:=at1 T (n:Int)) (e:=A.zJ[m]) ht3 ht4
     rw [if_pos (by omega),Qbi hm,Option.bind_some,hst1,Option.bind_some]
     dsimp only
     rw [Option.bind_some,ht1,Option.bind_some,ht2,Option.bind_some,hst3,Option.bind_some]
     dsimp only
     unfold Qbc8
     by_cases h0:0≤Qej A (n:Int) A.zJ[m]
     ·rw [decide_eq_true h0,if_pos rfl,if_pos h0,hst2 h0,Qde (by simp only [List.length_cons,List.length_nil]; unfold lim; omega)]
      rfl
     ·rw [decide_eq_false h0,if_neg (by simp),if_neg h0]
      by_cases h1:0≤Qej p (at1 T (n:Int)) A.zJ[m]
      ·rw [decide_eq_true h1,if_pos rfl,Qbqd (by unfold big; omega),Option.bind_some]
       by_cases h3:A.zJ[m]∈unc
       ·rw [decide_eq_true h3,if_pos rfl,Option.bind_some,if_pos rfl,if_pos ⟨h1,.inr h3⟩,Qde (by simp only [List.length_cons,List.length_nil]; unfold lim; omega)]
        rfl
       ·rw [decide_eq_false h3,if_neg (by simp),Option.bind_some]
        by_cases h2:A.zJ[m]=tick
        ·rw [if_pos (by simpa using h2),if_pos ⟨h1,.inl h2⟩,Qde (by simp only [List.length_cons,List.length_nil]; unfold lim; omega)]
         rfl
        ·rw [if_neg (by simpa using h2),if_neg (fun hc=>by rcases hc.2 with h | h <;> contradiction)]
         rfl
      ·rw [decide_eq_false h1,if_neg (by simp),Option.bind_some,if_neg (by simp),if_neg (fun hc=>h1 hc.1)]
       rfl
    ·dsimp only
     rw [if_neg (by omega)]
   ·have:=List.length_filterMap_le (Qbc8 p A T unc tick (upto A.zM)[n]) A.zJ
    rw [List.length_append]; omega
   ·dsimp only
    rw [Qvy,if_neg (by omega),Qrm (by omega) (by omega)]
   ·rw [Qbbt,List.nil_append]; rfl
  ·dsimp only
   have hAs:=hP.r.small
   have hfl:(Qbbu p A T unc tick).length≤32 * (upto A.zM).length:=Qbmb (fun x=>Nat.le_trans (List.length_filterMap_le _ _) (by omega)) _
   rw [Qvy] at hfl
   rw [Qbj0 (a:=⟨A.zJ,A.zM+1,A.zK,Qbbu p A T unc tick⟩) ⟨hAs.1.1,hAs.1.2.1,by unfold big; show (Qbbu p A T unc tick).length < _; omega⟩,Option.bind_some,decide_eq_true rfl]
end Go.Abs
end
section
namespace Go.Proofs
open Go Go.Abs
theorem Qbse {x:Int} (h:wfI .u8 x):0≤x∧x < 256:=by
 unfold wfI at h
 simp [Lit.wf,IntKind.min,IntKind.max,IntKind.bits,IntKind.signed] at h
 omega
theorem Qbql {g:Qbs} (h:W_50 g):Qbox g:=by
 unfold W_50 W_48 W_47 W_5 at h
 obtain ⟨h1,h2,⟨a1,a2,a3,a4,a5⟩,⟨b1,b2,b3,b4,b5⟩,⟨c1,c2,c3,c4,c5⟩,⟨d1,d2,d3,d4,d5⟩,⟨e1,e2,e3,e4,e5⟩⟩:=h
 refine ⟨Qbse h1,fun x hx=>?_⟩
 simp only [List.mem_cons,List.not_mem_nil,or_false] at hx
 rcases hx with rfl | rfl | rfl | rfl | rfl | rfl | rfl | rfl | rfl | rfl | rfl | rfl | rfl | rfl | rfl | rfl | rfl | rfl | rfl | rfl | rfl | rfl | rfl | rfl | rfl <;> exact Qbse (by assumption)
theorem Qbtc {l:List Q4} (h:W_22 l):∀ x∈l,Qbqi x:=fun x hx=>⟨Qbse (h.2 x hx).1,Qbql (h.2 x hx).2⟩
end Go.Proofs
end
section
namespace Go.Abs
open Go Go.ChangeShapes Go.WideShapes Go.ChangeAt Go.RowKit
theorem Qbpb {X:World→Array Value→Prop} (hX:∀ (w w' : World) (args:Array Value),w.heap=w'.heap→X w args→X w' args) {C:Checked} {f:FuncId} {fn:Func} {s:ChangeSpec} {conds:List PathCond} {bt:TypeId} {os:Os} {H:Type} {enc:TypeId×Value→H}
  (own:ownKnob C.prog.godebug=none) (started:os.Started) (noInit:C.prog.inits.idxOf? f=none) (hfn:C.prog.funcs[f]? = some fn)
  (witness:∃ (w:World) (tape:Tape) (i:Input),w.os=os∧(w.forCall tape i).Shaped C.prog∧i.vars=[]∧Input.okWide C.prog (w.forCall tape i) .any w.heap.size f i ∧
   ((s.pre enc C.prog fn conds false (w.forCall tape i).memory i.args∧X (w.forCall tape i).memory i.args)∧sizedMet enc C.prog fn (OpenSpec.ofChange s) false (w.forCall tape i).memory i.args)∧({}:Assume).holds C.prog (lone (Frame.enter C.prog f i.args .normal) [] (w.forCall tape i)))
  (hvars:s.vars=[]) (hres:fn.resultTypes = #[bt]) (hbt:C.prog.underlying bt=some .bool)
  (hl:laidOutB C.prog=true) (hread:∀ t∈fn.params.toList,C.prog.readableRec t=true∧t < C.prog.types.size)
  (hspec:∀ ds:List (DataW H),ds.length=fn.params.size→s.fn H ds={ results:=[.lit (.bool true)],args:=ds })
  (law:Qbrx C.prog f fn.params.toList) :
  ReturnsInHanded {} C os f .any (fun w args=>(s.pre enc C.prog fn conds false w args∧X w args)∧sizedMet enc C.prog fn (OpenSpec.ofChange s) false w args) (s.post enc C.prog fn false true false false):=by
 refine returnsInHanded_of_change_and hX own started noInit hfn witness ?_
 intro W base args ds gs before hval hW hcnd _ _ _
 have hW':=hW
 obtain ⟨p,q,hA,hV,hps,hfz,hnd⟩:=hW
 rw [hvars] at hV
 obtain ⟨rfl,rfl⟩ : gs=[]∧q=[]:=by
  cases gs with
  | nil=>exact ⟨rfl,hV⟩
  | cons _ _=>exact hV.elim
 obtain ⟨vs,h1,h2,h3,h4⟩:=law (fun j t u ht hu=>hval j t u (by simpa using ht) (by simpa using hu)) hA
 obtain ⟨hb,_,h5⟩:=h4 (fun _=>none) 0
 have hlv:∀ b o,live W b o→b < W.heap.size:=by
  intro b o h
  simp only [live] at h
  obtain ⟨v,hv⟩:=Option.isSome_iff_exists.1 h
  unfold World.cell? at hv
  split at hv
  ·rename_i hh; exact (Array.getElem?_eq_some_iff.1 hh).1
  ·cases hv
 have hmr:MR ⟨fun _=>0,live W,fun _=>.ext⟩ W (fun _=>none) 0:=⟨fun k b h=>(by cases h),fun b o h=>⟨hlv b o h,fun k h=>by cases h⟩⟩
 have h6:=h5 W ⟨fun _=>0,live W,fun _=>.ext⟩ args.toList hmr (fun k cs h=>by cases h) (fun b=>⟨fun t p h=>(by cases h),fun p h=>(by cases h)⟩) h1 h2 (ons_mono (fun k hk=>absurd hk (Nat.not_lt_zero k)) _ (ons_lt vs h3))
 refine Calls.mono h6 fun e W' ⟨v,g',he,_,hr,_,_,hf⟩=>?_
 subst he
 have hv:v = .bool true:=by simpa [RV,RD] using hr
 subst hv
 have hbelow:Below W.heap.size W W':=⟨hf.os,hf.tape,hf.output,hf.size,fun k hk=>(hf.old k hk trivial).2.1⟩
 have hrl:(Value.bool true).resultList fn.resultTypes.size=[.bool true]:=by rw [hres]; rfl
 have hsp:s.fn H (ds ++ [])={ results:=[.lit (.bool true)],args:=ds }:=by
  rw [List.append_nil]
  exact hspec ds (by have:=(Qbfy hA).1; simpa using this)
 have hlt:∀ p∈before,p.block < W.heap.size:=fun x hx=>hW'.lt x hx
 have hst:∀ sp:Nat→Bool,(∀ p∈before,sp p.block=true)→DataW.TrodAll enc C.prog W' 0 sp true fn.params.toList args.toList ds before:=by
  intro sp hsp'
  have e:p=before:=by rw [hps,List.append_nil]
  subst e
  exact Qbbp hl hread hA (fun x hx=>hbelow.same (hlt x hx)) hsp'
 refine ⟨_,rfl,ds,[],before,[],before,[],hW',?_,?_,?_,World.keptBut_mono (fun p hp=>⟨hp,.inr (.inl hp)⟩) (hbelow.frame (· ∈ before)),fun h=>by cases h⟩
 ·rw [hsp,hrl,hres]
  exact ⟨[],[],⟨1,by simp [DataW.trod,Value.cells,hbt]⟩,rfl,rfl⟩
 ·rw [hsp]
  exact hst _ fun p hp=>by simpa using hlt p hp
 ·rw [hsp,hvars]; rfl
end Go.Abs
end
