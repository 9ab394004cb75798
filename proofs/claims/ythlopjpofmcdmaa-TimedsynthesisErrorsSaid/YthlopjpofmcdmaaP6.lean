/-
  Part 6 of the proof: see the last text.
-/
import Derived.Test.YthlopjpofmcdmaaP5
import Derived.KernelRfl
set_option linter.unusedVariables false
set_option linter.unusedSimpArgs false
set_option linter.unusedSectionVars false
section
namespace Go.Abs
open Go
theorem Qbcb {α:Type} [DecidableEq α] {s t:List α} {ne:α→α→Bool} (hne:∀ x y,ne x y = decide (x≠y)) (hl:s.length = t.length) (h:s.length < 1000000000000) :
  Qdz (fun k5 (i4:Int)=>(if (i4 < (s.length:Int)) then ((getO s i4).bind fun x7=>((getO t i4).bind fun x9=>(if ne x7 x9 then some false else k5 (IntKind.wrap .i64 (i4 + 1))))) else some true)) Qdv 0 = some (decide (s = t)):=by
 refine Qbau (fun i:Int=>∃ n:Nat,i = n∧n≤s.length∧s.take n = t.take n) (fun i=>s.length - i.toNat) _ ⟨0,rfl,by omega,by simp⟩ (by unfold Qdv; omega) ?_
 rintro k _ ⟨n,rfl,hn,he⟩ ih
 by_cases hlt:n < s.length
 ·rw [if_pos (by omega),Qcx hlt,Qcx (by omega:n < t.length)]
  simp only [Option.bind_some,hne]
  by_cases hx:s[n] = t[n]
  ·rw [if_neg (by simp [hx]),Qg5 (by omega)]
   exact ih _ ⟨n + 1,rfl,by omega,Qbb6 hlt (by omega) he hx⟩ (by omega)
  ·rw [if_pos (by simp [hx])]
   have:s≠t:=fun e=>hx (by subst e; rfl)
   simp [this]
 ·rw [if_neg (by omega)]
  have e:n = s.length:=by omega
  have:s = t:=by
   rw [e,List.take_length,hl,List.take_length] at he; exact he
  simp [this]
theorem Qbjw (x y:Qe):(!((x.From == y.From) && ((x.Event == y.Event) && ((x.To == y.To) && true)))) = decide (x≠y):=by
 cases x; cases y
 simp only [Qe.mk.injEq,Bool.and_true,ne_eq,decide_not]
 congr 1
 rw [Bool.eq_iff_iff]; simp
theorem Q8o {s t:List Int} (h:s.length < 1000000000000):Qgb s t = some (decide (s = t)):=by
 unfold Qgb Qbs
 by_cases hl:s.length = t.length
 ·rw [if_neg (by simp [hl])]
  exact Qbcb (ne:=fun x y=>x != y) (fun x y=>by rw [Bool.eq_iff_iff]; simp) hl h
 ·rw [if_pos (by simp; omega)]
  have:s≠t:=fun e=>hl (by rw [e])
  simp [this]
theorem Qbkt {R:Type} (b:Bool) (A B:R):(if b then A else B) = if (!b) then B else A:=by cases b <;> rfl
theorem Qbes {s t:List Qe} (h:s.length < 1000000000000):Qhi s t = some (decide (s = t)):=by
 unfold Qhi Qc5
 by_cases hl:s.length = t.length
 ·rw [if_neg (by simp [hl])]
  have:=Qbcb (ne:=fun x y=>!((x.From == y.From) && ((x.Event == y.Event) && ((x.To == y.To) && true)))) Qbjw hl h
  simp only [← Qbkt] at this
  exact this
 ·rw [if_pos (by simp; omega)]
  have:s≠t:=fun e=>hl (by rw [e])
  simp [this]
theorem Qbgw {a b:Qm} (h:small a):Qi4 a b = some (decide (a = b)):=by
 unfold Qi4 Qdn
 rw [Q8o h.1,Q8o h.2.1,Qbes h.2.2]
 obtain ⟨al,s,m,e⟩:=a
 obtain ⟨al',s',m',e'⟩:=b
 simp only [Option.bind_some,Qm.mk.injEq]
 by_cases h1:s = s' <;> by_cases h2:al = al' <;> by_cases h3:m = m' <;> by_cases h4:e = e' <;> simp [h1,h2,h3,h4]
end Go.Abs
end
section
namespace Go.Abs
open Go
theorem Qbjx (x y:Int):Qjk x y = some (decide (x < y)):=by
 unfold Qjk Qek Qs2 Qdt
 simp
theorem Qbia (x:Int):Qh3 x = some false:=by
 unfold Qh3 Qc0
 simp
theorem Qbgx {l:List Int} (h:l.Pairwise (· < ·)) (v:Int):l.Pairwise fun a b=>decide (b < v) = true→decide (a < v) = true :=
 h.imp fun h=>by simp; omega
theorem Qbgy {l:List Int} {v:Int} (hs:l.Pairwise (· < ·)) (hl:l.length < big):∃ n,Qem l v = some (n,decide (v∈l)):=by
 have hc:=fun n h=>Q9r (p:=fun x:Int=>decide (x < v)) (Qbgx hs v) n h
 have hcl:(l.filter fun x=>decide (x < v)).length≤l.length:=List.length_filter_le _ _
 generalize (l.filter fun x=>decide (x < v)).length = c at hc hcl
 have hb:l.length < 1000000000000:=hl
 unfold Qem Qb1
 obtain ⟨fuel,hfu,hge⟩ : ∃ f,Qdv = f∧1099511627776≤f:=⟨_,rfl,Nat.le_refl _⟩
 rw [hfu]
 have hloop:=Qrw (F:=fun (k5:Int×Int→Option Int) ((i3,j4):Int×Int)=>(if (i3 < j4) then ((getO l (IntKind.wrap .i64 (Int.fdiv (IntKind.wrap .u64 (IntKind.wrap .i64 (i3 + j4))) (2 ^ (min (Int.toNat 1) (IntKind.bits .u64)))))).bind fun x7=>((Qjk x7 v).bind fun x10=>(if x10 then k5 ((IntKind.wrap .i64 ((IntKind.wrap .i64 (Int.fdiv (IntKind.wrap .u64 (IntKind.wrap .i64 (i3 + j4))) (2 ^ (min (Int.toNat 1) (IntKind.bits .u64))))) + 1)),j4) else k5 (i3,(IntKind.wrap .i64 (Int.fdiv (IntKind.wrap .u64 (IntKind.wrap .i64 (i3 + j4))) (2 ^ (min (Int.toNat 1) (IntKind.bits .u64))))))))) else some i3))
  (fun x=>∃ i j:Nat,x = ((i:Int),(j:Int))∧i≤c∧c≤j∧j≤l.length) (fun x=>(x.2 - x.1).toNat) (fun _ r=>r = some (c:Int)) (by
   rintro k _ ⟨i,j,rfl,h1,h2,h3⟩ ih
   dsimp only
   by_cases hij:i < j
   ·rw [if_pos (by omega),Qbkr (by omega) (by omega)]
    have hm:(i + j) / 2 < l.length:=by omega
    rw [Qcx hm]
    simp only [Option.bind_some]
    rw [Qbjx]
    simp only [Option.bind_some]
    have hcm:=hc ((i + j) / 2) hm
    by_cases hlt:l[(i + j) / 2] < v
    ·rw [if_pos (by simpa using hlt),Qg5 (by omega)]
     have:(i + j) / 2 < c:=hcm.1 (by simpa using hlt)
     exact ih _ ⟨_,_,rfl,by omega,h2,h3⟩ (by simp only; omega)
    ·rw [if_neg (by simpa using hlt)]
     have:¬ (i + j) / 2 < c:=fun h=>hlt (by simpa using hcm.2 h)
     exact ih _ ⟨_,_,rfl,h1,by omega,by omega⟩ (by simp only; omega)
   ·rw [if_neg (by omega)]
    have:i = c:=by omega
    rw [this]) fuel (0,(l.length:Int)) ⟨0,l.length,rfl,by omega,hcl,Nat.le_refl _⟩ (by simp only; omega)
 rw [hloop]
 simp only [Option.bind_some]
 have hmem:v∈l↔∃ h:c < l.length,l[c] = v:=by
  constructor
  ·intro hv
   obtain ⟨j,hj,rfl⟩:=List.getElem_of_mem hv
   have h1:¬ j < c:=fun h=>by have:=(hc j hj).2 h; simp at this
   have h2:c < l.length:=by omega
   refine ⟨h2,?_⟩
   have h3:¬ l[c] < l[j]:=fun h=>by have:=(hc c h2).1 (by simpa using h); omega
   rcases Nat.lt_or_ge c j with h | h
   ·have:=List.pairwise_iff_getElem.1 hs c j h2 hj h; omega
   ·have:c = j:=by omega
    subst this; rfl
  ·rintro ⟨h,rfl⟩; exact List.getElem_mem h
 by_cases hlt:c < l.length
 ·rw [if_pos (by omega),Qcx hlt]
  simp only [Option.bind_some]
  by_cases he:l[c] = v
  ·rw [if_pos (by simpa using he)]
   exact ⟨_,by rw [decide_eq_true (hmem.2 ⟨hlt,he⟩)]⟩
  ·rw [if_neg (by simpa using he),Qbia]
   exact ⟨_,by rw [decide_eq_false (fun h=>he (hmem.1 h).2)]; rfl⟩
 ·rw [if_neg (by omega)]
  exact ⟨_,by rw [decide_eq_false (fun h=>hlt (hmem.1 h).1)]⟩
theorem Qbib {l:List Int} (hl:l.length≤lim):Qh4 l = some l:=by
 unfold Qh4 Qdc
 rw [Qjm (by simpa using hl)]
 cases l <;> simp [nilO]
structure Num (a:Qm) (o num:List Int):Prop where
 len:num.length = a.zM.toNat
 at1:∀ s:Nat,s < a.zM.toNat→num[s]? = some (if (s:Int)∈o then (o.idxOf (s:Int):Int) else -1)
theorem Num.set {a:Qm} {o num:List Int} (h:Num a o num) {t:Int} (ht:0≤t∧t < a.zM) (hn:t∉o):∃ num',setO num t (o.length:Int) = some num' ∧ Num a (o ++ [t]) num':=by
 refine ⟨num.set t.toNat (o.length:Int),by unfold setO; rw [if_pos ⟨ht.1,by rw [h.len]; omega⟩],by rw [List.length_set]; exact h.len,fun s hs=>?_⟩
 rw [List.getElem?_set]
 by_cases he:t.toNat = s
 ·subst he
  rw [if_pos rfl,if_pos (by rw [h.len]; omega),show ((t.toNat:Nat):Int) = t from by omega,if_pos (by simp),List.idxOf_append,if_neg hn]
  simp
 ·rw [if_neg he,h.at1 s hs]
  have hne:(s:Int)≠t:=by omega
  by_cases hm:(s:Int)∈o
  ·rw [if_pos hm,if_pos (by simp [hm]),List.idxOf_append,if_pos hm]
  ·rw [if_neg hm,if_neg (by simp [hm,hne])]
section
variable {a:Qm} (h:Right a)
include h
end
end Go.Abs
end
section
namespace Go.Abs
open Go
theorem Qb0 {l:List Int} {v:Int} (hs:l.Pairwise (· < ·)) (hl:l.length < big):Q6 l v = some (decide (v∈l)):=by
 unfold Q6 Qh
 obtain ⟨n,h⟩:=Qbgy (v:=v) hs hl
 rw [h]; rfl
theorem Qhk {l:List Int} {n:Int} (hl:l.length < big):Qd0 l n = some (Qc3 n none l):=by
 unfold Qd0 Qy
 refine (Q5h (len:=l.length) (fun k=>some (Qc3 n (ahead l k) (l.drop k))) (by unfold Qdv; unfold big at hl; omega) ?_ ?_).trans (by simp [Qrx])
 ·intro k i hi ih
  have hb:i < 1000000000000:=by unfold big at hl; omega
  rw [Q6r hi]
  try dsimp only
  rw [if_pos (by omega),Qcx hi,Qg5 (by omega),ih]
  simp only [Option.bind_some]
  by_cases h1:l[i] < 0
  ·simp [h1]
  ·by_cases h2:l[i]≥n
   ·simp [h1,h2]
   ·by_cases h0:0 < i
    ·rw [Qs5 h0 (by omega),Qcx (by omega:i - 1 < l.length),Q8l l h0 (by omega)]
     by_cases h3:l[i]≤l[i - 1] <;> simp [h1,h2,h3,h0]
    ·obtain rfl:i = 0:=by omega
     simp [h1,h2,Qrx]
 ·intro k; simp [Qc3]
theorem Qbd2 {l:List Int} {v:Int} (hl:l.length < big):Qhh l v = some (decide (v∈l)):=by
 have hb:l.length < 1000000000000:=hl
 unfold Qhh Qcq
 obtain ⟨fuel,hfu,hge⟩ : ∃ f,Qdv = f∧1099511627776≤f:=⟨_,rfl,Nat.le_refl _⟩
 rw [hfu]
 refine (Qbh9 (fun x=>x) (fun y=>y == v) hl hge (fun k n hn=>?_) (fun k=>?_)).trans ?_
 ·try dsimp only
  rw [if_pos (by omega),Qcx hn]; rfl
 ·try dsimp only
  rw [if_neg (by omega)]
 ·congr 1; rw [Bool.eq_iff_iff,List.any_eq_true]; simp
theorem Q6e {α:Type} {l:List α} {f:α→Option Bool} {p:α→Bool} (hf:∀ x∈l,f x = some (p x)) (hl:l.length < big) {fuel:Nat} (hge:1099511627776≤fuel) :
  ∃ i:Int,Qdz (fun (k:Int→Option Int) (x:Int)=>(if (x < (l.length:Int)) then ((getO l x).bind fun x6=>((f x6).bind fun x9=>(if x9 then some x else k (IntKind.wrap .i64 (x + 1))))) else some (-1))) fuel 0 = some i∧decide (i≥0) = l.any p:=by
 have hb:l.length < 1000000000000:=hl
 have:=Qrw (F:=fun (k:Int→Option Int) (x:Int)=>(if (x < (l.length:Int)) then ((getO l x).bind fun x6=>((f x6).bind fun x9=>(if x9 then some x else k (IntKind.wrap .i64 (x + 1))))) else some (-1)))
  (fun x=>∃ n:Nat,x = n∧n≤l.length) (fun x=>l.length - x.toNat) (fun x r=>∀ n:Nat,x = n→∃ i:Int,r = some i∧decide (i≥0) = (l.drop n).any p) (by
   rintro k _ ⟨n,rfl,hn⟩ ih m hm
   obtain rfl:n = m:=by omega
   by_cases hlt:n < l.length
   ·rw [if_pos (by omega),Qcx hlt]
    simp only [Option.bind_some,hf _ (List.getElem_mem hlt)]
    rw [List.drop_eq_getElem_cons hlt,List.any_cons]
    cases hp:p l[n] with
    | true=>exact ⟨n,by simp,by simp⟩
    | false =>
     rw [Qg5 (by omega)]
     obtain ⟨i,h1,h2⟩:=ih ((n + 1:Nat):Int) ⟨n + 1,rfl,hlt⟩ (by omega) (n + 1) rfl
     exact ⟨i,by simpa using h1,by rw [h2]; simp⟩
   ·rw [if_neg (by omega)]
    exact ⟨-1,rfl,by rw [List.drop_of_length_le (by omega)]; rfl⟩) fuel 0 ⟨0,rfl,Nat.zero_le _⟩ (by simp; omega) 0 rfl
 simpa using this
theorem Qiq {l:List Qe} {f:Qe→Option Bool} {p:Qe→Bool} (hf:∀ x∈l,f x = some (p x)) (hl:l.length < big):Qbe l f = some (l.any p):=by
 unfold Qbe Ql Qhf Qb7
 obtain ⟨fuel,hfu,hge⟩ : ∃ f,Qdv = f∧1099511627776≤f:=⟨_,rfl,Nat.le_refl _⟩
 rw [hfu]
 obtain ⟨i,h1,h2⟩:=Q6e hf hl hge
 rw [h1,Option.bind_some,h2]
theorem Q6s {l:List Int} {f:Int→Option Bool} {p:Int→Bool} (hf:∀ x∈l,f x = some (p x)) (hl:l.length < big):Qc7 l f = some (l.any p):=by
 unfold Qc7 Q3 Qhy Qce
 obtain ⟨fuel,hfu,hge⟩ : ∃ f,Qdv = f∧1099511627776≤f:=⟨_,rfl,Nat.le_refl _⟩
 rw [hfu]
 obtain ⟨i,h1,h2⟩:=Q6e hf hl hge
 rw [h1,Option.bind_some,h2]
structure SetP (n:Int) (l:List Int):Prop where
 rg:∀ x∈l,0≤x∧x < n
 so:l.Pairwise (· < ·)
theorem Qnr {n:Int} {l:List Int}:Qc3 n none l = 0↔SetP n l :=
 ⟨fun h=>⟨(Qg9.1 h).1,(Qg9.1 h).2.1⟩,fun h=>Qg9.2 ⟨h.rg,h.so,fun _ h=>by cases h⟩⟩
structure RightP (p:Qa):Prop where
 a:Right p.zA
 fo:SetP p.zA.zM p.zC
 un:SetP 32 p.zB
 fc:SetP 32 p.zD
 ti:0≤p.Tick∧p.Tick < 32
 tu:p.Tick∉p.zB
 tf:p.Tick∉p.zD
def Qbcc (p:Qa):Prop:=small p.zA∧p.zC.length < big∧p.zB.length < big∧p.zD.length < big
theorem SetP.small {n:Int} {l:List Int} (h:SetP n l) (hn:n≤4096):l.length≤4096:=by
 have:=Qko h.so h.rg; omega
theorem RightP.small {p:Qa} (h:RightP p):Qbcc p:=by
 have h1:=h.fo.small h.a.st.2
 have h2:=h.un.small (by omega)
 have h3:=h.fc.small (by omega)
 refine ⟨h.a.small.1,?_,?_,?_⟩ <;> (unfold big; omega)
def Q2k (p:Qa):Int :=
 if Qro p.zA≠0 then Qro p.zA else if Qc3 p.zA.zM none p.zC≠0 then Qc3 p.zA.zM none p.zC else
 if Qc3 32 none p.zB≠0 then Qc3 32 none p.zB else if Qc3 32 none p.zD≠0 then Qc3 32 none p.zD else
 if p.Tick < 0∨p.Tick≥32 then 2 else if p.Tick∈p.zB∨p.Tick∈p.zD then 13 else 0
theorem Qxx {p:Qa}:Q2k p = 0↔RightP p:=by
 unfold Q2k
 constructor
 ·intro h
  by_cases h1:Qro p.zA = 0
  ·by_cases h2:Qc3 p.zA.zM none p.zC = 0
   ·by_cases h3:Qc3 32 none p.zB = 0
    ·by_cases h4:Qc3 32 none p.zD = 0
     ·by_cases h5:p.Tick < 0∨p.Tick≥32
      ·rw [if_neg (by simp [h1]),if_neg (by simp [h2]),if_neg (by simp [h3]),if_neg (by simp [h4]),if_pos h5] at h; omega
      ·by_cases h6:p.Tick∈p.zB∨p.Tick∈p.zD
       ·rw [if_neg (by simp [h1]),if_neg (by simp [h2]),if_neg (by simp [h3]),if_neg (by simp [h4]),if_neg h5,if_pos h6] at h; omega
       ·exact ⟨Qbb7.1 h1,Qnr.1 h2,Qnr.1 h3,Qnr.1 h4,by omega,fun h=>h6 (.inl h),fun h=>h6 (.inr h)⟩
     ·rw [if_neg (by simp [h1]),if_neg (by simp [h2]),if_neg (by simp [h3]),if_pos h4] at h; exact absurd h h4
    ·rw [if_neg (by simp [h1]),if_neg (by simp [h2]),if_pos h3] at h; exact absurd h h3
   ·rw [if_neg (by simp [h1]),if_pos h2] at h; exact absurd h h2
  ·rw [if_pos h1] at h; exact absurd h h1
 ·intro h
  have:=h.ti
  rw [if_neg (by simp [Qbb7.2 h.a]),if_neg (by simp [Qnr.2 h.fo]),if_neg (by simp [Qnr.2 h.un]),if_neg (by simp [Qnr.2 h.fc]),if_neg (by omega),if_neg (fun hh=>hh.elim h.tu h.tf)]
theorem Qgf {p:Qa} (h:Qbcc p):Qc8 p = some (Q2k p):=by
 obtain ⟨hs,hf,hu,hc⟩:=h
 have nb:∀ x:Int,x = 0→¬ ((x != 0) = true):=fun x h=>by simp [h]
 have pb:∀ x:Int,x≠0→((x != 0) = true):=fun x h=>by simpa using h
 have nn:∀ x:Int,x = 0→¬ (x≠0):=fun x h=>by simp [h]
 unfold Qc8 Qw Q2k
 rw [Qbax hs,Option.bind_some]
 by_cases h1:Qro p.zA = 0
 ·rw [if_neg (nb _ h1),if_neg (nn _ h1),Qhk hf,Option.bind_some]
  by_cases h2:Qc3 p.zA.zM none p.zC = 0
  ·rw [if_neg (nb _ h2),if_neg (nn _ h2)]
   obtain ⟨n,hn⟩ : ∃ n,Qdv = n + 3:=⟨1099511627773,rfl⟩
   rw [hn]
   simp only [Qdz]
   have e0:getO [p.zB,p.zD] 0 = some p.zB:=rfl
   have e1:IntKind.wrap .i64 ((0:Int) + 1) = 1:=by decide
   have e2:getO [p.zB,p.zD] 1 = some p.zD:=rfl
   have e3:IntKind.wrap .i64 ((1:Int) + 1) = 2:=by decide
   simp only [e0,e1,e2,e3]
   rw [if_pos (show (0:Int) < 2 by omega),Option.bind_some,Qhk hu,Option.bind_some]
   by_cases h3:Qc3 32 none p.zB = 0
   ·rw [if_neg (nb _ h3),if_neg (nn _ h3),if_pos (show (1:Int) < 2 by omega),Option.bind_some,Qhk hc,Option.bind_some]
    by_cases h4:Qc3 32 none p.zD = 0
    ·rw [if_neg (nb _ h4),if_neg (nn _ h4),if_neg (show ¬ (2:Int) < 2 by omega)]
     unfold Qf2 Q4
     by_cases h5:p.Tick < 0
     ·rw [if_neg (show ¬ p.Tick≥0 by omega),if_pos (show p.Tick < 0∨p.Tick≥32 from .inl h5)]; rfl
     ·rw [if_pos (show p.Tick≥0 by omega),Option.bind_some]
      by_cases h6:p.Tick≥32
      ·rw [if_neg (show ¬ decide (p.Tick < 32) = true by simpa using h6),if_pos (show p.Tick < 0∨p.Tick≥32 from .inr h6)]
      ·rw [if_pos (show decide (p.Tick < 32) = true by simpa using h6),if_neg (show ¬ (p.Tick < 0∨p.Tick≥32) by omega),Qb0 (Qnr.1 h3).so hu,Qb0 (Qnr.1 h4).so hc]
       by_cases h7:p.Tick∈p.zB
       ·simp [h7]
       ·by_cases h8:p.Tick∈p.zD <;> simp [h7,h8]
    ·rw [if_pos (pb _ h4),if_pos h4]
   ·rw [if_pos (pb _ h3),if_pos h3]
  ·rw [if_pos (pb _ h2),if_pos h2]
 ·rw [if_pos (pb _ h1),if_pos h1]
def Q0s (p:Qa):List (List Qe):=(upto p.zA.zM).map (outP p.zA)
def tsk (p:Qa) (L:List Bool):Qd:=⟨p,Q0s p,L⟩
def Qvm (p:Qa) (L:List Bool) (s:Int):Bool:=(outP p.zA s).any fun y=>lf L y.To && decide (y.Event∈p.zD)
def Qpp (p:Qa) (L:List Bool) (s:Int):Bool:=(outP p.zA s).any fun y=>(y.Event == p.Tick) && !lf L y.To
def escP (p:Qa) (L:List Bool) (s:Int):Int×Int :=
 match (outP p.zA s).find? (fun y=>!lf L y.To && decide (y.Event∈p.zB)) with
 | some y=>(2,y.Event)
 | none=>if Qpp p L s && !Qvm p L s then (4,p.Tick) else (0,-1)
section
variable {p:Qa} (hp:RightP p) {L:List Bool} (hL:L.length = p.zA.zM.toNat) {s:Int} (hs:0≤s∧s < p.zA.zM)
include hp
theorem Qir:∀ y∈outP p.zA s,(0≤y.To∧y.To < p.zA.zM)∧y.From = s∧y∈p.zA.zL:=fun y hy=>by
 have h1:=List.mem_filter.1 hy
 have h2:=hp.a.ed0 y h1.1
 exact ⟨⟨h2.2.2.1,h2.2.2.2.1⟩,by simpa using h1.2,h1.1⟩
theorem Qrp (s:Int):(outP p.zA s).length < big:=Nat.lt_of_le_of_lt (List.length_filter_le _ _) hp.a.small.1.2.2
include hs
omit hp in
theorem Qvn:inO (Q0s p).length s = some ()∧getO (Q0s p) s = some (outP p.zA s):=by
 have hl:(Q0s p).length = p.zA.zM.toNat:=by unfold Q0s; rw [List.length_map,Qc2]
 refine ⟨Qjn hs.1 (by omega),?_⟩
 rw [Qqr (d:=[]) hs.1 (by omega)]
 unfold Q0s
 rw [Q2j hs.1 hs.2]
omit hp hs in
include hL in
theorem Qhz {x:Int} (hx:0≤x∧x < p.zA.zM):inO L.length x = some ()∧getO L x = some (lf L x) :=
 ⟨Qjn hx.1 (by omega),Qqr hx.1 (by omega)⟩
include hL
theorem Qbgz:Qd2 (tsk p L) s = some (Qvm p L s):=by
 unfold Qd2 Qbo tsk
 simp only [Qvn hs,Option.bind_some]
 rw [Qiq (p:=fun y=>lf L y.To && decide (y.Event∈p.zD)) (fun y hy=>?_) (Qrp hp s)]
 ·rfl
 ·have h1:=Qhz hL (Qir hp y hy).1
  unfold Qez Qbg
  simp only [h1,Option.bind_some]
  rw [Qb0 hp.fc.so hp.small.2.2.2]
  cases lf L y.To <;> simp
theorem Q8p:Qcr (tsk p L) s = some (escP p L s):=by
 unfold Qcr Qs
 obtain ⟨fuel,hfu,hge⟩ : ∃ f,Qdv = f∧1099511627776≤f:=⟨_,rfl,Nat.le_refl _⟩
 rw [hfu]
 rw [show (tsk p L).from_ = Q0s p from rfl,show (tsk p L).left_ = L from rfl,show (tsk p L).zN = p from rfl]
 simp only [Qvn hs,Option.bind_some]
 rw [Qbgz hp hL hs]
 rw [Qiq (p:=fun y=>(y.Event == p.Tick) && !lf L y.To) (fun y hy=>by
  have h1:=Qhz hL (Qir hp y hy).1
  unfold Qey Qbf
  rw [show (tsk p L).left_ = L from rfl,show (tsk p L).zN = p from rfl]
  simp only [h1,Option.bind_some]
  cases hq:y.Event == p.Tick <;> simp) (Qrp hp s)]
 refine (Qbb9 (fun x=>x) (fun y=>!lf L y.To && decide (y.Event∈p.zB)) (fun y=>some (2,y.Event)) (some (if Qpp p L s && !Qvm p L s then (4,p.Tick) else (0,-1))) (Qrp hp s) hge (fun k n hn=>?_) (fun k=>?_)).trans ?_
 ·try dsimp only
  have h1:=Qhz hL (Qir hp _ (List.getElem_mem hn)).1
  rw [if_pos (by omega),Qcx hn]
  simp only [h1,Option.bind_some]
  rw [Qb0 hp.un.so hp.small.2.2.1]
  cases lf L (outP p.zA s)[n].To <;> simp
 ·try dsimp only
  rw [if_neg (by omega)]
  show (((if Qpp p L s then _ else _):Option Bool).bind _) = _
  cases Qpp p L s <;> cases Qvm p L s <;> rfl
 ·unfold escP
  cases (outP p.zA s).find? _ <;> rfl
end
end Go.Abs
end
section
namespace Go.Abs
open Go
structure Qbjy (p:Qa) (R:List Int):Prop where
 ln:R.length = p.zA.zM.toNat
 nn:∀ x:Int,0≤x→x < p.zA.zM→0≤ati R x
section
variable {p:Qa} (hp:RightP p) {R:List Int} (hR:Qbjy p R) {s:Int} (T:List Qc) (r:Int)
include hp hR
end
end Go.Abs
end
section
namespace Go.Abs
open Go
def Qbg0 (p:Qa) (L:List Bool):List Int:=(upto p.zA.zM).map fun i=>if lf L i && decide (i∈p.zA.zK) then 0 else -1
def Q5k (L:List Bool) (d:Int) (out:List Int) (x:Qe):Bool:=lf L x.From && (lf L x.To && (decide (ati out x.From < 0) && (ati out x.To == d)))
def Qrq (L:List Bool) (d:Int) (out:List Int) (x:Qe):List Int:=if Q5k L d out x then out.set x.From.toNat (d + 1) else out
def dN (p:Qa) (L:List Bool):Nat→List Int
 | 0=>Qbg0 p L
 | k + 1=>p.zA.zL.foldl (Qrq L (k:Int)) (dN p L k)
def Qlh (p:Qa) (L:List Bool):List Int:=dN p L p.zA.zM.toNat
structure Grow (p:Qa) (L:List Bool) (d:Int) (out out' : List Int):Prop where
 ln:out'.length = out.length
 vl:∀ y,0≤y→y < p.zA.zM→ati out' y = ati out y∨(ati out y < 0∧ati out' y = d + 1∧lf L y = true∧∃ e∈p.zA.zL,e.From = y∧lf L e.To = true∧ati out e.To = d)
section
variable {p:Qa} (hp:RightP p) {L:List Bool} {d:Int} (hd:0≤d)
theorem Grow.refl (out:List Int):Grow p L d out out:=⟨rfl,fun _ _ _=>.inl rfl⟩
include hp hd
theorem Grow.trans {a b c:List Int} (h:Grow p L d a b) (k:Grow p L d b c):Grow p L d a c:=by
 refine ⟨k.ln.trans h.ln,fun y h0 h1=>?_⟩
 rcases k.vl y h0 h1 with e | ⟨k1,k2,k3,e,he,k4,k5,k6⟩
 ·rw [e]; exact h.vl y h0 h1
 ·rcases h.vl y h0 h1 with e1 | ⟨_,e1,_⟩
  ·refine .inr ⟨by omega,k2,k3,e,he,k4,k5,?_⟩
   have hr:=hp.a.ed0 e he
   rcases h.vl e.To hr.2.2.1 hr.2.2.2.1 with e2 | ⟨_,e2,_⟩ <;> omega
  ·omega
theorem Q6f {out:List Int} (hl:out.length = p.zA.zM.toNat) {x:Qe} (hx:x∈p.zA.zL):Grow p L d out (Qrq L d out x):=by
 unfold Qrq
 cases hc:Q5k L d out x with
 | false=>exact Grow.refl out
 | true =>
  have hr:=hp.a.ed0 x hx
  unfold Q5k at hc
  simp only [Bool.and_eq_true,decide_eq_true_eq,beq_iff_eq] at hc
  refine ⟨by simp,fun y h0 h1=>?_⟩
  simp only [if_true]
  rw [Qbdc ⟨hr.1,by omega⟩ h0]
  by_cases hy:y = x.From
  ·subst hy
   rw [if_pos rfl]
   exact .inr ⟨hc.2.2.1,rfl,hc.1,x,hx,rfl,hc.2.1,hc.2.2.2⟩
  ·rw [if_neg hy]; exact .inl rfl
theorem Q5l:∀ {l:List Qe} {out:List Int},(∀ x∈l,x∈p.zA.zL)→out.length = p.zA.zM.toNat→Grow p L d out (l.foldl (Qrq L d) out)
 | [],out,_,_=>Grow.refl out
 | x :: l,out,hm,hl=>by
  have h1:=Q6f (L:=L) hp hd hl (hm x (by simp))
  exact h1.trans hp hd (Q5l (l:=l) (fun y hy=>hm y (by simp [hy])) (by rw [h1.ln,hl]))
theorem Qbd3:∀ {l:List Qe} {out:List Int},(∀ x∈l,x∈p.zA.zL)→out.length = p.zA.zM.toNat→∀ e∈l,lf L e.From = true→lf L e.To = true→ati (l.foldl (Qrq L d) out) e.To = d→0≤ati (l.foldl (Qrq L d) out) e.From
 | [],_,_,_,_,he,_,_,_=>by cases he
 | x :: l,out,hm,hl,e,he,h1,h2,h3=>by
  have g1:=Q6f (L:=L) hp hd hl (hm x (by simp))
  have hl1:(Qrq L d out x).length = p.zA.zM.toNat:=by rw [g1.ln,hl]
  have g2:=Q5l (L:=L) hp hd (l:=l) (fun y hy=>hm y (by simp [hy])) hl1
  rw [List.foldl_cons] at h3 ⊢
  rcases List.mem_cons.1 he with rfl | he
  ·have hr:=hp.a.ed0 e (hm e (by simp))
   have k1:ati out e.To = d:=by
    rcases g2.vl e.To hr.2.2.1 hr.2.2.2.1 with q | ⟨_,q,_⟩ <;> rcases g1.vl e.To hr.2.2.1 hr.2.2.2.1 with q' | ⟨_,q',_⟩ <;> omega
   have k2:0≤ati (Qrq L d out e) e.From:=by
    by_cases hn:ati out e.From < 0
    ·have hc:Q5k L d out e = true:=by unfold Q5k; simp [h1,h2,hn,k1]
     unfold Qrq
     rw [hc,if_pos rfl,Qbdc ⟨hr.1,by omega⟩ hr.1,if_pos rfl]; omega
    ·rcases g1.vl e.From hr.1 hr.2.1 with q | ⟨q,_⟩ <;> omega
   rcases g2.vl e.From hr.1 hr.2.1 with q | ⟨q,_⟩ <;> omega
  ·exact Qbd3 (fun y hy=>hm y (by simp [hy])) hl1 e he h1 h2 h3
end
structure DI (p:Qa) (L:List Bool) (k:Int) (out:List Int):Prop where
 ln:out.length = p.zA.zM.toNat
 rg:∀ y,0≤y→y < p.zA.zM→ati out y = -1∨0≤ati out y∧ati out y≤k
 lv:∀ y,0≤y→y < p.zA.zM→0≤ati out y→lf L y = true
 z:∀ y,0≤y→y < p.zA.zM→(ati out y = 0↔lf L y = true∧y∈p.zA.zK)
 ps:∀ y,0≤y→y < p.zA.zM→0 < ati out y→∃ e∈p.zA.zL,e.From = y∧lf L e.To = true∧ati out e.To = ati out y - 1
 cl:∀ e∈p.zA.zL,lf L e.From = true→0≤ati out e.To→ati out e.To < k→0≤ati out e.From
section
variable {p:Qa} (hp:RightP p) (L:List Bool)
theorem Qbic {y:Int} (h0:0≤y) (h1:y < p.zA.zM):ati (Qbg0 p L) y = if lf L y && decide (y∈p.zA.zK) then 0 else -1:=Q2j h0 h1
include hp
theorem Qbg1:∀ k:Nat,DI p L (k:Int) (dN p L k)
 | 0=>by
  refine ⟨by simp [dN,Qbg0,Qc2],fun y h0 h1=>?_,fun y h0 h1 h2=>?_,fun y h0 h1=>?_,fun y h0 h1 h2=>?_,fun e he h2 h3 h4=>by omega⟩
  all_goals simp only [dN] at *
  all_goals rw [Qbic L h0 h1] at *
  all_goals cases hl:lf L y <;> by_cases hm:y∈p.zA.zK <;> simp_all
 | k + 1=>by
  have ih:=Qbg1 k
  have hd:(0:Int)≤(k:Int):=by omega
  have g:=Q5l (L:=L) hp hd (l:=p.zA.zL) (out:=dN p L k) (fun _ h=>h) ih.ln
  have c:=Qbd3 (L:=L) hp hd (l:=p.zA.zL) (out:=dN p L k) (fun _ h=>h) ih.ln
  change Grow p L (k:Int) (dN p L k) (dN p L (k + 1)) at g
  have c:∀ e∈p.zA.zL,lf L e.From = true→lf L e.To = true→ati (dN p L (k + 1)) e.To = k→0≤ati (dN p L (k + 1)) e.From:=c
  refine ⟨by rw [g.ln,ih.ln],fun y h0 h1=>?_,fun y h0 h1 h2=>?_,fun y h0 h1=>?_,fun y h0 h1 h2=>?_,fun e he h2 h3 h4=>?_⟩
  ·rcases g.vl y h0 h1 with q | ⟨_,q,_⟩
   ·rw [q]; rcases ih.rg y h0 h1 with r | r
    ·exact .inl r
    ·exact .inr ⟨r.1,by omega⟩
   ·exact .inr ⟨by omega,by omega⟩
  ·rcases g.vl y h0 h1 with q | ⟨_,_,q,_⟩
   ·exact ih.lv y h0 h1 (by omega)
   ·exact q
  ·rw [← ih.z y h0 h1]
   rcases g.vl y h0 h1 with q | ⟨_,q,_⟩ <;> omega
  ·rcases g.vl y h0 h1 with q | ⟨_,q,_,e,he,q1,q2,q3⟩
   ·obtain ⟨e,he,q1,q2,q3⟩:=ih.ps y h0 h1 (by omega)
    have hr:=hp.a.ed0 e he
    refine ⟨e,he,q1,q2,?_⟩
    rcases g.vl e.To hr.2.2.1 hr.2.2.2.1 with r | ⟨r,_⟩ <;> omega
   ·have hr:=hp.a.ed0 e he
    refine ⟨e,he,q1,q2,?_⟩
    rcases g.vl e.To hr.2.2.1 hr.2.2.2.1 with r | ⟨r,_⟩ <;> omega
  ·have hr:=hp.a.ed0 e he
   by_cases hk:ati (dN p L (k + 1)) e.To = k
   ·refine c e he h2 ?_ hk
    rcases g.vl e.To hr.2.2.1 hr.2.2.2.1 with r | ⟨_,r,_⟩
    ·exact ih.lv e.To hr.2.2.1 hr.2.2.2.1 (by omega)
    ·omega
   ·have:0≤ati (dN p L k) e.From:=by
     refine ih.cl e he h2 ?_ ?_
     all_goals (rcases g.vl e.To hr.2.2.1 hr.2.2.2.1 with r | ⟨_,r,_⟩ <;> omega)
    rcases g.vl e.From hr.1 hr.2.1 with r | ⟨r,_⟩ <;> omega
theorem Qbcd {d:Int} {out:List Int}:∀ {l:List Qe},(∀ e∈l,Q5k L d out e = false)→l.foldl (Qrq L d) out = out
 | [],_=>rfl
 | x :: l,h=>by
  rw [List.foldl_cons]
  have:Qrq L d out x = out:=by unfold Qrq; rw [h x (by simp)]; rfl
  rw [this]
  exact Qbcd fun e he=>h e (by simp [he])
theorem Qbce {k:Nat} (h:dN p L (k + 1) = dN p L k):∀ m:Nat,k≤m→dN p L m = dN p L k
 | 0,hm=>by
  obtain rfl:k = 0:=by omega
  rfl
 | m + 1,hm=>by
  by_cases hk:k = m + 1
  ·subst hk; rfl
  ·have ih:=Qbce h m (by omega)
   show p.zA.zL.foldl (Qrq L (m:Int)) (dN p L m) = _
   by_cases hkm:k = m
   ·subst hkm; exact h
   ·rw [ih]
    refine Qbcd hp L fun e he=>?_
    have hr:=hp.a.ed0 e he
    have:=(Qbg1 hp L k).rg e.To hr.2.2.1 hr.2.2.2.1
    unfold Q5k
    have:(ati (dN p L k) e.To == (m:Int)) = false:=by rw [beq_eq_false_iff_ne]; omega
    rw [this]; simp
theorem DI.bound {k:Int} {out:List Int} (h:DI p L k out) {y:Int} (h0:0≤y) (h1:y < p.zA.zM):ati out y < p.zA.zM:=by
 have key:∀ (v:Nat) (y:Int),0≤y→y < p.zA.zM→ati out y = v→∀ j:Nat,j≤v→∃ x,0≤x∧x < p.zA.zM∧ati out x = j:=by
  intro v
  induction v with
  | zero=>intro y h0 h1 hv j hj; exact ⟨y,h0,h1,by omega⟩
  | succ v ih =>
   intro y h0 h1 hv j hj
   by_cases hjv:j = v + 1
   ·exact ⟨y,h0,h1,by omega⟩
   ·obtain ⟨e,he,_,_,q⟩:=h.ps y h0 h1 (by omega)
    have hr:=hp.a.ed0 e he
    exact ih e.To hr.2.2.1 hr.2.2.2.1 (by omega) j (by omega)
 refine Decidable.byContradiction fun hc=>?_
 have hst:=hp.a.st
 have hk:=key (ati out y).toNat y h0 h1 (by omega)
 have hsub:∀ x∈upto (ati out y + 1),x∈(upto p.zA.zM).map (ati out):=fun x hx=>by
  rw [Qge] at hx
  obtain ⟨z,k1,k2,k3⟩:=hk x.toNat (by omega)
  exact List.mem_map.2 ⟨z,Qge.2 ⟨k1,k2⟩,by omega⟩
 have hnd:(upto (ati out y + 1)).Nodup:=(Q5j _).imp fun h=>by omega
 have hlen:∀ {l m:List Int},l.Nodup→(∀ x∈l,x∈m)→l.length≤m.length:=fun {l m} h hs=>by
  induction l generalizing m with
  | nil=>simp
  | cons x l ih =>
   obtain ⟨a1,a2⟩:=List.nodup_cons.1 h
   have hx:=hs x (by simp)
   have:=ih (m:=m.erase x) a2 fun y hy=>(List.mem_erase_of_ne (by rintro rfl; exact a1 hy)).2 (hs y (by simp [hy]))
   rw [List.length_erase_of_mem hx] at this
   have:0 < m.length:=List.length_pos_of_mem hx
   simp only [List.length_cons]; omega
 have:=hlen hnd hsub
 rw [Qc2,List.length_map,Qc2] at this
 omega
theorem Qtm:DI p L p.zA.zM (Qlh p L):=by
 have:=Qbg1 hp L p.zA.zM.toNat
 have hst:=hp.a.st
 rw [show ((p.zA.zM.toNat:Nat):Int) = p.zA.zM by omega] at this
 exact this
end
end Go.Abs
end
section
namespace Go.Abs
open Go
theorem Qxy {n:Int} {k:Nat} (h:k < (upto n).length):k < n.toNat:=by rw [Qc2] at h; exact h
def Qvo (L:List Bool) (d:Int) (s:Bool×List Int) (x:Qe):Bool×List Int:=if Q5k L d s.2 x then (true,s.2.set x.From.toNat (d + 1)) else s
theorem Qbcf {L:List Bool} {d:Int}:∀ {l:List Qe} {s:Bool×List Int},(l.foldl (Qvo L d) s).2 = l.foldl (Qrq L d) s.2
 | [],s=>rfl
 | x :: l,s=>by
  rw [List.foldl_cons,List.foldl_cons,Qbcf (l:=l)]
  congr 1
  unfold Qvo Qrq
  cases Q5k L d s.2 x <;> rfl
section
variable {p:Qa} (hp:RightP p) {L:List Bool} {d:Int} (hd:0≤d)
include hp hd
theorem Qbcg:∀ {l:List Qe} {s:Bool×List Int},(∀ x∈l,x∈p.zA.zL)→s.2.length = p.zA.zM.toNat→(l.foldl (Qvo L d) s).1 = true→s.1 = true∨∃ y,0≤y∧y < p.zA.zM∧ati (l.foldl (Qrq L d) s.2) y = d + 1
 | [],s,_,_,h=>.inl h
 | x :: l,s,hm,hl,h=>by
  rw [List.foldl_cons] at h ⊢
  have hx:=hm x (by simp)
  have hr:=hp.a.ed0 x hx
  have g1:=Q6f (L:=L) hp hd hl hx
  have e2:(Qvo L d s x).2 = Qrq L d s.2 x:=by unfold Qvo Qrq; cases Q5k L d s.2 x <;> rfl
  rcases Qbcg (l:=l) (s:=Qvo L d s x) (fun y hy=>hm y (by simp [hy])) (by rw [e2,g1.ln,hl]) h with q | q
  ·cases hc:Q5k L d s.2 x with
   | false =>
    have:Qvo L d s x = s:=by unfold Qvo; rw [hc]; rfl
    rw [this] at q; exact .inl q
   | true =>
    refine .inr ⟨x.From,hr.1,hr.2.1,?_⟩
    have k1:ati (Qrq L d s.2 x) x.From = d + 1:=by
     unfold Qrq
     rw [hc,if_pos rfl,Qbdc ⟨hr.1,by omega⟩ hr.1,if_pos rfl]
    have g2:=Q5l (L:=L) hp hd (l:=l) (out:=Qrq L d s.2 x) (fun y hy=>hm y (by simp [hy])) (by rw [g1.ln,hl])
    rcases g2.vl x.From hr.1 hr.2.1 with r | ⟨r,_⟩ <;> omega
  ·rw [e2] at q; exact .inr q
theorem Qbch:∀ {l:List Qe} {s:Bool×List Int},(l.foldl (Qvo L d) s).1 = false→l.foldl (Qrq L d) s.2 = s.2
 | [],s,_=>rfl
 | x :: l,s,h=>by
  rw [List.foldl_cons] at h ⊢
  have mono:∀ {l:List Qe} {s:Bool×List Int},s.1 = true→(l.foldl (Qvo L d) s).1 = true:=by
   intro l
   induction l with
   | nil=>intro s h; exact h
   | cons y l ih=>intro s h; rw [List.foldl_cons]; refine ih ?_; unfold Qvo; cases Q5k L d s.2 y <;> simp [h]
  cases hc:Q5k L d s.2 x with
  | true =>
   have:(Qvo L d s x).1 = true:=by unfold Qvo; rw [hc]; rfl
   rw [mono this] at h; cases h
  | false =>
   have e1:Qvo L d s x = s:=by unfold Qvo; rw [hc]; rfl
   have e2:Qrq L d s.2 x = s.2:=by unfold Qrq; rw [hc]; rfl
   rw [e1] at h
   rw [e2]
   exact Qbch h
end
section
variable {p:Qa} (hp:RightP p) {L:List Bool} (hL:L.length = p.zA.zM.toNat)
theorem Qbet {c:List Int} (hc:c.length = p.zA.zM.toNat):(upto p.zA.zM).foldl (fun c i=>c.set i.toNat (if lf L i && decide (i∈p.zA.zK) then 0 else -1)) c = Qbg0 p L:=Q8n hc
include hp hL
theorem Q2l:Qca (tsk p L) = some (Qlh p L):=by
 unfold Qca Qq
 obtain ⟨fuel,hfu,hge⟩ : ∃ f,Qdv = f∧1099511627776≤f:=⟨_,rfl,Nat.le_refl _⟩
 rw [hfu]
 rw [show (tsk p L).left_ = L from rfl,show (tsk p L).zN = p from rfl]
 have hst:=hp.a.st
 have hsm:=hp.a.small
 rw [show mkO p.zA.zM (0:Int) = some (List.replicate p.zA.zM.toNat 0) from by unfold mkO lim; rw [if_pos (by omega)]]
 rw [Option.bind_some]
 refine Option.bind_eq_some_iff.2 ⟨Qbg0 p L,?_,?_⟩
 ·refine (Qip (l:=upto p.zA.zM) (fun i (c:List Int)=>(i,c)) (fun c i=>c.set i.toNat (if lf L i && decide (i∈p.zA.zK) then 0 else -1)) (fun _ c=>c.length = p.zA.zM.toNat) (fun c=>some c) (by rw [Qc2]; unfold big; omega) hge (fun k n s hn hs=>?_) (fun n s hn hs=>by rw [List.length_set]; exact hs) (fun k s hs=>?_) (by simp)).trans ?_
  ·have hn':=Qxy hn
   dsimp only
   rw [Qzj hn,if_pos (by omega),Qjn (by omega) (by omega),Qgr (by omega) (by omega)]
   simp only [Option.bind_some,Qhz hL (p:=p) (x:=(n:Int)) ⟨by omega,by omega⟩]
   rw [Qb0 hp.a.ma hsm.1.2.1,Qgr (by omega) (by rw [List.length_set]; omega)]
   cases lf L (n:Int) <;> by_cases hm:(n:Int)∈p.zA.zK <;> simp [hm]
  ·dsimp only
   rw [Qc2,if_neg (by omega)]
  ·rw [Qbet (by simp)]
 have hround:∀ (d:Nat) (c:List Int),c.length = p.zA.zM.toNat→d≤4096→Qdz (fun (k41:Bool×Int×List Int→Option (Bool×List Int)) ((more38,x39,c40):Bool×Int×(List Int))=>(if (x39 < (p.zA.zL.length:Int)) then ((((getO p.zA.zL x39).bind fun x43=>((((inO L.length x43.From).bind fun u45=>((getO L x43.From).bind fun x47=>(if x47 then ((inO L.length x43.To).bind fun u50=>((getO L x43.To).bind fun x52=>(if x52 then ((inO (Int.toNat p.zA.zM) x43.From).bind fun u55=>((getO c40 x43.From).bind fun x57=>(if (x57 < 0) then ((inO (Int.toNat p.zA.zM) x43.To).bind fun u60=>((getO c40 x43.To).bind fun x62=>some (x62 == (IntKind.wrap .i64 (((d:Int) + 1) - 1))))) else some false))) else some false))) else some false)))).bind fun (x64:Bool)=>(if x64 then ((inO (Int.toNat p.zA.zM) x43.From).bind fun u66=>((setO c40 x43.From ((d:Int) + 1)).bind fun x68=>some (true,x68,x43.From,x43.Event,x43.To))) else some (more38,c40,x43.From,x43.Event,x43.To))))).bind fun ((more70,c71,c72,c73,c74):Bool×(List Int)×Int×Int×Int)=>k41 (more70,(IntKind.wrap .i64 (x39 + 1)),c71)) else some (more38,c40))) fuel (false,0,c) = some (p.zA.zL.foldl (Qvo L d) (false,c)):=by
  intro d c hc hd
  refine (Qip (l:=p.zA.zL) (fun i (s:Bool×List Int)=>(s.1,i,s.2)) (Qvo L d) (fun _ s=>s.2.length = p.zA.zM.toNat) (fun s=>some s) hsm.1.2.2 hge (fun k n s hn hs=>?_) (fun n s hn hs=>by unfold Qvo; split <;> simp [hs]) (fun k s hs=>?_) (s0:=(false,c)) hc)
  ·have hr:=hp.a.ed0 _ (List.getElem_mem hn)
   dsimp only
   rw [if_pos (by omega),Qcx hn]
   simp only [Option.bind_some,Qhz hL (p:=p) (x:=p.zA.zL[n].From) ⟨hr.1,hr.2.1⟩,Qhz hL (p:=p) (x:=p.zA.zL[n].To) ⟨hr.2.2.1,hr.2.2.2.1⟩]
   rw [Qjn hr.1 (by omega),Qjn hr.2.2.1 (by omega),Qqr (d:=0) (l:=s.2) hr.1 (by omega),Qqr (d:=0) (l:=s.2) hr.2.2.1 (by omega),Qgr (l:=s.2) hr.1 (by omega),Q2h (x:=(d:Int) + 1 - 1) (by omega) (by omega)]
   unfold Qvo Q5k
   simp only [Option.bind_some,show (d:Int) + 1 - 1 = d by omega]
   generalize p.zA.zL[n] = e at hr ⊢
   cases lf L e.From <;> cases lf L e.To <;> by_cases h1:ati s.2 e.From < 0 <;> by_cases h2:ati s.2 e.To = d <;> simp [h1,h2]
  ·dsimp only
   rw [if_neg (by omega)]
 have hlast:(lenO (Qlh p L) (Int.toNat p.zA.zM)) = some ():=Qvl (Qtm hp L).ln
 refine Option.bind_eq_some_iff.2 ⟨Qlh p L,?_,by rw [hlast]; rfl⟩
 refine Qbau (fun x=>∃ d:Nat,x.1 = (d:Int) + 1∧x.2.2 = dN p L d∧(x.2.1 = true∧d≤p.zA.zM.toNat∨x.2.1 = false∧dN p L d = Qlh p L)) (fun x=>p.zA.zM.toNat + 4 - x.1.toNat) (some (Qlh p L)) ⟨0,rfl,rfl,.inl ⟨rfl,by omega⟩⟩ (by dsimp only; omega) ?_
 rintro k ⟨r,more,c⟩ ⟨d,hr,hc,hm⟩ ih
 dsimp only at hr hc hm ih ⊢
 subst hr hc
 rcases hm with ⟨rfl,hdn⟩ | ⟨rfl,hq⟩
 ·rw [if_pos rfl]
  have hln:=(Qbg1 hp L d).ln
  rw [hround d _ hln (by omega),Option.bind_some]
  have hsnd:(p.zA.zL.foldl (Qvo L d) (false,dN p L d)).2 = dN p L (d + 1):=Qbcf
  have hd0:(0:Int)≤(d:Int):=by omega
  have hwr:IntKind.wrap .i64 ((d:Int) + 1 + 1) = ((d + 1:Nat):Int) + 1:=by rw [Q2h (by omega) (by omega)]; omega
  generalize hgen:p.zA.zL.foldl (Qvo L d) (false,dN p L d) = R at hsnd
  obtain ⟨m,c'⟩:=R
  dsimp only at hsnd ⊢
  subst hsnd
  rw [hwr]
  refine ih _ ⟨d + 1,rfl,rfl,?_⟩ (by dsimp only; omega)
  cases m with
  | true =>
   left
   refine ⟨rfl,?_⟩
   rcases Qbcg hp hd0 (L:=L) (l:=p.zA.zL) (s:=(false,dN p L d)) (fun _ h=>h) hln (by rw [hgen]) with q | ⟨y,h0,h1,h2⟩
   ·cases q
   ·have:=(Qbg1 hp L (d + 1)).bound hp L h0 h1
    have h2:ati (dN p L (d + 1)) y = (d:Int) + 1:=h2
    omega
  | false =>
   right
   refine ⟨rfl,?_⟩
   have hs:dN p L (d + 1) = dN p L d:=Qbch hp hd0 (L:=L) (l:=p.zA.zL) (s:=(false,dN p L d)) (by rw [hgen])
   rw [hs]
   exact (Qbce hp L hs _ hdn).symm
 ·rw [if_neg (by simp),hq]
end
section
variable {p:Qa} (hp:RightP p) {R:List Int} (hR:Qbjy p R) (T:List Qc) (r:Int)
include hp hR
end
end Go.Abs
end
section
namespace Go.Abs
open Go
def remE (p:Qa) (L:List Bool) (rank i:Int):Option Qc:=if lf L i && ((escP p L i).1 != 0) then some ⟨i,rank,(escP p L i).1,(escP p L i).2⟩ else none
def remB (p:Qa) (L:List Bool) (rank i:Int):Option Qc:=if lf L i && decide (ati (Qlh p L) i < 0) then some ⟨i,rank,3,-1⟩ else none
def Q6t (p:Qa) (L:List Bool) (rank:Int):List Qc:=(upto p.zA.zM).filterMap (remE p L rank)
def Qbg2 (p:Qa) (L:List Bool) (rank:Int):List Qc:=(upto p.zA.zM).filterMap (remB p L rank)
def Qh6 (p:Qa) (L:List Bool) (rank:Int):List Qc:=if ((Q6t p L rank).length:Int) > 0 then Q6t p L rank else Qbg2 p L rank
section
variable {p:Qa} (hp:RightP p) {L:List Bool} (hL:L.length = p.zA.zM.toNat) (rank:Int)
include hp hL
theorem Qbid:Qdj (tsk p L) rank = some (Qh6 p L rank):=by
 unfold Qdj Qbr
 obtain ⟨fuel,hfu,hge⟩ : ∃ f,Qdv = f∧1099511627776≤f:=⟨_,rfl,Nat.le_refl _⟩
 rw [hfu,Q2l hp hL]
 rw [show (tsk p L).left_ = L from rfl]
 have hst:=hp.a.st
 have hul:(upto p.zA.zM).length < big:=by rw [Qc2]; unfold big; omega
 have huf:(upto p.zA.zM).length < fuel:=by rw [Qc2]; omega
 rw [Qbb8 (l:=upto p.zA.zM) (f:=remE p L rank) hul huf (fun k acc n hn ha=>by
  have hn':=Qxy hn
  dsimp only
  rw [Qzj hn,if_pos (by omega),Q8p hp hL ⟨by omega,by omega⟩]
  simp only [Option.bind_some,Qhz hL (p:=p) (x:=(n:Int)) ⟨by omega,by omega⟩]
  rw [Qjm (by simp only [List.length_cons,List.length_nil]; unfold lim; omega)]
  unfold remE
  cases lf L (n:Int) <;> by_cases h1:(escP p L (n:Int)).1 = 0 <;> simp [h1]) (fun k acc=>by
  dsimp only
  rw [Qc2,if_neg (by omega)]),Option.bind_some]
 unfold Qh6
 by_cases hE:((Q6t p L rank).length:Int) > 0
 ·rw [if_pos hE,if_pos (show ((((upto p.zA.zM).filterMap (remE p L rank)).length:Nat):Int) > 0 from hE)]; rfl
 ·rw [if_neg hE,if_neg (show ¬ ((((upto p.zA.zM).filterMap (remE p L rank)).length:Nat):Int) > 0 from hE)]
  have hnil:(upto p.zA.zM).filterMap (remE p L rank) = []:=List.eq_nil_of_length_eq_zero (by unfold Q6t at hE; omega)
  rw [hnil]
  simp only [Option.bind_some]
  have hdl:=(Qtm hp L).ln
  rw [Qbb8 (l:=upto p.zA.zM) (f:=remB p L rank) hul huf (fun k acc n hn ha=>by
   have hn':=Qxy hn
   dsimp only
   rw [Qzj hn,if_pos (by omega),Qqr (d:=0) (l:=Qlh p L) (by omega) (by omega)]
   simp only [Option.bind_some,Qhz hL (p:=p) (x:=(n:Int)) ⟨by omega,by omega⟩]
   rw [Qjm (by simp only [List.length_cons,List.length_nil]; unfold lim; omega)]
   unfold remB
   cases lf L (n:Int) <;> by_cases h1:ati (Qlh p L) (n:Int) < 0 <;> simp [h1]) (fun k acc=>by
   dsimp only
   rw [Qc2,if_neg (by omega)])]
  rfl
end
section
variable {p:Qa} (hp:RightP p) {R:List Int} (hR:Qbjy p R) (T:List Qc) (r rank:Int)
include hp hR
end
end Go.Abs
end
section
namespace Go.Abs
open Go
abbrev nS (p:Qa):Nat:=p.zA.zM.toNat
def Qbk (p:Qa) (T:List Qc):List Bool:=T.foldl (fun c x=>c.set x.State.toNat false) (List.replicate (nS p) true)
def Q5m (p:Qa) (T:List Qc):List Int:=T.foldl (fun c x=>c.set x.State.toNat x.Rank) (List.replicate (nS p) 0)
def Qxz (p:Qa) (T:List Qc):List Qc:=T.foldl (fun c x=>c.set x.State.toNat x) (List.replicate (nS p) ⟨0,0,0,0⟩)
theorem Qg6 (p:Qa) (T:List Qc):(Qbk p T).length = nS p:=by unfold Qbk; rw [Qnq (f:=fun x:Qc=>x.State.toNat) (g:=fun _=>false),List.length_replicate]
theorem Qbg3 (p:Qa) (T:List Qc):(Q5m p T).length = nS p:=by unfold Q5m; rw [Qnq (f:=fun x:Qc=>x.State.toNat) (g:=fun x=>x.Rank),List.length_replicate]
theorem Qbci (p:Qa) (T:List Qc):(Qxz p T).length = nS p:=by unfold Qxz; rw [Qnq (f:=fun x:Qc=>x.State.toNat) (g:=fun x=>x),List.length_replicate]
structure Okt (p:Qa) (T:List Qc):Prop where
 rg:∀ x∈T,0≤x.State∧x.State < p.zA.zM
 rk:∀ x∈T,1≤x.Rank
 nd:(T.map (·.State)).Nodup
theorem Qzk {p:Qa} {T:List Qc} (h:∀ x∈T,0≤x.State∧x.State < p.zA.zM) {y:Int} (h0:0≤y) (h1:y < p.zA.zM):lf (Qbk p T) y = !T.any fun x=>x.State == y:=by
 have key:∀ (T:List Qc) (c:List Bool),(∀ x∈T,0≤x.State∧x.State < p.zA.zM)→c.length = nS p→lf (T.foldl (fun c x=>c.set x.State.toNat false) c) y = (lf c y && !T.any fun x=>x.State == y):=by
  intro T
  induction T with
  | nil=>intro c _ _; simp
  | cons x T ih =>
   intro c hT hc
   have hx:=hT x (by simp)
   rw [List.foldl_cons,ih _ (fun z hz=>hT z (by simp [hz])) (by rw [List.length_set]; exact hc),Qbks ⟨hx.1,by unfold nS at hc; omega⟩ h0,List.any_cons]
   by_cases hq:y = x.State
   ·subst hq; simp
   ·rw [if_neg hq]
    have:(x.State == y) = false:=by rw [beq_eq_false_iff_ne]; exact fun e=>hq e.symm
    rw [this]; simp
 unfold Qbk
 rw [key T _ h (by simp)]
 have:lf (List.replicate (nS p) true) y = true:=Qbgv h0 (by unfold nS; omega)
 rw [this,Bool.true_and]
theorem Qbay {p:Qa} {T:List Qc} (h:Okt p T) {x:Qc} (hx:x∈T):at0 ⟨0,0,0,0⟩ (Qxz p T) x.State = x:=by
 have key:∀ (T:List Qc) (c:List Qc),(∀ x∈T,0≤x.State∧x.State < p.zA.zM)→(T.map (·.State)).Nodup→c.length = nS p→∀ y:Int,0≤y→y < p.zA.zM→∀ z,at0 ⟨0,0,0,0⟩ (T.foldl (fun c x=>c.set x.State.toNat x) c) y = z→(∃ x∈T,x.State = y∧x = z)∨(∀ x∈T,x.State≠y)∧at0 ⟨0,0,0,0⟩ c y = z:=by
  intro T
  induction T with
  | nil=>intro c _ _ _ y h0 h1 z hz; exact .inr ⟨fun x hx=>(by cases hx),hz⟩
  | cons x T ih =>
   intro c hT hn hc y h0 h1 z hz
   have hx:=hT x (by simp)
   rw [List.map_cons,List.nodup_cons] at hn
   rw [List.foldl_cons] at hz
   rcases ih _ (fun z hz=>hT z (by simp [hz])) hn.2 (by rw [List.length_set]; exact hc) y h0 h1 z hz with ⟨w,hw,k1,k2⟩ | ⟨k1,k2⟩
   ·exact .inl ⟨w,by simp [hw],k1,k2⟩
   ·rw [Q9t ⟨hx.1,by unfold nS at hc; omega⟩ h0] at k2
    by_cases hq:y = x.State
    ·rw [if_pos hq] at k2
     exact .inl ⟨x,by simp,hq.symm,k2⟩
    ·rw [if_neg hq] at k2
     refine .inr ⟨fun w hw=>?_,k2⟩
     rcases List.mem_cons.1 hw with rfl | hw
     ·exact fun e=>hq e.symm
     ·exact k1 w hw
 have hr:=h.rg x hx
 rcases key T (List.replicate (nS p) ⟨0,0,0,0⟩) h.rg h.nd (by simp) x.State hr.1 hr.2 _ rfl with ⟨w,hw,k1,k2⟩ | ⟨k1,_⟩
 ·change at0 ⟨0,0,0,0⟩ (Qxz p T) x.State = x
  have:w = x:=by
   have hnd:=h.nd
   have hpw:T.Pairwise fun a b=>a.State≠b.State:=by rw [List.Nodup,List.pairwise_map] at hnd; exact hnd
   rcases Classical.em (w = x) with e | hne
   ·exact e
   ·exfalso
    obtain ⟨i,hi,rfl⟩:=List.getElem_of_mem hw
    obtain ⟨j,hj,rfl⟩:=List.getElem_of_mem hx
    rcases Nat.lt_trichotomy i j with hij | hij | hij
    ·exact List.pairwise_iff_getElem.1 hpw i j hi hj hij k1
    ·subst hij; exact hne rfl
    ·exact List.pairwise_iff_getElem.1 hpw j i hj hi hij k1.symm
  rw [← this]
  unfold Qxz
  rw [this]
  exact k2.symm.trans this
 ·exact absurd rfl (k1 x hx)
theorem Qx0 {p:Qa} {L:List Bool} {rank:Int} {x:Qc} (hx:x∈Qh6 p L rank):(0≤x.State∧x.State < p.zA.zM)∧lf L x.State = true∧x.Rank = rank:=by
 have hE:∀ x∈Q6t p L rank,(0≤x.State∧x.State < p.zA.zM)∧lf L x.State = true∧x.Rank = rank:=fun x hx=>by
  obtain ⟨i,hi,h⟩:=List.mem_filterMap.1 hx
  unfold remE at h
  split at h <;> cases h
  rename_i hc
  exact ⟨Qge.1 hi,by simp only [Bool.and_eq_true] at hc; exact hc.1,rfl⟩
 have hB:∀ x∈Qbg2 p L rank,(0≤x.State∧x.State < p.zA.zM)∧lf L x.State = true∧x.Rank = rank:=fun x hx=>by
  obtain ⟨i,hi,h⟩:=List.mem_filterMap.1 hx
  unfold remB at h
  split at h <;> cases h
  rename_i hc
  exact ⟨Qge.1 hi,by simp only [Bool.and_eq_true] at hc; exact hc.1,rfl⟩
 unfold Qh6 at hx
 split at hx
 ·exact hE x hx
 ·exact hB x hx
theorem Qbg4 {f:Int→Option Qc} (hf:∀ i x,f i = some x→x.State = i) {l:List Int} (h:l.Pairwise (· < ·)):((l.filterMap f).map (·.State)).Pairwise (· < ·):=by
 rw [List.pairwise_map,List.pairwise_filterMap]
 refine h.imp fun {a b} hab x hx y hy=>?_
 rw [hf a x hx,hf b y hy]; exact hab
theorem Qbdd (p:Qa) (L:List Bool) (rank:Int):((Qh6 p L rank).map (·.State)).Pairwise (· < ·):=by
 unfold Qh6
 split
 ·exact Qbg4 (fun i x h=>by unfold remE at h; split at h <;> cases h; rfl) (Q5j _)
 ·exact Qbg4 (fun i x h=>by unfold remB at h; split at h <;> cases h; rfl) (Q5j _)
theorem Okt.round {p:Qa} {T:List Qc} (h:Okt p T) {rank:Int} (hr:1≤rank):Okt p (T ++ Qh6 p (Qbk p T) rank):=by
 refine ⟨fun x hx=>?_,fun x hx=>?_,?_⟩
 ·rcases List.mem_append.1 hx with hx | hx
  ·exact h.rg x hx
  ·exact (Qx0 hx).1
 ·rcases List.mem_append.1 hx with hx | hx
  ·exact h.rk x hx
  ·rw [(Qx0 hx).2.2]; exact hr
 ·rw [List.map_append,List.nodup_append]
  refine ⟨h.nd,(Qbdd p _ rank).imp fun h=>by omega,fun a ha b hb=>?_⟩
  obtain ⟨x,hx,rfl⟩:=List.mem_map.1 ha
  obtain ⟨y,hy,rfl⟩:=List.mem_map.1 hb
  obtain ⟨k1,k2,_⟩:=Qx0 hy
  intro e
  rw [Qzk h.rg k1.1 k1.2] at k2
  simp only [Bool.not_eq_true',List.any_eq_false] at k2
  exact k2 x hx (by simp [e])
theorem Okt.len {p:Qa} {T:List Qc} (h:Okt p T):T.length≤nS p:=by
 have hsub:∀ x∈T.map (·.State),x∈upto p.zA.zM:=fun x hx=>by
  obtain ⟨y,hy,rfl⟩:=List.mem_map.1 hx
  exact Qge.2 (h.rg y hy)
 have hlen:∀ {l m:List Int},l.Nodup→(∀ x∈l,x∈m)→l.length≤m.length:=fun {l m} h hs=>by
  induction l generalizing m with
  | nil=>simp
  | cons x l ih =>
   obtain ⟨a1,a2⟩:=List.nodup_cons.1 h
   have hx:=hs x (by simp)
   have:=ih (m:=m.erase x) a2 fun y hy=>(List.mem_erase_of_ne (by rintro rfl; exact a1 hy)).2 (hs y (by simp [hy]))
   rw [List.length_erase_of_mem hx] at this
   have:0 < m.length:=List.length_pos_of_mem hx
   simp only [List.length_cons]; omega
 have:=hlen h.nd hsub
 rw [List.length_map,Qc2] at this
 exact this
def T0 (p:Qa):List Qc:=p.zC.map fun x=>⟨x,1,1,-1⟩
def r0 (p:Qa):Int:=if p.zC = [] then 0 else 1
def Qtn (p:Qa):Nat→Int→List Qc→Int→List Qc×Int
 | 0,_,T,r=>(T,r)
 | f + 1,rank,T,r=>if Qh6 p (Qbk p T) rank = [] then (T,r) else Qtn p f (rank + 1) (T ++ Qh6 p (Qbk p T) rank) rank
def solP (p:Qa):List Qc×Int:=Qtn p (nS p + 1) 2 (T0 p) (r0 p)
theorem Qbg5 {p:Qa} (hp:RightP p):Okt p (T0 p):=by
 unfold T0
 refine ⟨fun x hx=>?_,fun x hx=>?_,?_⟩
 ·obtain ⟨y,hy,rfl⟩:=List.mem_map.1 hx; exact hp.fo.rg y hy
 ·obtain ⟨y,hy,rfl⟩:=List.mem_map.1 hx; exact Int.le_refl _
 ·rw [List.map_map]
  have:((fun x:Qc=>x.State) ∘ fun x:Int=>(⟨x,1,1,-1⟩ : Qc)) = id:=rfl
  rw [this,List.map_id]
  exact hp.fo.so.imp fun h=>by omega
end Go.Abs
end
section
namespace Go.Abs
open Go
theorem Q8q {α β γ:Type} {f:α→γ→α} {g:β→γ→β}:∀ {l:List γ} {a:α} {b:β},l.foldl (fun s x=>(f s.1 x,g s.2 x)) (a,b) = (l.foldl f a,l.foldl g b)
 | [],_,_=>rfl
 | x :: l,a,b=>by rw [List.foldl_cons,Q8q (l:=l)]; rfl
theorem Qbeu {p:Qa} {T l:List Qc}:l.foldl (fun c x=>c.set x.State.toNat false) (Qbk p T) = Qbk p (T ++ l):=by unfold Qbk; rw [List.foldl_append]
theorem Qbev {p:Qa} {T l:List Qc}:l.foldl (fun c x=>c.set x.State.toNat x) (Qxz p T) = Qxz p (T ++ l):=by unfold Qxz; rw [List.foldl_append]
theorem Qbku {p:Qa} (hp:RightP p):(upto p.zA.zM).map (fun i=>!decide (i∈p.zC)) = Qbk p (T0 p):=by
 refine Qbca (d:=false) (by rw [Qg6,List.length_map,Qc2]) fun x h0 h1=>?_
 rw [List.length_map,Qc2] at h1
 have h2:x < p.zA.zM:=by omega
 rw [Q2j h0 h2]
 have:=Qzk (Qbg5 hp).rg h0 h2
 rw [show at0 false (Qbk p (T0 p)) x = lf (Qbk p (T0 p)) x from rfl,this]
 congr 1
 unfold T0
 rw [List.any_map,Bool.eq_iff_iff,List.any_eq_true]
 simp
section
variable {p:Qa} (hp:RightP p)
include hp
theorem Qbaz:Qds p = some (tsk p (Qbk p (T0 p))):=by
 unfold Qds Q2
 obtain ⟨fuel,hfu,hge⟩ : ∃ f,Qdv = f∧1099511627776≤f:=⟨_,rfl,Nat.le_refl _⟩
 rw [hfu]
 have hst:=hp.a.st
 have hsm:=hp.a.small
 have hpl:=hp.small
 have hmk:∀ {α:Type} (v:α),mkO p.zA.zM v = some (List.replicate (nS p) v):=fun v=>by unfold mkO lim; rw [if_pos (by omega)]
 rw [hmk,hmk]
 simp only [Option.bind_some]
 refine Option.bind_eq_some_iff.2 ⟨Q0s p,?_,?_⟩
 ·refine (Q2i (len:=p.zA.zL.length) (fun n (c:List (List Qe))=>((n:Int),c)) (fun n c=>c = (upto p.zA.zM).map fun i=>(p.zA.zL.take n).filter fun x=>x.From == i) (fun n c=>some (Q0s p)) ?_ ?_ fuel 0 (List.replicate (nS p) []) (Nat.zero_le _) (by have:=hsm.1.2.2; unfold big at this; omega) ?_)
  ·rintro k n c hn hc ih
   have hr:=hp.a.ed0 _ (List.getElem_mem hn)
   have hcl:c.length = nS p:=by rw [hc,List.length_map,Qc2]
   have hb:=hsm.2.2.2
   have hlen:((p.zA.zL.take n).filter fun x=>x.From == p.zA.zL[n].From).length≤n:=Nat.le_trans (List.length_filter_le _ _) (by rw [List.length_take]; omega)
   dsimp only
   rw [if_pos (by omega),Qcx hn,Option.bind_some,Qjn hr.1 (by omega),Option.bind_some,Qqr (d:=[]) hr.1 (by unfold nS at hcl; omega),Option.bind_some]
   have hat:at0 [] c p.zA.zL[n].From = (p.zA.zL.take n).filter fun x=>x.From == p.zA.zL[n].From:=by rw [hc,Q2j hr.1 hr.2.1]
   rw [hat,Qjm (by simp only [List.length_cons,List.length_nil]; unfold lim; omega),Option.bind_some,Option.bind_some,Qgr hr.1 (by unfold nS at hcl; omega),Option.bind_some,Qg5 (by omega)]
   refine ih _ ?_
   refine Qbca (d:=[]) (by rw [List.length_set,hcl,List.length_map,Qc2]) fun y h0 h1=>?_
   rw [List.length_set,hcl] at h1
   have h2:y < p.zA.zM:=by unfold nS at h1; omega
   rw [Q9t ⟨hr.1,by unfold nS at hcl; omega⟩ h0,Q2j h0 h2,List.take_succ_eq_append_getElem hn,List.filter_append]
   by_cases hq:y = p.zA.zL[n].From
   ·rw [if_pos hq,← hq]; simp [hq]
   ·rw [if_neg hq,hc,Q2j h0 h2]
    have:(p.zA.zL[n].From == y) = false:=by rw [beq_eq_false_iff_ne]; exact fun e=>hq e.symm
    simp [this]
  ·rintro k c hc
   dsimp only
   rw [if_neg (by omega),hc,List.take_length]
   rfl
  ·refine Qbca (d:=[]) (by rw [List.length_replicate,List.length_map,Qc2]) fun y h0 h1=>?_
   rw [List.length_replicate] at h1
   have h2:y < p.zA.zM:=by unfold nS at h1; omega
   rw [Qbgv h0 (by unfold nS at h1 ⊢; omega),Q2j h0 h2]; simp
 refine Option.bind_eq_some_iff.2 ⟨Qbk p (T0 p),?_,?_⟩
 ·refine (Qip (l:=upto p.zA.zM) (fun i (c:List Bool)=>(i,c)) (fun c i=>c.set i.toNat (!decide (i∈p.zC))) (fun _ c=>c.length = nS p) (fun c=>some c) (by rw [Qc2]; unfold big; omega) hge (fun k n s hn hs=>?_) (fun n s hn hs=>by rw [List.length_set]; exact hs) (fun k s hs=>?_) (s0:=List.replicate (nS p) false) (by simp)).trans ?_
  ·have hn':=Qxy hn
   dsimp only
   rw [Qzj hn,if_pos (by omega),Qb0 hp.fo.so hpl.2.1,Option.bind_some,Qjn (by omega) (by omega),Option.bind_some,Qgr (by omega) (by unfold nS at hs; omega),Option.bind_some]
  ·dsimp only
   rw [Qc2,if_neg (by omega)]
  ·rw [Q8n (by simp),Qbku hp]
 rw [Qvl (by unfold Q0s; rw [List.length_map,Qc2]),Option.bind_some,Qvl (Qg6 p _),Option.bind_some]
 rfl
theorem Qbew {fuel:Nat} (hge:1099511627776≤fuel) {S:List Qc×Int} {f:Nat} (hS:Qtn p f 2 (T0 p) (r0 p) = S) (hf:nS p + 1≤f + (T0 p).length) :
  Qdz (fun (k26:Int×Int×List Qc×List Bool→Option (Int×List Qc×List Bool)) ((rank22,r23,c24,c25):Int×Int×(List Qc)×(List Bool))=>((lenO c25 (nS p)).bind fun _=>((Qdj (tsk p c25) rank22).bind fun x29=>(if ((x29.length:Int) == 0) then some (r23,c24,c25) else ((Qdz (fun k34 ((x31,c32,c33):Int×(List Qc)×(List Bool))=>(if (x31 < (x29.length:Int)) then ((getO x29 x31).bind fun x36=>((inO (nS p) x36.State).bind fun u38=>((setO c33 x36.State false).bind fun x40=>((inO (Int.toNat ((nS p:Nat):Int)) x36.State).bind fun u42=>((setO c32 x36.State x36).bind fun x44=>k34 ((IntKind.wrap .i64 (x31 + 1)),x44,x40)))))) else some (c32,c33))) fuel (0,c24,c25)).bind fun ((c46,c47):(List Qc)×(List Bool))=>k26 ((IntKind.wrap .i64 (rank22 + 1)),rank22,c46,c47)))))) fuel (2,r0 p,Qxz p (T0 p),Qbk p (T0 p)) = some (S.2,Qxz p S.1,Qbk p S.1):=by
 have hst:=hp.a.st
 have hnS:nS p≤4096:=by unfold nS; omega
 refine Qbau (fun x:Int×Int×List Qc×List Bool=>∃ (f:Nat) (T:List Qc),x.2.2.1 = Qxz p T∧x.2.2.2 = Qbk p T∧Okt p T∧Qtn p f x.1 T x.2.1 = S∧nS p + 1≤f + T.length∧2≤x.1∧x.1≤T.length + 2) (fun x=>(6000 - x.1).toNat) (some (S.2,Qxz p S.1,Qbk p S.1)) ⟨f,T0 p,rfl,rfl,Qbg5 hp,hS,hf,by dsimp only; omega,by dsimp only; omega⟩ (by dsimp only; omega) ?_
 rintro k ⟨rank,r,c,L⟩ ⟨f,T,hc,hL,hT,hS,hf,h2,hrk⟩ ih
 dsimp only at hc hL hS hf h2 hrk ih ⊢
 subst hc hL
 have hTl:=hT.len
 rw [Qvl (Qg6 p T),Option.bind_some,Qbid hp (Qg6 p T),Option.bind_some]
 obtain ⟨f,rfl⟩ : ∃ g,f = g + 1:=⟨f - 1,by omega⟩
 rw [Qtn] at hS
 by_cases he:Qh6 p (Qbk p T) rank = []
 ·rw [if_pos he] at hS
  rw [if_pos (by rw [he]; rfl)]
  subst hS; rfl
 ·rw [if_neg he] at hS
  have hpos:0 < (Qh6 p (Qbk p T) rank).length:=List.length_pos_iff.2 he
  rw [if_neg (by simp only [beq_iff_eq]; omega)]
  have hok:=hT.round (rank:=rank) (by omega)
  have hmem:∀ x∈Qh6 p (Qbk p T) rank,0≤x.State∧x.State < p.zA.zM:=fun x hx=>(Qx0 hx).1
  have hol:=hok.len
  rw [List.length_append] at hol
  generalize Qh6 p (Qbk p T) rank = l at *
  have hin:Qdz (fun (k34:Int×List Qc×List Bool→Option (List Qc×List Bool)) ((x31,c32,c33):Int×(List Qc)×(List Bool))=>(if (x31 < (l.length:Int)) then ((getO l x31).bind fun x36=>((inO (nS p) x36.State).bind fun u38=>((setO c33 x36.State false).bind fun x40=>((inO (Int.toNat ((nS p:Nat):Int)) x36.State).bind fun u42=>((setO c32 x36.State x36).bind fun x44=>k34 ((IntKind.wrap .i64 (x31 + 1)),x44,x40)))))) else some (c32,c33))) fuel (0,Qxz p T,Qbk p T) = some (Qxz p (T ++ l),Qbk p (T ++ l)):=by
   refine (Qip (l:=l) (fun i (s:List Qc×List Bool)=>(i,s.1,s.2)) (fun s x=>(s.1.set x.State.toNat x,s.2.set x.State.toNat false)) (fun _ s=>s.1.length = nS p∧s.2.length = nS p) (fun s=>some s) (by unfold big; omega) hge (fun k n s hn hs=>?_) (fun n s hn hs=>by simp only [List.length_set]; exact hs) (fun k s hs=>?_) (s0:=(Qxz p T,Qbk p T)) ⟨Qbci p T,Qg6 p T⟩).trans ?_
   ·have hr:=hmem _ (List.getElem_mem hn)
    obtain ⟨hs1,hs2⟩:=hs
    unfold nS at hs1 hs2 ⊢
    dsimp only
    rw [if_pos (by omega),Qcx hn,Option.bind_some,Qjn hr.1 (by omega),Option.bind_some,Qgr hr.1 (by omega),Option.bind_some,Int.toNat_natCast,Qjn hr.1 (by omega),Option.bind_some,Qgr hr.1 (by omega),Option.bind_some]
   ·dsimp only
    rw [if_neg (by omega)]
   ·rw [← Qbev,← Qbeu]
    exact congrArg some (Q8q (f:=fun (c:List Qc) (x:Qc)=>c.set x.State.toNat x) (g:=fun (c:List Bool) (x:Qc)=>c.set x.State.toNat false))
  rw [hin,Option.bind_some,Q2h (by omega) (by omega)]
  refine ih _ ⟨f,T ++ l,rfl,rfl,hok,hS,by rw [List.length_append]; omega,by dsimp only; omega,by dsimp only; rw [List.length_append]; omega⟩ (by dsimp only; omega)
end
end Go.Abs
end
section
namespace Go.Abs
open Go
theorem Qba0 {β:Type} {z v:β} {k k' : Int}:∀ {m:List (Int×β)},getM (setM m k v) k' z = if k' = k then v else getM m k' z
 | []=>by simp [setM,getM]
 | (q,w) :: m=>by
  by_cases h1:k = q
  ·subst h1
   by_cases h2:k' = k <;> simp [setM,getM,h2]
  ·have h1' : (k == q) = false:=by simp [h1]
   simp only [setM,h1',Bool.false_eq_true,if_false,getM]
   rw [Qba0 (m:=m)]
   by_cases h2:k' = q
   ·subst h2
    have:k' ≠ k:=fun e=>h1 e.symm
    simp [this]
   ·simp [h2]
theorem Qba1 {β:Type} {v:β} {k k' : Int}:∀ {m:List (Int×β)},hasM (setM m k v) k' = (decide (k' = k) || hasM m k')
 | []=>by
  simp only [setM,hasM,List.any_cons,List.any_nil,Bool.or_false]
  rw [Bool.eq_iff_iff]; simp
 | (q,w) :: m=>by
  by_cases h1:k = q
  ·subst h1
   simp only [setM,beq_self_eq_true,if_true,Q78]
   rw [Bool.eq_iff_iff]; simp
  ·have h1' : (k == q) = false:=by simp [h1]
   simp only [setM,h1',Bool.false_eq_true,if_false,Q78]
   rw [Qba1 (m:=m)]
   cases (k' == q) <;> cases decide (k' = k) <;> simp
def MapOk (m:List (Int×Int)) (st:List Int):Prop:=∀ r,hasM m r = decide (r∈st)∧(r∈st→getM m r 0 = (st.idxOf r:Int))
theorem MapOk.ins {m:List (Int×Int)} {st:List Int} (h:MapOk m st) {r:Int} (hr:r∉st):MapOk (setM m r (st.length:Int)) (st ++ [r]):=by
 intro x
 obtain ⟨h1,h2⟩:=h x
 refine ⟨?_,fun hx=>?_⟩
 ·rw [Qba1,h1,Bool.eq_iff_iff]; simp; exact Or.comm
 ·rw [Qba0]
  by_cases hxr:x = r
  ·subst hxr
   rw [if_pos rfl,List.idxOf_append]
   simp [hr]
  ·rw [if_neg hxr]
   have hx' : x∈st:=by
    rcases List.mem_append.1 hx with hx | hx
    ·exact hx
    ·simp at hx; exact absurd hx hxr
   rw [h2 hx',List.idxOf_append,if_pos hx']
def Qis (L:List Bool) (i:Nat) (s:List Int×List Qe) (x:Qe):List Int×List Qe :=
 if lf L x.To then (ins s.1 x.To,s.2 ++ [⟨(i:Int),x.Event,((ins s.1 x.To).idxOf x.To:Int)⟩]) else s
def bldS (p:Qa) (L:List Bool):Nat→Nat→List Int→List Int→List Qe→List Int×List Int×List Qe
 | 0,_,st,ms,es=>(st,ms,es)
 | f + 1,i,st,ms,es=>match st[i]? with
  | none=>(st,ms,es)
  | some s=>bldS p L f (i + 1) ((outP p.zA s).foldl (Qis L i) (st,es)).1 (if s∈p.zA.zK then ms ++ [(i:Int)] else ms) ((outP p.zA s).foldl (Qis L i) (st,es)).2
def st0 (p:Qa) (L:List Bool):List Int:=if 0 < p.zA.zM∧lf L 0 = true then [0] else []
def supP (p:Qa) (L:List Bool):List Int×List Int×List Qe:=bldS p L (nS p + 1) 0 (st0 p L) [] []
section
variable {p:Qa} (hp:RightP p) {L:List Bool}
include hp
theorem Q68 {i:Nat}:∀ {l:List Qe} {s:List Int×List Qe},(∀ x∈l,0≤x.To∧x.To < p.zA.zM)→Fnd p.zA s.1→Fnd p.zA (l.foldl (Qis L i) s).1∧s.1 <+: (l.foldl (Qis L i) s).1∧(l.foldl (Qis L i) s).2.length≤s.2.length + l.length
 | [],s,_,h=>⟨h,List.prefix_refl _,by simp⟩
 | x :: l,s,hl,h=>by
  rw [List.foldl_cons]
  have hx:=hl x (by simp)
  unfold Qis
  cases hq:lf L x.To with
  | false =>
   rw [if_neg (by simp)]
   obtain ⟨h1,h2,h3⟩:=Q68 (i:=i) (l:=l) (s:=s) (fun y hy=>hl y (by simp [hy])) h
   exact ⟨h1,h2,by simp only [List.length_cons]; unfold Qis at h3; omega⟩
  | true =>
   rw [if_pos rfl]
   obtain ⟨h1,h2,h3⟩:=Q68 (i:=i) (l:=l) (s:=(ins s.1 x.To,s.2 ++ [⟨(i:Int),x.Event,((ins s.1 x.To).idxOf x.To:Int)⟩])) (fun y hy=>hl y (by simp [hy])) (h.ins hx)
   refine ⟨h1,List.IsPrefix.trans (Qbjv _ _) h2,?_⟩
   simp only [List.length_append,List.length_cons,List.length_nil] at h3 ⊢
   unfold Qis at h3; omega
theorem Q6g (s:Int):(outP p.zA s).length≤131072:=Nat.le_trans (List.length_filter_le _ _) hp.a.small.2.2.2
theorem Qbg6:Fnd p.zA (st0 p L):=by
 unfold st0
 split
 ·rename_i h
  exact ⟨by simp,fun x hx=>by simp only [List.mem_singleton] at hx; subst hx; exact ⟨Int.le_refl _,h.1⟩⟩
 ·exact ⟨by simp,fun x hx=>by cases hx⟩
variable (hL:L.length = nS p)
include hL
theorem Qbjz {fuel:Nat} (hge:1099511627776≤fuel) {i:Nat} (hi:i≤4096) {s:Int} {st ms:List Int} {es:List Qe} {c:List (Int×Int)} (hf:Fnd p.zA st) (hc:MapOk c st) (he:es.length≤131072 * 4096) :
  ∃ c',MapOk c' ((outP p.zA s).foldl (Qis L i) (st,es)).1∧Qdz (fun (k49:List Int×Int×List Qe×List (Int×Int)→Option (List Int×List Int×List Qe×List (Int×Int))) ((origins45,x46,a47,c48):(List Int)×Int×(List Qe)×(List (Int×Int)))=>(if (x46 < ((outP p.zA s).length:Int)) then ((((getO (outP p.zA s) x46).bind fun x51=>((inO L.length x51.To).bind fun u53=>((getO L x51.To).bind fun x55=>(if x55 then (((if (hasM c48 x51.To) then some (origins45,c48) else ((appO origins45 [x51.To]).bind fun x59=>some (x59,(setM c48 x51.To (origins45.length:Int)))))).bind fun ((origins61,c62):(List Int)×(List (Int×Int)))=>((appO a47 [(Qe.mk (i:Int) x51.Event (getM c62 x51.To 0))]).bind fun x63=>some (origins61,x63,c62,x51.From,x51.Event,x51.To))) else some (origins45,a47,c48,x51.From,x51.Event,x51.To)))))).bind fun ((origins65,a66,c67,c68,c69,c70):(List Int)×(List Qe)×(List (Int×Int))×Int×Int×Int)=>k49 (origins65,(IntKind.wrap .i64 (x46 + 1)),a66,c67)) else some (origins45,ms,a47,c48))) fuel (st,0,es,c) = some (((outP p.zA s).foldl (Qis L i) (st,es)).1,ms,((outP p.zA s).foldl (Qis L i) (st,es)).2,c'):=by
 have hst:=hp.a.st
 have hnS:nS p≤4096:=by unfold nS; omega
 have hol:=Q6g hp s
 let stp:(List Int×List Qe)×List (Int×Int)→Qe→(List Int×List Qe)×List (Int×Int):=fun s x=>(Qis L i s.1 x,if lf L x.To && decide (x.To∉s.1.1) then setM s.2 x.To (s.1.1.length:Int) else s.2)
 have hproj:∀ (l:List Qe) (s:(List Int×List Qe)×List (Int×Int)),(l.foldl stp s).1 = l.foldl (Qis L i) s.1:=by
  intro l
  induction l with
  | nil=>intro s; rfl
  | cons x l ih=>intro s; rw [List.foldl_cons,List.foldl_cons,ih]
 have hI:∀ (n:Nat) (q:(List Int×List Qe)×List (Int×Int)) (hn:n < (outP p.zA s).length),(Fnd p.zA q.1.1∧MapOk q.2 q.1.1∧q.1.2.length≤131072 * 4096 + n)→(Fnd p.zA (stp q (outP p.zA s)[n]).1.1∧MapOk (stp q (outP p.zA s)[n]).2 (stp q (outP p.zA s)[n]).1.1∧(stp q (outP p.zA s)[n]).1.2.length≤131072 * 4096 + (n + 1)):=by
  rintro n q hn ⟨h1,h2,h3⟩
  have hr:=(Qir hp _ (List.getElem_mem hn)).1
  generalize (outP p.zA s)[n] = x at hr
  simp only [stp,Qis]
  cases hq:lf L x.To with
  | false=>simp only [Bool.false_eq_true,if_false,Bool.false_and]; exact ⟨h1,h2,by omega⟩
  | true =>
   simp only [if_true,Bool.true_and]
   refine ⟨h1.ins hr,?_,by simp only [List.length_append,List.length_cons,List.length_nil]; omega⟩
   by_cases hm:x.To∈q.1.1
   ·have:ins q.1.1 x.To = q.1.1:=by unfold ins; rw [if_pos hm]
    rw [this,if_neg (by simpa using hm)]; exact h2
   ·have:ins q.1.1 x.To = q.1.1 ++ [x.To]:=by unfold ins; rw [if_neg hm]
    rw [this,if_pos (by simpa using hm)]; exact h2.ins hm
 have h0:Fnd p.zA ((st,es),c).1.1∧MapOk ((st,es),c).2 ((st,es),c).1.1∧((st,es),c).1.2.length≤131072 * 4096 + 0:=⟨hf,hc,he⟩
 have hend:=Qbh8 (l:=outP p.zA s) (stp:=stp) (I:=fun n q=>Fnd p.zA q.1.1∧MapOk q.2 q.1.1∧q.1.2.length≤131072 * 4096 + n) hI h0
 refine ⟨((outP p.zA s).foldl stp ((st,es),c)).2,?_,?_⟩
 ·have:=hend.2.1
  rw [hproj] at this; exact this
 ·refine (Qip (l:=outP p.zA s) (fun j (q:(List Int×List Qe)×List (Int×Int))=>(q.1.1,j,q.1.2,q.2)) stp (fun n q=>Fnd p.zA q.1.1∧MapOk q.2 q.1.1∧q.1.2.length≤131072 * 4096 + n) (fun q=>some (q.1.1,ms,q.1.2,q.2)) (Qrp hp s) hge (fun k n q hn hq=>?_) hI (fun k q hq=>?_) (s0:=((st,es),c)) h0).trans ?_
  ·obtain ⟨h1,h2,h3⟩:=hq
   have hr:=(Qir hp _ (List.getElem_mem hn)).1
   have hfl:=h1.len
   dsimp only
   rw [if_pos (by omega),Qcx hn]
   generalize (outP p.zA s)[n] = x at hr
   simp only [Option.bind_some,Qhz hL hr,stp,Qis]
   cases hq:lf L x.To with
   | false=>simp
   | true =>
    simp only [if_true,Bool.true_and]
    rw [(h2 x.To).1]
    by_cases hm:x.To∈q.1.1
    ·have hins:ins q.1.1 x.To = q.1.1:=by unfold ins; rw [if_pos hm]
     rw [hins]
     simp only [hm,decide_true,if_true,Option.bind_some,(h2 x.To).2 hm,not_true_eq_false,decide_false,Bool.false_eq_true,if_false]
     rw [Qjm (by simp only [List.length_cons,List.length_nil]; unfold lim; omega)]; rfl
    ·have hins:ins q.1.1 x.To = q.1.1 ++ [x.To]:=by unfold ins; rw [if_neg hm]
     have hidx:(q.1.1 ++ [x.To]).idxOf x.To = q.1.1.length:=by rw [List.idxOf_append,if_neg hm]; simp
     rw [hins,hidx]
     simp only [hm,decide_false,Bool.false_eq_true,if_false,not_false_eq_true,decide_true,if_true]
     rw [Qjm (l:=q.1.1) (by simp only [List.length_cons,List.length_nil]; unfold lim; omega)]
     simp only [Option.bind_some,Qba0,if_true]
     rw [Qjm (by simp only [List.length_cons,List.length_nil]; unfold lim; omega)]; rfl
  ·dsimp only
   rw [if_neg (by omega)]
  ·rw [hproj]
theorem Qbkv:Qde (tsk p L) = some (⟨p.zA.zJ,((supP p L).1.length:Int),(supP p L).2.1,(supP p L).2.2⟩,(supP p L).1):=by
 unfold Qde Q9
 obtain ⟨fuel,hfu,hge⟩ : ∃ f,Qdv = f∧1099511627776≤f:=⟨_,rfl,Nat.le_refl _⟩
 rw [hfu]
 rw [show (tsk p L).left_ = L from rfl,show (tsk p L).zN = p from rfl,show (tsk p L).from_ = Q0s p from rfl]
 have hst:=hp.a.st
 have hnS:nS p≤4096:=by unfold nS; omega
 have hsm:=hp.a.small
 rw [Qbib (by unfold lim; omega),Option.bind_some]
 obtain ⟨c0,hc0,hstart⟩ : ∃ c0,MapOk c0 (st0 p L)∧(((if ((L.length:Int) > 0) then ((inO L.length 0).bind fun u11=>((getO L 0).bind fun x13=>some x13)) else some false)).bind fun (x15:Bool)=>(if x15 then ((appO [] [(0:Int)]).bind fun x17=>some (x17,(setM ([]:List (Int×Int)) 0 0))) else some ([],[]))) = some (st0 p L,c0):=by
  unfold st0
  by_cases h1:(L.length:Int) > 0
  ·have hn0:0 < p.zA.zM:=by unfold nS at hL; omega
   rw [if_pos h1]
   simp only [Qhz hL (p:=p) (x:=0) ⟨Int.le_refl _,hn0⟩,Option.bind_some,hn0,true_and]
   cases lf L 0 with
   | true =>
    refine ⟨setM [] 0 0,fun r=>⟨?_,fun hr=>?_⟩,rfl⟩
    ·rw [Qba1]; simp [hasM]
    ·simp only [if_true,List.mem_singleton] at hr; subst hr; rfl
   | false=>exact ⟨[],fun r=>⟨by simp [hasM],fun hr=>by simp at hr⟩,rfl⟩
  ·have hn0:¬ (0 < p.zA.zM):=by unfold nS at hL; omega
   rw [if_neg h1]
   simp only [hn0,false_and,if_false]
   exact ⟨[],fun r=>⟨by simp [hasM],fun hr=>by cases hr⟩,rfl⟩
 rw [hstart,Option.bind_some]
 dsimp only
 generalize hA:supP p L = A
 refine Qbh7 (P:=fun r=>∃ c' : List (Int×Int),r = (A.1,[],[],[],A.2.1,A.2.2,c')) ?_ ?_
 ·refine Qrw (fun x:List Int×Int×List Int×List Int×List Qe×List Int×List Qe×List (Int×Int)=>∃ (n f:Nat),x.2.1 = n∧x.2.2.1 = []∧x.2.2.2.1 = []∧x.2.2.2.2.1 = []∧n + f = nS p + 1∧n≤x.1.length∧Fnd p.zA x.1∧x.2.2.2.2.2.1.length≤n∧x.2.2.2.2.2.2.1.length≤131072 * n∧MapOk x.2.2.2.2.2.2.2 x.1∧bldS p L f n x.1 x.2.2.2.2.2.1 x.2.2.2.2.2.2.1 = A)
   (fun x=>5001 - x.2.1.toNat) (fun _ r=>∃ v,r = some v∧∃ c' : List (Int×Int),v = (A.1,[],[],[],A.2.1,A.2.2,c')) ?_ fuel (st0 p L,0,[],[],[],[],[],c0) ⟨0,nS p + 1,rfl,rfl,rfl,rfl,by omega,Nat.zero_le _,Qbg6 hp,Nat.zero_le _,Nat.zero_le _,hc0,hA⟩ (by dsimp only; omega)
  rintro k ⟨st,x,c1,c2,c3,ms,es,c⟩ ⟨n,f,hx,h1,h2,h3,hf,hnl,hfd,hms,hes,hc,hB⟩ ih
  dsimp only at hx h1 h2 h3 hnl hfd hms hes hc hB ih ⊢
  subst hx h1 h2 h3
  have hfl:=hfd.len
  by_cases hlt:n < st.length
  ·obtain ⟨f,rfl⟩ : ∃ g,f = g + 1:=⟨f - 1,by unfold nS at *; omega⟩
   have hi:st[n]? = some st[n]:=List.getElem?_eq_getElem hlt
   have hr:=hfd.rg _ (List.getElem_mem hlt)
   rw [if_pos (by omega),Qcx hlt,Option.bind_some,Qb0 hp.a.ma hsm.1.2.1,Option.bind_some]
   have hmk:(if decide (st[n]∈p.zA.zK) = true then (appO ms [(n:Int)]).bind fun x36=>some x36 else some ms) = some (if st[n]∈p.zA.zK then ms ++ [(n:Int)] else ms):=by
    rw [Qjm (by simp only [List.length_cons,List.length_nil]; unfold lim; unfold nS at *; omega)]
    by_cases hm:st[n]∈p.zA.zK <;> simp [hm]
   rw [hmk,Option.bind_some,Option.bind_some,(Qvn hr).1,Option.bind_some,(Qvn hr).2,Option.bind_some]
   rw [bldS,hi] at hB
   dsimp only at hB
   obtain ⟨k1,k2,k3⟩:=Q68 hp (i:=n) (L:=L) (l:=outP p.zA st[n]) (s:=(st,es)) (fun x hx=>(Qir hp x hx).1) hfd
   have hol:=Q6g hp st[n]
   have hn4:n≤4096:=by unfold nS at *; omega
   obtain ⟨c',hc',hrow⟩:=Qbjz hp hL hge (i:=n) hn4 (s:=st[n]) (ms:=if st[n]∈p.zA.zK then ms ++ [(n:Int)] else ms) (es:=es) hfd hc (by omega)
   rw [hrow,Option.bind_some,Qg5 (by omega)]
   have hk2:=k2.length_le
   refine ih _ ⟨n + 1,f,rfl,rfl,rfl,rfl,by omega,by dsimp only at hk2 ⊢; omega,k1,?_,by dsimp only at k3 ⊢; omega,hc',hB⟩ (by simp only [Int.toNat_natCast]; unfold nS at *; omega)
   dsimp only
   split
   ·simp only [List.length_append,List.length_cons,List.length_nil]; omega
   ·omega
  ·rw [if_neg (by omega)]
   have hB' : (st,ms,es) = A:=by
    cases f with
    | zero=>exact hB
    | succ f=>rw [bldS,List.getElem?_eq_none (by omega)] at hB; exact hB
   subst hB'
   exact ⟨_,rfl,c,rfl⟩
 ·rintro _ ⟨c',rfl⟩
  rfl
end
end Go.Abs
end
section
namespace Go.Abs
open Go
abbrev zR:Qc:=⟨0,0,0,0⟩
def remF (p:Qa) (T:List Qc) (i:Int):Option Qc:=if lf (Qbk p T) i then none else some (at0 zR (Qxz p T) i)
def resP (p:Qa) (T:List Qc) (r:Int):Qbu :=
 ⟨⟨(upto p.zA.zM).filter (lf (Qbk p T)),((upto p.zA.zM).filter (lf (Qbk p T))).map (ati (Qlh p (Qbk p T))),(upto p.zA.zM).filterMap (remF p T)⟩,r,
  ⟨p.zA.zJ,((supP p (Qbk p T)).1.length:Int),(supP p (Qbk p T)).2.1,(supP p (Qbk p T)).2.2⟩,(supP p (Qbk p T)).1,
  (upto p.zA.zM).filter fun i=>lf (Qbk p T) i && Qpp p (Qbk p T) i⟩
def Qzl (p:Qa) (T:List Qc) (s:List Int×List Int×List Qc×List Int) (i:Int):List Int×List Int×List Qc×List Int :=
 if lf (Qbk p T) i then (s.1 ++ [i],s.2.1 ++ [ati (Qlh p (Qbk p T)) i],s.2.2.1,if Qpp p (Qbk p T) i then s.2.2.2 ++ [i] else s.2.2.2) else (s.1,s.2.1,s.2.2.1 ++ [at0 zR (Qxz p T) i],s.2.2.2)
theorem Qbd4 {p:Qa} {T:List Qc}:∀ {l:List Int} {s:List Int×List Int×List Qc×List Int},l.foldl (Qzl p T) s =
  (s.1 ++ l.filter (lf (Qbk p T)),s.2.1 ++ (l.filter (lf (Qbk p T))).map (ati (Qlh p (Qbk p T))),s.2.2.1 ++ l.filterMap (remF p T),s.2.2.2 ++ l.filter fun i=>lf (Qbk p T) i && Qpp p (Qbk p T) i)
 | [],s=>by simp
 | x :: l,s=>by
  rw [List.foldl_cons,Qbd4 (l:=l)]
  unfold Qzl
  cases h:lf (Qbk p T) x with
  | true =>
   cases h2:Qpp p (Qbk p T) x <;> simp [List.filter_cons,List.filterMap_cons,h,h2,remF]
  | false=>simp [List.filter_cons,List.filterMap_cons,h,remF]
theorem Qbj0 {p:Qa} {T:List Qc} {s:List Int×List Int×List Qc×List Int} {i:Int} {n:Nat} (h:s.1.length≤n∧s.2.1.length≤n∧s.2.2.1.length≤n∧s.2.2.2.length≤n) :
  (Qzl p T s i).1.length≤n + 1∧(Qzl p T s i).2.1.length≤n + 1∧(Qzl p T s i).2.2.1.length≤n + 1∧(Qzl p T s i).2.2.2.length≤n + 1:=by
 unfold Qzl
 split
 ·refine ⟨?_,?_,?_,?_⟩
  ·simp; omega
  ·simp; omega
  ·simp; omega
  ·dsimp only
   split
   ·simp; omega
   ·omega
 ·simp; omega
section
variable {p:Qa} (hp:RightP p)
include hp
theorem Qba2:Qcb p = some (resP p (solP p).1 (solP p).2,0):=by
 unfold Qcb Q0
 obtain ⟨fuel,hfu,hge⟩ : ∃ f,Qdv = f∧1099511627776≤f:=⟨_,rfl,Nat.le_refl _⟩
 rw [hfu]
 have hst:=hp.a.st
 have hnS:nS p≤4096:=by unfold nS; omega
 have hpl:=hp.small
 have hfl:=hp.fo.small hst.2
 have hT0:=Qbg5 hp
 rw [Qgf hpl,Qxx.2 hp,Option.bind_some,if_neg (by simp),Qbaz hp,Option.bind_some]
 rw [show (tsk p (Qbk p (T0 p))).left_ = Qbk p (T0 p) from rfl,show (tsk p (Qbk p (T0 p))).zN = p from rfl,show (tsk p (Qbk p (T0 p))).from_ = Q0s p from rfl,Qg6]
 rw [show mkO ((nS p:Nat):Int) (Qc.mk 0 0 0 0) = some (List.replicate (nS p) zR) from by unfold mkO lim; rw [if_pos (by omega),Int.toNat_natCast]]
 rw [Option.bind_some]
 refine Option.bind_eq_some_iff.2 ⟨(r0 p,Qxz p (T0 p)),?_,?_⟩
 ·refine (Qip (l:=p.zC) (fun i (s:Int×List Qc)=>(i,s.1,s.2)) (fun s x=>(1,s.2.set x.toNat ⟨x,1,1,-1⟩)) (fun _ s=>s.2.length = nS p) (fun s=>some s) hpl.2.1 hge (fun k n s hn hs=>?_) (fun n s hn hs=>by simp only [List.length_set]; exact hs) (fun k s hs=>?_) (s0:=((0:Int),List.replicate (nS p) zR)) (by simp)).trans ?_
  ·have hr:=hp.fo.rg _ (List.getElem_mem hn)
   have hs:s.2.length = nS p:=hs
   unfold nS at hs hnS ⊢
   dsimp only
   rw [if_pos (by omega),Qcx hn,Option.bind_some,Int.toNat_natCast,Qjn hr.1 (by omega),Option.bind_some,Qgr hr.1 (by omega),Option.bind_some]
  ·dsimp only
   rw [if_neg (by omega)]
  ·have e1:p.zC.foldl (fun (s:Int×List Qc) x=>((1:Int),s.2.set x.toNat (⟨x,1,1,-1⟩ : Qc))) (0,List.replicate (nS p) zR) = (p.zC.foldl (fun (_:Int) _=>(1:Int)) 0,p.zC.foldl (fun (c:List Qc) x=>c.set x.toNat ⟨x,1,1,-1⟩) (List.replicate (nS p) zR)):=Q8q (f:=fun _ _=>(1:Int)) (g:=fun (c:List Qc) (x:Int)=>c.set x.toNat ⟨x,1,1,-1⟩)
   rw [e1]
   congr 2
   ·unfold r0
    cases p.zC with
    | nil=>rfl
    | cons x l =>
     rw [if_neg (by simp),List.foldl_cons]
     have:∀ l:List Int,l.foldl (fun (_:Int) _=>(1:Int)) 1 = 1:=fun l=>by induction l with | nil=>rfl | cons y l ih=>rw [List.foldl_cons,ih]
     exact this l
   ·unfold Qxz T0
    rw [List.foldl_map]
 dsimp only
 have hS:=Qbew hp hge (S:=solP p) (f:=nS p + 1) rfl (by omega)
 have hSok:Okt p (solP p).1:=by
  have:∀ (f:Nat) (rank:Int) (T:List Qc) (r:Int),1≤rank→Okt p T→Okt p (Qtn p f rank T r).1:=by
   intro f
   induction f with
   | zero=>intro rank T r _ h; exact h
   | succ f ih =>
    intro rank T r hr h
    rw [Qtn]
    split
    ·exact h
    ·exact ih _ _ _ (by omega) (h.round hr)
  exact this _ _ _ _ (by omega) hT0
 generalize solP p = S at hS hSok ⊢
 obtain ⟨T,r⟩:=S
 dsimp only at hS hSok ⊢
 refine Option.bind_eq_some_iff.2 ⟨_,hS,?_⟩
 dsimp only
 have hlL:=Qg6 p T
 have hD:=(Qtm hp (Qbk p T)).ln
 rw [Qvl hlL]
 simp only [Option.bind_some]
 rw [show Qd.mk p (Q0s p) (Qbk p T) = tsk p (Qbk p T) from rfl,Q2l hp hlL,Option.bind_some,Qbkv hp hlL]
 refine Option.bind_eq_some_iff.2 ⟨([],[],[],[],[],[],[],[],(resP p T r).zE.Kept,(resP p T r).zE.zF,(resP p T r).zE.zG,[],[],[],[],(resP p T r).zI),?_,rfl⟩
 refine (Qip (l:=upto p.zA.zM) (fun i (s:List Int×List Int×List Qc×List Int)=>(i,[],[],[],[],[],[],[],[],s.1,s.2.1,s.2.2.1,[],[],[],[],s.2.2.2)) (Qzl p T) (fun n s=>s.1.length≤n∧s.2.1.length≤n∧s.2.2.1.length≤n∧s.2.2.2.length≤n) (fun s=>some ([],[],[],[],[],[],[],[],s.1,s.2.1,s.2.2.1,[],[],[],[],s.2.2.2)) (by rw [Qc2]; unfold big; omega) hge (fun k n s hn hs=>?_) (fun n s hn hs=>Qbj0 hs) (fun k s hs=>?_) (s0:=([],[],[],[])) (by simp)).trans ?_
 ·have hn':=Qxy hn
  obtain ⟨a1,a2,a3,a4⟩:=hs
  have hx:0≤(n:Int)∧(n:Int) < p.zA.zM:=⟨by omega,by omega⟩
  have hlt:∀ {l:List Int} {x:Int},l.length≤n→appO l [x] = some (l ++ [x]):=fun h=>Qjm (by simp only [List.length_cons,List.length_nil]; unfold lim; omega)
  have hlr:∀ {l:List Qc} {x:Qc},l.length≤n→appO l [x] = some (l ++ [x]):=fun h=>Qjm (by simp only [List.length_cons,List.length_nil]; unfold lim; omega)
  dsimp only
  rw [Qzj hn,if_pos (by omega),Qqr (d:=0) (l:=Qlh p (Qbk p T)) hx.1 (by omega),Option.bind_some]
  have hla:=Qhz hlL hx
  rw [hlL] at hla
  simp only [hla,Option.bind_some]
  unfold Qzl
  cases hq:lf (Qbk p T) (n:Int) with
  | true =>
   simp only [if_true]
   rw [hlt a1,Option.bind_some,hlt a2,Option.bind_some,(Qvn hx).1,Option.bind_some,(Qvn hx).2,Option.bind_some]
   rw [Qiq (p:=fun y=>(y.Event == p.Tick) && !lf (Qbk p T) y.To) (fun y hy=>by
    have h1:=Qhz hlL (Qir hp y hy).1
    unfold Qe7 Qbm
    rw [show (tsk p (Qbk p T)).left_ = Qbk p T from rfl]
    simp only [h1,Option.bind_some]
    cases hq:y.Event == p.Tick <;> simp) (Qrp hp _),Option.bind_some,hlt a4]
   show ((if Qpp p (Qbk p T) (n:Int) = true then _ else _:Option _).bind _) = _
   cases Qpp p (Qbk p T) (n:Int) <;> rfl
  | false =>
   simp only [Bool.false_eq_true,if_false]
   rw [Int.toNat_natCast,Qjn hx.1 (by unfold nS; omega),Option.bind_some,Qqr (d:=zR) (l:=Qxz p T) hx.1 (by rw [Qbci]; unfold nS; omega),Option.bind_some,hlr a3]
   rfl
 ·dsimp only
  rw [Qc2,if_neg (by omega)]
 ·rw [Qbd4]
  simp only [List.nil_append]
  rfl
end
end Go.Abs
end
section
namespace Go.Abs
open Go
section
variable {p:Qa} (hp:RightP p) {T:List Qc} (hT:Okt p T) (r:Int)
include hp
include hT
end
end Go.Abs
end
section
namespace Go.Abs
open Go
section
variable {p:Qa} (hp:RightP p)
include hp
theorem Qbd5 {L:List Bool}:∀ {f i:Nat} {st ms:List Int} {es:List Qe},Fnd p.zA st→Fnd p.zA (bldS p L f i st ms es).1∧(bldS p L f i st ms es).2.1.length≤ms.length + f∧(bldS p L f i st ms es).2.2.length≤es.length + 131072 * f
 | 0,i,st,ms,es,h=>⟨h,by simp [bldS],by simp [bldS]⟩
 | f + 1,i,st,ms,es,h=>by
  unfold bldS
  split
  ·exact ⟨h,by dsimp only; omega,by dsimp only; omega⟩
  ·rename_i s hs
   obtain ⟨k1,k2,k3⟩:=Q68 hp (i:=i) (L:=L) (l:=outP p.zA s) (s:=(st,es)) (fun x hx=>(Qir hp x hx).1) h
   have hol:=Q6g hp s
   obtain ⟨q1,q2,q3⟩:=Qbd5 (L:=L) (f:=f) (i:=i + 1) (st:=((outP p.zA s).foldl (Qis L i) (st,es)).1) (ms:=if s∈p.zA.zK then ms ++ [(i:Int)] else ms) (es:=((outP p.zA s).foldl (Qis L i) (st,es)).2) k1
   refine ⟨q1,?_,?_⟩
   ·have:(if s∈p.zA.zK then ms ++ [(i:Int)] else ms).length≤ms.length + 1:=by split <;> simp
    omega
   ·dsimp only at k3
    omega
theorem Qbex (T:List Qc) (r:Int):(resP p T r).zE.Kept.length < big∧(resP p T r).zE.zF.length < big∧(resP p T r).zE.zG.length < big∧small (resP p T r).zH∧(resP p T r).zO.length < big∧(resP p T r).zI.length < big:=by
 have hst:=hp.a.st
 have hnS:nS p≤4096:=by unfold nS; omega
 obtain ⟨h1,h2,h3⟩:=Qbd5 hp (L:=Qbk p T) (f:=nS p + 1) (i:=0) (ms:=[]) (es:=[]) (Qbg6 hp (L:=Qbk p T))
 have h4:=h1.len
 have hu:∀ q:Int→Bool,((upto p.zA.zM).filter q).length≤4096:=fun q=>by
  have:=List.length_filter_le q (upto p.zA.zM)
  rw [Qc2] at this; omega
 have hm:∀ q:Int→Option Qc,((upto p.zA.zM).filterMap q).length≤4096:=fun q=>by
  have:=List.length_filterMap_le q (upto p.zA.zM)
  rw [Qc2] at this; omega
 have hsm:=hp.a.small.1
 simp only [List.length_nil] at h2 h3
 unfold resP supP
 refine ⟨?_,?_,?_,⟨hsm.1,?_,?_⟩,?_,?_⟩
 ·have:=hu (lf (Qbk p T)); unfold big; dsimp only; omega
 ·have:=hu (lf (Qbk p T)); unfold big; dsimp only; rw [List.length_map]; omega
 ·have:=hm (remF p T); unfold big; dsimp only; omega
 ·unfold big; dsimp only; omega
 ·unfold big; dsimp only; omega
 ·unfold big; dsimp only; unfold nS at hnS; omega
 ·have:=hu fun i=>lf (Qbk p T) i && Qpp p (Qbk p T) i
  unfold big; dsimp only; omega
end
theorem Qbcj {a b:List Int} (h:a.length < big):Qpm a b = some (decide (a = b)):=by
 unfold Qpm Qdi
 rw [Q8o h]; rfl
theorem Qbg7 {c:Qv} (h1:c.Kept.length < big) (h2:c.zF.length < big) (h3:c.zG.length < big):Qgv c c = some true:=by
 unfold Qgv Qcv
 obtain ⟨fuel,hfu,hge⟩ : ∃ f,Qdv = f∧1099511627776≤f:=⟨_,rfl,Nat.le_refl _⟩
 rw [hfu,Qbcj h1,Qbcj h2]
 simp only [decide_true,Option.bind_some,if_true,bne_self_eq_false,Bool.false_eq_true,if_false]
 refine (Qip (l:=c.zG) (fun i (_:Unit)=>i) (fun _ _=>()) (fun _ _=>True) (fun _=>some true) h3 hge (fun k n s hn _=>?_) (fun _ _ _ _=>trivial) (fun k s _=>?_) (s0:=()) trivial)
 ·skip
  rw [if_pos (by omega),Qcx hn]
  simp
 ·rw [if_neg (by omega)]
end Go.Abs
end
section
namespace Go.Abs
open Go
def rowL (p:Qa) (l:List Int):List Bool:=(upto p.zA.zM).map fun i=>decide (i∈l)
theorem Q5n (p:Qa) (l:List Int):(rowL p l).length = nS p:=by unfold rowL; rw [List.length_map,Qc2]
theorem Qbg8 {p:Qa} {l:List Int} {x:Int} (h0:0≤x) (h1:x < p.zA.zM):lf (rowL p l) x = decide (x∈l):=Q2j h0 h1
def okS (p:Qa) (L:List Bool) (i:Int):Bool:=((escP p L i).1 == 0) && (!decide (i∈p.zC) && decide (0≤ati (Qlh p L) i))
section
variable {p:Qa} (hp:RightP p)
include hp
theorem Qbde {l:List Int} (hl:SetP p.zA.zM l):Qb9 p l = some (l.all (okS p (rowL p l)),0):=by
 unfold Qb9 Qbj
 obtain ⟨fuel,hfu,hge⟩ : ∃ f,Qdv = f∧1099511627776≤f:=⟨_,rfl,Nat.le_refl _⟩
 have hst:=hp.a.st
 have hpl:=hp.small
 have hll:=hl.small hst.2
 have hlb:l.length < big:=by unfold big; omega
 rw [hfu,Qgf hpl,Qxx.2 hp,Option.bind_some,if_neg (by simp),Qhk hlb,Qnr.2 hl,Option.bind_some,if_neg (by simp),Qbaz hp,Option.bind_some]
 rw [show (tsk p (Qbk p (T0 p))).left_ = Qbk p (T0 p) from rfl,show (tsk p (Qbk p (T0 p))).zN = p from rfl,show (tsk p (Qbk p (T0 p))).from_ = Q0s p from rfl,Qg6]
 refine Option.bind_eq_some_iff.2 ⟨rowL p l,?_,?_⟩
 ·refine (Qip (l:=upto p.zA.zM) (fun i (c:List Bool)=>(i,c)) (fun c i=>c.set i.toNat (decide (i∈l))) (fun _ c=>c.length = nS p) (fun c=>some c) (by rw [Qc2]; unfold big; omega) hge (fun k n s hn hs=>?_) (fun n s hn hs=>by rw [List.length_set]; exact hs) (fun k s hs=>?_) (s0:=Qbk p (T0 p)) (Qg6 p _)).trans ?_
  ·have hn':=Qxy hn
   dsimp only
   rw [Qzj hn,if_pos (by unfold nS; omega),Qb0 hl.so hlb,Option.bind_some,Qjn (by omega) (by unfold nS; omega),Option.bind_some,Qgr (by omega) (by unfold nS at hs; omega),Option.bind_some]
  ·dsimp only
   rw [Qc2,if_neg (by unfold nS; omega)]
  ·rw [Q8n (Qg6 p _)]; rfl
 ·have hrl:=Q5n p l
  rw [Qvl hrl,Option.bind_some,show Qd.mk p (Q0s p) (rowL p l) = tsk p (rowL p l) from rfl,Q2l hp hrl,Option.bind_some,Option.bind_some]
  have hD:=(Qtm hp (rowL p l)).ln
  rw [Q6s (p:=fun i=>!okS p (rowL p l) i) (fun i hi=>by
   have hr:=hl.rg i hi
   unfold Qfy Qbt
   rw [Q8p hp hrl hr,Option.bind_some]
   dsimp only
   rw [Qqr (d:=0) (l:=Qlh p (rowL p l)) hr.1 (by omega),Qb0 hp.fo.so hpl.2.1]
   unfold okS
   by_cases q1:(escP p (rowL p l) i).1 = 0
   ·by_cases q2:ati (Qlh p (rowL p l)) i < 0
    ·have:¬ 0≤ati (Qlh p (rowL p l)) i:=by omega
     simp [q1,q2,this]
    ·have:0≤ati (Qlh p (rowL p l)) i:=by omega
     by_cases q3:i∈p.zC <;> simp [q1,q2,this,q3]
   ·simp [q1]) hlb,Option.bind_some]
  congr 2
  rw [List.any_eq_not_all_not]
  simp
def SubL (p:Qa) (L L' : List Bool):Prop:=∀ i,0≤i→i < p.zA.zM→lf L i = true→lf L' i = true
theorem Qbie {L L' : List Bool} (h:SubL p L L') {i:Int} (he:(escP p L i).1 = 0):(escP p L' i).1 = 0:=by
 unfold escP at he ⊢
 cases hf:(outP p.zA i).find? (fun y=>!lf L y.To && decide (y.Event∈p.zB)) with
 | some y=>rw [hf] at he; simp at he
 | none =>
  rw [hf] at he
  rw [List.find?_eq_none] at hf
  have hf' : (outP p.zA i).find? (fun y=>!lf L' y.To && decide (y.Event∈p.zB)) = none:=by
   rw [List.find?_eq_none]
   intro y hy hq
   have hr:=(Qir hp y hy).1
   simp only [Bool.and_eq_true,Bool.not_eq_true',decide_eq_true_eq] at hq
   refine hf y hy ?_
   simp only [Bool.and_eq_true,Bool.not_eq_true',decide_eq_true_eq]
   refine ⟨?_,hq.2⟩
   cases hl:lf L y.To with
   | false=>rfl
   | true=>rw [h y.To hr.1 hr.2 hl] at hq; exact hq.1
  rw [hf']
  dsimp only at he ⊢
  have ht:Qpp p L' i = true→Qpp p L i = true:=by
   unfold Qpp
   rw [List.any_eq_true,List.any_eq_true]
   rintro ⟨y,hy,hq⟩
   have hr:=(Qir hp y hy).1
   refine ⟨y,hy,?_⟩
   simp only [Bool.and_eq_true,Bool.not_eq_true'] at hq ⊢
   refine ⟨hq.1,?_⟩
   cases hl:lf L y.To with
   | false=>rfl
   | true=>rw [h y.To hr.1 hr.2 hl] at hq; exact hq.2
  have hfo:Qvm p L i = true→Qvm p L' i = true:=by
   unfold Qvm
   rw [List.any_eq_true,List.any_eq_true]
   rintro ⟨y,hy,hq⟩
   have hr:=(Qir hp y hy).1
   simp only [Bool.and_eq_true] at hq
   exact ⟨y,hy,by simp only [Bool.and_eq_true]; exact ⟨h y.To hr.1 hr.2 hq.1,hq.2⟩⟩
  cases h1:Qpp p L' i with
  | false=>simp
  | true =>
   rw [ht h1] at he
   cases h2:Qvm p L i with
   | true=>rw [hfo h2]; simp
   | false=>rw [h2] at he; simp at he
theorem Qbg9 {L L' : List Bool} (h:SubL p L L') {i:Int} (h0:0≤i) (h1:i < p.zA.zM) (hd:0≤ati (Qlh p L) i):0≤ati (Qlh p L') i:=by
 have D:=Qtm hp L
 have D':=Qtm hp L'
 have key:∀ (v:Nat) (i:Int),0≤i→i < p.zA.zM→ati (Qlh p L) i = v→0≤ati (Qlh p L') i:=by
  intro v
  induction v with
  | zero =>
   intro i h0 h1 hv
   obtain ⟨k1,k2⟩:=(D.z i h0 h1).1 (by omega)
   have:=(D'.z i h0 h1).2 ⟨h i h0 h1 k1,k2⟩
   omega
  | succ v ih =>
   intro i h0 h1 hv
   obtain ⟨e,he,k1,k2,k3⟩:=D.ps i h0 h1 (by omega)
   have hr:=hp.a.ed0 e he
   have k4:=ih e.To hr.2.2.1 hr.2.2.2.1 (by omega)
   have k5:=D.lv i h0 h1 (by omega)
   have k6:=D'.bound hp L' hr.2.2.1 hr.2.2.2.1
   have:=D'.cl e he (by rw [k1]; exact h i h0 h1 k5) k4 k6
   rw [k1] at this; exact this
 exact key (ati (Qlh p L) i).toNat i h0 h1 (by omega)
theorem Qbj6 {L:List Bool} (hok:∀ i,0≤i→i < p.zA.zM→lf L i = true→okS p L i = true) {T:List Qc} (hT:Okt p T) (h:SubL p L (Qbk p T)) {rank:Int} (hr:1≤rank):SubL p L (Qbk p (T ++ Qh6 p (Qbk p T) rank)):=by
 intro i h0 h1 hl
 have hT':=hT.round hr
 have k0:=h i h0 h1 hl
 rw [Qzk hT.rg h0 h1] at k0
 rw [Qzk hT'.rg h0 h1]
 simp only [Bool.not_eq_true',List.any_eq_false] at k0 ⊢
 intro x hx
 rcases List.mem_append.1 hx with hx | hx
 ·exact k0 x hx
 ·intro hb
  have hq:x.State = i:=by simpa using hb
  clear hb
  have hk:=hok i h0 h1 hl
  unfold okS at hk
  simp only [Bool.and_eq_true,beq_iff_eq,decide_eq_true_eq] at hk
  have e1:=Qbie hp h hk.1
  have e2:=Qbg9 hp h h0 h1 hk.2.2
  unfold Qh6 at hx
  split at hx
  ·obtain ⟨j,hj,hz⟩:=List.mem_filterMap.1 hx
   unfold remE at hz
   by_cases hc:(lf (Qbk p T) j && ((escP p (Qbk p T) j).1 != 0)) = true
   ·rw [if_pos hc] at hz
    cases hz
    have hq:j = i:=hq
    subst hq
    simp only [Bool.and_eq_true,bne_iff_ne] at hc
    exact hc.2 e1
   ·rw [if_neg hc] at hz; cases hz
  ·obtain ⟨j,hj,hz⟩:=List.mem_filterMap.1 hx
   unfold remB at hz
   by_cases hc:(lf (Qbk p T) j && decide (ati (Qlh p (Qbk p T)) j < 0)) = true
   ·rw [if_pos hc] at hz
    cases hz
    have hq:j = i:=hq
    subst hq
    simp only [Bool.and_eq_true,decide_eq_true_eq] at hc
    omega
   ·rw [if_neg hc] at hz; cases hz
theorem Q9u:∀ {f:Nat} {rank:Int} {T:List Qc} {r:Int},Okt p T→nS p + 1≤f + T.length→1≤rank→Okt p (Qtn p f rank T r).1∧(∃ rk,Qh6 p (Qbk p (Qtn p f rank T r).1) rk = [])∧T <+: (Qtn p f rank T r).1
 | 0,rank,T,r,hT,hf,_=>absurd hT.len (by omega)
 | f + 1,rank,T,r,hT,hf,hr=>by
  rw [Qtn]
  split
  ·rename_i he; exact ⟨hT,⟨rank,he⟩,List.prefix_refl _⟩
  ·rename_i he
   have hpos:0 < (Qh6 p (Qbk p T) rank).length:=List.length_pos_iff.2 he
   obtain ⟨h1,h2,h3⟩:=Q9u (f:=f) (rank:=rank + 1) (T:=T ++ Qh6 p (Qbk p T) rank) (r:=rank) (hT.round hr) (by rw [List.length_append]; omega) (by omega)
   exact ⟨h1,h2,List.IsPrefix.trans (List.prefix_append _ _) h3⟩
theorem Q69:Okt p (solP p).1∧(∃ rk,Qh6 p (Qbk p (solP p).1) rk = [])∧T0 p <+: (solP p).1:=Q9u hp (Qbg5 hp) (by omega) (by omega)
theorem Qbif {i:Int} (h0:0≤i) (h1:i < p.zA.zM) (hl:lf (Qbk p (solP p).1) i = true):okS p (Qbk p (solP p).1) i = true:=by
 obtain ⟨hT,⟨rk,hrk⟩,hpre⟩:=Q69 hp
 generalize (solP p).1 = T at hT hrk hpre hl ⊢
 have hfor:i∉p.zC:=fun hm=>by
  have:(⟨i,1,1,-1⟩ : Qc)∈T:=hpre.subset (List.mem_map.2 ⟨i,hm,rfl⟩)
  rw [Qzk hT.rg h0 h1] at hl
  simp only [Bool.not_eq_true',List.any_eq_false] at hl
  exact hl _ this (by simp)
 unfold Qh6 at hrk
 split at hrk
 ·rename_i hE; rw [hrk] at hE; simp at hE
 ·rename_i hE
  have hE' : Q6t p (Qbk p T) rk = []:=List.eq_nil_of_length_eq_zero (by omega)
  have e1:=List.filterMap_eq_nil_iff.1 hE' i (Qge.2 ⟨h0,h1⟩)
  have e2:=List.filterMap_eq_nil_iff.1 hrk i (Qge.2 ⟨h0,h1⟩)
  unfold remE at e1
  unfold remB at e2
  rw [hl] at e1 e2
  unfold okS
  simp only [Bool.true_and] at e1 e2
  split at e1
  ·cases e1
  ·rename_i q1
   split at e2
   ·cases e2
   ·rename_i q2
    simp only [bne_iff_ne,ne_eq,Decidable.not_not] at q1
    simp only [decide_eq_true_eq] at q2
    have:0≤ati (Qlh p (Qbk p T)) i:=by omega
    simp [q1,hfor,this]
end
end Go.Abs
end
section
namespace Go.Abs
open Go
theorem Qbey {X S R α:Type} {F:(X→Option R)→X→Option R} {fuel:Nat} {l:List α} (mk:Int→S→X) (stp:S→α→S) (I:Nat→S→Prop) (hl:l.length < big) (hf:1099511627776≤fuel)
  (step:∀ (k:X→Option R) (n:Nat) (s:S) (h:n < l.length),I n s→F k (mk n s) = k (mk (IntKind.wrap .i64 ((n:Int) + 1)) (stp s l[n])))
  (keep:∀ (n:Nat) (s:S) (h:n < l.length),I n s→I (n + 1) (stp s l[n]))
  (last:∀ (k k' : X→Option R) (s:S),I l.length s→F k (mk l.length s) = F k' (mk l.length s)) {s0:S} (h0:I 0 s0):Qdz F fuel (mk 0 s0) = F (fun _=>none) (mk l.length (l.foldl stp s0)) :=
 Qip (K:=fun s=>F (fun _=>none) (mk l.length s)) mk stp I hl hf step keep (fun k s hs=>last k _ s hs) h0
theorem Qbd6 {X S R:Type} {F:(X→Option R)→X→Option R} {fuel m:Nat} (mk:Int→S→X) (stp:Nat→S→S) (I:Nat→S→Prop) (Z:R→Prop) (hm:m < big) (hf:1099511627776≤fuel)
  (step:∀ (k:X→Option R) (n:Nat) (s:S),n < m→I n s→F k (mk n s) = k (mk (IntKind.wrap .i64 ((n:Int) + 1)) (stp n s)))
  (keep:∀ (n:Nat) (s:S),n < m→I n s→I (n + 1) (stp n s))
  (stop:∀ (k:X→Option R) (s:S),I m s→∃ r,F k (mk m s) = some r∧Z r) {s0:S} (h0:I 0 s0):∃ r,Qdz F fuel (mk 0 s0) = some r∧Z r:=by
 have hb:m < 1000000000000:=hm
 have key:∀ (j n:Nat) (s:S) (f:Nat),n + j = m→j < f→I n s→∃ r,Qdz F f (mk n s) = some r∧Z r:=by
  intro j
  induction j with
  | zero =>
   intro n s f hn hf hi
   obtain rfl:n = m:=by omega
   obtain ⟨f,rfl⟩ : ∃ g,f = g + 1:=⟨f - 1,by omega⟩
   exact stop (Qdz F f) s hi
  | succ j ih =>
   intro n s f hn hf hi
   obtain ⟨f,rfl⟩ : ∃ g,f = g + 1:=⟨f - 1,by omega⟩
   have:Qdz F (f + 1) (mk n s) = Qdz F f (mk ((n + 1:Nat):Int) (stp n s)):=by
    show F (Qdz F f) (mk n s) = _
    rw [step _ n s (by omega) hi,Qg5 (by omega)]
   rw [this]
   exact ih (n + 1) (stp n s) f (by omega) (by omega) (keep n s (by omega) hi)
 exact key m 0 s0 fuel (by omega) (by omega) h0
theorem Qzm {α β:Type} {d:α} {f:β→Int} {g:β→α} {y:Int} (hy:0≤y):∀ {l:List β} {c:List α},(∀ x∈l,0≤f x∧f x < c.length)→(∀ x∈l,f x≠y)→at0 d (l.foldl (fun c x=>c.set (f x).toNat (g x)) c) y = at0 d c y
 | [],_,_,_=>rfl
 | x :: l,c,hr,hn=>by
  rw [List.foldl_cons,Qzm hy (l:=l) (fun z hz=>by rw [List.length_set]; exact hr z (by simp [hz])) (fun z hz=>hn z (by simp [hz])),Q9t (hr x (by simp)) hy,if_neg (fun e=>hn x (by simp) e.symm)]
theorem Qkk {α β:Type} {d:α} {f:β→Int} {g:β→α}:∀ {l:List β} {c:List α},(∀ x∈l,0≤f x∧f x < c.length)→(l.map f).Nodup→∀ x∈l,at0 d (l.foldl (fun c x=>c.set (f x).toNat (g x)) c) (f x) = g x
 | [],_,_,_,x,h=>by cases h
 | x :: l,c,hr,hn,z,hz=>by
  rw [List.map_cons,List.nodup_cons] at hn
  have hr' : ∀ w∈l,0≤f w∧f w < ((c.set (f x).toNat (g x)).length:Int):=fun w hw=>by rw [List.length_set]; exact hr w (by simp [hw])
  rw [List.foldl_cons]
  rcases List.mem_cons.1 hz with rfl | hz
  ·rw [Qzm (hr z (by simp)).1 hr' (fun w hw e=>hn.1 (List.mem_map.2 ⟨w,hw,e⟩)),Q9t (hr z (by simp)) (hr z (by simp)).1,if_pos rfl]
  ·exact Qkk hr' hn.2 z hz
theorem Qbj1 {l m:List Int} (h:l.Nodup) (hs:∀ x∈l,x∈m):l.length≤m.length:=by
 induction l generalizing m with
 | nil=>simp
 | cons x l ih =>
  obtain ⟨a1,a2⟩:=List.nodup_cons.1 h
  have hx:=hs x (by simp)
  have:=ih (m:=m.erase x) a2 fun y hy=>(List.mem_erase_of_ne (by rintro rfl; exact a1 hy)).2 (hs y (by simp [hy]))
  rw [List.length_erase_of_mem hx] at this
  have:0 < m.length:=List.length_pos_of_mem hx
  simp only [List.length_cons]; omega
theorem Qbd7 {l:List Int} (h:∀ (n:Nat) (hn:n + 1 < l.length),l[n] < l[n + 1]):l.Pairwise (· < ·):=by
 rw [List.pairwise_iff_getElem]
 intro i j hi hj hij
 induction j with
 | zero=>omega
 | succ j ih =>
  have h1:=h j hj
  by_cases he:i = j
  ·subst he; exact h1
  ·have:=ih (by omega) (by omega); omega
structure Shape (p:Qa) (c:Qv):Prop where
 ln:c.Kept.length + c.zG.length = nS p
 dl:c.zF.length = c.Kept.length
 ke:SetP p.zA.zM c.Kept
 re:SetP p.zA.zM (c.zG.map (·.State))
 dj:∀ x∈c.zG,x.State∉c.Kept
 rk:∀ x∈c.zG,1≤x.Rank
def Q8r (p:Qa) (c:Qv):List Int:=(c.Kept.zip c.zF).foldl (fun b (q:Int×Int)=>b.set q.1.toNat q.2) (List.replicate (nS p) 0)
def Q8s (p:Qa) (c:Qv):List Int:=c.zG.foldl (fun b x=>b.set x.State.toNat x.Reason) (List.replicate (nS p) 0)
def prfC (p:Qa) (c:Qv):Qj:=⟨tsk p (rowL p c.Kept),Q5m p c.zG,Q8r p c,Q8s p c⟩
section
variable {p:Qa} {c:Qv}
theorem Shape.rr (h:Shape p c):∀ x∈c.zG,0≤x.State∧x.State < p.zA.zM:=fun x hx=>h.re.rg _ (List.mem_map.2 ⟨x,hx,rfl⟩)
theorem Shape.nd (h:Shape p c):(c.zG.map (·.State)).Nodup:=h.re.so.imp fun h=>by omega
theorem Shape.cover (h:Shape p c) {y:Int} (h0:0≤y) (h1:y < p.zA.zM):y∈c.Kept∨∃ x∈c.zG,x.State = y:=by
 refine Classical.byContradiction fun hc=>?_
 rw [not_or] at hc
 have hnd:(y :: (c.Kept ++ c.zG.map (·.State))).Nodup:=by
  rw [List.nodup_cons,List.nodup_append]
  refine ⟨fun hm=>?_,h.ke.so.imp fun h=>by omega,h.nd,fun a ha b hb e=>?_⟩
  ·rcases List.mem_append.1 hm with hm | hm
   ·exact hc.1 hm
   ·obtain ⟨x,hx,e⟩:=List.mem_map.1 hm
    exact hc.2 ⟨x,hx,e⟩
  ·subst e
   obtain ⟨x,hx,e⟩:=List.mem_map.1 hb
   exact h.dj x hx (e ▸ ha)
 have:=Qbj1 hnd (m:=upto p.zA.zM) fun x hx=>by
  rw [Qge]
  rcases List.mem_cons.1 hx with rfl | hx
  ·exact ⟨h0,h1⟩
  ·rcases List.mem_append.1 hx with hx | hx
   ·exact h.ke.rg x hx
   ·exact h.re.rg x hx
 rw [Qc2,List.length_cons,List.length_append,List.length_map] at this
 have:=h.ln
 unfold nS at this
 omega
theorem Qbck:(Q8r p c).length = nS p:=by unfold Q8r; rw [Qnq (f:=fun q:Int×Int=>q.1.toNat) (g:=fun q=>q.2),List.length_replicate]
theorem Qbha:(Q8s p c).length = nS p:=by unfold Q8s; rw [Qnq (f:=fun x:Qc=>x.State.toNat) (g:=fun x=>x.Reason),List.length_replicate]
end
def Ok1 (l:List Int) (N:Int) (n:Nat) (hn:n < l.length):Prop:=0≤l[n]∧l[n] < N∧(0 < n→l[n - 1] < l[n])
theorem Q9v {l:List Int} {N:Int} {n:Nat} (hn:n < l.length) (hl:l.length < big) (h:Ok1 l N n hn) :
  ((if (l[n] < 0) then some true else (if (l[n]≥N) then some true else (if ((n:Int) > 0) then ((getO l (IntKind.wrap .i64 ((n:Int) - 1))).bind fun x33=>some (decide (l[n]≤x33))) else some false))):Option Bool) = some false:=by
 have hb:l.length < 1000000000000:=hl
 obtain ⟨h1,h2,h3⟩:=h
 rw [if_neg (by omega),if_neg (by omega)]
 by_cases h0:0 < n
 ·have:=h3 h0
  rw [if_pos (by omega),Qs5 h0 (by omega),Qcx (show n - 1 < l.length by omega),Option.bind_some]
  congr 1
  simp only [decide_eq_false_iff_not]; omega
 ·rw [if_neg (by omega)]
theorem Qbhb {l:List Int} {N:Int} {n:Nat} (hn:n < l.length) (hl:l.length < big) (h:¬ Ok1 l N n hn) :
  ((if (l[n] < 0) then some true else (if (l[n]≥N) then some true else (if ((n:Int) > 0) then ((getO l (IntKind.wrap .i64 ((n:Int) - 1))).bind fun x33=>some (decide (l[n]≤x33))) else some false))):Option Bool) = some true:=by
 have hb:l.length < 1000000000000:=hl
 by_cases h1:l[n] < 0
 ·rw [if_pos h1]
 rw [if_neg h1]
 by_cases h2:l[n]≥N
 ·rw [if_pos h2]
 rw [if_neg h2]
 have h3:¬ (0 < n→l[n - 1] < l[n]):=fun h3=>h ⟨by omega,by omega,h3⟩
 have h0:0 < n:=Decidable.byContradiction fun h0=>h3 fun h=>absurd h h0
 have h4:¬ l[n - 1] < l[n]:=fun h4=>h3 fun _=>h4
 rw [if_pos (by omega),Qs5 h0 (by omega),Qcx (show n - 1 < l.length by omega),Option.bind_some]
 congr 1
 simp only [decide_eq_true_eq]; omega
theorem Qbj2 {l:List Int} {N:Int} (h:∀ n (hn:n < l.length),Ok1 l N n hn):SetP N l:=by
 refine ⟨fun x hx=>?_,Qbd7 fun n hn=>?_⟩
 ·obtain ⟨n,hn,rfl⟩:=List.getElem_of_mem hx
  exact ⟨(h n hn).1,(h n hn).2.1⟩
 ·have:=(h (n + 1) hn).2.2 (by omega)
  simpa using this
theorem SetP.ok1 {l:List Int} {N:Int} (h:SetP N l) (n:Nat) (hn:n < l.length):Ok1 l N n hn :=
 ⟨(h.rg _ (List.getElem_mem hn)).1,(h.rg _ (List.getElem_mem hn)).2,fun h0=>List.pairwise_iff_getElem.1 h.so (n - 1) n (by omega) hn (by omega)⟩
def Ok2 (l:List Qc) (N:Int) (S:List Bool) (n:Nat) (hn:n < l.length):Prop:=0≤l[n].State∧l[n].State < N∧lf S l[n].State = false∧(0 < n→l[n - 1].State < l[n].State)∧1≤l[n].Rank
theorem Q9w {l:List Qc} {N:Nat} {S:List Bool} {n:Nat} (hn:n < l.length) (hl:l.length < big) (hS:S.length = N) (h:Ok2 l N S n hn) :
  ((if (l[n].State < 0) then some true else (if (l[n].State≥(N:Int)) then some true else ((inO (Int.toNat (N:Int)) l[n].State).bind fun u61=>((getO S l[n].State).bind fun x63=>(if x63 then some true else (if ((n:Int) > 0) then ((getO l (IntKind.wrap .i64 ((n:Int) - 1))).bind fun x67=>(if (l[n].State≤x67.State) then some true else some (decide (l[n].Rank < 1)))) else some (decide (l[n].Rank < 1)))))))):Option Bool) = some false:=by
 have hb:l.length < 1000000000000:=hl
 obtain ⟨h1,h2,h3,h4,h5⟩:=h
 have h3' : at0 false S l[n].State = false:=h3
 rw [if_neg (by omega),if_neg (by omega),Int.toNat_natCast,Qjn h1 h2,Option.bind_some,Qqr (d:=false) h1 (by omega),Option.bind_some,h3',if_neg (by simp)]
 have hr:decide (l[n].Rank < 1) = false:=by simp only [decide_eq_false_iff_not]; omega
 by_cases h0:0 < n
 ·have:=h4 h0
  rw [if_pos (by omega),Qs5 h0 (by omega),Qcx (show n - 1 < l.length by omega),Option.bind_some,if_neg (by omega),hr]
 ·rw [if_neg (by omega),hr]
theorem Qbhc {l:List Qc} {N:Nat} {S:List Bool} {n:Nat} (hn:n < l.length) (hl:l.length < big) (hS:S.length = N) (h:¬ Ok2 l N S n hn) :
  ((if (l[n].State < 0) then some true else (if (l[n].State≥(N:Int)) then some true else ((inO (Int.toNat (N:Int)) l[n].State).bind fun u61=>((getO S l[n].State).bind fun x63=>(if x63 then some true else (if ((n:Int) > 0) then ((getO l (IntKind.wrap .i64 ((n:Int) - 1))).bind fun x67=>(if (l[n].State≤x67.State) then some true else some (decide (l[n].Rank < 1)))) else some (decide (l[n].Rank < 1)))))))):Option Bool) = some true:=by
 have hb:l.length < 1000000000000:=hl
 by_cases h1:l[n].State < 0
 ·rw [if_pos h1]
 rw [if_neg h1]
 by_cases h2:l[n].State≥(N:Int)
 ·rw [if_pos h2]
 rw [if_neg h2,Int.toNat_natCast,Qjn (by omega) (by omega),Option.bind_some,Qqr (d:=false) (by omega) (by omega),Option.bind_some]
 cases h3:at0 false S l[n].State with
 | true=>rw [if_pos rfl]
 | false =>
  rw [if_neg (by simp)]
  by_cases h0:0 < n
  ·rw [if_pos (by omega),Qs5 h0 (by omega),Qcx (show n - 1 < l.length by omega),Option.bind_some]
   by_cases h4:l[n].State≤l[n - 1].State
   ·rw [if_pos h4]
   ·rw [if_neg h4]
    congr 1
    have:¬ 1≤l[n].Rank:=fun h5=>h ⟨by omega,by omega,h3,fun _=>by omega,h5⟩
    simp only [decide_eq_true_eq]; omega
  ·rw [if_neg (by omega)]
   congr 1
   have:¬ 1≤l[n].Rank:=fun h5=>h ⟨by omega,by omega,h3,fun h=>absurd h h0,h5⟩
   simp only [decide_eq_true_eq]; omega
end Go.Abs
end
section
namespace Go.Abs
open Go
theorem Qbj3 {α β γ δ:Type} {f:α→δ→α} {g:β→δ→β} {h:γ→δ→γ}:∀ {l:List δ} {a:α} {b:β} {c:γ},l.foldl (fun s x=>(f s.1 x,g s.2.1 x,h s.2.2 x)) (a,b,c) = (l.foldl f a,l.foldl g b,l.foldl h c)
 | [],_,_,_=>rfl
 | x :: l,a,b,c=>by rw [List.foldl_cons,Qbj3 (l:=l)]; rfl
theorem Qba3 {α:Type} {l:List α} {n:Nat} {d:α} (h:n < l.length):l.getD n d = l[n]:=by rw [List.getD_eq_getElem?_getD,List.getElem?_eq_getElem h]; rfl
theorem Qbk6 {R:Type} {X Y:Option R} {Q:R→Prop} (h:X = Y) (k:∃ r,Y = some r∧Q r):∃ r,X = some r∧Q r:=h ▸ k
def Qbcl (p:Qa) (c:Qv):List Bool:=(c.Kept.zip c.zF).foldl (fun b (q:Int×Int)=>b.set q.1.toNat true) (List.replicate (nS p) false)
def Q81 (c:Qv) (L:List Bool):List Bool:=(c.Kept.zip c.zF).foldl (fun b (q:Int×Int)=>b.set q.1.toNat true) L
theorem Q8t {c:Qv} (h:c.zF.length = c.Kept.length):(c.Kept.zip c.zF).map Prod.fst = c.Kept:=List.map_fst_zip (by omega)
theorem Qba4 {c:Qv} (h:c.zF.length = c.Kept.length) {q:Int×Int} (hq:q∈c.Kept.zip c.zF):q.1∈c.Kept:=by
 have:q.1∈(c.Kept.zip c.zF).map Prod.fst:=List.mem_map.2 ⟨q,hq,rfl⟩
 rwa [Q8t h] at this
theorem Qbhd {c:Qv} (h:c.zF.length = c.Kept.length) {y:Int} (hy:y∈c.Kept):∃ q∈c.Kept.zip c.zF,q.1 = y:=by
 rw [← Q8t h] at hy
 obtain ⟨q,hq,e⟩:=List.mem_map.1 hy
 exact ⟨q,hq,e⟩
section
variable {p:Qa} {c:Qv} {L:List Bool} (hL:L.length = nS p)
theorem Qbhe:(Qbcl p c).length = nS p:=by unfold Qbcl; rw [Qnq (f:=fun q:Int×Int=>q.1.toNat) (g:=fun _=>true),List.length_replicate]
include hL in
theorem Qbcm:(Q81 c L).length = nS p:=by unfold Q81; rw [Qnq (f:=fun q:Int×Int=>q.1.toNat) (g:=fun _=>true),hL]
theorem Qbd8 (hd:c.zF.length = c.Kept.length) (hk:SetP p.zA.zM c.Kept) {y:Int} (h0:0≤y) (h1:y < p.zA.zM):lf (Qbcl p c) y = decide (y∈c.Kept):=by
 have hr:∀ q∈c.Kept.zip c.zF,0≤(fun q:Int×Int=>q.1) q∧(fun q:Int×Int=>q.1) q < ((List.replicate (nS p) false).length:Int):=fun q hq=>by
  have:=hk.rg _ (Qba4 hd hq)
  rw [List.length_replicate]; unfold nS; (try dsimp only); omega
 by_cases hy:y∈c.Kept
 ·obtain ⟨q,hq,rfl⟩:=Qbhd hd hy
  rw [decide_eq_true hy]
  exact Qkk (d:=false) (f:=fun q:Int×Int=>q.1) (g:=fun _=>true) hr (by rw [show (c.Kept.zip c.zF).map (fun q:Int×Int=>q.1) = c.Kept from Q8t hd]; exact hk.so.imp fun h=>by omega) q hq
 ·rw [decide_eq_false hy]
  refine (Qzm (d:=false) (f:=fun q:Int×Int=>q.1) (g:=fun _=>true) h0 hr (fun q hq e=>hy (e ▸ Qba4 hd hq))).trans ?_
  exact Qbgv h0 (by unfold nS; omega)
include hL in
theorem Qbig (h:Shape p c):c.zG.foldl (fun b x=>b.set x.State.toNat false) (Q81 c L) = rowL p c.Kept:=by
 have hl1:=Qbcm (c:=c) hL
 refine Qbca (d:=false) (by rw [Qnq (f:=fun x:Qc=>x.State.toNat) (g:=fun _=>false),hl1,Q5n]) fun y h0 h1=>?_
 rw [Qnq (f:=fun x:Qc=>x.State.toNat) (g:=fun _=>false),hl1] at h1
 have h2:y < p.zA.zM:=by unfold nS at h1; omega
 have hr:∀ x∈c.zG,0≤(fun x:Qc=>x.State) x∧(fun x:Qc=>x.State) x < ((Q81 c L).length:Int):=fun x hx=>by
  have:=h.rr x hx
  rw [hl1]; unfold nS; (try dsimp only); omega
 rw [show at0 false (rowL p c.Kept) y = lf (rowL p c.Kept) y from rfl,Qbg8 h0 h2]
 rcases h.cover h0 h2 with hy | ⟨x,hx,rfl⟩
 ·rw [decide_eq_true hy]
  refine (Qzm (d:=false) (f:=fun x:Qc=>x.State) (g:=fun _=>false) h0 hr (fun x hx e=>h.dj x hx (e ▸ hy))).trans ?_
  obtain ⟨q,hq,rfl⟩:=Qbhd h.dl hy
  refine Qkk (d:=false) (f:=fun q:Int×Int=>q.1) (g:=fun _=>true) (fun q hq=>?_) (by rw [show (c.Kept.zip c.zF).map (fun q:Int×Int=>q.1) = c.Kept from Q8t h.dl]; exact h.ke.so.imp fun h=>by omega) q hq
  have:=h.ke.rg _ (Qba4 h.dl hq)
  rw [hL]; unfold nS; (try dsimp only); omega
 ·rw [decide_eq_false (h.dj x hx)]
  exact Qkk (d:=false) (f:=fun x:Qc=>x.State) (g:=fun _=>false) hr h.nd x hx
end
section
variable {p:Qa} (hp:RightP p) {c:Qv} (h1:c.Kept.length < big) (h2:c.zG.length < big) (h3:c.zF.length < big) {L:List Bool} (hL:L.length = nS p)
theorem Qbd9 {X:Option (Qj×Bool×Qd)} (h:¬ Shape p c) (k:∃ r,X = some r∧r.2.1 = false):∃ r,X = some r∧(Shape p c→r = (prfC p c,true,tsk p (rowL p c.Kept)))∧(¬ Shape p c→r.2.1 = false):=by
 obtain ⟨r,k1,k2⟩:=k
 exact ⟨r,k1,fun hs=>absurd hs h,fun _=>k2⟩
include hp h1 h2 h3 hL
theorem Qbj4:∃ r,Qgd (tsk p L) c = some r∧(Shape p c→r = (prfC p c,true,tsk p (rowL p c.Kept)))∧(¬ Shape p c→r.2.1 = false):=by
 have hb1:c.Kept.length < 1000000000000:=h1
 have hb2:c.zG.length < 1000000000000:=h2
 have hst:=hp.a.st
 have hN:((nS p:Nat):Int) = p.zA.zM:=by unfold nS; omega
 have hmk:∀ {α:Type} (v:α),mkO ((nS p:Nat):Int) v = some (List.replicate (nS p) v):=fun v=>by unfold mkO lim; rw [if_pos (by omega),Int.toNat_natCast]
 unfold Qgd Qcn
 obtain ⟨fuel,hfu,hge⟩ : ∃ f,Qdv = f∧1099511627776≤f:=⟨_,rfl,Nat.le_refl _⟩
 rw [hfu]
 rw [show (tsk p L).left_ = L from rfl,show (tsk p L).zN = p from rfl,show (tsk p L).from_ = Q0s p from rfl,hL,Q2h (by omega) (by omega)]
 by_cases hln:c.Kept.length + c.zG.length = nS p
 case neg =>
  rw [if_pos (by simp only [bne_iff_ne,ne_eq]; omega),Option.bind_some,if_pos rfl]
  exact Qbd9 (fun h=>hln h.ln) ⟨_,rfl,rfl⟩
 rw [if_neg (by simp only [bne_iff_ne,ne_eq]; omega),Option.bind_some]
 by_cases hdl:c.zF.length = c.Kept.length
 case neg =>
  rw [if_pos (by simp only [bne_iff_ne,ne_eq]; omega)]
  exact Qbd9 (fun h=>hdl h.dl) ⟨_,rfl,rfl⟩
 rw [if_neg (by simp only [bne_iff_ne,ne_eq]; omega),hmk,Option.bind_some,Option.bind_some,Option.bind_some,hmk,Option.bind_some]
 have hz:(c.Kept.zip c.zF).length = c.Kept.length:=by rw [List.length_zip]; omega
 by_cases hk:∀ n (hn:n < c.Kept.length),Ok1 c.Kept ((nS p:Nat):Int) n hn
 case neg =>
  have hk:∃ n,∃ hn:n < c.Kept.length,¬ Ok1 c.Kept ((nS p:Nat):Int) n hn:=Classical.byContradiction fun h=>hk fun n hn=>Classical.byContradiction fun h'=>h ⟨n,hn,h'⟩
  obtain ⟨m,⟨hm,hbad⟩,hleast⟩:=Qnu hk
  have hgood:∀ n (hn:n < m),Ok1 c.Kept ((nS p:Nat):Int) n (by omega):=fun n hn=>Classical.byContradiction fun h=>by have:=hleast n ⟨by omega,h⟩; omega
  refine Qbd9 (fun h=>hbad (SetP.ok1 (by rw [hN]; exact h.ke) m hm)) ?_
  refine Qbd6 (m:=m) (fun i (s:List Int×List Bool×List Bool)=>(i,s.1,s.2.1,s.2.2)) (fun n s=>(s.1.set (c.Kept.getD n 0).toNat (c.zF.getD n 0),s.2.1.set (c.Kept.getD n 0).toNat true,s.2.2.set (c.Kept.getD n 0).toNat true))
   (fun _ s=>s.1.length = nS p∧s.2.1.length = nS p∧s.2.2.length = nS p) (fun (r:Qj×Bool×Qd)=>r.2.1 = false) (by unfold big; omega) hge (fun k n s hn hs=>?_) (fun n s hn hs=>by simp only [List.length_set]; exact hs) (fun k s hs=>?_) (s0:=(List.replicate (nS p) 0,List.replicate (nS p) false,L)) ⟨by simp,by simp,hL⟩
  ·have hn' : n < c.Kept.length:=by omega
   have hnd:n < c.zF.length:=by omega
   obtain ⟨hs1,hs2,hs3⟩:=hs
   have hok:=hgood n hn
   have hr1:=hok.1
   have hr2:=hok.2.1
   rw [show c.Kept.getD n 0 = c.Kept[n] from Qba3 hn',show c.zF.getD n 0 = c.zF[n] from Qba3 hnd]
   dsimp only
   rw [if_pos (by omega),Qcx hn',Option.bind_some,Q9v hn' h1 hok,Option.bind_some,if_neg (by simp),Qcx hnd,Option.bind_some,Int.toNat_natCast,Qjn hr1 hr2,Option.bind_some,Qgr hr1 (by omega),Option.bind_some,Option.bind_some,Qgr hr1 (by omega),Option.bind_some,Option.bind_some,Qgr hr1 (by omega),Option.bind_some]
  ·dsimp only
   rw [if_pos (by omega),Qcx hm,Option.bind_some,Qbhb hm h1 hbad,Option.bind_some,if_pos rfl]
   exact ⟨_,rfl,rfl⟩
 have hke:SetP p.zA.zM c.Kept:=by rw [← hN]; exact Qbj2 hk
 refine Qbk6 (Qbey (l:=c.Kept.zip c.zF) (fun i (s:List Int×List Bool×List Bool)=>(i,s.1,s.2.1,s.2.2)) (fun s (q:Int×Int)=>(s.1.set q.1.toNat q.2,s.2.1.set q.1.toNat true,s.2.2.set q.1.toNat true))
  (fun _ s=>s.1.length = nS p∧s.2.1.length = nS p∧s.2.2.length = nS p) (by rw [hz]; exact h1) hge (fun k n s hn hs=>?_) (fun n s hn hs=>by simp only [List.length_set]; exact hs) (fun k k' s hs=>?_) (s0:=(List.replicate (nS p) 0,List.replicate (nS p) false,L)) ⟨by simp,by simp,hL⟩) ?_
 ·have hn' : n < c.Kept.length:=by omega
  have hnd:n < c.zF.length:=by omega
  obtain ⟨hs1,hs2,hs3⟩:=hs
  have hok:=hk n hn'
  have hr1:=hok.1
  have hr2:=hok.2.1
  rw [show (c.Kept.zip c.zF)[n] = (c.Kept[n],c.zF[n]) from List.getElem_zip]
  dsimp only
  rw [if_pos (by omega),Qcx hn',Option.bind_some,Q9v hn' h1 hok,Option.bind_some,if_neg (by simp),Qcx hnd,Option.bind_some,Int.toNat_natCast,Qjn hr1 hr2,Option.bind_some,Qgr hr1 (by omega),Option.bind_some,Option.bind_some,Qgr hr1 (by omega),Option.bind_some,Option.bind_some,Qgr hr1 (by omega),Option.bind_some]
 ·dsimp only
  rw [if_neg (by omega),if_neg (by omega)]
 have hfold:(c.Kept.zip c.zF).foldl (fun (s:List Int×List Bool×List Bool) (q:Int×Int)=>(s.1.set q.1.toNat q.2,s.2.1.set q.1.toNat true,s.2.2.set q.1.toNat true)) (List.replicate (nS p) 0,List.replicate (nS p) false,L) = (Q8r p c,Qbcl p c,Q81 c L) :=
  Qbj3 (f:=fun (b:List Int) (q:Int×Int)=>b.set q.1.toNat q.2) (g:=fun (b:List Bool) (q:Int×Int)=>b.set q.1.toNat true) (h:=fun (b:List Bool) (q:Int×Int)=>b.set q.1.toNat true)
 rw [hfold]
 dsimp only
 rw [if_neg (by omega)]
 have hsl:(Qbcl p c).length = nS p:=Qbhe
 have hll:(Q81 c L).length = nS p:=Qbcm hL
 by_cases hr:∀ n (hn:n < c.zG.length),Ok2 c.zG ((nS p:Nat):Int) (Qbcl p c) n hn
 case neg =>
  have hr:∃ n,∃ hn:n < c.zG.length,¬ Ok2 c.zG ((nS p:Nat):Int) (Qbcl p c) n hn:=Classical.byContradiction fun h=>hr fun n hn=>Classical.byContradiction fun h'=>h ⟨n,hn,h'⟩
  obtain ⟨m,⟨hm,hbad⟩,hleast⟩:=Qnu hr
  have hgood:∀ n (hn:n < m),Ok2 c.zG ((nS p:Nat):Int) (Qbcl p c) n (by omega):=fun n hn=>Classical.byContradiction fun h=>by have:=hleast n ⟨by omega,h⟩; omega
  refine Qbd9 (fun h=>hbad ?_) ?_
  ·have hx:=h.rr _ (List.getElem_mem hm)
   refine ⟨hx.1,by omega,?_,fun h0=>?_,h.rk _ (List.getElem_mem hm)⟩
   ·rw [Qbd8 hdl hke hx.1 hx.2]
    exact decide_eq_false (h.dj _ (List.getElem_mem hm))
   ·have:=List.pairwise_iff_getElem.1 h.re.so (m - 1) m (by rw [List.length_map]; omega) (by rw [List.length_map]; exact hm) (by omega)
    simpa using this
  refine Qbd6 (m:=m) (fun i (s:List Int×List Int×List Bool)=>(i,s.1,s.2.1,s.2.2)) (fun n s=>(s.1.set (c.zG.getD n zR).State.toNat (c.zG.getD n zR).Rank,s.2.1.set (c.zG.getD n zR).State.toNat (c.zG.getD n zR).Reason,s.2.2.set (c.zG.getD n zR).State.toNat false))
   (fun _ s=>s.1.length = nS p∧s.2.1.length = nS p∧s.2.2.length = nS p) (fun (r:Qj×Bool×Qd)=>r.2.1 = false) (by unfold big; omega) hge (fun k n s hn hs=>?_) (fun n s hn hs=>by simp only [List.length_set]; exact hs) (fun k s hs=>?_) (s0:=(List.replicate (nS p) 0,List.replicate (nS p) 0,Q81 c L)) ⟨by simp,by simp,hll⟩
  ·have hn' : n < c.zG.length:=by omega
   obtain ⟨hs1,hs2,hs3⟩:=hs
   have hok:=hgood n hn
   have hr1:=hok.1
   have hr2:=hok.2.1
   rw [show c.zG.getD n zR = c.zG[n] from Qba3 hn']
   dsimp only
   rw [if_pos (by omega),Qcx hn',Option.bind_some,Q9w hn' h2 hsl hok,Option.bind_some,if_neg (by simp),Qjn hr1 hr2,Option.bind_some,Qgr hr1 (by omega),Option.bind_some,Int.toNat_natCast,Qjn hr1 hr2,Option.bind_some,Qgr hr1 (by omega),Option.bind_some,Option.bind_some,Qgr hr1 (by omega),Option.bind_some]
  ·dsimp only
   rw [if_pos (by omega),Qcx hm,Option.bind_some,Qbhc hm h2 hsl hbad,Option.bind_some,if_pos rfl]
   exact ⟨_,rfl,rfl⟩
 have hsh:Shape p c:=by
  refine ⟨hln,hdl,hke,⟨fun x hx=>?_,Qbd7 fun n hn=>?_⟩,fun x hx=>?_,fun x hx=>?_⟩
  ·obtain ⟨y,hy,rfl⟩:=List.mem_map.1 hx
   obtain ⟨n,hn,rfl⟩:=List.getElem_of_mem hy
   have:=hr n hn
   exact ⟨this.1,by have:=this.2.1; omega⟩
  ·rw [List.length_map] at hn
   have:=(hr (n + 1) hn).2.2.2.1 (by omega)
   simpa using this
  ·obtain ⟨n,hn,rfl⟩:=List.getElem_of_mem hx
   have:=hr n hn
   have h9:=this.2.2.1
   rw [Qbd8 hdl hke this.1 (by have:=this.2.1; omega)] at h9
   simpa using h9
  ·obtain ⟨n,hn,rfl⟩:=List.getElem_of_mem hx
   exact (hr n hn).2.2.2.2
 refine ⟨(prfC p c,true,tsk p (rowL p c.Kept)),?_,fun _=>rfl,fun h=>absurd hsh h⟩
 refine (Qip (l:=c.zG) (fun i (s:List Int×List Int×List Bool)=>(i,s.1,s.2.1,s.2.2)) (fun s x=>(s.1.set x.State.toNat x.Rank,s.2.1.set x.State.toNat x.Reason,s.2.2.set x.State.toNat false))
  (fun _ s=>s.1.length = nS p∧s.2.1.length = nS p∧s.2.2.length = nS p) (fun s=>some (⟨tsk p s.2.2,s.1,Q8r p c,s.2.1⟩,true,tsk p s.2.2)) h2 hge (fun k n s hn hs=>?_) (fun n s hn hs=>by simp only [List.length_set]; exact hs) (fun k s hs=>?_) (s0:=(List.replicate (nS p) 0,List.replicate (nS p) 0,Q81 c L)) ⟨by simp,by simp,hll⟩).trans ?_
 ·obtain ⟨hs1,hs2,hs3⟩:=hs
  have hok:=hr n hn
  have hr1:=hok.1
  have hr2:=hok.2.1
  dsimp only
  rw [if_pos (by omega),Qcx hn,Option.bind_some,Q9w hn h2 hsl hok,Option.bind_some,if_neg (by simp),Qjn hr1 hr2,Option.bind_some,Qgr hr1 (by omega),Option.bind_some,Int.toNat_natCast,Qjn hr1 hr2,Option.bind_some,Qgr hr1 (by omega),Option.bind_some,Option.bind_some,Qgr hr1 (by omega),Option.bind_some]
 ·obtain ⟨hs1,hs2,hs3⟩:=hs
  dsimp only
  rw [if_neg (by omega),Int.toNat_natCast,Qvl hs1,Option.bind_some,Qvl Qbck,Option.bind_some,Qvl hs2,Option.bind_some]
  rfl
 ·have hfold:c.zG.foldl (fun (s:List Int×List Int×List Bool) x=>(s.1.set x.State.toNat x.Rank,s.2.1.set x.State.toNat x.Reason,s.2.2.set x.State.toNat false)) (List.replicate (nS p) 0,List.replicate (nS p) 0,Q81 c L) = (Q5m p c.zG,Q8s p c,c.zG.foldl (fun b x=>b.set x.State.toNat false) (Q81 c L)) :=
   Qbj3 (f:=fun (b:List Int) (x:Qc)=>b.set x.State.toNat x.Rank) (g:=fun (b:List Int) (x:Qc)=>b.set x.State.toNat x.Reason) (h:=fun (b:List Bool) (x:Qc)=>b.set x.State.toNat false)
  rw [hfold]
  dsimp only
  rw [Qbig hL hsh]
  rfl
end
end Go.Abs
end
section
namespace Go.Abs
open Go
def Qbcn (p:Qa) (L:List Bool) (D:List Int) (i:Int):Bool :=
 ((escP p L i).1 == 0) && (!decide (i∈p.zC) && (if ati D i = 0 then decide (i∈p.zA.zK) else decide (ati D i > 0) && (outP p.zA i).any fun y=>lf L y.To && decide (ati D y.To < ati D i)))
def lowB (L:List Bool) (R:List Int) (s k:Int):Bool:=!lf L s && decide (ati R s < k)
def byB (p:Qa) (L:List Bool) (R:List Int) (r:Qc):Bool:=(outP p.zA r.State).any fun y=>(y.Event == r.Event) && lowB L R y.To r.Rank
def Qbhf (L:List Bool) (R Q:List Int) (s k:Int):Bool:=!lf L s && ((ati Q s == 3) && (ati R s == k))
def Qbco (p:Qa) (L:List Bool) (R Q:List Int) (r:Qc):Bool :=
 if r.Reason = 1 then decide (r.Event = -1) && decide (r.State∈p.zC)
 else if r.Reason = 2 then decide (r.Event∈p.zB) && byB p L R r
 else if r.Reason = 4 then decide (r.Event = p.Tick) && (byB p L R r && !(outP p.zA r.State).any fun y=>decide (y.Event∈p.zD) && !lowB L R y.To r.Rank)
 else if r.Reason = 3 then decide (r.Event = -1) && (!decide (r.State∈p.zA.zK) && !(outP p.zA r.State).any fun y=>!Qbhf L R Q y.To r.Rank && !lowB L R y.To r.Rank)
 else false
theorem Qbcp {l:List Qc} {f:Qc→Option Bool} {p:Qc→Bool} (hf:∀ x∈l,f x = some (p x)) (hl:l.length < big):Qc6 l f = some (l.any p):=by
 unfold Qc6 Qbn Qf8 Qbw
 obtain ⟨fuel,hfu,hge⟩ : ∃ f,Qdv = f∧1099511627776≤f:=⟨_,rfl,Nat.le_refl _⟩
 rw [hfu]
 obtain ⟨i,h1,h2⟩:=Q6e hf hl hge
 rw [h1,Option.bind_some,h2]
section
variable {p:Qa} (hp:RightP p) {L:List Bool} {R D Q:List Int} (hL:L.length = nS p) (hR:R.length = nS p) (hD:D.length = nS p) (hQ:Q.length = nS p)
include hp
theorem Qbkw {x:Int}:Q6 p.zA.zK x = some (decide (x∈p.zA.zK)):=Qb0 hp.a.ma hp.a.small.1.2.1
theorem Qbkx {x:Int}:Q6 p.zC x = some (decide (x∈p.zC)):=Qb0 hp.fo.so hp.small.2.1
theorem Qbk7 {x:Int}:Q6 p.zB x = some (decide (x∈p.zB)):=Qb0 hp.un.so hp.small.2.2.1
theorem Qbk8 {x:Int}:Q6 p.zD x = some (decide (x∈p.zD)):=Qb0 hp.fc.so hp.small.2.2.2
omit hp in
theorem Q31 {l:List Int} (hl:l.length = nS p) {x:Int} (hx:0≤x∧x < p.zA.zM):inO l.length x = some ()∧getO l x = some (ati l x) :=
 ⟨Qjn hx.1 (by unfold nS at hl; omega),Qqr hx.1 (by unfold nS at hl; omega)⟩
include hL hD
theorem Qbih {i:Int} (hi:0≤i∧i < p.zA.zM):Qd3 ⟨tsk p L,R,D,Q⟩ i = some (Qbcn p L D i):=by
 unfold Qd3 Qbp Qbcn
 dsimp only
 rw [show (tsk p L).zN = p from rfl,show (tsk p L).from_ = Q0s p from rfl,Q8p hp hL hi,Option.bind_some]
 rcases escP p L i with ⟨e1,e2⟩
 dsimp only
 by_cases h0:e1 = 0
 case neg =>
  rw [if_pos (by simpa using h0),Option.bind_some,if_pos rfl,show (e1 == 0) = false from beq_eq_false_iff_ne.2 h0]; rfl
 rw [if_neg (by simpa using h0),Qbkx hp,Option.bind_some,Option.bind_some,show (e1 == 0) = true from beq_iff_eq.2 h0,Bool.true_and]
 by_cases hf:i∈p.zC
 ·rw [if_pos (by simpa using hf),decide_eq_true hf]; rfl
 rw [if_neg (by simpa using hf),decide_eq_false hf,(Q31 hD hi).1,Option.bind_some,(Q31 hD hi).2,Option.bind_some]
 by_cases hz:ati D i = 0
 ·rw [if_pos (by simpa using hz),if_pos hz,Qbkw hp]; rfl
 rw [if_neg (by simpa using hz),if_neg hz]
 by_cases hg:ati D i > 0
 case neg=>rw [if_neg hg,decide_eq_false hg]; rfl
 rw [if_pos hg,decide_eq_true hg,(Qvn hi).1,Option.bind_some,(Qvn hi).2,Option.bind_some]
 rw [Qiq (p:=fun y=>lf L y.To && decide (ati D y.To < ati D i)) (fun y hy=>?_) (Qrp hp i)]
 ·rfl
 ·have hy:=(Qir hp y hy).1
  unfold Qe0 Qbh
  dsimp only
  rw [show (tsk p L).left_ = L from rfl,(Qhz hL hy).1,Option.bind_some,(Qhz hL hy).2,Option.bind_some,(Q31 hD hy).1,Option.bind_some,(Q31 hD hy).2,Option.bind_some]
  cases lf L y.To <;> rfl
omit hD
include hR
omit hp in
theorem Qba5 {s k:Int} (hs:0≤s∧s < p.zA.zM):Qcs ⟨tsk p L,R,D,Q⟩ s k = some (lowB L R s k):=by
 unfold Qcs Qt lowB
 dsimp only
 rw [show (tsk p L).left_ = L from rfl,(Qhz hL hs).1,Option.bind_some,(Qhz hL hs).2,Option.bind_some,(Q31 hR hs).1,Option.bind_some,(Q31 hR hs).2,Option.bind_some]
 cases lf L s <;> rfl
include hQ
theorem Qbez {r:Qc} (hr:0≤r.State∧r.State < p.zA.zM):Qdq ⟨tsk p L,R,D,Q⟩ r = some (Qbco p L R Q r):=by
 unfold Qdq Qbi Qbco
 dsimp only
 rw [show (tsk p L).zN = p from rfl,show (tsk p L).from_ = Q0s p from rfl,(Qvn hr).1,Option.bind_some,(Qvn hr).2,Option.bind_some]
 have hby:Qbe (outP p.zA r.State) (fun a29=>Qdf a29 r ⟨tsk p L,R,D,Q⟩) = some (byB p L R r):=by
  refine Qiq (fun y hy=>?_) (Qrp hp r.State)
  have hy:=(Qir hp y hy).1
  unfold Qdf Q5
  rw [Qba5 hL hR hy]
  cases y.Event == r.Event <;> rfl
 have hfo:Qbe (outP p.zA r.State) (fun a42=>Qdg a42 ⟨tsk p L,R,D,Q⟩ r) = some ((outP p.zA r.State).any fun y=>decide (y.Event∈p.zD) && !lowB L R y.To r.Rank):=by
  refine Qiq (fun y hy=>?_) (Qrp hp r.State)
  have hy:=(Qir hp y hy).1
  unfold Qdg Qba
  dsimp only
  rw [show (tsk p L).zN = p from rfl,Qbk8 hp,Option.bind_some,Qba5 hL hR hy]
  cases decide (y.Event∈p.zD) <;> rfl
 have hbl:Qbe (outP p.zA r.State) (fun a52=>Qdh a52 ⟨tsk p L,R,D,Q⟩ r) = some ((outP p.zA r.State).any fun y=>!Qbhf L R Q y.To r.Rank && !lowB L R y.To r.Rank):=by
  refine Qiq (fun y hy=>?_) (Qrp hp r.State)
  have hy:=(Qir hp y hy).1
  unfold Qdh Qbb Qbhf
  dsimp only
  rw [show (tsk p L).left_ = L from rfl,(Qhz hL hy).1,Option.bind_some,(Qhz hL hy).2,Option.bind_some,(Q31 hQ hy).1,Option.bind_some,(Q31 hQ hy).2,Option.bind_some,(Q31 hR hy).1,Option.bind_some,(Q31 hR hy).2,Option.bind_some,Qba5 hL hR hy]
  cases lf L y.To <;> cases ati Q y.To == 3 <;> cases ati R y.To == r.Rank <;> rfl
 rw [hby,hfo,hbl,Qbkx hp,Qbk7 hp,Qbkw hp]
 by_cases h1:r.Reason = 1
 ·rw [if_pos (by simpa using h1),if_pos h1]
  by_cases h2:r.Event = -1
  ·rw [if_pos (by simpa using h2),decide_eq_true h2]; rfl
  ·rw [if_neg (by simpa using h2),decide_eq_false h2]; rfl
 rw [if_neg (by simpa using h1),if_neg h1]
 by_cases h2:r.Reason = 2
 ·rw [if_pos (by simpa using h2),if_pos h2]
  cases decide (r.Event∈p.zB) <;> rfl
 rw [if_neg (by simpa using h2),if_neg h2]
 by_cases h4:r.Reason = 4
 ·rw [if_pos (by simpa using h4),if_pos h4]
  by_cases h5:r.Event = p.Tick
  ·rw [if_pos (by simpa using h5),decide_eq_true h5]
   cases byB p L R r <;> rfl
  ·rw [if_neg (by simpa using h5),decide_eq_false h5]; rfl
 rw [if_neg (by simpa using h4),if_neg h4]
 by_cases h3:r.Reason = 3
 ·rw [if_pos (by simpa using h3),if_pos h3]
  by_cases h5:r.Event = -1
  ·rw [if_pos (by simpa using h5),decide_eq_true h5]
   cases decide (r.State∈p.zA.zK) <;> rfl
  ·rw [if_neg (by simpa using h5),decide_eq_false h5]; rfl
 rw [if_neg (by simpa using h3),if_neg h3]
end
def Qbii (p:Qa) (c:Qv):Bool:=c.Kept.all (Qbcn p (rowL p c.Kept) (Q8r p c)) && c.zG.all (Qbco p (rowL p c.Kept) (Q5m p c.zG) (Q8s p c))
section
variable {p:Qa} (hp:RightP p) {c:Qv} (h1:c.Kept.length < big) (h2:c.zG.length < big) (h3:c.zF.length < big)
include hp h1 h2 h3
theorem Qbhg:(Shape p c→Qco p c = some (if Qbii p c then 0 else 24))∧(¬ Shape p c→Qco p c = some 24):=by
 have hL:=Qg6 p (T0 p)
 obtain ⟨r,k1,k2,k3⟩:=Qbj4 hp h1 h2 h3 hL
 unfold Qco Qb4
 rw [Qgf hp.small,Qxx.2 hp,Option.bind_some,if_neg (by simp),Qbaz hp,Option.bind_some,k1,Option.bind_some]
 refine ⟨fun hs=>?_,fun hs=>?_⟩
 case refine_2 =>
  have:=k3 hs
  obtain ⟨a,b,d⟩:=r
  dsimp only at this ⊢
  subst this; rfl
 rw [k2 hs]
 dsimp only
 have hRl:(rowL p c.Kept).length = nS p:=Q5n p c.Kept
 rw [if_pos rfl,show (tsk p (Qbk p (T0 p))).left_ = Qbk p (T0 p) from rfl,show (tsk p (rowL p c.Kept)).left_ = rowL p c.Kept from rfl,Qg6,Qvl hRl,Option.bind_some]
 rw [show Qj.mk (Qd.mk (tsk p (Qbk p (T0 p))).zN (tsk p (Qbk p (T0 p))).from_ (rowL p c.Kept)) (prfC p c).ranks_ (prfC p c).distances_ (prfC p c).reasons_ = prfC p c from rfl]
 have hk:Qc7 c.Kept (fun a13=>Qen a13 (prfC p c)) = some (c.Kept.any fun i=>!Qbcn p (rowL p c.Kept) (Q8r p c) i):=by
  refine Q6s (fun i hi=>?_) h1
  unfold Qen Qb2 prfC
  rw [Qbih hp hRl Qbck (hs.ke.rg i hi)]; rfl
 have hr:Qc6 c.zG (fun a20=>Qeo a20 (prfC p c)) = some (c.zG.any fun r=>!Qbco p (rowL p c.Kept) (Q5m p c.zG) (Q8s p c) r):=by
  refine Qbcp (fun x hx=>?_) h2
  unfold Qeo Qb3 prfC
  rw [Qbez hp hRl (Qbg3 p c.zG) Qbha (hs.rr x hx)]; rfl
 rw [hk,hr,Option.bind_some,Option.bind_some]
 unfold Qbii
 rw [show (c.Kept.any fun i=>!Qbcn p (rowL p c.Kept) (Q8r p c) i) = !c.Kept.all (Qbcn p (rowL p c.Kept) (Q8r p c)) from by simp [List.any_eq_not_all_not],show (c.zG.any fun r=>!Qbco p (rowL p c.Kept) (Q5m p c.zG) (Q8s p c) r) = !c.zG.all (Qbco p (rowL p c.Kept) (Q5m p c.zG) (Q8s p c)) from by simp [List.any_eq_not_all_not]]
 cases c.Kept.all (Qbcn p (rowL p c.Kept) (Q8r p c)) <;> cases c.zG.all (Qbco p (rowL p c.Kept) (Q5m p c.zG) (Q8s p c)) <;> rfl
end
end Go.Abs
end
section
namespace Go.Abs
open Go
def Low (T:List Qc) (k s:Int):Prop:=∃ z∈T,z.State = s∧z.Rank < k
def Lowb (T:List Qc) (k s:Int):Prop:=∃ z∈T,z.State = s∧(z.Rank < k∨z.Rank = k∧z.Reason = 3)
def Just (p:Qa) (T:List Qc) (x:Qc):Prop :=
 (x.Reason = 1∧x.Event = -1∧x.State∈p.zC) ∨
 (x.Reason = 2∧x.Event∈p.zB∧∃ y∈outP p.zA x.State,y.Event = x.Event∧Low T x.Rank y.To) ∨
 (x.Reason = 4∧x.Event = p.Tick∧(∃ y∈outP p.zA x.State,y.Event = x.Event∧Low T x.Rank y.To)∧∀ y∈outP p.zA x.State,y.Event∈p.zD→Low T x.Rank y.To) ∨
 (x.Reason = 3∧x.Event = -1∧x.State∉p.zA.zK∧∀ y∈outP p.zA x.State,Lowb T x.Rank y.To)
theorem Low.mono {T U:List Qc} (h:∀ z∈T,z∈U) {k s:Int}:Low T k s→Low U k s:=fun ⟨z,h1,h2⟩=>⟨z,h z h1,h2⟩
theorem Lowb.mono {T U:List Qc} (h:∀ z∈T,z∈U) {k s:Int}:Lowb T k s→Lowb U k s:=fun ⟨z,h1,h2⟩=>⟨z,h z h1,h2⟩
theorem Just.mono {p:Qa} {T U:List Qc} (h:∀ z∈T,z∈U) {x:Qc} (k:Just p T x):Just p U x:=by
 rcases k with k | ⟨k1,k2,y,k3,k4,k5⟩ | ⟨k1,k2,⟨y,k3,k4,k5⟩,k6⟩ | ⟨k1,k2,k3,k4⟩
 ·exact .inl k
 ·exact .inr (.inl ⟨k1,k2,y,k3,k4,k5.mono h⟩)
 ·exact .inr (.inr (.inl ⟨k1,k2,⟨y,k3,k4,k5.mono h⟩,fun y hy hf=>(k6 y hy hf).mono h⟩))
 ·exact .inr (.inr (.inr ⟨k1,k2,k3,fun y hy=>(k4 y hy).mono h⟩))
section
variable {p:Qa} (hp:RightP p)
theorem gone {T:List Qc} (hT:Okt p T) {y:Int} (h0:0≤y) (h1:y < p.zA.zM) (h:lf (Qbk p T) y = false):∃ z∈T,z.State = y:=by
 rw [Qzk hT.rg h0 h1] at h
 simp only [Bool.not_eq_false',List.any_eq_true] at h
 obtain ⟨z,hz,h⟩:=h
 exact ⟨z,hz,by simpa using h⟩
theorem Q7a {T:List Qc} (hT:Okt p T) {z:Qc} (hz:z∈T):lf (Qbk p T) z.State = false:=by
 have hr:=hT.rg z hz
 rw [Qzk hT.rg hr.1 hr.2]
 simp only [Bool.not_eq_false',List.any_eq_true]
 exact ⟨z,hz,by simp⟩
include hp
theorem Qbe0 {T:List Qc} (hT:Okt p T) {rank:Int} (hl:∀ z∈T,z.Rank < rank) {x:Qc} (hx:x∈Qh6 p (Qbk p T) rank):Just p (T ++ Qh6 p (Qbk p T) rank) x:=by
 have low:∀ y:Qe,∀ s:Int,y∈outP p.zA s→lf (Qbk p T) y.To = false→Low T rank y.To:=fun y s hy h=>by
  have hr:=(Qir hp y hy).1
  obtain ⟨z,hz,e⟩:=gone hT hr.1 hr.2 h
  exact ⟨z,hz,e,hl z hz⟩
 by_cases hE:((Q6t p (Qbk p T) rank).length:Int) > 0
 ·rw [show Qh6 p (Qbk p T) rank = Q6t p (Qbk p T) rank from if_pos hE] at hx
  refine Just.mono (T:=T) (fun z hz=>List.mem_append_left _ hz) ?_
  obtain ⟨i,hi,hz⟩:=List.mem_filterMap.1 hx
  unfold remE at hz
  by_cases hc:(lf (Qbk p T) i && ((escP p (Qbk p T) i).1 != 0)) = true
  case neg=>rw [if_neg hc] at hz; cases hz
  rw [if_pos hc] at hz
  cases hz
  simp only [Bool.and_eq_true,bne_iff_ne] at hc
  have h2:=hc.2
  unfold Just
  dsimp only
  unfold escP at h2 ⊢
  cases hf:(outP p.zA i).find? (fun y=>!lf (Qbk p T) y.To && decide (y.Event∈p.zB)) with
  | some y =>
   have hy:=List.mem_of_find?_eq_some hf
   have hq:=List.find?_some hf
   simp only [Bool.and_eq_true,Bool.not_eq_true',decide_eq_true_eq] at hq
   exact .inr (.inl ⟨rfl,hq.2,y,hy,rfl,low y i hy hq.1⟩)
  | none =>
   rw [hf] at h2
   dsimp only at h2 ⊢
   by_cases ht:(Qpp p (Qbk p T) i && !Qvm p (Qbk p T) i) = true
   case neg=>rw [if_neg ht] at h2; exact absurd rfl h2
   rw [if_pos ht]
   simp only [Bool.and_eq_true,Bool.not_eq_true'] at ht
   obtain ⟨t1,t2⟩:=ht
   unfold Qpp at t1
   obtain ⟨y,hy,hq⟩:=List.any_eq_true.1 t1
   simp only [Bool.and_eq_true,Bool.not_eq_true',beq_iff_eq] at hq
   refine .inr (.inr (.inl ⟨rfl,rfl,⟨y,hy,hq.1,low y i hy hq.2⟩,fun y hy hfc=>low y i hy ?_⟩))
   unfold Qvm at t2
   have:=List.any_eq_false.1 t2 y hy
   cases hh:lf (Qbk p T) y.To with
   | false=>rfl
   | true=>exact absurd (by simp [hh,hfc]) this
 ·have hB:Qh6 p (Qbk p T) rank = Qbg2 p (Qbk p T) rank:=if_neg hE
  rw [hB] at hx ⊢
  obtain ⟨i,hi,hz⟩:=List.mem_filterMap.1 hx
  unfold remB at hz
  by_cases hc:(lf (Qbk p T) i && decide (ati (Qlh p (Qbk p T)) i < 0)) = true
  case neg=>rw [if_neg hc] at hz; cases hz
  rw [if_pos hc] at hz
  cases hz
  simp only [Bool.and_eq_true,decide_eq_true_eq] at hc
  have hir:=Qge.1 hi
  have D:=Qtm hp (Qbk p T)
  refine .inr (.inr (.inr ⟨rfl,rfl,fun hm=>?_,fun y hy=>?_⟩))
  ·have:=(D.z i hir.1 hir.2).2 ⟨hc.1,hm⟩
   omega
  ·obtain ⟨hr,hfr,hed⟩:=Qir hp y hy
   dsimp only at hfr ⊢
   cases hh:lf (Qbk p T) y.To with
   | false =>
    obtain ⟨z,hz,e,hlt⟩:=low y i hy hh
    exact ⟨z,List.mem_append_left _ hz,e,.inl hlt⟩
   | true =>
    refine ⟨⟨y.To,rank,3,-1⟩,List.mem_append_right _ (List.mem_filterMap.2 ⟨y.To,Qge.2 hr,?_⟩),rfl,.inr ⟨rfl,rfl⟩⟩
    unfold remB
    rw [if_pos]
    simp only [hh,Bool.true_and,decide_eq_true_eq]
    refine Int.not_le.1 fun h=>?_
    have:=D.cl y hed (by rw [hfr]; exact hc.1) h (D.bound hp _ hr.1 hr.2)
    rw [hfr] at this
    omega
theorem Q9x:∀ {f:Nat} {rank:Int} {T:List Qc} {r:Int},Okt p T→(∀ z∈T,z.Rank < rank)→(∀ x∈T,Just p T x)→1≤rank→∀ x∈(Qtn p f rank T r).1,Just p (Qtn p f rank T r).1 x
 | 0,_,_,_,_,_,h,_=>h
 | f + 1,rank,T,r,hT,hl,h,hr=>by
  rw [Qtn]
  split
  ·exact h
  ·refine Q9x (hT.round hr) (fun z hz=>?_) (fun x hx=>?_) (by omega)
   ·rcases List.mem_append.1 hz with hz | hz
    ·have:=hl z hz; omega
    ·rw [(Qx0 hz).2.2]; omega
   ·rcases List.mem_append.1 hx with hx | hx
    ·exact (h x hx).mono fun z hz=>List.mem_append_left _ hz
    ·exact Qbe0 hp hT hl hx
theorem Qbhh:∀ x∈(solP p).1,Just p (solP p).1 x:=by
 refine Q9x hp (Qbg5 hp) (fun z hz=>?_) (fun x hx=>?_) (by omega)
 ·obtain ⟨y,hy,rfl⟩:=List.mem_map.1 hz
  show (1:Int) < 2
  omega
 ·obtain ⟨y,hy,rfl⟩:=List.mem_map.1 hx
  exact .inl ⟨rfl,rfl,hy⟩
end
abbrev crt (p:Qa):Qv:=(resP p (solP p).1 (solP p).2).zE
section
variable {p:Qa} (hp:RightP p)
theorem Q7b {T:List Qc} (hT:Okt p T) {x:Qc}:x∈(upto p.zA.zM).filterMap (remF p T)↔x∈T:=by
 rw [List.mem_filterMap]
 constructor
 ·rintro ⟨i,hi,h⟩
  have hir:=Qge.1 hi
  unfold remF at h
  cases hl:lf (Qbk p T) i with
  | true=>rw [hl,if_pos rfl] at h; cases h
  | false =>
   rw [hl,if_neg (by simp)] at h
   obtain ⟨z,hz,rfl⟩:=gone hT hir.1 hir.2 hl
   rw [Qbay hT hz] at h
   cases h
   exact hz
 ·intro hx
  refine ⟨x.State,Qge.2 (hT.rg x hx),?_⟩
  unfold remF
  rw [Q7a hT hx,if_neg (by simp),Qbay hT hx]
theorem Qbe1 {T:List Qc} (hT:Okt p T):((upto p.zA.zM).filterMap (remF p T)).map (·.State) = (upto p.zA.zM).filter fun i=>!lf (Qbk p T) i:=by
 have key:∀ l:List Int,(∀ i∈l,0≤i∧i < p.zA.zM)→(l.filterMap (remF p T)).map (·.State) = l.filter fun i=>!lf (Qbk p T) i:=by
  intro l
  induction l with
  | nil=>intro _; rfl
  | cons i l ih =>
   intro h
   have hir:=h i (by simp)
   have ih':=ih fun j hj=>h j (by simp [hj])
   cases hl:lf (Qbk p T) i with
   | true =>
    rw [List.filterMap_cons_none (show remF p T i = none from if_pos hl),List.filter_cons_of_neg (by simp [hl])]
    exact ih'
   | false =>
    obtain ⟨z,hz,rfl⟩:=gone hT hir.1 hir.2 hl
    have hr:remF p T z.State = some z:=by unfold remF; rw [hl,if_neg (by simp),Qbay hT hz]
    rw [List.filterMap_cons_some hr,List.filter_cons_of_pos (by simp [hl]),List.map_cons,ih']
 exact key _ fun i hi=>Qge.1 hi
theorem Q9y {f:Int→Bool}:SetP p.zA.zM ((upto p.zA.zM).filter f) :=
 ⟨fun x hx=>Qge.1 (List.mem_filter.1 hx).1,(Q5j _).filter _⟩
theorem Q6u {α:Type} {f:α→Bool}:∀ {l:List α},(l.filter f).length + (l.filter fun i=>!f i).length = l.length
 | []=>rfl
 | x :: l=>by
  have:=Q6u (f:=f) (l:=l)
  rw [List.filter_cons,List.filter_cons]
  cases f x <;> simp <;> omega
include hp
theorem Q5o:Shape p (crt p):=by
 obtain ⟨hT,-,-⟩:=Q69 hp
 unfold crt
 generalize (solP p).1 = T at hT ⊢
 have hrs:=Qbe1 hT
 refine ⟨?_,by simp [resP],Q9y,?_,fun x hx=>?_,fun x hx=>hT.rk x ((Q7b hT).1 hx)⟩
 ·have h1:=congrArg List.length hrs
  rw [List.length_map] at h1
  have h2:=Q6u (f:=lf (Qbk p T)) (l:=upto p.zA.zM)
  rw [Qc2] at h2
  show ((upto p.zA.zM).filter (lf (Qbk p T))).length + ((upto p.zA.zM).filterMap (remF p T)).length = _
  unfold nS
  omega
 ·show SetP _ (((upto p.zA.zM).filterMap (remF p T)).map (·.State))
  rw [hrs]; exact Q9y
 ·have:=Q7a hT ((Q7b hT).1 hx)
  intro h
  have:=(List.mem_filter.1 h).2
  simp_all
omit hp in
theorem Qbj5:rowL p (crt p).Kept = Qbk p (solP p).1:=by
 refine Qbca (d:=false) (by rw [Q5n,Qg6]) fun y h0 h1=>?_
 rw [Q5n] at h1
 have h2:y < p.zA.zM:=by unfold nS at h1; omega
 rw [show at0 false (rowL p (crt p).Kept) y = lf (rowL p (crt p).Kept) y from rfl,Qbg8 h0 h2]
 show decide (y∈(upto p.zA.zM).filter (lf (Qbk p (solP p).1))) = lf (Qbk p (solP p).1) y
 rw [Bool.eq_iff_iff,decide_eq_true_eq,List.mem_filter,Qge]
 exact ⟨fun h=>h.2,fun h=>⟨⟨h0,h2⟩,h⟩⟩
theorem Qbea {y:Int} (hy:y∈(crt p).Kept):ati (Q8r p (crt p)) y = ati (Qlh p (Qbk p (solP p).1)) y:=by
 have hs:=Q5o hp
 have hq:(y,ati (Qlh p (Qbk p (solP p).1)) y)∈(crt p).Kept.zip (crt p).zF:=by
  show _∈((upto p.zA.zM).filter (lf (Qbk p (solP p).1))).zip (((upto p.zA.zM).filter (lf (Qbk p (solP p).1))).map (ati (Qlh p (Qbk p (solP p).1))))
  rw [List.zip_map_right,List.mem_map]
  refine ⟨(y,y),?_,rfl⟩
  have:∀ (l:List Int),y∈l→(y,y)∈l.zip l:=fun l=>by
   induction l with
   | nil=>intro h; cases h
   | cons a l ih =>
    intro h
    rw [List.zip_cons_cons]
    rcases List.mem_cons.1 h with rfl | h
    ·simp
    ·exact List.mem_cons_of_mem _ (ih h)
  exact this _ hy
 refine Qkk (d:=0) (f:=fun q:Int×Int=>q.1) (g:=fun q=>q.2) (fun q hq=>?_) (by rw [show ((crt p).Kept.zip (crt p).zF).map (fun q:Int×Int=>q.1) = (crt p).Kept from Q8t hs.dl]; exact hs.ke.so.imp fun h=>by omega) _ hq
 have:=hs.ke.rg _ (Qba4 hs.dl hq)
 rw [List.length_replicate]; unfold nS; (try dsimp only); omega
theorem Qba6 {z:Qc} (hz:z∈(solP p).1):ati (Q5m p (crt p).zG) z.State = z.Rank∧ati (Q8s p (crt p)) z.State = z.Reason:=by
 have hs:=Q5o hp
 have hm:z∈(crt p).zG:=(Q7b (Q69 hp).1).2 hz
 have hr:∀ x∈(crt p).zG,0≤(fun x:Qc=>x.State) x∧(fun x:Qc=>x.State) x < ((List.replicate (nS p) (0:Int)).length:Int):=fun x hx=>by
  have:=hs.rr x hx
  rw [List.length_replicate]; unfold nS; (try dsimp only); omega
 exact ⟨Qkk (d:=0) (f:=fun x:Qc=>x.State) (g:=fun x=>x.Rank) hr hs.nd z hm,Qkk (d:=0) (f:=fun x:Qc=>x.State) (g:=fun x=>x.Reason) hr hs.nd z hm⟩
theorem Qbij:Qbii p (crt p) = true:=by
 have hs:=Q5o hp
 obtain ⟨hT,-,-⟩:=Q69 hp
 have hrow:=Qbj5 (p:=p)
 have D:=Qtm hp (Qbk p (solP p).1)
 have low:∀ {k s:Int},Low (solP p).1 k s→lowB (Qbk p (solP p).1) (Q5m p (crt p).zG) s k = true:=fun {k s} ⟨z,hz,e,hlt⟩=>by
  subst e
  unfold lowB
  rw [Q7a hT hz,(Qba6 hp hz).1]
  simpa using hlt
 have same:∀ {k s:Int},Lowb (solP p).1 k s→(Qbhf (Qbk p (solP p).1) (Q5m p (crt p).zG) (Q8s p (crt p)) s k || lowB (Qbk p (solP p).1) (Q5m p (crt p).zG) s k) = true:=fun {k s} ⟨z,hz,e,hlt⟩=>by
  rcases hlt with hlt | ⟨h1,h2⟩
  ·rw [low ⟨z,hz,e,hlt⟩,Bool.or_true]
  ·subst e
   unfold Qbhf
   rw [Q7a hT hz,(Qba6 hp hz).1,(Qba6 hp hz).2]
   simp [h1,h2]
 unfold Qbii
 rw [hrow,Bool.and_eq_true,List.all_eq_true,List.all_eq_true]
 refine ⟨fun i hi=>?_,fun x hx=>?_⟩
 ·have hm:=List.mem_filter.1 hi
  have hir:=Qge.1 hm.1
  have hok:=Qbif hp hir.1 hir.2 hm.2
  unfold okS at hok
  simp only [Bool.and_eq_true,beq_iff_eq,decide_eq_true_eq,Bool.not_eq_true',decide_eq_false_iff_not] at hok
  obtain ⟨h1,h2,h3⟩:=hok
  unfold Qbcn
  rw [h1,decide_eq_false h2,Qbea hp hi]
  simp only [beq_self_eq_true,Bool.not_false,Bool.true_and]
  by_cases h0:ati (Qlh p (Qbk p (solP p).1)) i = 0
  ·rw [if_pos h0,decide_eq_true ((D.z i hir.1 hir.2).1 h0).2]
  ·rw [if_neg h0,Bool.and_eq_true,decide_eq_true_eq,List.any_eq_true]
   refine ⟨by omega,?_⟩
   obtain ⟨e,he,k1,k2,k3⟩:=D.ps i hir.1 hir.2 (by omega)
   have hr:=hp.a.ed0 e he
   refine ⟨e,List.mem_filter.2 ⟨he,by simp [k1]⟩,?_⟩
   have hk:e.To∈(crt p).Kept:=List.mem_filter.2 ⟨Qge.2 ⟨hr.2.2.1,hr.2.2.2.1⟩,k2⟩
   rw [k2,Qbea hp hk,k3]
   simp only [Bool.true_and,decide_eq_true_eq]
   omega
 ·have hxT:=(Q7b hT).1 hx
  have by_ok:(∃ y∈outP p.zA x.State,y.Event = x.Event∧Low (solP p).1 x.Rank y.To)→byB p (Qbk p (solP p).1) (Q5m p (crt p).zG) x = true:=fun ⟨y,hy,e,hl⟩=>by
   unfold byB
   exact List.any_eq_true.2 ⟨y,hy,by rw [low hl]; simp [e]⟩
  unfold Qbco
  rcases Qbhh hp x hxT with ⟨k1,k2,k3⟩ | ⟨k1,k2,k3⟩ | ⟨k1,k2,k3,k4⟩ | ⟨k1,k2,k3,k4⟩
  ·rw [if_pos k1]; simp [k2,k3]
  ·rw [if_neg (by omega),if_pos k1,by_ok k3]; simp [k2]
  ·rw [if_neg (by omega),if_neg (by omega),if_pos k1,by_ok k3,decide_eq_true k2,Bool.true_and,Bool.true_and,Bool.not_eq_true',List.any_eq_false]
   intro y hy
   by_cases hf:y.Event∈p.zD
   ·rw [low (k4 y hy hf)]; simp
   ·simp [hf]
  ·rw [if_neg (by omega),if_neg (by omega),if_neg (by omega),if_pos k1,decide_eq_true k2,decide_eq_false k3,Bool.true_and,Bool.not_false,Bool.true_and,Bool.not_eq_true',List.any_eq_false]
   intro y hy
   have:=same (k4 y hy)
   rw [Bool.or_eq_true] at this
   rcases this with h | h <;> simp [h]
end
end Go.Abs
end
section
namespace Go.Abs
open Go
def evn (x:Int):Bool:=decide (0≤x) && decide (x < 32)
section
variable {F T K:Int} (hF:evn F = true) (hT:evn T = true) (hK:evn K = true) (h1:F≠T) (h2:F≠K) (h3:T≠K)
include hF hT hK h1 h2 h3
end
section
variable {F T K n:Int} (hF:evn F = true) (hT:evn T = true) (hK:evn K = true) (h1:F≠T) (h2:F≠K) (h3:T≠K) (hn:0≤n∧n≤16)
include hF hT hK h1 h2 h3 hn
end
end Go.Abs
end
section
namespace Go.Abs
open Go
section
variable {F T K n:Int} (hF:evn F = true) (hT:evn T = true) (hK:evn K = true) (h1:F≠T) (h2:F≠K) (h3:T≠K) (hn:0≤n∧n≤16)
include hF hT hK h1 h2 h3 hn
end
theorem Qbhi {a:Qm} (h:small a):Qgw a = some (decide (a = ⟨[],0,[],[]⟩)):=by
 unfold Qgw Qcw
 rw [Qbgw h]; rfl
end Go.Abs
end
section
namespace Go.Abs
open Go
theorem Qbe2 {p:Qa} (h:Qbcc p):Qgc p = some (Q2k p):=by
 unfold Qgc Qcm Q2k
 rw [Qbax h.1,Option.bind_some,Qhk h.2.1,Qhk h.2.2.1,Qhk h.2.2.2,Qbd2 h.2.2.1,Qbd2 h.2.2.2]
 by_cases h1:Qro p.zA = 0
 case neg=>simp [h1]
 by_cases h2:Qc3 p.zA.zM none p.zC = 0
 case neg=>simp [h1,h2]
 by_cases h3:Qc3 32 none p.zB = 0
 case neg=>simp [h1,h2,h3]
 by_cases h4:Qc3 32 none p.zD = 0
 case neg=>simp [h1,h2,h3,h4]
 by_cases h5:p.Tick < 0
 ·simp [h1,h2,h3,h4,h5]
 by_cases h6:p.Tick≥32
 ·simp [h1,h2,h3,h4,h5,h6]
 by_cases h7:p.Tick∈p.zB
 ·simp [h1,h2,h3,h4,h5,h6,h7]
 by_cases h8:p.Tick∈p.zD <;> simp [h1,h2,h3,h4,h5,h6,h7,h8]
section
variable {p:Qa} (h:Qbcc p) (he:Q2k p≠0)
include h he
theorem Qbhj:Qcb p = some (⟨⟨[],[],[]⟩,0,⟨[],0,[],[]⟩,[],[]⟩,Q2k p):=by
 unfold Qcb Q0
 rw [Qgf h,Option.bind_some,if_pos (by simpa using he)]
theorem Qbcq (l:List Int):Qb9 p l = some (false,Q2k p):=by
 unfold Qb9 Qbj
 rw [Qgf h,Option.bind_some,if_pos (by simpa using he)]
theorem Qbe3 (c:Qv):Qco p c = some (Q2k p):=by
 unfold Qco Qb4
 rw [Qgf h,Option.bind_some,if_pos (by simpa using he)]
end
theorem Qbcr {p:Qa} (hp:RightP p) {l:List Int} (hl:l.length < big) (he:Qc3 p.zA.zM none l≠0):Qb9 p l = some (false,Qc3 p.zA.zM none l):=by
 unfold Qb9 Qbj
 rw [Qgf hp.small,Qxx.2 hp,Option.bind_some,if_neg (by simp),Qhk hl,Option.bind_some,if_pos (by simpa using he)]
theorem Qbik {a:Qm}:∃ b,Qhg a = some b∧(b = true→small a):=by
 unfold Qhg Qc4
 by_cases h1:(a.zJ.length:Int)≤10
 case neg=>rw [if_neg h1]; exact ⟨_,rfl,by simp⟩
 rw [if_pos h1]
 by_cases h2:(a.zK.length:Int)≤10
 case neg=>rw [if_neg h2]; exact ⟨_,rfl,by simp⟩
 rw [if_pos h2]
 by_cases h3:(a.zL.length:Int)≤10
 case neg=>rw [if_neg h3]; exact ⟨_,rfl,by simp⟩
 have hs:small a:=⟨by unfold big; omega,by unfold big; omega,by unfold big; omega⟩
 rw [if_pos h3,Qbax hs]
 split <;> exact ⟨_,rfl,fun _=>hs⟩
theorem Qba7 (p:Qa) (l:List Int):Qdw p l = some true:=by
 unfold Qdw Qc1
 obtain ⟨b,hb,hs⟩:=Qbik (a:=p.zA)
 simp only [Qber,Option.bind_some,if_true,hb]
 cases b with
 | false=>rfl
 | true =>
  have hs:=hs rfl
  simp only [if_true]
  by_cases h1:(p.zC.length:Int) > 10
  ·rw [if_pos h1]; rfl
  by_cases h2:(p.zB.length:Int) > 10
  ·rw [if_neg h1,if_pos h2]; rfl
  by_cases h3:(p.zD.length:Int) > 10
  ·rw [if_neg h1,if_neg h2,if_pos h3]; rfl
  rw [if_neg h1,if_neg h2,if_neg h3]
  by_cases h4:(l.length:Int) > 10
  ·rw [decide_eq_true h4]; rfl
  rw [decide_eq_false h4,Option.bind_some,if_neg (by simp)]
  have hP:Qbcc p:=⟨hs,by unfold big; omega,by unfold big; omega,by unfold big; omega⟩
  have hl:l.length < big:=by unfold big; omega
  rw [Qbe2 hP,Qgf hP]
  simp only [Option.bind_some]
  by_cases he:Q2k p = 0
  case neg =>
   rw [Qbhj hP he,Qbcq hP he,Option.bind_some,Option.bind_some]
   dsimp only
   rw [Qbe3 hP he]
   simp only [Option.bind_some,bne_self_eq_false,Bool.false_eq_true,if_false]
   rw [if_pos (by simpa using he),Qbg7 (c:=⟨[],[],[]⟩) (by decide) (by decide) (by decide),Qbhi (a:=⟨[],0,[],[]⟩) ⟨by decide,by decide,by decide⟩]
   simp
   rfl
  rw [he]
  have hp:=Qxx.1 he
  obtain ⟨s1,s2,s3,s4,s5,s6⟩:=Qbex hp (solP p).1 (solP p).2
  have hv:Qco p (resP p (solP p).1 (solP p).2).zE = some 0:=by
   rw [(Qbhg hp s1 s3 s2).1 (Q5o hp),Qbij hp]; rfl
  rw [Qba2 hp]
  simp only [Option.bind_some,hv,Qhk hl]
  by_cases hle:Qc3 p.zA.zM none l = 0
  ·rw [Qbde hp (Qnr.1 hle),hle]; rfl
  ·rw [Qbcr hp hl hle]
   simp
end Go.Abs
end
