/-
  Part 7 of the proof: see the last text.
-/
import Derived.Test.YthlopjpofmcdmaaP6
import Derived.KernelRfl
set_option linter.unusedVariables false
set_option linter.unusedSimpArgs false
set_option linter.unusedSectionVars false
section
namespace Go.Abs
open Go
theorem Qbnk {α:Type} [DecidableEq α] {s t:List α} {ne:α→α→Bool} (hne:∀ x y,ne x y=decide (x≠y)) (hl:s.length=t.length) (h:s.length<1000000000000) :
  Qcm (fun k5 (i4:Int)=>(if (i4<(s.length:Int)) then ((getO s i4).bind fun x7=>((getO t i4).bind fun x9=>(if ne x7 x9 then some false else k5 (IntKind.wrap .i64 (i4+1))))) else some true)) Qch 0=some (decide (s=t)):=by
 refine Q9z (fun i:Int=>∃ n:Nat,i=n∧n≤s.length∧s.take n=t.take n) (fun i=>s.length-i.toNat) _ ⟨0,rfl,by omega,by simp⟩ (by unfold Qch;omega) ?_;rintro k _ ⟨n,rfl,hn,he⟩ ih;by_cases hlt:n<s.length
 ·rw [if_pos (by omega),Qbt hlt,Qbt (by omega:n<t.length)];simp only [Option.bind_some,hne];by_cases hx:s[n]=t[n]
  ·rw [if_neg (by simp [hx]),Qcn (by omega)];exact ih _ ⟨n+1,rfl,by omega,Qbhj hlt (by omega) he hx⟩ (by omega)
  ·rw [if_pos (by simp [hx])];have:s≠t:=fun e=>hx (by subst e;rfl);simp [this]
 ·rw [if_neg (by omega)];have e:n=s.length:=by omega
  have:s=t:=by
   rw [e,List.take_length,hl,List.take_length] at he;exact he
  simp [this]
theorem Qbnl {s t:List Int} (h:s.length<1000000000000):Qif s t=some (decide (s=t)):=by
 unfold Qif Qda;by_cases hl:s.length=t.length
 ·rw [if_neg (by simp [hl])];exact Qbnk (ne:=fun x y=>x != y) (fun x y=>by rw [Bool.eq_iff_iff];simp) hl h
 ·rw [if_pos (by simp;omega)];have:s≠t:=fun e=>hl (by rw [e]);simp [this]
end Go.Abs
end
section
namespace Go.Abs
open Go
theorem Qbqo (x y:Int):Qjz x y=some (decide (x<y)):=by
 unfold Qjz Qep Qun Qdx;simp
theorem Qbor (x:Int):Qie x=some false:=by
 unfold Qie Qcw;simp
theorem Qbnm {l:List Int} (h:l.Pairwise (· < ·)) (v:Int):l.Pairwise fun a b=>decide (b<v)=true→decide (a<v)=true :=
 h.imp fun h=>by simp;omega
theorem Qbnn {l:List Int} {v:Int} (hs:l.Pairwise (· < ·)) (hl:l.length<big):∃ n,Qeq l v=some (n,decide (v∈l)):=by
 have hc:=fun n h=>Qbex (p:=fun x:Int=>decide (x<v)) (Qbnm hs v) n h;have hcl:(l.filter fun x=>decide (x<v)).length≤l.length:=List.length_filter_le _ _;generalize (l.filter fun x=>decide (x<v)).length=c at hc hcl;have hb:l.length<1000000000000:=hl;unfold Qeq Qbv;obtain ⟨fuel,hfu,hge⟩ : ∃ f,Qch=f∧1099511627776≤f:=⟨_,rfl,Nat.le_refl _⟩;rw [hfu];have hloop:=Qgf (F:=fun (k5:Int×Int→Option Int) ((i3,j4):Int×Int)=>(if (i3<j4) then ((getO l (IntKind.wrap .i64 (Int.fdiv (IntKind.wrap .u64 (IntKind.wrap .i64 (i3+j4))) (2 ^ (min (Int.toNat 1) (IntKind.bits .u64)))))).bind fun x7=>((Qjz x7 v).bind fun x10=>(if x10 then k5 ((IntKind.wrap .i64 ((IntKind.wrap .i64 (Int.fdiv (IntKind.wrap .u64 (IntKind.wrap .i64 (i3+j4))) (2 ^ (min (Int.toNat 1) (IntKind.bits .u64)))))+1)),j4) else k5 (i3,(IntKind.wrap .i64 (Int.fdiv (IntKind.wrap .u64 (IntKind.wrap .i64 (i3+j4))) (2 ^ (min (Int.toNat 1) (IntKind.bits .u64))))))))) else some i3))
  (fun x=>∃ i j:Nat,x=((i:Int),(j:Int))∧i≤c∧c≤j∧j≤l.length) (fun x=>(x.2-x.1).toNat) (fun _ r=>r=some (c:Int)) (by
   rintro k _ ⟨i,j,rfl,h1,h2,h3⟩ ih;dsimp only;by_cases hij:i<j
   ·rw [if_pos (by omega),Qbrx (by omega) (by omega)];have hm:(i+j) / 2<l.length:=by omega
    rw [Qbt hm];simp only [Option.bind_some];rw [Qbqo];simp only [Option.bind_some];have hcm:=hc ((i+j) / 2) hm;by_cases hlt:l[(i+j) / 2]<v
    ·rw [if_pos (by simpa using hlt),Qcn (by omega)];have:(i+j) / 2<c:=hcm.1 (by simpa using hlt);exact ih _ ⟨_,_,rfl,by omega,h2,h3⟩ (by simp only;omega)
    ·rw [if_neg (by simpa using hlt)];have:¬ (i+j) / 2<c:=fun h=>hlt (by simpa using hcm.2 h);exact ih _ ⟨_,_,rfl,h1,by omega,by omega⟩ (by simp only;omega)
   ·rw [if_neg (by omega)];have:i=c:=by omega
    rw [this]) fuel (0,(l.length:Int)) ⟨0,l.length,rfl,by omega,hcl,Nat.le_refl _⟩ (by simp only;omega)
 rw [hloop];simp only [Option.bind_some];have hmem:v∈l↔∃ h:c<l.length,l[c]=v:=by
  constructor
  ·intro hv;obtain ⟨j,hj,rfl⟩:=List.getElem_of_mem hv;have h1:¬ j<c:=fun h=>by have:=(hc j hj).2 h;simp at this
   have h2:c<l.length:=by omega
   refine ⟨h2,?_⟩;have h3:¬ l[c]<l[j]:=fun h=>by have:=(hc c h2).1 (by simpa using h);omega
   rcases Nat.lt_or_ge c j with h|h
   ·have:=List.pairwise_iff_getElem.1 hs c j h2 hj h;omega
   ·have:c=j:=by omega
    subst this;rfl
  ·rintro ⟨h,rfl⟩;exact List.getElem_mem h
 by_cases hlt:c<l.length
 ·rw [if_pos (by omega),Qbt hlt];simp only [Option.bind_some];by_cases he:l[c]=v
  ·rw [if_pos (by simpa using he)];exact ⟨_,by rw [decide_eq_true (hmem.2 ⟨hlt,he⟩)]⟩
  ·rw [if_neg (by simpa using he),Qbor];exact ⟨_,by rw [decide_eq_false (fun h=>he (hmem.1 h).2)];rfl⟩
 ·rw [if_neg (by omega)];exact ⟨_,by rw [decide_eq_false (fun h=>hlt (hmem.1 h).1)]⟩
theorem Qbj2 {l:List Int} (hl:l.length≤lim):Qgl l=some l:=by
 unfold Qgl Qbs;rw [Qby (by simpa using hl)];cases l<;>simp [nilO]
structure Num (a:Qe) (o num:List Int):Prop where
 len:num.length=a.zN.toNat
 at1:∀ s:Nat,s<a.zN.toNat→num[s]? = some (if (s:Int)∈o then (o.idxOf (s:Int):Int) else -1)
theorem Num.set {a:Qe} {o num:List Int} (h:Num a o num) {t:Int} (ht:0≤t∧t<a.zN) (hn:t∉o):∃ num',setO num t (o.length:Int)=some num'∧Num a (o++[t]) num':=by
 refine ⟨num.set t.toNat (o.length:Int),by unfold setO;rw [if_pos ⟨ht.1,by rw [h.len];omega⟩],by rw [List.length_set];exact h.len,fun s hs=>?_⟩;rw [List.getElem?_set];by_cases he:t.toNat=s
 ·subst he;rw [if_pos rfl,if_pos (by rw [h.len];omega),show ((t.toNat:Nat):Int)=t from by omega,if_pos (by simp),List.idxOf_append,if_neg hn];simp
 ·rw [if_neg he,h.at1 s hs];have hne:(s:Int)≠t:=by omega
  by_cases hm:(s:Int)∈o
  ·rw [if_pos hm,if_pos (by simp [hm]),List.idxOf_append,if_pos hm]
  ·rw [if_neg hm,if_neg (by simp [hm,hne])]
section
variable {a:Qe} (h:Right a)
include h
end
end Go.Abs
end
section
namespace Go.Abs
open Go
theorem Qd2 {l:List Int} {v:Int} (hs:l.Pairwise (· < ·)) (hl:l.length<big):Qc0 l v=some (decide (v∈l)):=by
 unfold Qc0 Qr;obtain ⟨n,h⟩:=Qbnn (v:=v) hs hl;rw [h];rfl
theorem Qus {l:List Int} {n:Int} (hl:l.length<big):Qfy l n=some (Qdp n none l):=by
 unfold Qfy Qba;refine (Quq (len:=l.length) (fun k=>some (Qdp n (ahead l k) (l.drop k))) (by unfold Qch;unfold big at hl;omega) ?_ ?_).trans (by simp [Qtj])
 ·intro k i hi ih;have hb:i<1000000000000:=by unfold big at hl;omega
  rw [Qbbg hi]
  try dsimp only
  rw [if_pos (by omega),Qbt hi,Qcn (by omega),ih];simp only [Option.bind_some];by_cases h1:l[i]<0
  ·simp [h1]
  ·by_cases h2:l[i]≥n
   ·simp [h1,h2]
   ·by_cases h0:0<i
    ·rw [Qbdh h0 (by omega),Qbt (by omega:i-1<l.length),Qbdi l h0 (by omega)];by_cases h3:l[i]≤l[i-1]<;>simp [h1,h2,h3,h0]
    ·obtain rfl:i=0:=by omega
     simp [h1,h2,Qtj]
 ·intro k;simp [Qdp]
theorem Qbky {α:Type} {l:List α} {f:α→Option Bool} {p:α→Bool} (hf:∀ x∈l,f x=some (p x)) (hl:l.length<big) {fuel:Nat} (hge:1099511627776≤fuel) :
  ∃ i:Int,Qcm (fun (k:Int→Option Int) (x:Int)=>(if (x<(l.length:Int)) then ((getO l x).bind fun x6=>((f x6).bind fun x9=>(if x9 then some x else k (IntKind.wrap .i64 (x+1))))) else some (-1))) fuel 0=some i∧decide (i≥0)=l.any p:=by
 have hb:l.length<1000000000000:=hl;have:=Qgf (F:=fun (k:Int→Option Int) (x:Int)=>(if (x<(l.length:Int)) then ((getO l x).bind fun x6=>((f x6).bind fun x9=>(if x9 then some x else k (IntKind.wrap .i64 (x+1))))) else some (-1)))
  (fun x=>∃ n:Nat,x=n∧n≤l.length) (fun x=>l.length-x.toNat) (fun x r=>∀ n:Nat,x=n→∃ i:Int,r=some i∧decide (i≥0)=(l.drop n).any p) (by
   rintro k _ ⟨n,rfl,hn⟩ ih m hm;obtain rfl:n=m:=by omega
   by_cases hlt:n<l.length
   ·rw [if_pos (by omega),Qbt hlt];simp only [Option.bind_some,hf _ (List.getElem_mem hlt)];rw [List.drop_eq_getElem_cons hlt,List.any_cons];cases hp:p l[n] with
    | true=>exact ⟨n,by simp,by simp⟩
    | false =>
     rw [Qcn (by omega)];obtain ⟨i,h1,h2⟩:=ih ((n+1:Nat):Int) ⟨n+1,rfl,hlt⟩ (by omega) (n+1) rfl;exact ⟨i,by simpa using h1,by rw [h2];simp⟩
   ·rw [if_neg (by omega)];exact ⟨-1,rfl,by rw [List.drop_of_length_le (by omega)];rfl⟩) fuel 0 ⟨0,rfl,Nat.zero_le _⟩ (by simp;omega) 0 rfl
 simpa using this
theorem Q4k {l:List Qc} {f:Qc→Option Bool} {p:Qc→Bool} (hf:∀ x∈l,f x=some (p x)) (hl:l.length<big):Qcz l f=some (l.any p):=by
 unfold Qcz Qu Qhn Qb5;obtain ⟨fuel,hfu,hge⟩ : ∃ f,Qch=f∧1099511627776≤f:=⟨_,rfl,Nat.le_refl _⟩;rw [hfu];obtain ⟨i,h1,h2⟩:=Qbky hf hl hge;rw [h1,Option.bind_some,h2]
structure SetP (n:Int) (l:List Int):Prop where
 rg:∀ x∈l,0≤x∧x<n
 so:l.Pairwise (· < ·)
theorem Qo6 {n:Int} {l:List Int}:Qdp n none l=0↔SetP n l :=
 ⟨fun h=>⟨(Qhe.1 h).1,(Qhe.1 h).2.1⟩,fun h=>Qhe.2 ⟨h.rg,h.so,fun _ h=>by cases h⟩⟩
structure RightP (p:Qa):Prop where
 a:Right p.zA
 fo:SetP p.zA.zN p.zC
 un:SetP 32 p.zB
 fc:SetP 32 p.zD
 ti:0≤p.Tick∧p.Tick<32
 tu:p.Tick∉p.zB
 tf:p.Tick∉p.zD
def Qbpp (p:Qa):Prop:=small p.zA∧p.zC.length<big∧p.zB.length<big∧p.zD.length<big
theorem SetP.small {n:Int} {l:List Int} (h:SetP n l) (hn:n≤4096):l.length≤4096:=by
 have:=Qiz h.so h.rg;omega
theorem RightP.small {p:Qa} (h:RightP p):Qbpp p:=by
 have h1:=h.fo.small h.a.st.2;have h2:=h.un.small (by omega);have h3:=h.fc.small (by omega);refine ⟨h.a.small.1,?_,?_,?_⟩<;>(unfold big;omega)
def Qbj3 (p:Qa):Int :=
 if Qvk p.zA≠0 then Qvk p.zA else if Qdp p.zA.zN none p.zC≠0 then Qdp p.zA.zN none p.zC else
 if Qdp 32 none p.zB≠0 then Qdp 32 none p.zB else if Qdp 32 none p.zD≠0 then Qdp 32 none p.zD else
 if p.Tick<0∨p.Tick≥32 then 2 else if p.Tick∈p.zB∨p.Tick∈p.zD then 13 else 0
theorem Qbkz {p:Qa}:Qbj3 p=0↔RightP p:=by
 unfold Qbj3;constructor
 ·intro h;by_cases h1:Qvk p.zA=0
  ·by_cases h2:Qdp p.zA.zN none p.zC=0
   ·by_cases h3:Qdp 32 none p.zB=0
    ·by_cases h4:Qdp 32 none p.zD=0
     ·by_cases h5:p.Tick<0∨p.Tick≥32
      ·rw [if_neg (by simp [h1]),if_neg (by simp [h2]),if_neg (by simp [h3]),if_neg (by simp [h4]),if_pos h5] at h;omega
      ·by_cases h6:p.Tick∈p.zB∨p.Tick∈p.zD
       ·rw [if_neg (by simp [h1]),if_neg (by simp [h2]),if_neg (by simp [h3]),if_neg (by simp [h4]),if_neg h5,if_pos h6] at h;omega
       ·exact ⟨Qbdk.1 h1,Qo6.1 h2,Qo6.1 h3,Qo6.1 h4,by omega,fun h=>h6 (.inl h),fun h=>h6 (.inr h)⟩
     ·rw [if_neg (by simp [h1]),if_neg (by simp [h2]),if_neg (by simp [h3]),if_pos h4] at h;exact absurd h h4
    ·rw [if_neg (by simp [h1]),if_neg (by simp [h2]),if_pos h3] at h;exact absurd h h3
   ·rw [if_neg (by simp [h1]),if_pos h2] at h;exact absurd h h2
  ·rw [if_pos h1] at h;exact absurd h h1
 ·intro h;have:=h.ti;rw [if_neg (by simp [Qbdk.2 h.a]),if_neg (by simp [Qo6.2 h.fo]),if_neg (by simp [Qo6.2 h.un]),if_neg (by simp [Qo6.2 h.fc]),if_neg (by omega),if_neg (fun hh=>hh.elim h.tu h.tf)]
theorem Qbf8 {p:Qa} (h:Qbpp p):Qf4 p=some (Qbj3 p):=by
 obtain ⟨hs,hf,hu,hc⟩:=h;have nb:∀ x:Int,x=0→¬ ((x != 0)=true):=fun x h=>by simp [h]
 have pb:∀ x:Int,x≠0→((x != 0)=true):=fun x h=>by simpa using h
 have nn:∀ x:Int,x=0→¬ (x≠0):=fun x h=>by simp [h]
 unfold Qf4 Qcb Qbj3;rw [Qbjw hs,Option.bind_some];by_cases h1:Qvk p.zA=0
 ·rw [if_neg (nb _ h1),if_neg (nn _ h1),Qus hf,Option.bind_some];by_cases h2:Qdp p.zA.zN none p.zC=0
  ·rw [if_neg (nb _ h2),if_neg (nn _ h2)];obtain ⟨n,hn⟩ : ∃ n,Qch=n+3:=⟨1099511627773,rfl⟩;rw [hn];simp only [Qcm];have e0:getO [p.zB,p.zD] 0=some p.zB:=rfl;have e1:IntKind.wrap .i64 ((0:Int)+1)=1:=by decide
   have e2:getO [p.zB,p.zD] 1=some p.zD:=rfl;have e3:IntKind.wrap .i64 ((1:Int)+1)=2:=by decide
   simp only [e0,e1,e2,e3];rw [if_pos (show (0:Int)<2 by omega),Option.bind_some,Qus hu,Option.bind_some];by_cases h3:Qdp 32 none p.zB=0
   ·rw [if_neg (nb _ h3),if_neg (nn _ h3),if_pos (show (1:Int)<2 by omega),Option.bind_some,Qus hc,Option.bind_some];by_cases h4:Qdp 32 none p.zD=0
    ·rw [if_neg (nb _ h4),if_neg (nn _ h4),if_neg (show ¬ (2:Int)<2 by omega)];unfold Qf3 Q6;by_cases h5:p.Tick<0
     ·rw [if_neg (show ¬ p.Tick≥0 by omega),if_pos (show p.Tick<0∨p.Tick≥32 from .inl h5)];rfl
     ·rw [if_pos (show p.Tick≥0 by omega),Option.bind_some];by_cases h6:p.Tick≥32
      ·rw [if_neg (show ¬ decide (p.Tick<32)=true by simpa using h6),if_pos (show p.Tick<0∨p.Tick≥32 from .inr h6)]
      ·rw [if_pos (show decide (p.Tick<32)=true by simpa using h6),if_neg (show ¬ (p.Tick<0∨p.Tick≥32) by omega),Qd2 (Qo6.1 h3).so hu,Qd2 (Qo6.1 h4).so hc];by_cases h7:p.Tick∈p.zB
       ·simp [h7]
       ·by_cases h8:p.Tick∈p.zD<;>simp [h7,h8]
    ·rw [if_pos (pb _ h4),if_pos h4]
   ·rw [if_pos (pb _ h3),if_pos h3]
  ·rw [if_pos (pb _ h2),if_pos h2]
 ·rw [if_pos (pb _ h1),if_pos h1]
def Qba1 (p:Qa):List (List Qc):=(upto p.zA.zN).map (outP p.zA)
def tsk (p:Qa) (L:List Bool):Qp:=⟨p,Qba1 p,L⟩
def Qut (p:Qa) (L:List Bool) (s:Int):Bool:=(outP p.zA s).any fun y=>lf L y.To&&decide (y.Event∈p.zD)
def Qi1 (p:Qa) (L:List Bool) (s:Int):Bool:=(outP p.zA s).any fun y=>(y.Event==p.Tick) && !lf L y.To
def escP (p:Qa) (L:List Bool) (s:Int):Int×Int :=
 match (outP p.zA s).find? (fun y=>!lf L y.To&&decide (y.Event∈p.zB)) with
 | some y=>(2,y.Event)
 | none=>if Qi1 p L s && !Qut p L s then (4,p.Tick) else (0,-1)
section
variable {p:Qa} (hp:RightP p) {L:List Bool} (hL:L.length=p.zA.zN.toNat) {s:Int} (hs:0≤s∧s<p.zA.zN)
include hp
theorem Qr9:∀ y∈outP p.zA s,(0≤y.To∧y.To<p.zA.zN)∧y.From=s∧y∈p.zA.zM:=fun y hy=>by
 have h1:=List.mem_filter.1 hy;have h2:=hp.a.ed0 y h1.1;exact ⟨⟨h2.2.2.1,h2.2.2.2.1⟩,by simpa using h1.2,h1.1⟩
theorem Q93 (s:Int):(outP p.zA s).length<big:=Nat.lt_of_le_of_lt (List.length_filter_le _ _) hp.a.small.1.2.2
include hs
omit hp in
theorem Qba2:inO (Qba1 p).length s=some ()∧getO (Qba1 p) s=some (outP p.zA s):=by
 have hl:(Qba1 p).length=p.zA.zN.toNat:=by unfold Qba1;rw [List.length_map,Qbr]
 refine ⟨Qkv hs.1 (by omega),?_⟩;rw [Qm3 (d:=[]) hs.1 (by omega)];unfold Qba1;rw [Qo1 hs.1 hs.2]
omit hp hs in
include hL in
theorem Qgv {x:Int} (hx:0≤x∧x<p.zA.zN):inO L.length x=some ()∧getO L x=some (lf L x) :=
 ⟨Qkv hx.1 (by omega),Qm3 hx.1 (by omega)⟩
include hL
theorem Qbno:Qd6 (tsk p L) s=some (Qut p L s):=by
 unfold Qd6 Qbl tsk;simp only [Qba2 hs,Option.bind_some];rw [Q4k (p:=fun y=>lf L y.To&&decide (y.Event∈p.zD)) (fun y hy=>?_) (Q93 hp s)]
 ·rfl
 ·have h1:=Qgv hL (Qr9 hp y hy).1;unfold Qe2 Qbd;simp only [h1,Option.bind_some];rw [Qd2 hp.fc.so hp.small.2.2.2];cases lf L y.To<;>simp
theorem Qbnp:Qd7 (tsk p L) s=some (escP p L s):=by
 unfold Qd7 Qbm;obtain ⟨fuel,hfu,hge⟩ : ∃ f,Qch=f∧1099511627776≤f:=⟨_,rfl,Nat.le_refl _⟩;rw [hfu];rw [show (tsk p L).from_=Qba1 p from rfl,show (tsk p L).left_=L from rfl,show (tsk p L).zO=p from rfl];simp only [Qba2 hs,Option.bind_some];rw [Qbno hp hL hs];rw [Q4k (p:=fun y=>(y.Event==p.Tick) && !lf L y.To) (fun y hy=>by
  have h1:=Qgv hL (Qr9 hp y hy).1;unfold Qe1 Qbc;rw [show (tsk p L).left_=L from rfl,show (tsk p L).zO=p from rfl];simp only [h1,Option.bind_some];cases hq:y.Event==p.Tick<;>simp) (Q93 hp s)]
 refine (Qbnj (fun x=>x) (fun y=>!lf L y.To&&decide (y.Event∈p.zB)) (fun y=>some (2,y.Event)) (some (if Qi1 p L s && !Qut p L s then (4,p.Tick) else (0,-1))) (Q93 hp s) hge (fun k n hn=>?_) (fun k=>?_)).trans ?_
 ·try dsimp only
  have h1:=Qgv hL (Qr9 hp _ (List.getElem_mem hn)).1;rw [if_pos (by omega),Qbt hn];simp only [h1,Option.bind_some];rw [Qd2 hp.un.so hp.small.2.2.1];cases lf L (outP p.zA s)[n].To<;>simp
 ·try dsimp only
  rw [if_neg (by omega)];show (((if Qi1 p L s then _ else _):Option Bool).bind _)=_;cases Qi1 p L s<;>cases Qut p L s<;>rfl
 ·unfold escP;cases (outP p.zA s).find? _<;>rfl
end
end Go.Abs
end
section
namespace Go.Abs
open Go
def Qbnq (R:List Int):List Bool:=R.map (· == 0)
theorem Qbho (R:List Int):(Qbnq R).length=R.length:=List.length_map ..
theorem Qbos {R:List Int} {x:Int} (h0:0≤x) (h1:x<R.length):lf (Qbnq R) x=(ati R x==0):=by
 unfold Qbnq;exact Qbrz h0 h1
structure Qbqp (p:Qa) (R:List Int):Prop where
 ln:R.length=p.zA.zN.toNat
 nn:∀ x:Int,0≤x→x<p.zA.zN→0≤ati R x
section
variable {p:Qa} (hp:RightP p) {R:List Int} (hR:Qbqp p R) {s:Int} (T:List Qb) (r:Int)
include hp hR
end
end Go.Abs
end
section
namespace Go.Abs
open Go
def Qbk0 (p:Qa) (L:List Bool):List Int:=(upto p.zA.zN).map fun i=>if lf L i&&decide (i∈p.zA.zL) then 0 else -1
def Q94 (L:List Bool) (d:Int) (out:List Int) (x:Qc):Bool:=lf L x.From&&(lf L x.To&&(decide (ati out x.From<0)&&(ati out x.To==d)))
def Qtb (L:List Bool) (d:Int) (out:List Int) (x:Qc):List Int:=if Q94 L d out x then out.set x.From.toNat (d+1) else out
def dN (p:Qa) (L:List Bool):Nat→List Int
 | 0=>Qbk0 p L
 | k+1=>p.zA.zM.foldl (Qtb L (k:Int)) (dN p L k)
def Qjj (p:Qa) (L:List Bool):List Int:=dN p L p.zA.zN.toNat
structure Grow (p:Qa) (L:List Bool) (d:Int) (out out' : List Int):Prop where
 ln:out'.length=out.length
 vl:∀ y,0≤y→y<p.zA.zN→ati out' y=ati out y∨(ati out y<0∧ati out' y=d+1∧lf L y=true∧∃ e∈p.zA.zM,e.From=y∧lf L e.To=true∧ati out e.To=d)
section
variable {p:Qa} (hp:RightP p) {L:List Bool} {d:Int} (hd:0≤d)
theorem Grow.refl (out:List Int):Grow p L d out out:=⟨rfl,fun _ _ _=>.inl rfl⟩
include hp hd
theorem Grow.trans {a b c:List Int} (h:Grow p L d a b) (k:Grow p L d b c):Grow p L d a c:=by
 refine ⟨k.ln.trans h.ln,fun y h0 h1=>?_⟩;rcases k.vl y h0 h1 with e|⟨k1,k2,k3,e,he,k4,k5,k6⟩
 ·rw [e];exact h.vl y h0 h1
 ·rcases h.vl y h0 h1 with e1|⟨_,e1,_⟩
  ·refine .inr ⟨by omega,k2,k3,e,he,k4,k5,?_⟩;have hr:=hp.a.ed0 e he;rcases h.vl e.To hr.2.2.1 hr.2.2.2.1 with e2|⟨_,e2,_⟩<;>omega
  ·omega
theorem Qba3 {out:List Int} (hl:out.length=p.zA.zN.toNat) {x:Qc} (hx:x∈p.zA.zM):Grow p L d out (Qtb L d out x):=by
 unfold Qtb;cases hc:Q94 L d out x with
 | false=>exact Grow.refl out
 | true =>
  have hr:=hp.a.ed0 x hx;unfold Q94 at hc;simp only [Bool.and_eq_true,decide_eq_true_eq,beq_iff_eq] at hc;refine ⟨by simp,fun y h0 h1=>?_⟩;simp only [if_true];rw [Q8l ⟨hr.1,by omega⟩ h0];by_cases hy:y=x.From
  ·subst hy;rw [if_pos rfl];exact .inr ⟨hc.2.2.1,rfl,hc.1,x,hx,rfl,hc.2.1,hc.2.2.2⟩
  ·rw [if_neg hy];exact .inl rfl
theorem Q95:∀ {l:List Qc} {out:List Int},(∀ x∈l,x∈p.zA.zM)→out.length=p.zA.zN.toNat→Grow p L d out (l.foldl (Qtb L d) out)
 | [],out,_,_=>Grow.refl out
 | x::l,out,hm,hl=>by
  have h1:=Qba3 (L:=L) hp hd hl (hm x (by simp));exact h1.trans hp hd (Q95 (l:=l) (fun y hy=>hm y (by simp [hy])) (by rw [h1.ln,hl]))
theorem Qbj4:∀ {l:List Qc} {out:List Int},(∀ x∈l,x∈p.zA.zM)→out.length=p.zA.zN.toNat→∀ e∈l,lf L e.From=true→lf L e.To=true→ati (l.foldl (Qtb L d) out) e.To=d→0≤ati (l.foldl (Qtb L d) out) e.From
 | [],_,_,_,_,he,_,_,_=>by cases he
 | x::l,out,hm,hl,e,he,h1,h2,h3=>by
  have g1:=Qba3 (L:=L) hp hd hl (hm x (by simp));have hl1:(Qtb L d out x).length=p.zA.zN.toNat:=by rw [g1.ln,hl]
  have g2:=Q95 (L:=L) hp hd (l:=l) (fun y hy=>hm y (by simp [hy])) hl1;rw [List.foldl_cons] at h3 ⊢;rcases List.mem_cons.1 he with rfl|he
  ·have hr:=hp.a.ed0 e (hm e (by simp));have k1:ati out e.To=d:=by
    rcases g2.vl e.To hr.2.2.1 hr.2.2.2.1 with q|⟨_,q,_⟩<;>rcases g1.vl e.To hr.2.2.1 hr.2.2.2.1 with q'|⟨_,q',_⟩<;>omega
   have k2:0≤ati (Qtb L d out e) e.From:=by
    by_cases hn:ati out e.From<0
    ·have hc:Q94 L d out e=true:=by unfold Q94;simp [h1,h2,hn,k1]
     unfold Qtb;rw [hc,if_pos rfl,Q8l ⟨hr.1,by omega⟩ hr.1,if_pos rfl];omega
    ·rcases g1.vl e.From hr.1 hr.2.1 with q|⟨q,_⟩<;>omega
   rcases g2.vl e.From hr.1 hr.2.1 with q|⟨q,_⟩<;>omega
  ·exact Qbj4 (fun y hy=>hm y (by simp [hy])) hl1 e he h1 h2 h3
end
structure DI (p:Qa) (L:List Bool) (k:Int) (out:List Int):Prop where
 ln:out.length=p.zA.zN.toNat
 rg:∀ y,0≤y→y<p.zA.zN→ati out y = -1∨0≤ati out y∧ati out y≤k
 lv:∀ y,0≤y→y<p.zA.zN→0≤ati out y→lf L y=true
 z:∀ y,0≤y→y<p.zA.zN→(ati out y=0↔lf L y=true∧y∈p.zA.zL)
 ps:∀ y,0≤y→y<p.zA.zN→0<ati out y→∃ e∈p.zA.zM,e.From=y∧lf L e.To=true∧ati out e.To=ati out y-1
 cl:∀ e∈p.zA.zM,lf L e.From=true→0≤ati out e.To→ati out e.To<k→0≤ati out e.From
section
variable {p:Qa} (hp:RightP p) (L:List Bool)
theorem Qbot {y:Int} (h0:0≤y) (h1:y<p.zA.zN):ati (Qbk0 p L) y=if lf L y&&decide (y∈p.zA.zL) then 0 else -1:=Qo1 h0 h1
include hp
theorem Qbnr:∀ k:Nat,DI p L (k:Int) (dN p L k)
 | 0=>by
  refine ⟨by simp [dN,Qbk0,Qbr],fun y h0 h1=>?_,fun y h0 h1 h2=>?_,fun y h0 h1=>?_,fun y h0 h1 h2=>?_,fun e he h2 h3 h4=>by omega⟩
  all_goals simp only [dN] at *
  all_goals rw [Qbot L h0 h1] at *
  all_goals cases hl:lf L y<;>by_cases hm:y∈p.zA.zL<;>simp_all
 | k+1=>by
  have ih:=Qbnr k;have hd:(0:Int)≤(k:Int):=by omega
  have g:=Q95 (L:=L) hp hd (l:=p.zA.zM) (out:=dN p L k) (fun _ h=>h) ih.ln;have c:=Qbj4 (L:=L) hp hd (l:=p.zA.zM) (out:=dN p L k) (fun _ h=>h) ih.ln;change Grow p L (k:Int) (dN p L k) (dN p L (k+1)) at g;have c:∀ e∈p.zA.zM,lf L e.From=true→lf L e.To=true→ati (dN p L (k+1)) e.To=k→0≤ati (dN p L (k+1)) e.From:=c;refine ⟨by rw [g.ln,ih.ln],fun y h0 h1=>?_,fun y h0 h1 h2=>?_,fun y h0 h1=>?_,fun y h0 h1 h2=>?_,fun e he h2 h3 h4=>?_⟩
  ·rcases g.vl y h0 h1 with q|⟨_,q,_⟩
   ·rw [q];rcases ih.rg y h0 h1 with r|r
    ·exact .inl r
    ·exact .inr ⟨r.1,by omega⟩
   ·exact .inr ⟨by omega,by omega⟩
  ·rcases g.vl y h0 h1 with q|⟨_,_,q,_⟩
   ·exact ih.lv y h0 h1 (by omega)
   ·exact q
  ·rw [← ih.z y h0 h1];rcases g.vl y h0 h1 with q|⟨_,q,_⟩<;>omega
  ·rcases g.vl y h0 h1 with q|⟨_,q,_,e,he,q1,q2,q3⟩
   ·obtain ⟨e,he,q1,q2,q3⟩:=ih.ps y h0 h1 (by omega);have hr:=hp.a.ed0 e he;refine ⟨e,he,q1,q2,?_⟩;rcases g.vl e.To hr.2.2.1 hr.2.2.2.1 with r|⟨r,_⟩<;>omega
   ·have hr:=hp.a.ed0 e he;refine ⟨e,he,q1,q2,?_⟩;rcases g.vl e.To hr.2.2.1 hr.2.2.2.1 with r|⟨r,_⟩<;>omega
  ·have hr:=hp.a.ed0 e he;by_cases hk:ati (dN p L (k+1)) e.To=k
   ·refine c e he h2 ?_ hk;rcases g.vl e.To hr.2.2.1 hr.2.2.2.1 with r|⟨_,r,_⟩
    ·exact ih.lv e.To hr.2.2.1 hr.2.2.2.1 (by omega)
    ·omega
   ·have:0≤ati (dN p L k) e.From:=by
     refine ih.cl e he h2 ?_ ?_
     all_goals (rcases g.vl e.To hr.2.2.1 hr.2.2.2.1 with r|⟨_,r,_⟩<;>omega)
    rcases g.vl e.From hr.1 hr.2.1 with r|⟨r,_⟩<;>omega
theorem Qbhp {d:Int} {out:List Int}:∀ {l:List Qc},(∀ e∈l,Q94 L d out e=false)→l.foldl (Qtb L d) out=out
 | [],_=>rfl
 | x::l,h=>by
  rw [List.foldl_cons];have:Qtb L d out x=out:=by unfold Qtb;rw [h x (by simp)];rfl
  rw [this];exact Qbhp fun e he=>h e (by simp [he])
theorem Qbhq {k:Nat} (h:dN p L (k+1)=dN p L k):∀ m:Nat,k≤m→dN p L m=dN p L k
 | 0,hm=>by
  obtain rfl:k=0:=by omega
  rfl
 | m+1,hm=>by
  by_cases hk:k=m+1
  ·subst hk;rfl
  ·have ih:=Qbhq h m (by omega);show p.zA.zM.foldl (Qtb L (m:Int)) (dN p L m)=_;by_cases hkm:k=m
   ·subst hkm;exact h
   ·rw [ih];refine Qbhp hp L fun e he=>?_;have hr:=hp.a.ed0 e he;have:=(Qbnr hp L k).rg e.To hr.2.2.1 hr.2.2.2.1;unfold Q94;have:(ati (dN p L k) e.To==(m:Int))=false:=by rw [beq_eq_false_iff_ne];omega
    rw [this];simp
theorem DI.bound {k:Int} {out:List Int} (h:DI p L k out) {y:Int} (h0:0≤y) (h1:y<p.zA.zN):ati out y<p.zA.zN:=by
 have key:∀ (v:Nat) (y:Int),0≤y→y<p.zA.zN→ati out y=v→∀ j:Nat,j≤v→∃ x,0≤x∧x<p.zA.zN∧ati out x=j:=by
  intro v
  induction v with
  | zero=>intro y h0 h1 hv j hj;exact ⟨y,h0,h1,by omega⟩
  | succ v ih =>
   intro y h0 h1 hv j hj;by_cases hjv:j=v+1
   ·exact ⟨y,h0,h1,by omega⟩
   ·obtain ⟨e,he,_,_,q⟩:=h.ps y h0 h1 (by omega);have hr:=hp.a.ed0 e he;exact ih e.To hr.2.2.1 hr.2.2.2.1 (by omega) j (by omega)
 refine Decidable.byContradiction fun hc=>?_;have hst:=hp.a.st;have hk:=key (ati out y).toNat y h0 h1 (by omega);have hsub:∀ x∈upto (ati out y+1),x∈(upto p.zA.zN).map (ati out):=fun x hx=>by
  rw [Qi0] at hx;obtain ⟨z,k1,k2,k3⟩:=hk x.toNat (by omega);exact List.mem_map.2 ⟨z,Qi0.2 ⟨k1,k2⟩,by omega⟩
 have hnd:(upto (ati out y+1)).Nodup:=(Qur _).imp fun h=>by omega
 have hlen:∀ {l m:List Int},l.Nodup→(∀ x∈l,x∈m)→l.length≤m.length:=fun {l m} h hs=>by
  induction l generalizing m with
  | nil=>simp
  | cons x l ih =>
   obtain ⟨a1,a2⟩:=List.nodup_cons.1 h;have hx:=hs x (by simp);have:=ih (m:=m.erase x) a2 fun y hy=>(List.mem_erase_of_ne (by rintro rfl;exact a1 hy)).2 (hs y (by simp [hy]));rw [List.length_erase_of_mem hx] at this;have:0<m.length:=List.length_pos_of_mem hx;simp only [List.length_cons];omega
 have:=hlen hnd hsub;rw [Qbr,List.length_map,Qbr] at this;omega
theorem Qm4:DI p L p.zA.zN (Qjj p L):=by
 have:=Qbnr hp L p.zA.zN.toNat;have hst:=hp.a.st;rw [show ((p.zA.zN.toNat:Nat):Int)=p.zA.zN by omega] at this;exact this
end
end Go.Abs
end
section
namespace Go.Abs
open Go
theorem Qiv {n:Int} {k:Nat} (h:k<(upto n).length):k<n.toNat:=by rw [Qbr] at h;exact h
def Qw7 (L:List Bool) (d:Int) (s:Bool×List Int) (x:Qc):Bool×List Int:=if Q94 L d s.2 x then (true,s.2.set x.From.toNat (d+1)) else s
theorem Qbhr {L:List Bool} {d:Int}:∀ {l:List Qc} {s:Bool×List Int},(l.foldl (Qw7 L d) s).2=l.foldl (Qtb L d) s.2
 | [],s=>rfl
 | x::l,s=>by
  rw [List.foldl_cons,List.foldl_cons,Qbhr (l:=l)];congr 1;unfold Qw7 Qtb;cases Q94 L d s.2 x<;>rfl
section
variable {p:Qa} (hp:RightP p) {L:List Bool} {d:Int} (hd:0≤d)
include hp hd
theorem Qbhs:∀ {l:List Qc} {s:Bool×List Int},(∀ x∈l,x∈p.zA.zM)→s.2.length=p.zA.zN.toNat→(l.foldl (Qw7 L d) s).1=true→s.1=true∨∃ y,0≤y∧y<p.zA.zN∧ati (l.foldl (Qtb L d) s.2) y=d+1
 | [],s,_,_,h=>.inl h
 | x::l,s,hm,hl,h=>by
  rw [List.foldl_cons] at h ⊢;have hx:=hm x (by simp);have hr:=hp.a.ed0 x hx;have g1:=Qba3 (L:=L) hp hd hl hx;have e2:(Qw7 L d s x).2=Qtb L d s.2 x:=by unfold Qw7 Qtb;cases Q94 L d s.2 x<;>rfl
  rcases Qbhs (l:=l) (s:=Qw7 L d s x) (fun y hy=>hm y (by simp [hy])) (by rw [e2,g1.ln,hl]) h with q|q
  ·cases hc:Q94 L d s.2 x with
   | false =>
    have:Qw7 L d s x=s:=by unfold Qw7;rw [hc];rfl
    rw [this] at q;exact .inl q
   | true =>
    refine .inr ⟨x.From,hr.1,hr.2.1,?_⟩;have k1:ati (Qtb L d s.2 x) x.From=d+1:=by
     unfold Qtb;rw [hc,if_pos rfl,Q8l ⟨hr.1,by omega⟩ hr.1,if_pos rfl]
    have g2:=Q95 (L:=L) hp hd (l:=l) (out:=Qtb L d s.2 x) (fun y hy=>hm y (by simp [hy])) (by rw [g1.ln,hl]);rcases g2.vl x.From hr.1 hr.2.1 with r|⟨r,_⟩<;>omega
  ·rw [e2] at q;exact .inr q
theorem Qbht:∀ {l:List Qc} {s:Bool×List Int},(l.foldl (Qw7 L d) s).1=false→l.foldl (Qtb L d) s.2=s.2
 | [],s,_=>rfl
 | x::l,s,h=>by
  rw [List.foldl_cons] at h ⊢;have mono:∀ {l:List Qc} {s:Bool×List Int},s.1=true→(l.foldl (Qw7 L d) s).1=true:=by
   intro l
   induction l with
   | nil=>intro s h;exact h
   | cons y l ih=>intro s h;rw [List.foldl_cons];refine ih ?_;unfold Qw7;cases Q94 L d s.2 y<;>simp [h]
  cases hc:Q94 L d s.2 x with
  | true =>
   have:(Qw7 L d s x).1=true:=by unfold Qw7;rw [hc];rfl
   rw [mono this] at h;cases h
  | false =>
   have e1:Qw7 L d s x=s:=by unfold Qw7;rw [hc];rfl
   have e2:Qtb L d s.2 x=s.2:=by unfold Qtb;rw [hc];rfl
   rw [e1] at h;rw [e2];exact Qbht h
end
section
variable {p:Qa} (hp:RightP p) {L:List Bool} (hL:L.length=p.zA.zN.toNat)
theorem Qbk1 {c:List Int} (hc:c.length=p.zA.zN.toNat):(upto p.zA.zN).foldl (fun c i=>c.set i.toNat (if lf L i&&decide (i∈p.zA.zL) then 0 else -1)) c=Qbk0 p L:=Q92 hc
include hp hL
theorem Qbbi:Qcv (tsk p L)=some (Qjj p L):=by
 unfold Qcv Qx;obtain ⟨fuel,hfu,hge⟩ : ∃ f,Qch=f∧1099511627776≤f:=⟨_,rfl,Nat.le_refl _⟩;rw [hfu];rw [show (tsk p L).left_=L from rfl,show (tsk p L).zO=p from rfl];have hst:=hp.a.st;have hsm:=hp.a.small;rw [show mkO p.zA.zN (0:Int)=some (List.replicate p.zA.zN.toNat 0) from by unfold mkO lim;rw [if_pos (by omega)]];rw [Option.bind_some];refine Option.bind_eq_some_iff.2 ⟨Qbk0 p L,?_,?_⟩
 ·refine (Qeh (l:=upto p.zA.zN) (fun i (c:List Int)=>(i,c)) (fun c i=>c.set i.toNat (if lf L i&&decide (i∈p.zA.zL) then 0 else -1)) (fun _ c=>c.length=p.zA.zN.toNat) (fun c=>some c) (by rw [Qbr];unfold big;omega) hge (fun k n s hn hs=>?_) (fun n s hn hs=>by rw [List.length_set];exact hs) (fun k s hs=>?_) (by simp)).trans ?_
  ·have hn':=Qiv hn;dsimp only;rw [Qj6 hn,if_pos (by omega),Qkv (by omega) (by omega),Qks (by omega) (by omega)];simp only [Option.bind_some,Qgv hL (p:=p) (x:=(n:Int)) ⟨by omega,by omega⟩];rw [Qd2 hp.a.ma hsm.1.2.1,Qks (by omega) (by rw [List.length_set];omega)];cases lf L (n:Int)<;>by_cases hm:(n:Int)∈p.zA.zL<;>simp [hm]
  ·dsimp only;rw [Qbr,if_neg (by omega)]
  ·rw [Qbk1 (by simp)]
 have hround:∀ (d:Nat) (c:List Int),c.length=p.zA.zN.toNat→d≤4096→Qcm (fun (k41:Bool×Int×List Int→Option (Bool×List Int)) ((more38,x39,c40):Bool×Int×(List Int))=>(if (x39<(p.zA.zM.length:Int)) then ((((getO p.zA.zM x39).bind fun x43=>((((inO L.length x43.From).bind fun u45=>((getO L x43.From).bind fun x47=>(if x47 then ((inO L.length x43.To).bind fun u50=>((getO L x43.To).bind fun x52=>(if x52 then ((inO (Int.toNat p.zA.zN) x43.From).bind fun u55=>((getO c40 x43.From).bind fun x57=>(if (x57<0) then ((inO (Int.toNat p.zA.zN) x43.To).bind fun u60=>((getO c40 x43.To).bind fun x62=>some (x62==(IntKind.wrap .i64 (((d:Int)+1)-1))))) else some false))) else some false))) else some false)))).bind fun (x64:Bool)=>(if x64 then ((inO (Int.toNat p.zA.zN) x43.From).bind fun u66=>((setO c40 x43.From ((d:Int)+1)).bind fun x68=>some (true,x68,x43.From,x43.Event,x43.To))) else some (more38,c40,x43.From,x43.Event,x43.To))))).bind fun ((more70,c71,c72,c73,c74):Bool×(List Int)×Int×Int×Int)=>k41 (more70,(IntKind.wrap .i64 (x39+1)),c71)) else some (more38,c40))) fuel (false,0,c)=some (p.zA.zM.foldl (Qw7 L d) (false,c)):=by
  intro d c hc hd;refine (Qeh (l:=p.zA.zM) (fun i (s:Bool×List Int)=>(s.1,i,s.2)) (Qw7 L d) (fun _ s=>s.2.length=p.zA.zN.toNat) (fun s=>some s) hsm.1.2.2 hge (fun k n s hn hs=>?_) (fun n s hn hs=>by unfold Qw7;split<;>simp [hs]) (fun k s hs=>?_) (s0:=(false,c)) hc)
  ·have hr:=hp.a.ed0 _ (List.getElem_mem hn);dsimp only;rw [if_pos (by omega),Qbt hn];simp only [Option.bind_some,Qgv hL (p:=p) (x:=p.zA.zM[n].From) ⟨hr.1,hr.2.1⟩,Qgv hL (p:=p) (x:=p.zA.zM[n].To) ⟨hr.2.2.1,hr.2.2.2.1⟩];rw [Qkv hr.1 (by omega),Qkv hr.2.2.1 (by omega),Qm3 (d:=0) (l:=s.2) hr.1 (by omega),Qm3 (d:=0) (l:=s.2) hr.2.2.1 (by omega),Qks (l:=s.2) hr.1 (by omega),Qm0 (x:=(d:Int)+1-1) (by omega) (by omega)];unfold Qw7 Q94;simp only [Option.bind_some,show (d:Int)+1-1=d by omega];generalize p.zA.zM[n]=e at hr ⊢;cases lf L e.From<;>cases lf L e.To<;>by_cases h1:ati s.2 e.From<0<;>by_cases h2:ati s.2 e.To=d<;>simp [h1,h2]
  ·dsimp only;rw [if_neg (by omega)]
 have hlast:(lenO (Qjj p L) (Int.toNat p.zA.zN))=some ():=Q0w (Qm4 hp L).ln;refine Option.bind_eq_some_iff.2 ⟨Qjj p L,?_,by rw [hlast];rfl⟩;refine Q9z (fun x=>∃ d:Nat,x.1=(d:Int)+1∧x.2.2=dN p L d∧(x.2.1=true∧d≤p.zA.zN.toNat∨x.2.1=false∧dN p L d=Qjj p L)) (fun x=>p.zA.zN.toNat+4-x.1.toNat) (some (Qjj p L)) ⟨0,rfl,rfl,.inl ⟨rfl,by omega⟩⟩ (by dsimp only;omega) ?_;rintro k ⟨r,more,c⟩ ⟨d,hr,hc,hm⟩ ih;dsimp only at hr hc hm ih ⊢;subst hr hc;rcases hm with ⟨rfl,hdn⟩|⟨rfl,hq⟩
 ·rw [if_pos rfl];have hln:=(Qbnr hp L d).ln;rw [hround d _ hln (by omega),Option.bind_some];have hsnd:(p.zA.zM.foldl (Qw7 L d) (false,dN p L d)).2=dN p L (d+1):=Qbhr;have hd0:(0:Int)≤(d:Int):=by omega
  have hwr:IntKind.wrap .i64 ((d:Int)+1+1)=((d+1:Nat):Int)+1:=by rw [Qm0 (by omega) (by omega)];omega
  generalize hgen:p.zA.zM.foldl (Qw7 L d) (false,dN p L d)=R at hsnd;obtain ⟨m,c'⟩:=R;dsimp only at hsnd ⊢;subst hsnd;rw [hwr];refine ih _ ⟨d+1,rfl,rfl,?_⟩ (by dsimp only;omega);cases m with
  | true =>
   left;refine ⟨rfl,?_⟩;rcases Qbhs hp hd0 (L:=L) (l:=p.zA.zM) (s:=(false,dN p L d)) (fun _ h=>h) hln (by rw [hgen]) with q|⟨y,h0,h1,h2⟩
   ·cases q
   ·have:=(Qbnr hp L (d+1)).bound hp L h0 h1;have h2:ati (dN p L (d+1)) y=(d:Int)+1:=h2;omega
  | false =>
   right;refine ⟨rfl,?_⟩;have hs:dN p L (d+1)=dN p L d:=Qbht hp hd0 (L:=L) (l:=p.zA.zM) (s:=(false,dN p L d)) (by rw [hgen]);rw [hs];exact (Qbhq hp L hs _ hdn).symm
 ·rw [if_neg (by simp),hq]
end
section
variable {p:Qa} (hp:RightP p) {R:List Int} (hR:Qbqp p R) (T:List Qb) (r:Int)
include hp hR
end
end Go.Abs
end
section
namespace Go.Abs
open Go
def remE (p:Qa) (L:List Bool) (rank i:Int):Option Qb:=if lf L i&&((escP p L i).1 != 0) then some ⟨i,rank,(escP p L i).1,(escP p L i).2⟩ else none
def remB (p:Qa) (L:List Bool) (rank i:Int):Option Qb:=if lf L i&&decide (ati (Qjj p L) i<0) then some ⟨i,rank,3,-1⟩ else none
def Q6z (p:Qa) (L:List Bool) (rank:Int):List Qb:=(upto p.zA.zN).filterMap (remE p L rank)
def Qbns (p:Qa) (L:List Bool) (rank:Int):List Qb:=(upto p.zA.zN).filterMap (remB p L rank)
def Qhf (p:Qa) (L:List Bool) (rank:Int):List Qb:=if ((Q6z p L rank).length:Int)>0 then Q6z p L rank else Qbns p L rank
section
variable {p:Qa} (hp:RightP p) {L:List Bool} (hL:L.length=p.zA.zN.toNat) (rank:Int)
include hp hL
theorem Qbou:Qdg (tsk p L) rank=some (Qhf p L rank):=by
 unfold Qdg Qbo;obtain ⟨fuel,hfu,hge⟩ : ∃ f,Qch=f∧1099511627776≤f:=⟨_,rfl,Nat.le_refl _⟩;rw [hfu,Qbbi hp hL];rw [show (tsk p L).left_=L from rfl];have hst:=hp.a.st;have hul:(upto p.zA.zN).length<big:=by rw [Qbr];unfold big;omega
 have huf:(upto p.zA.zN).length<fuel:=by rw [Qbr];omega
 rw [Qbdl (l:=upto p.zA.zN) (f:=remE p L rank) hul huf (fun k acc n hn ha=>by
  have hn':=Qiv hn;dsimp only;rw [Qj6 hn,if_pos (by omega),Qbnp hp hL ⟨by omega,by omega⟩];simp only [Option.bind_some,Qgv hL (p:=p) (x:=(n:Int)) ⟨by omega,by omega⟩];rw [Qby (by simp only [List.length_cons,List.length_nil];unfold lim;omega)];unfold remE;cases lf L (n:Int)<;>by_cases h1:(escP p L (n:Int)).1=0<;>simp [h1]) (fun k acc=>by
  dsimp only;rw [Qbr,if_neg (by omega)]),Option.bind_some]
 unfold Qhf;by_cases hE:((Q6z p L rank).length:Int)>0
 ·rw [if_pos hE,if_pos (show ((((upto p.zA.zN).filterMap (remE p L rank)).length:Nat):Int)>0 from hE)];rfl
 ·rw [if_neg hE,if_neg (show ¬ ((((upto p.zA.zN).filterMap (remE p L rank)).length:Nat):Int)>0 from hE)];have hnil:(upto p.zA.zN).filterMap (remE p L rank)=[]:=List.eq_nil_of_length_eq_zero (by unfold Q6z at hE;omega);rw [hnil];simp only [Option.bind_some];have hdl:=(Qm4 hp L).ln;rw [Qbdl (l:=upto p.zA.zN) (f:=remB p L rank) hul huf (fun k acc n hn ha=>by
   have hn':=Qiv hn;dsimp only;rw [Qj6 hn,if_pos (by omega),Qm3 (d:=0) (l:=Qjj p L) (by omega) (by omega)];simp only [Option.bind_some,Qgv hL (p:=p) (x:=(n:Int)) ⟨by omega,by omega⟩];rw [Qby (by simp only [List.length_cons,List.length_nil];unfold lim;omega)];unfold remB;cases lf L (n:Int)<;>by_cases h1:ati (Qjj p L) (n:Int)<0<;>simp [h1]) (fun k acc=>by
   dsimp only;rw [Qbr,if_neg (by omega)])]
  rfl
end
section
variable {p:Qa} (hp:RightP p) {R:List Int} (hR:Qbqp p R) (T:List Qb) (r rank:Int)
include hp hR
end
end Go.Abs
end
section
namespace Go.Abs
open Go
abbrev nS (p:Qa):Nat:=p.zA.zN.toNat
def Qbb (p:Qa) (T:List Qb):List Bool:=T.foldl (fun c x=>c.set x.State.toNat false) (List.replicate (nS p) true)
def Q4l (p:Qa) (T:List Qb):List Qb:=T.foldl (fun c x=>c.set x.State.toNat x) (List.replicate (nS p) ⟨0,0,0,0⟩)
theorem Qgn (p:Qa) (T:List Qb):(Qbb p T).length=nS p:=by unfold Qbb;rw [Qbf7 (f:=fun x:Qb=>x.State.toNat) (g:=fun _=>false),List.length_replicate]
theorem Qbhu (p:Qa) (T:List Qb):(Q4l p T).length=nS p:=by unfold Q4l;rw [Qbf7 (f:=fun x:Qb=>x.State.toNat) (g:=fun x=>x),List.length_replicate]
structure Okt (p:Qa) (T:List Qb):Prop where
 rg:∀ x∈T,0≤x.State∧x.State<p.zA.zN
 rk:∀ x∈T,1≤x.Rank
 nd:(T.map (·.State)).Nodup
theorem Q4x {p:Qa} {T:List Qb} (h:∀ x∈T,0≤x.State∧x.State<p.zA.zN) {y:Int} (h0:0≤y) (h1:y<p.zA.zN):lf (Qbb p T) y = !T.any fun x=>x.State==y:=by
 have key:∀ (T:List Qb) (c:List Bool),(∀ x∈T,0≤x.State∧x.State<p.zA.zN)→c.length=nS p→lf (T.foldl (fun c x=>c.set x.State.toNat false) c) y=(lf c y && !T.any fun x=>x.State==y):=by
  intro T
  induction T with
  | nil=>intro c _ _;simp
  | cons x T ih =>
   intro c hT hc;have hx:=hT x (by simp);rw [List.foldl_cons,ih _ (fun z hz=>hT z (by simp [hz])) (by rw [List.length_set];exact hc),Qbry ⟨hx.1,by unfold nS at hc;omega⟩ h0,List.any_cons];by_cases hq:y=x.State
   ·subst hq;simp
   ·rw [if_neg hq];have:(x.State==y)=false:=by rw [beq_eq_false_iff_ne];exact fun e=>hq e.symm
    rw [this];simp
 unfold Qbb;rw [key T _ h (by simp)];have:lf (List.replicate (nS p) true) y=true:=Qbhn h0 (by unfold nS;omega);rw [this,Bool.true_and]
theorem Qy0 {p:Qa} {L:List Bool} {rank:Int} {x:Qb} (hx:x∈Qhf p L rank):(0≤x.State∧x.State<p.zA.zN)∧lf L x.State=true∧x.Rank=rank:=by
 have hE:∀ x∈Q6z p L rank,(0≤x.State∧x.State<p.zA.zN)∧lf L x.State=true∧x.Rank=rank:=fun x hx=>by
  obtain ⟨i,hi,h⟩:=List.mem_filterMap.1 hx;unfold remE at h;split at h<;>cases h;rename_i hc;exact ⟨Qi0.1 hi,by simp only [Bool.and_eq_true] at hc;exact hc.1,rfl⟩
 have hB:∀ x∈Qbns p L rank,(0≤x.State∧x.State<p.zA.zN)∧lf L x.State=true∧x.Rank=rank:=fun x hx=>by
  obtain ⟨i,hi,h⟩:=List.mem_filterMap.1 hx;unfold remB at h;split at h<;>cases h;rename_i hc;exact ⟨Qi0.1 hi,by simp only [Bool.and_eq_true] at hc;exact hc.1,rfl⟩
 unfold Qhf at hx;split at hx
 ·exact hE x hx
 ·exact hB x hx
theorem Qbnt {f:Int→Option Qb} (hf:∀ i x,f i=some x→x.State=i) {l:List Int} (h:l.Pairwise (· < ·)):((l.filterMap f).map (·.State)).Pairwise (· < ·):=by
 rw [List.pairwise_map,List.pairwise_filterMap];refine h.imp fun {a b} hab x hx y hy=>?_;rw [hf a x hx,hf b y hy];exact hab
theorem Qbiu (p:Qa) (L:List Bool) (rank:Int):((Qhf p L rank).map (·.State)).Pairwise (· < ·):=by
 unfold Qhf;split
 ·exact Qbnt (fun i x h=>by unfold remE at h;split at h<;>cases h;rfl) (Qur _)
 ·exact Qbnt (fun i x h=>by unfold remB at h;split at h<;>cases h;rfl) (Qur _)
theorem Okt.round {p:Qa} {T:List Qb} (h:Okt p T) {rank:Int} (hr:1≤rank):Okt p (T++Qhf p (Qbb p T) rank):=by
 refine ⟨fun x hx=>?_,fun x hx=>?_,?_⟩
 ·rcases List.mem_append.1 hx with hx|hx
  ·exact h.rg x hx
  ·exact (Qy0 hx).1
 ·rcases List.mem_append.1 hx with hx|hx
  ·exact h.rk x hx
  ·rw [(Qy0 hx).2.2];exact hr
 ·rw [List.map_append,List.nodup_append];refine ⟨h.nd,(Qbiu p _ rank).imp fun h=>by omega,fun a ha b hb=>?_⟩;obtain ⟨x,hx,rfl⟩:=List.mem_map.1 ha;obtain ⟨y,hy,rfl⟩:=List.mem_map.1 hb;obtain ⟨k1,k2,_⟩:=Qy0 hy;intro e;rw [Q4x h.rg k1.1 k1.2] at k2;simp only [Bool.not_eq_true',List.any_eq_false] at k2;exact k2 x hx (by simp [e])
theorem Okt.len {p:Qa} {T:List Qb} (h:Okt p T):T.length≤nS p:=by
 have hsub:∀ x∈T.map (·.State),x∈upto p.zA.zN:=fun x hx=>by
  obtain ⟨y,hy,rfl⟩:=List.mem_map.1 hx;exact Qi0.2 (h.rg y hy)
 have hlen:∀ {l m:List Int},l.Nodup→(∀ x∈l,x∈m)→l.length≤m.length:=fun {l m} h hs=>by
  induction l generalizing m with
  | nil=>simp
  | cons x l ih =>
   obtain ⟨a1,a2⟩:=List.nodup_cons.1 h;have hx:=hs x (by simp);have:=ih (m:=m.erase x) a2 fun y hy=>(List.mem_erase_of_ne (by rintro rfl;exact a1 hy)).2 (hs y (by simp [hy]));rw [List.length_erase_of_mem hx] at this;have:0<m.length:=List.length_pos_of_mem hx;simp only [List.length_cons];omega
 have:=hlen h.nd hsub;rw [List.length_map,Qbr] at this;exact this
def T0 (p:Qa):List Qb:=p.zC.map fun x=>⟨x,1,1,-1⟩
def r0 (p:Qa):Int:=if p.zC=[] then 0 else 1
def Qse (p:Qa):Nat→Int→List Qb→Int→List Qb×Int
 | 0,_,T,r=>(T,r)
 | f+1,rank,T,r=>if Qhf p (Qbb p T) rank=[] then (T,r) else Qse p f (rank+1) (T++Qhf p (Qbb p T) rank) rank
def solP (p:Qa):List Qb×Int:=Qse p (nS p+1) 2 (T0 p) (r0 p)
theorem Qbiv {p:Qa} (hp:RightP p):Okt p (T0 p):=by
 unfold T0;refine ⟨fun x hx=>?_,fun x hx=>?_,?_⟩
 ·obtain ⟨y,hy,rfl⟩:=List.mem_map.1 hx;exact hp.fo.rg y hy
 ·obtain ⟨y,hy,rfl⟩:=List.mem_map.1 hx;exact Int.le_refl _
 ·rw [List.map_map];have:((fun x:Qb=>x.State) ∘ fun x:Int=>(⟨x,1,1,-1⟩ : Qb))=id:=rfl;rw [this,List.map_id];exact hp.fo.so.imp fun h=>by omega
end Go.Abs
end
section
namespace Go.Abs
open Go
theorem Q96 {α β γ:Type} {f:α→γ→α} {g:β→γ→β}:∀ {l:List γ} {a:α} {b:β},l.foldl (fun s x=>(f s.1 x,g s.2 x)) (a,b)=(l.foldl f a,l.foldl g b)
 | [],_,_=>rfl
 | x::l,a,b=>by rw [List.foldl_cons,Q96 (l:=l)];rfl
theorem Qbe2 {p:Qa} {T l:List Qb}:l.foldl (fun c x=>c.set x.State.toNat false) (Qbb p T)=Qbb p (T++l):=by unfold Qbb;rw [List.foldl_append]
theorem Qbk2 {p:Qa} {T l:List Qb}:l.foldl (fun c x=>c.set x.State.toNat x) (Q4l p T)=Q4l p (T++l):=by unfold Q4l;rw [List.foldl_append]
theorem Qbr0 {p:Qa} (hp:RightP p):(upto p.zA.zN).map (fun i=>!decide (i∈p.zC))=Qbb p (T0 p):=by
 refine Qbdq (d:=false) (by rw [Qgn,List.length_map,Qbr]) fun x h0 h1=>?_;rw [List.length_map,Qbr] at h1;have h2:x<p.zA.zN:=by omega
 rw [Qo1 h0 h2];have:=Q4x (Qbiv hp).rg h0 h2;rw [show at0 false (Qbb p (T0 p)) x=lf (Qbb p (T0 p)) x from rfl,this];congr 1;unfold T0;rw [List.any_map,Bool.eq_iff_iff,List.any_eq_true];simp
section
variable {p:Qa} (hp:RightP p)
include hp
theorem Qbov:Qf5 p=some (tsk p (Qbb p (T0 p))):=by
 unfold Qf5 Qcc;obtain ⟨fuel,hfu,hge⟩ : ∃ f,Qch=f∧1099511627776≤f:=⟨_,rfl,Nat.le_refl _⟩;rw [hfu];have hst:=hp.a.st;have hsm:=hp.a.small;have hpl:=hp.small;have hmk:∀ {α:Type} (v:α),mkO p.zA.zN v=some (List.replicate (nS p) v):=fun v=>by unfold mkO lim;rw [if_pos (by omega)]
 rw [hmk,hmk];simp only [Option.bind_some];refine Option.bind_eq_some_iff.2 ⟨Qba1 p,?_,?_⟩
 ·refine (Qm1 (len:=p.zA.zM.length) (fun n (c:List (List Qc))=>((n:Int),c)) (fun n c=>c=(upto p.zA.zN).map fun i=>(p.zA.zM.take n).filter fun x=>x.From==i) (fun n c=>some (Qba1 p)) ?_ ?_ fuel 0 (List.replicate (nS p) []) (Nat.zero_le _) (by have:=hsm.1.2.2;unfold big at this;omega) ?_)
  ·rintro k n c hn hc ih;have hr:=hp.a.ed0 _ (List.getElem_mem hn);have hcl:c.length=nS p:=by rw [hc,List.length_map,Qbr]
   have hb:=hsm.2.2.2;have hlen:((p.zA.zM.take n).filter fun x=>x.From==p.zA.zM[n].From).length≤n:=Nat.le_trans (List.length_filter_le _ _) (by rw [List.length_take];omega);dsimp only;rw [if_pos (by omega),Qbt hn,Option.bind_some,Qkv hr.1 (by omega),Option.bind_some,Qm3 (d:=[]) hr.1 (by unfold nS at hcl;omega),Option.bind_some];have hat:at0 [] c p.zA.zM[n].From=(p.zA.zM.take n).filter fun x=>x.From==p.zA.zM[n].From:=by rw [hc,Qo1 hr.1 hr.2.1]
   rw [hat,Qby (by simp only [List.length_cons,List.length_nil];unfold lim;omega),Option.bind_some,Option.bind_some,Qks hr.1 (by unfold nS at hcl;omega),Option.bind_some,Qcn (by omega)];refine ih _ ?_;refine Qbdq (d:=[]) (by rw [List.length_set,hcl,List.length_map,Qbr]) fun y h0 h1=>?_;rw [List.length_set,hcl] at h1;have h2:y<p.zA.zN:=by unfold nS at h1;omega
   rw [Qbj1 ⟨hr.1,by unfold nS at hcl;omega⟩ h0,Qo1 h0 h2,List.take_succ_eq_append_getElem hn,List.filter_append];by_cases hq:y=p.zA.zM[n].From
   ·rw [if_pos hq,← hq];simp [hq]
   ·rw [if_neg hq,hc,Qo1 h0 h2];have:(p.zA.zM[n].From==y)=false:=by rw [beq_eq_false_iff_ne];exact fun e=>hq e.symm
    simp [this]
  ·rintro k c hc;dsimp only;rw [if_neg (by omega),hc,List.take_length]
   rfl
  ·refine Qbdq (d:=[]) (by rw [List.length_replicate,List.length_map,Qbr]) fun y h0 h1=>?_;rw [List.length_replicate] at h1;have h2:y<p.zA.zN:=by unfold nS at h1;omega
   rw [Qbhn h0 (by unfold nS at h1 ⊢;omega),Qo1 h0 h2];simp
 refine Option.bind_eq_some_iff.2 ⟨Qbb p (T0 p),?_,?_⟩
 ·refine (Qeh (l:=upto p.zA.zN) (fun i (c:List Bool)=>(i,c)) (fun c i=>c.set i.toNat (!decide (i∈p.zC))) (fun _ c=>c.length=nS p) (fun c=>some c) (by rw [Qbr];unfold big;omega) hge (fun k n s hn hs=>?_) (fun n s hn hs=>by rw [List.length_set];exact hs) (fun k s hs=>?_) (s0:=List.replicate (nS p) false) (by simp)).trans ?_
  ·have hn':=Qiv hn;dsimp only;rw [Qj6 hn,if_pos (by omega),Qd2 hp.fo.so hpl.2.1,Option.bind_some,Qkv (by omega) (by omega),Option.bind_some,Qks (by omega) (by unfold nS at hs;omega),Option.bind_some]
  ·dsimp only;rw [Qbr,if_neg (by omega)]
  ·rw [Q92 (by simp),Qbr0 hp]
 rw [Q0w (by unfold Qba1;rw [List.length_map,Qbr]),Option.bind_some,Q0w (Qgn p _),Option.bind_some]
 rfl
theorem Qbk3 {fuel:Nat} (hge:1099511627776≤fuel) {S:List Qb×Int} {f:Nat} (hS:Qse p f 2 (T0 p) (r0 p)=S) (hf:nS p+1≤f+(T0 p).length) :
  Qcm (fun (k26:Int×Int×List Qb×List Bool→Option (Int×List Qb×List Bool)) ((rank22,r23,c24,c25):Int×Int×(List Qb)×(List Bool))=>((lenO c25 (nS p)).bind fun _=>((Qdg (tsk p c25) rank22).bind fun x29=>(if ((x29.length:Int)==0) then some (r23,c24,c25) else ((Qcm (fun k34 ((x31,c32,c33):Int×(List Qb)×(List Bool))=>(if (x31<(x29.length:Int)) then ((getO x29 x31).bind fun x36=>((inO (nS p) x36.State).bind fun u38=>((setO c33 x36.State false).bind fun x40=>((inO (Int.toNat ((nS p:Nat):Int)) x36.State).bind fun u42=>((setO c32 x36.State x36).bind fun x44=>k34 ((IntKind.wrap .i64 (x31+1)),x44,x40)))))) else some (c32,c33))) fuel (0,c24,c25)).bind fun ((c46,c47):(List Qb)×(List Bool))=>k26 ((IntKind.wrap .i64 (rank22+1)),rank22,c46,c47)))))) fuel (2,r0 p,Q4l p (T0 p),Qbb p (T0 p))=some (S.2,Q4l p S.1,Qbb p S.1):=by
 have hst:=hp.a.st;have hnS:nS p≤4096:=by unfold nS;omega
 refine Q9z (fun x:Int×Int×List Qb×List Bool=>∃ (f:Nat) (T:List Qb),x.2.2.1=Q4l p T∧x.2.2.2=Qbb p T∧Okt p T∧Qse p f x.1 T x.2.1=S∧nS p+1≤f+T.length∧2≤x.1∧x.1≤T.length+2) (fun x=>(6000-x.1).toNat) (some (S.2,Q4l p S.1,Qbb p S.1)) ⟨f,T0 p,rfl,rfl,Qbiv hp,hS,hf,by dsimp only;omega,by dsimp only;omega⟩ (by dsimp only;omega) ?_;rintro k ⟨rank,r,c,L⟩ ⟨f,T,hc,hL,hT,hS,hf,h2,hrk⟩ ih;dsimp only at hc hL hS hf h2 hrk ih ⊢;subst hc hL;have hTl:=hT.len;rw [Q0w (Qgn p T),Option.bind_some,Qbou hp (Qgn p T),Option.bind_some];obtain ⟨f,rfl⟩ : ∃ g,f=g+1:=⟨f-1,by omega⟩;rw [Qse] at hS;by_cases he:Qhf p (Qbb p T) rank=[]
 ·rw [if_pos he] at hS;rw [if_pos (by rw [he];rfl)];subst hS;rfl
 ·rw [if_neg he] at hS;have hpos:0<(Qhf p (Qbb p T) rank).length:=List.length_pos_iff.2 he;rw [if_neg (by simp only [beq_iff_eq];omega)];have hok:=hT.round (rank:=rank) (by omega);have hmem:∀ x∈Qhf p (Qbb p T) rank,0≤x.State∧x.State<p.zA.zN:=fun x hx=>(Qy0 hx).1;have hol:=hok.len;rw [List.length_append] at hol;generalize Qhf p (Qbb p T) rank=l at *
  have hin:Qcm (fun (k34:Int×List Qb×List Bool→Option (List Qb×List Bool)) ((x31,c32,c33):Int×(List Qb)×(List Bool))=>(if (x31<(l.length:Int)) then ((getO l x31).bind fun x36=>((inO (nS p) x36.State).bind fun u38=>((setO c33 x36.State false).bind fun x40=>((inO (Int.toNat ((nS p:Nat):Int)) x36.State).bind fun u42=>((setO c32 x36.State x36).bind fun x44=>k34 ((IntKind.wrap .i64 (x31+1)),x44,x40)))))) else some (c32,c33))) fuel (0,Q4l p T,Qbb p T)=some (Q4l p (T++l),Qbb p (T++l)):=by
   refine (Qeh (l:=l) (fun i (s:List Qb×List Bool)=>(i,s.1,s.2)) (fun s x=>(s.1.set x.State.toNat x,s.2.set x.State.toNat false)) (fun _ s=>s.1.length=nS p∧s.2.length=nS p) (fun s=>some s) (by unfold big;omega) hge (fun k n s hn hs=>?_) (fun n s hn hs=>by simp only [List.length_set];exact hs) (fun k s hs=>?_) (s0:=(Q4l p T,Qbb p T)) ⟨Qbhu p T,Qgn p T⟩).trans ?_
   ·have hr:=hmem _ (List.getElem_mem hn);obtain ⟨hs1,hs2⟩:=hs;unfold nS at hs1 hs2 ⊢;dsimp only;rw [if_pos (by omega),Qbt hn,Option.bind_some,Qkv hr.1 (by omega),Option.bind_some,Qks hr.1 (by omega),Option.bind_some,Int.toNat_natCast,Qkv hr.1 (by omega),Option.bind_some,Qks hr.1 (by omega),Option.bind_some]
   ·dsimp only;rw [if_neg (by omega)]
   ·rw [← Qbk2,← Qbe2];exact congrArg some (Q96 (f:=fun (c:List Qb) (x:Qb)=>c.set x.State.toNat x) (g:=fun (c:List Bool) (x:Qb)=>c.set x.State.toNat false))
  rw [hin,Option.bind_some,Qm0 (by omega) (by omega)];refine ih _ ⟨f,T++l,rfl,rfl,hok,hS,by rw [List.length_append];omega,by dsimp only;omega,by dsimp only;rw [List.length_append];omega⟩ (by dsimp only;omega)
end
end Go.Abs
end
section
namespace Go.Abs
open Go
theorem Q97 {β:Type} {z v:β} {k k' : Int}:∀ {m:List (Int×β)},getM (setM m k v) k' z=if k'=k then v else getM m k' z
 | []=>by simp [setM,getM]
 | (q,w)::m=>by
  by_cases h1:k=q
  ·subst h1;by_cases h2:k'=k<;>simp [setM,getM,h2]
  ·have h1' : (k==q)=false:=by simp [h1]
   simp only [setM,h1',Bool.false_eq_true,if_false,getM];rw [Q97 (m:=m)];by_cases h2:k'=q
   ·subst h2;have:k' ≠ k:=fun e=>h1 e.symm;simp [this]
   ·simp [h2]
theorem Qbb1 {β:Type} {v:β} {k k' : Int}:∀ {m:List (Int×β)},hasM (setM m k v) k'=(decide (k'=k)||hasM m k')
 | []=>by
  simp only [setM,hasM,List.any_cons,List.any_nil,Bool.or_false];rw [Bool.eq_iff_iff];simp
 | (q,w)::m=>by
  by_cases h1:k=q
  ·subst h1;simp only [setM,beq_self_eq_true,if_true,Q83];rw [Bool.eq_iff_iff];simp
  ·have h1' : (k==q)=false:=by simp [h1]
   simp only [setM,h1',Bool.false_eq_true,if_false,Q83];rw [Qbb1 (m:=m)];cases (k'==q)<;>cases decide (k'=k)<;>simp
def MapOk (m:List (Int×Int)) (st:List Int):Prop:=∀ r,hasM m r=decide (r∈st)∧(r∈st→getM m r 0=(st.idxOf r:Int))
theorem MapOk.ins {m:List (Int×Int)} {st:List Int} (h:MapOk m st) {r:Int} (hr:r∉st):MapOk (setM m r (st.length:Int)) (st++[r]):=by
 intro x;obtain ⟨h1,h2⟩:=h x;refine ⟨?_,fun hx=>?_⟩
 ·rw [Qbb1,h1,Bool.eq_iff_iff];simp;exact Or.comm
 ·rw [Q97];by_cases hxr:x=r
  ·subst hxr;rw [if_pos rfl,List.idxOf_append];simp [hr]
  ·rw [if_neg hxr];have hx' : x∈st:=by
    rcases List.mem_append.1 hx with hx|hx
    ·exact hx
    ·simp at hx;exact absurd hx hxr
   rw [h2 hx',List.idxOf_append,if_pos hx']
def Qem (L:List Bool) (i:Nat) (s:List Int×List Qc) (x:Qc):List Int×List Qc :=
 if lf L x.To then (ins s.1 x.To,s.2++[⟨(i:Int),x.Event,((ins s.1 x.To).idxOf x.To:Int)⟩]) else s
def bldS (p:Qa) (L:List Bool):Nat→Nat→List Int→List Int→List Qc→List Int×List Int×List Qc
 | 0,_,st,ms,es=>(st,ms,es)
 | f+1,i,st,ms,es=>match st[i]? with
  | none=>(st,ms,es)
  | some s=>bldS p L f (i+1) ((outP p.zA s).foldl (Qem L i) (st,es)).1 (if s∈p.zA.zL then ms++[(i:Int)] else ms) ((outP p.zA s).foldl (Qem L i) (st,es)).2
def st0 (p:Qa) (L:List Bool):List Int:=if 0<p.zA.zN∧lf L 0=true then [0] else []
def supP (p:Qa) (L:List Bool):List Int×List Int×List Qc:=bldS p L (nS p+1) 0 (st0 p L) [] []
section
variable {p:Qa} (hp:RightP p) {L:List Bool}
include hp
theorem Qbb2 {i:Nat}:∀ {l:List Qc} {s:List Int×List Qc},(∀ x∈l,0≤x.To∧x.To<p.zA.zN)→Fnd p.zA s.1→Fnd p.zA (l.foldl (Qem L i) s).1∧s.1 <+: (l.foldl (Qem L i) s).1∧(l.foldl (Qem L i) s).2.length≤s.2.length+l.length
 | [],s,_,h=>⟨h,List.prefix_refl _,by simp⟩
 | x::l,s,hl,h=>by
  rw [List.foldl_cons];have hx:=hl x (by simp);unfold Qem;cases hq:lf L x.To with
  | false =>
   rw [if_neg (by simp)];obtain ⟨h1,h2,h3⟩:=Qbb2 (i:=i) (l:=l) (s:=s) (fun y hy=>hl y (by simp [hy])) h;exact ⟨h1,h2,by simp only [List.length_cons];unfold Qem at h3;omega⟩
  | true =>
   rw [if_pos rfl];obtain ⟨h1,h2,h3⟩:=Qbb2 (i:=i) (l:=l) (s:=(ins s.1 x.To,s.2++[⟨(i:Int),x.Event,((ins s.1 x.To).idxOf x.To:Int)⟩])) (fun y hy=>hl y (by simp [hy])) (h.ins hx);refine ⟨h1,List.IsPrefix.trans (Qbnf _ _) h2,?_⟩;simp only [List.length_append,List.length_cons,List.length_nil] at h3 ⊢;unfold Qem at h3;omega
theorem Q4y (s:Int):(outP p.zA s).length≤131072:=Nat.le_trans (List.length_filter_le _ _) hp.a.small.2.2.2
theorem Qbnu:Fnd p.zA (st0 p L):=by
 unfold st0;split
 ·rename_i h;exact ⟨by simp,fun x hx=>by simp only [List.mem_singleton] at hx;subst hx;exact ⟨Int.le_refl _,h.1⟩⟩
 ·exact ⟨by simp,fun x hx=>by cases hx⟩
variable (hL:L.length=nS p)
include hL
theorem Qbqq {fuel:Nat} (hge:1099511627776≤fuel) {i:Nat} (hi:i≤4096) {s:Int} {st ms:List Int} {es:List Qc} {c:List (Int×Int)} (hf:Fnd p.zA st) (hc:MapOk c st) (he:es.length≤131072*4096) :
  ∃ c',MapOk c' ((outP p.zA s).foldl (Qem L i) (st,es)).1∧Qcm (fun (k49:List Int×Int×List Qc×List (Int×Int)→Option (List Int×List Int×List Qc×List (Int×Int))) ((origins45,x46,a47,c48):(List Int)×Int×(List Qc)×(List (Int×Int)))=>(if (x46<((outP p.zA s).length:Int)) then ((((getO (outP p.zA s) x46).bind fun x51=>((inO L.length x51.To).bind fun u53=>((getO L x51.To).bind fun x55=>(if x55 then (((if (hasM c48 x51.To) then some (origins45,c48) else ((appO origins45 [x51.To]).bind fun x59=>some (x59,(setM c48 x51.To (origins45.length:Int)))))).bind fun ((origins61,c62):(List Int)×(List (Int×Int)))=>((appO a47 [(Qc.mk (i:Int) x51.Event (getM c62 x51.To 0))]).bind fun x63=>some (origins61,x63,c62,x51.From,x51.Event,x51.To))) else some (origins45,a47,c48,x51.From,x51.Event,x51.To)))))).bind fun ((origins65,a66,c67,c68,c69,c70):(List Int)×(List Qc)×(List (Int×Int))×Int×Int×Int)=>k49 (origins65,(IntKind.wrap .i64 (x46+1)),a66,c67)) else some (origins45,ms,a47,c48))) fuel (st,0,es,c)=some (((outP p.zA s).foldl (Qem L i) (st,es)).1,ms,((outP p.zA s).foldl (Qem L i) (st,es)).2,c'):=by
 have hst:=hp.a.st;have hnS:nS p≤4096:=by unfold nS;omega
 have hol:=Q4y hp s;let stp:(List Int×List Qc)×List (Int×Int)→Qc→(List Int×List Qc)×List (Int×Int):=fun s x=>(Qem L i s.1 x,if lf L x.To&&decide (x.To∉s.1.1) then setM s.2 x.To (s.1.1.length:Int) else s.2);have hproj:∀ (l:List Qc) (s:(List Int×List Qc)×List (Int×Int)),(l.foldl stp s).1=l.foldl (Qem L i) s.1:=by
  intro l
  induction l with
  | nil=>intro s;rfl
  | cons x l ih=>intro s;rw [List.foldl_cons,List.foldl_cons,ih]
 have hI:∀ (n:Nat) (q:(List Int×List Qc)×List (Int×Int)) (hn:n<(outP p.zA s).length),(Fnd p.zA q.1.1∧MapOk q.2 q.1.1∧q.1.2.length≤131072*4096+n)→(Fnd p.zA (stp q (outP p.zA s)[n]).1.1∧MapOk (stp q (outP p.zA s)[n]).2 (stp q (outP p.zA s)[n]).1.1∧(stp q (outP p.zA s)[n]).1.2.length≤131072*4096+(n+1)):=by
  rintro n q hn ⟨h1,h2,h3⟩;have hr:=(Qr9 hp _ (List.getElem_mem hn)).1;generalize (outP p.zA s)[n]=x at hr;simp only [stp,Qem];cases hq:lf L x.To with
  | false=>simp only [Bool.false_eq_true,if_false,Bool.false_and];exact ⟨h1,h2,by omega⟩
  | true =>
   simp only [if_true,Bool.true_and];refine ⟨h1.ins hr,?_,by simp only [List.length_append,List.length_cons,List.length_nil];omega⟩;by_cases hm:x.To∈q.1.1
   ·have:ins q.1.1 x.To=q.1.1:=by unfold ins;rw [if_pos hm]
    rw [this,if_neg (by simpa using hm)];exact h2
   ·have:ins q.1.1 x.To=q.1.1++[x.To]:=by unfold ins;rw [if_neg hm]
    rw [this,if_pos (by simpa using hm)];exact h2.ins hm
 have h0:Fnd p.zA ((st,es),c).1.1∧MapOk ((st,es),c).2 ((st,es),c).1.1∧((st,es),c).1.2.length≤131072*4096+0:=⟨hf,hc,he⟩;have hend:=Qbb0 (l:=outP p.zA s) (stp:=stp) (I:=fun n q=>Fnd p.zA q.1.1∧MapOk q.2 q.1.1∧q.1.2.length≤131072*4096+n) hI h0;refine ⟨((outP p.zA s).foldl stp ((st,es),c)).2,?_,?_⟩
 ·have:=hend.2.1;rw [hproj] at this;exact this
 ·refine (Qeh (l:=outP p.zA s) (fun j (q:(List Int×List Qc)×List (Int×Int))=>(q.1.1,j,q.1.2,q.2)) stp (fun n q=>Fnd p.zA q.1.1∧MapOk q.2 q.1.1∧q.1.2.length≤131072*4096+n) (fun q=>some (q.1.1,ms,q.1.2,q.2)) (Q93 hp s) hge (fun k n q hn hq=>?_) hI (fun k q hq=>?_) (s0:=((st,es),c)) h0).trans ?_
  ·obtain ⟨h1,h2,h3⟩:=hq;have hr:=(Qr9 hp _ (List.getElem_mem hn)).1;have hfl:=h1.len;dsimp only;rw [if_pos (by omega),Qbt hn];generalize (outP p.zA s)[n]=x at hr;simp only [Option.bind_some,Qgv hL hr,stp,Qem];cases hq:lf L x.To with
   | false=>simp
   | true =>
    simp only [if_true,Bool.true_and];rw [(h2 x.To).1];by_cases hm:x.To∈q.1.1
    ·have hins:ins q.1.1 x.To=q.1.1:=by unfold ins;rw [if_pos hm]
     rw [hins];simp only [hm,decide_true,if_true,Option.bind_some,(h2 x.To).2 hm,not_true_eq_false,decide_false,Bool.false_eq_true,if_false];rw [Qby (by simp only [List.length_cons,List.length_nil];unfold lim;omega)];rfl
    ·have hins:ins q.1.1 x.To=q.1.1++[x.To]:=by unfold ins;rw [if_neg hm]
     have hidx:(q.1.1++[x.To]).idxOf x.To=q.1.1.length:=by rw [List.idxOf_append,if_neg hm];simp
     rw [hins,hidx];simp only [hm,decide_false,Bool.false_eq_true,if_false,not_false_eq_true,decide_true,if_true];rw [Qby (l:=q.1.1) (by simp only [List.length_cons,List.length_nil];unfold lim;omega)];simp only [Option.bind_some,Q97,if_true];rw [Qby (by simp only [List.length_cons,List.length_nil];unfold lim;omega)];rfl
  ·dsimp only;rw [if_neg (by omega)]
  ·rw [hproj]
theorem Qbr1:Qdd (tsk p L)=some (⟨p.zA.zK,((supP p L).1.length:Int),(supP p L).2.1,(supP p L).2.2⟩,(supP p L).1):=by
 unfold Qdd Q8;obtain ⟨fuel,hfu,hge⟩ : ∃ f,Qch=f∧1099511627776≤f:=⟨_,rfl,Nat.le_refl _⟩;rw [hfu];rw [show (tsk p L).left_=L from rfl,show (tsk p L).zO=p from rfl,show (tsk p L).from_=Qba1 p from rfl];have hst:=hp.a.st;have hnS:nS p≤4096:=by unfold nS;omega
 have hsm:=hp.a.small;rw [Qbj2 (by unfold lim;omega),Option.bind_some];obtain ⟨c0,hc0,hstart⟩ : ∃ c0,MapOk c0 (st0 p L)∧(((if ((L.length:Int)>0) then ((inO L.length 0).bind fun u11=>((getO L 0).bind fun x13=>some x13)) else some false)).bind fun (x15:Bool)=>(if x15 then ((appO [] [(0:Int)]).bind fun x17=>some (x17,(setM ([]:List (Int×Int)) 0 0))) else some ([],[])))=some (st0 p L,c0):=by
  unfold st0;by_cases h1:(L.length:Int)>0
  ·have hn0:0<p.zA.zN:=by unfold nS at hL;omega
   rw [if_pos h1];simp only [Qgv hL (p:=p) (x:=0) ⟨Int.le_refl _,hn0⟩,Option.bind_some,hn0,true_and];cases lf L 0 with
   | true =>
    refine ⟨setM [] 0 0,fun r=>⟨?_,fun hr=>?_⟩,rfl⟩
    ·rw [Qbb1];simp [hasM]
    ·simp only [if_true,List.mem_singleton] at hr;subst hr;rfl
   | false=>exact ⟨[],fun r=>⟨by simp [hasM],fun hr=>by simp at hr⟩,rfl⟩
  ·have hn0:¬ (0<p.zA.zN):=by unfold nS at hL;omega
   rw [if_neg h1];simp only [hn0,false_and,if_false];exact ⟨[],fun r=>⟨by simp [hasM],fun hr=>by cases hr⟩,rfl⟩
 rw [hstart,Option.bind_some];dsimp only;generalize hA:supP p L=A;refine Qbj0 (P:=fun r=>∃ c' : List (Int×Int),r=(A.1,[],[],[],A.2.1,A.2.2,c')) ?_ ?_
 ·refine Qgf (fun x:List Int×Int×List Int×List Int×List Qc×List Int×List Qc×List (Int×Int)=>∃ (n f:Nat),x.2.1=n∧x.2.2.1=[]∧x.2.2.2.1=[]∧x.2.2.2.2.1=[]∧n+f=nS p+1∧n≤x.1.length∧Fnd p.zA x.1∧x.2.2.2.2.2.1.length≤n∧x.2.2.2.2.2.2.1.length≤131072*n∧MapOk x.2.2.2.2.2.2.2 x.1∧bldS p L f n x.1 x.2.2.2.2.2.1 x.2.2.2.2.2.2.1=A)
   (fun x=>5001-x.2.1.toNat) (fun _ r=>∃ v,r=some v∧∃ c' : List (Int×Int),v=(A.1,[],[],[],A.2.1,A.2.2,c')) ?_ fuel (st0 p L,0,[],[],[],[],[],c0) ⟨0,nS p+1,rfl,rfl,rfl,rfl,by omega,Nat.zero_le _,Qbnu hp,Nat.zero_le _,Nat.zero_le _,hc0,hA⟩ (by dsimp only;omega)
  rintro k ⟨st,x,c1,c2,c3,ms,es,c⟩ ⟨n,f,hx,h1,h2,h3,hf,hnl,hfd,hms,hes,hc,hB⟩ ih;dsimp only at hx h1 h2 h3 hnl hfd hms hes hc hB ih ⊢;subst hx h1 h2 h3;have hfl:=hfd.len;by_cases hlt:n<st.length
  ·obtain ⟨f,rfl⟩ : ∃ g,f=g+1:=⟨f-1,by unfold nS at *;omega⟩;have hi:st[n]? = some st[n]:=List.getElem?_eq_getElem hlt;have hr:=hfd.rg _ (List.getElem_mem hlt);rw [if_pos (by omega),Qbt hlt,Option.bind_some,Qd2 hp.a.ma hsm.1.2.1,Option.bind_some];have hmk:(if decide (st[n]∈p.zA.zL)=true then (appO ms [(n:Int)]).bind fun x36=>some x36 else some ms)=some (if st[n]∈p.zA.zL then ms++[(n:Int)] else ms):=by
    rw [Qby (by simp only [List.length_cons,List.length_nil];unfold lim;unfold nS at *;omega)];by_cases hm:st[n]∈p.zA.zL<;>simp [hm]
   rw [hmk,Option.bind_some,Option.bind_some,(Qba2 hr).1,Option.bind_some,(Qba2 hr).2,Option.bind_some];rw [bldS,hi] at hB;dsimp only at hB;obtain ⟨k1,k2,k3⟩:=Qbb2 hp (i:=n) (L:=L) (l:=outP p.zA st[n]) (s:=(st,es)) (fun x hx=>(Qr9 hp x hx).1) hfd;have hol:=Q4y hp st[n];have hn4:n≤4096:=by unfold nS at *;omega
   obtain ⟨c',hc',hrow⟩:=Qbqq hp hL hge (i:=n) hn4 (s:=st[n]) (ms:=if st[n]∈p.zA.zL then ms++[(n:Int)] else ms) (es:=es) hfd hc (by omega);rw [hrow,Option.bind_some,Qcn (by omega)];have hk2:=k2.length_le;refine ih _ ⟨n+1,f,rfl,rfl,rfl,rfl,by omega,by dsimp only at hk2 ⊢;omega,k1,?_,by dsimp only at k3 ⊢;omega,hc',hB⟩ (by simp only [Int.toNat_natCast];unfold nS at *;omega);dsimp only;split
   ·simp only [List.length_append,List.length_cons,List.length_nil];omega
   ·omega
  ·rw [if_neg (by omega)];have hB' : (st,ms,es)=A:=by
    cases f with
    | zero=>exact hB
    | succ f=>rw [bldS,List.getElem?_eq_none (by omega)] at hB;exact hB
   subst hB';exact ⟨_,rfl,c,rfl⟩
 ·rintro _ ⟨c',rfl⟩
  rfl
end
end Go.Abs
end
section
namespace Go.Abs
open Go
abbrev zR:Qb:=⟨0,0,0,0⟩
def remF (p:Qa) (T:List Qb) (i:Int):Option Qb:=if lf (Qbb p T) i then none else some (at0 zR (Q4l p T) i)
def resP (p:Qa) (T:List Qb) (r:Int):Qb6 :=
 ⟨⟨(upto p.zA.zN).filter (lf (Qbb p T)),((upto p.zA.zN).filter (lf (Qbb p T))).map (ati (Qjj p (Qbb p T))),(upto p.zA.zN).filterMap (remF p T)⟩,r,
  ⟨p.zA.zK,((supP p (Qbb p T)).1.length:Int),(supP p (Qbb p T)).2.1,(supP p (Qbb p T)).2.2⟩,(supP p (Qbb p T)).1,
  (upto p.zA.zN).filter fun i=>lf (Qbb p T) i&&Qi1 p (Qbb p T) i⟩
def Q0x (p:Qa) (T:List Qb) (s:List Int×List Int×List Qb×List Int) (i:Int):List Int×List Int×List Qb×List Int :=
 if lf (Qbb p T) i then (s.1++[i],s.2.1++[ati (Qjj p (Qbb p T)) i],s.2.2.1,if Qi1 p (Qbb p T) i then s.2.2.2++[i] else s.2.2.2) else (s.1,s.2.1,s.2.2.1++[at0 zR (Q4l p T) i],s.2.2.2)
theorem Qbj5 {p:Qa} {T:List Qb}:∀ {l:List Int} {s:List Int×List Int×List Qb×List Int},l.foldl (Q0x p T) s =
  (s.1++l.filter (lf (Qbb p T)),s.2.1++(l.filter (lf (Qbb p T))).map (ati (Qjj p (Qbb p T))),s.2.2.1++l.filterMap (remF p T),s.2.2.2++l.filter fun i=>lf (Qbb p T) i&&Qi1 p (Qbb p T) i)
 | [],s=>by simp
 | x::l,s=>by
  rw [List.foldl_cons,Qbj5 (l:=l)];unfold Q0x;cases h:lf (Qbb p T) x with
  | true =>
   cases h2:Qi1 p (Qbb p T) x<;>simp [List.filter_cons,List.filterMap_cons,h,h2,remF]
  | false=>simp [List.filter_cons,List.filterMap_cons,h,remF]
theorem Qbqr {p:Qa} {T:List Qb} {s:List Int×List Int×List Qb×List Int} {i:Int} {n:Nat} (h:s.1.length≤n∧s.2.1.length≤n∧s.2.2.1.length≤n∧s.2.2.2.length≤n) :
  (Q0x p T s i).1.length≤n+1∧(Q0x p T s i).2.1.length≤n+1∧(Q0x p T s i).2.2.1.length≤n+1∧(Q0x p T s i).2.2.2.length≤n+1:=by
 unfold Q0x;split
 ·refine ⟨?_,?_,?_,?_⟩
  ·simp;omega
  ·simp;omega
  ·simp;omega
  ·dsimp only;split
   ·simp;omega
   ·omega
 ·simp;omega
section
variable {p:Qa} (hp:RightP p)
include hp
theorem Qtc:Qdh p=some (resP p (solP p).1 (solP p).2,0):=by
 unfold Qdh Qv;obtain ⟨fuel,hfu,hge⟩ : ∃ f,Qch=f∧1099511627776≤f:=⟨_,rfl,Nat.le_refl _⟩;rw [hfu];have hst:=hp.a.st;have hnS:nS p≤4096:=by unfold nS;omega
 have hpl:=hp.small;have hfl:=hp.fo.small hst.2;have hT0:=Qbiv hp;rw [Qbf8 hpl,Qbkz.2 hp,Option.bind_some,if_neg (by simp),Qbov hp,Option.bind_some];rw [show (tsk p (Qbb p (T0 p))).left_=Qbb p (T0 p) from rfl,show (tsk p (Qbb p (T0 p))).zO=p from rfl,show (tsk p (Qbb p (T0 p))).from_=Qba1 p from rfl,Qgn];rw [show mkO ((nS p:Nat):Int) (Qb.mk 0 0 0 0)=some (List.replicate (nS p) zR) from by unfold mkO lim;rw [if_pos (by omega),Int.toNat_natCast]];rw [Option.bind_some];refine Option.bind_eq_some_iff.2 ⟨(r0 p,Q4l p (T0 p)),?_,?_⟩
 ·refine (Qeh (l:=p.zC) (fun i (s:Int×List Qb)=>(i,s.1,s.2)) (fun s x=>(1,s.2.set x.toNat ⟨x,1,1,-1⟩)) (fun _ s=>s.2.length=nS p) (fun s=>some s) hpl.2.1 hge (fun k n s hn hs=>?_) (fun n s hn hs=>by simp only [List.length_set];exact hs) (fun k s hs=>?_) (s0:=((0:Int),List.replicate (nS p) zR)) (by simp)).trans ?_
  ·have hr:=hp.fo.rg _ (List.getElem_mem hn);have hs:s.2.length=nS p:=hs;unfold nS at hs hnS ⊢;dsimp only;rw [if_pos (by omega),Qbt hn,Option.bind_some,Int.toNat_natCast,Qkv hr.1 (by omega),Option.bind_some,Qks hr.1 (by omega),Option.bind_some]
  ·dsimp only;rw [if_neg (by omega)]
  ·have e1:p.zC.foldl (fun (s:Int×List Qb) x=>((1:Int),s.2.set x.toNat (⟨x,1,1,-1⟩ : Qb))) (0,List.replicate (nS p) zR)=(p.zC.foldl (fun (_:Int) _=>(1:Int)) 0,p.zC.foldl (fun (c:List Qb) x=>c.set x.toNat ⟨x,1,1,-1⟩) (List.replicate (nS p) zR)):=Q96 (f:=fun _ _=>(1:Int)) (g:=fun (c:List Qb) (x:Int)=>c.set x.toNat ⟨x,1,1,-1⟩);rw [e1];congr 2
   ·unfold r0;cases p.zC with
    | nil=>rfl
    | cons x l =>
     rw [if_neg (by simp),List.foldl_cons];have:∀ l:List Int,l.foldl (fun (_:Int) _=>(1:Int)) 1=1:=fun l=>by induction l with|nil=>rfl|cons y l ih=>rw [List.foldl_cons,ih]
     exact this l
   ·unfold Q4l T0;rw [List.foldl_map]
 dsimp only;have hS:=Qbk3 hp hge (S:=solP p) (f:=nS p+1) rfl (by omega);have hSok:Okt p (solP p).1:=by
  have:∀ (f:Nat) (rank:Int) (T:List Qb) (r:Int),1≤rank→Okt p T→Okt p (Qse p f rank T r).1:=by
   intro f
   induction f with
   | zero=>intro rank T r _ h;exact h
   | succ f ih =>
    intro rank T r hr h;rw [Qse];split
    ·exact h
    ·exact ih _ _ _ (by omega) (h.round hr)
  exact this _ _ _ _ (by omega) hT0
 generalize solP p=S at hS hSok ⊢;obtain ⟨T,r⟩:=S;dsimp only at hS hSok ⊢;refine Option.bind_eq_some_iff.2 ⟨_,hS,?_⟩;dsimp only;have hlL:=Qgn p T;have hD:=(Qm4 hp (Qbb p T)).ln;rw [Q0w hlL];simp only [Option.bind_some];rw [show Qp.mk p (Qba1 p) (Qbb p T)=tsk p (Qbb p T) from rfl,Qbbi hp hlL,Option.bind_some,Qbr1 hp hlL];refine Option.bind_eq_some_iff.2 ⟨([],[],[],[],[],[],[],[],(resP p T r).zF.Kept,(resP p T r).zF.zG,(resP p T r).zF.zH,[],[],[],[],(resP p T r).zJ),?_,rfl⟩;refine (Qeh (l:=upto p.zA.zN) (fun i (s:List Int×List Int×List Qb×List Int)=>(i,[],[],[],[],[],[],[],[],s.1,s.2.1,s.2.2.1,[],[],[],[],s.2.2.2)) (Q0x p T) (fun n s=>s.1.length≤n∧s.2.1.length≤n∧s.2.2.1.length≤n∧s.2.2.2.length≤n) (fun s=>some ([],[],[],[],[],[],[],[],s.1,s.2.1,s.2.2.1,[],[],[],[],s.2.2.2)) (by rw [Qbr];unfold big;omega) hge (fun k n s hn hs=>?_) (fun n s hn hs=>Qbqr hs) (fun k s hs=>?_) (s0:=([],[],[],[])) (by simp)).trans ?_
 ·have hn':=Qiv hn;obtain ⟨a1,a2,a3,a4⟩:=hs;have hx:0≤(n:Int)∧(n:Int)<p.zA.zN:=⟨by omega,by omega⟩;have hlt:∀ {l:List Int} {x:Int},l.length≤n→appO l [x]=some (l++[x]):=fun h=>Qby (by simp only [List.length_cons,List.length_nil];unfold lim;omega);have hlr:∀ {l:List Qb} {x:Qb},l.length≤n→appO l [x]=some (l++[x]):=fun h=>Qby (by simp only [List.length_cons,List.length_nil];unfold lim;omega);dsimp only;rw [Qj6 hn,if_pos (by omega),Qm3 (d:=0) (l:=Qjj p (Qbb p T)) hx.1 (by omega),Option.bind_some];have hla:=Qgv hlL hx;rw [hlL] at hla;simp only [hla,Option.bind_some];unfold Q0x;cases hq:lf (Qbb p T) (n:Int) with
  | true =>
   simp only [if_true];rw [hlt a1,Option.bind_some,hlt a2,Option.bind_some,(Qba2 hx).1,Option.bind_some,(Qba2 hx).2,Option.bind_some];rw [Q4k (p:=fun y=>(y.Event==p.Tick) && !lf (Qbb p T) y.To) (fun y hy=>by
    have h1:=Qgv hlL (Qr9 hp y hy).1;unfold Qfd Qbh;rw [show (tsk p (Qbb p T)).left_=Qbb p T from rfl];simp only [h1,Option.bind_some];cases hq:y.Event==p.Tick<;>simp) (Q93 hp _),Option.bind_some,hlt a4]
   show ((if Qi1 p (Qbb p T) (n:Int)=true then _ else _:Option _).bind _)=_;cases Qi1 p (Qbb p T) (n:Int)<;>rfl
  | false =>
   simp only [Bool.false_eq_true,if_false];rw [Int.toNat_natCast,Qkv hx.1 (by unfold nS;omega),Option.bind_some,Qm3 (d:=zR) (l:=Q4l p T) hx.1 (by rw [Qbhu];unfold nS;omega),Option.bind_some,hlr a3]
   rfl
 ·dsimp only;rw [Qbr,if_neg (by omega)]
 ·rw [Qbj5];simp only [List.nil_append]
  rfl
end
end Go.Abs
end
section
namespace Go.Abs
open Go
theorem Qbdr {α β:Type} {c:α→Bool} {g:α→β}:∀ {l:List α} {acc:List β},l.foldl (fun acc x=>if c x then acc++[g x] else acc) acc=acc++(l.filter c).map g
 | [],acc=>by simp
 | x::l,acc=>by
  rw [List.foldl_cons,Qbdr (l:=l)];cases h:c x<;>simp [List.filter_cons,h]
section
variable {p:Qa} (hp:RightP p) {T:List Qb} (hT:Okt p T) (r:Int)
include hp
include hT
end
end Go.Abs
end
section
namespace Go.Abs
open Go
structure Qbiw (k:Qbj):Prop where
 ev:0≤k.Part.Events∧k.Part.Events<256
 gr:Qbni k.Part.Graph
 fo:0≤k.zC∧k.zC<256
 un:0≤k.zB∧k.zB<256
 fc:0≤k.zD∧k.zD<256
def evB4 (s:Nat):Bool:=match Qcg (andI .u8 (s:Int) 15) with
 | some l=>Qbng l&&l.all fun x=>decide (0≤x)&&decide (x<4)
 | none=>false
theorem Qbow:(List.range 256).all evB4=true:=by kernel_rfl
theorem Q4z {s:Int} (h0:0≤s) (h1:s<256):∃ l,Qcg (andI .u8 s 15)=some l∧SetP 32 l∧(4:Int)∉l∧l.length≤4∧∀ x∈l,x<4:=by
 have:=List.all_eq_true.1 Qbow s.toNat (List.mem_range.2 (by omega));unfold evB4 at this;rw [show ((s.toNat:Nat):Int)=s from by omega] at this;split at this
 ·rename_i l hl;simp only [Bool.and_eq_true,List.all_eq_true,decide_eq_true_eq] at this;have hso:=Qbdp this.1;refine ⟨l,hl,⟨fun x hx=>?_,hso⟩,fun hx=>?_,?_,fun x hx=>(this.2 x hx).2⟩
  ·have:=this.2 x hx;omega
  ·have:=this.2 4 hx;omega
  ·have:=Qiz hso this.2;omega
 ·cases this
def bitP (s i:Int):Bool:=andI .u8 (s.fdiv (2 ^ (min (Int.toNat i) (IntKind.bits .u8)))) 1==1
theorem Qbix {k:Qbj} (hk:Qbiw k):∃ p,Qg0 k=some p∧RightP p∧p.Tick=4∧p.zA.zN≤5∧(∀ x∈p.zA.zK,x<5)∧(∀ x∈p.zB,x<4)∧∀ x∈p.zD,x<4:=by
 unfold Qg0 Qcr;obtain ⟨fuel,hfu,hge⟩ : ∃ f,Qch=f∧1099511627776≤f:=⟨_,rfl,Nat.le_refl _⟩;obtain ⟨ev,hE,hev⟩:=Qbnh hk.ev.1 hk.ev.2;obtain ⟨m,hm,hmal,hM,hm5⟩:=Qbqn hev hk.gr;obtain ⟨un,hU,hun,hu4,_,hulb⟩:=Q4z hk.un.1 hk.un.2;obtain ⟨fc,hF,hfc,hf4,_,hflb⟩:=Q4z hk.fc.1 hk.fc.2;have ha:=Qbhm hm;have hal5:∀ x∈(Q01 m).zK,x<5:=fun x hx=>by
  rw [show (Q01 m).zK=m.zK from rfl,hmal] at hx;exact (hev.rg x hx).2
 have h5:(Q01 m).zN≤5:=by
  have:=(Qba0 hm).1.len;show ((Qvl m).length:Int)≤5;omega
 generalize Q01 m=a at ha hM h5 hal5;have hst:=ha.st;rw [hfu];refine ⟨⟨a,(upto a.zN).filter (bitP k.zC),un,fc,4⟩,Option.bind_eq_some_iff.2 ⟨ev,hE,Option.bind_eq_some_iff.2 ⟨a,hM,Option.bind_eq_some_iff.2 ⟨un,hU,Option.bind_eq_some_iff.2 ⟨fc,hF,?_⟩⟩⟩⟩,⟨ha,⟨fun x hx=>?_,(Qur _).filter _⟩,hun,hfc,by simp only;omega,hu4,hf4⟩,rfl,h5,hal5,hulb,hflb⟩
 ·refine Option.bind_eq_some_iff.2 ⟨([],[],[],[],[],[],(upto a.zN).filter (bitP k.zC)),?_,rfl⟩;refine (Qeh (l:=upto a.zN) (fun i (acc:List Int)=>(i,[],[],[],[],[],[],acc)) (fun acc i=>if bitP k.zC i then acc++[i] else acc) (fun n acc=>acc.length≤n) (fun acc=>some ([],[],[],[],[],[],acc)) (by rw [Qbr];unfold big;omega) hge (fun k' n acc hn ha'=>?_) (fun n acc hn ha'=>by split<;>first|(simp only [List.length_append,List.length_cons,List.length_nil];omega)|omega) (fun k' acc ha'=>?_) (s0:=[]) (by simp)).trans ?_
  ·have hn':=Qiv hn;dsimp only;rw [Qj6 hn,if_pos (by omega)];rw [show shrO .u8 k.zC (n:Int)=some (k.zC.fdiv (2 ^ (min (Int.toNat (n:Int)) (IntKind.bits .u8)))) from by unfold shrO;rw [if_neg (by omega)]];rw [Option.bind_some,Qby (by simp only [List.length_cons,List.length_nil];unfold lim;omega)];show ((if bitP k.zC (n:Int)=true then _ else _:Option _).bind _)=_;cases bitP k.zC (n:Int)<;>rfl
  ·dsimp only;rw [Qbr,if_neg (by omega)]
  ·have:=Qbdr (c:=bitP k.zC) (g:=id) (l:=upto a.zN) (acc:=([]:List Int));rw [List.map_id,List.nil_append] at this;exact congrArg (fun z=>some (([]:List Int),([]:List Int),([]:List Qc),([]:List Int),([]:List Int),([]:List Int),z)) this
 ·exact Qi0.1 (List.mem_filter.1 hx).1
section
variable {p:Qa} (hp:RightP p)
include hp
end
theorem Qbnv {a b:List Int} (h:a.length<big):Qku a b=some (decide (a=b)):=by
 unfold Qku Qds;rw [Qbnl h];rfl
end Go.Abs
end
section
namespace Go.Proofs
open Go Go.Abs
theorem Qbk4 {x:Int} (h:wfI .u8 x):0≤x∧x<256:=by
 unfold wfI at h;simp [Lit.wf,IntKind.min,IntKind.max,IntKind.bits,IntKind.signed] at h;omega
theorem Qbox {g:Qb8} (h:W_26 g):Qbni g:=by
 unfold W_26 W_24 W_23 W_5 at h;obtain ⟨h1,h2,⟨a1,a2,a3,a4,a5⟩,⟨b1,b2,b3,b4,b5⟩,⟨c1,c2,c3,c4,c5⟩,⟨d1,d2,d3,d4,d5⟩,⟨e1,e2,e3,e4,e5⟩⟩:=h;refine ⟨Qbk4 h1,fun x hx=>?_⟩;simp only [List.mem_cons,List.not_mem_nil,or_false] at hx;rcases hx with rfl|rfl|rfl|rfl|rfl|rfl|rfl|rfl|rfl|rfl|rfl|rfl|rfl|rfl|rfl|rfl|rfl|rfl|rfl|rfl|rfl|rfl|rfl|rfl|rfl<;>exact Qbk4 (by assumption)
theorem Qbr2 {k:Qbj} (h:W_30 k):Qbiw k :=
 ⟨Qbk4 h.1.1,Qbox h.1.2,Qbk4 h.2.1,Qbk4 h.2.2.1,Qbk4 h.2.2.2⟩
end Go.Proofs
end
section
namespace Go.Abs
open Go
theorem Qboy {l m:List Int} (hl:l.Pairwise (· < ·)) (hm:m.Pairwise (· < ·)) (h1:l.length<big) (h2:m.length<1000000):Qj4 l m=some (l.filter fun x=>decide (x∉m)):=by
 unfold Qj4 Qd1 Qge Qb3;obtain ⟨fuel,hfu,hge⟩ : ∃ f,Qch=f∧1099511627776≤f:=⟨_,rfl,Nat.le_refl _⟩;rw [hfu];have hg:∀ (x:Int) (l:List Int),getO (x::l) 0=some x:=fun x l=>Qbt (l:=x::l) (n:=0) (by simp);have hd:∀ (x:Int) (l:List Int),slcO (x::l) 1 ((x::l).length:Int)=some l:=fun x l=>by
  have:=Qbjv (l:=x::l) (i:=1) (j:=(x::l).length) (by simp) (by simp);rw [List.take_length] at this;exact this
 have hk:∀ p q,Qmx p q=some (p && !q):=fun p q=>by cases p<;>cases q<;>rfl
 rw [Q9z (fun x:List Int×List Int×List Int=>x.1.Pairwise (· < ·)∧x.2.1.Pairwise (· < ·)∧x.2.2.length+x.1.length<big∧x.2.2++x.1.filter (fun z=>decide (z∉x.2.1))=l.filter fun z=>decide (z∉m)) (fun x=>x.1.length+x.2.1.length) (some (l.filter fun z=>decide (z∉m))) ⟨hl,hm,by simpa using h1,by simp⟩ (by unfold big at h1;dsimp only;omega) ?_]
 ·rfl
 rintro k ⟨a,b,out⟩ ⟨ha,hb,ho,he⟩ ih;dsimp only at ha hb ho he ih ⊢
 match a,b with
 | [],[]=>simpa using he
 | [],y::ys =>
  rw [show ((([]:List Int).length:Nat):Int)=0 from rfl];have hp:(((y::ys).length:Nat):Int)>0:=by simp only [List.length_cons];omega
  rw [if_neg (by omega),Option.bind_some,if_pos (by simp)];rw [if_neg (by omega),Option.bind_some,if_pos hp,if_pos (by rfl),Option.bind_some,if_neg (by simp),Option.bind_some,if_pos rfl,hg,hd];simp only [Option.bind_some,hk,Bool.false_and,Bool.false_eq_true,if_false];exact ih ([],ys,out) ⟨ha,(List.pairwise_cons.1 hb).2,ho,by simpa using he⟩ (by simp)
 | x::xs,[] =>
  rw [show ((([]:List Int).length:Nat):Int)=0 from rfl];have hp:(((x::xs).length:Nat):Int)>0:=by simp only [List.length_cons];omega
  rw [if_pos hp,Option.bind_some,if_pos rfl,if_pos hp,if_pos (by rfl),Option.bind_some,if_neg (by omega),Option.bind_some,if_pos rfl,hg,hd];simp only [Option.bind_some,hk,Bool.true_and,Bool.not_false,Bool.false_eq_true,if_false,if_true];simp only [List.length_cons] at ho;rw [Qby (by simp only [List.length_cons,List.length_nil];unfold lim;unfold big at ho;omega),Option.bind_some];exact ih (xs,[],out++[x]) ⟨(List.pairwise_cons.1 ha).2,hb,by simp only [List.length_append,List.length_cons,List.length_nil];omega,by simpa using he⟩ (by simp)
 | x::xs,y::ys =>
  obtain ⟨ha1,ha2⟩:=List.pairwise_cons.1 ha;obtain ⟨hb1,hb2⟩:=List.pairwise_cons.1 hb;have hp:(((x::xs).length:Nat):Int)>0:=by simp only [List.length_cons];omega
  have hq:(((y::ys).length:Nat):Int)>0:=by simp only [List.length_cons];omega
  have hp0:((((x::xs).length:Nat):Int)==0)=false:=by simp only [beq_eq_false_iff_ne];omega
  have hq0:((((y::ys).length:Nat):Int)==0)=false:=by simp only [beq_eq_false_iff_ne];omega
  rw [if_pos hp,Option.bind_some,if_pos rfl,if_pos hp,if_neg (by rw [hq0];simp),hg,hg,Option.bind_some,Option.bind_some,Option.bind_some,if_pos hq,if_neg (by rw [hp0];simp),Option.bind_some,Option.bind_some,Option.bind_some,hd,hd];simp only [List.length_cons] at ho;rcases Int.lt_trichotomy x y with hxy|rfl|hxy
  ·have e1:decide (x≤y)=true:=decide_eq_true (by omega);have e2:decide (y≤x)=false:=decide_eq_false (by omega);simp only [e1,e2,Option.bind_some,hk,Bool.not_false,Bool.true_and,if_true,Bool.false_eq_true,if_false];rw [Qby (by simp only [List.length_cons,List.length_nil];unfold lim;unfold big at ho;omega),Option.bind_some];have:x∉y::ys:=fun hm=>by
    rcases List.mem_cons.1 hm with rfl|hm
    ·omega
    ·have:=hb1 _ hm;omega
   rw [List.filter_cons_of_pos (by simpa using this)] at he;exact ih (xs,y::ys,out++[x]) ⟨ha2,hb,by simp only [List.length_append,List.length_cons,List.length_nil];omega,by rw [← he];simp⟩ (by simp)
  ·have e1:decide (x≤x)=true:=decide_eq_true (by omega);simp only [e1,Option.bind_some,hk,Bool.not_true,Bool.and_false,if_true,Bool.false_eq_true,if_false];rw [List.filter_cons_of_neg (by simp)] at he;refine ih (xs,ys,out) ⟨ha2,hb2,by simp only;omega,?_⟩ (by simp;omega);rw [← he];congr 1;refine List.filter_congr fun z hz=>?_;have:=ha1 z hz;have hne:z≠x:=by omega
   simp [hne]
  ·have e1:decide (x≤y)=false:=decide_eq_false (by omega);have e2:decide (y≤x)=true:=decide_eq_true (by omega);simp only [e1,e2,Option.bind_some,hk,Bool.false_and,if_true,Bool.false_eq_true,if_false];refine ih (x::xs,ys,out) ⟨ha,hb2,by simp only [List.length_cons];omega,?_⟩ (by simp);rw [← he];congr 1;refine List.filter_congr fun z hz=>?_;have hne:z≠y:=by
    rcases List.mem_cons.1 hz with rfl|hz
    ·omega
    ·have:=ha1 z hz;omega
   simp [hne]
theorem Qbhv {l m:List Int} (hl:l.Pairwise (· < ·)) (hm:m.Pairwise (· < ·)) (h1:l.length<big) (h2:m.length<1000000):Qfo l m=some (decide (∀ x∈l,x∈m)):=by
 unfold Qfo Qc5;rw [Qboy hl hm h1 h2,Option.bind_some];congr 1;rw [Bool.eq_iff_iff];simp only [beq_iff_eq,decide_eq_true_eq];constructor
 ·intro h x hx;have:l.filter (fun x=>decide (x∉m))=[]:=List.eq_nil_of_length_eq_zero (by omega);have:=List.filter_eq_nil_iff.1 this x hx;simpa using this
 ·intro h;have:l.filter (fun x=>decide (x∉m))=[]:=List.filter_eq_nil_iff.2 fun x hx=>by simpa using h x hx
  rw [this];rfl
def rowL (p:Qa) (l:List Int):List Bool:=(upto p.zA.zN).map fun i=>decide (i∈l)
theorem Qbf9 (p:Qa) (l:List Int):(rowL p l).length=nS p:=by unfold rowL;rw [List.length_map,Qbr]
theorem Qbga {p:Qa} {l:List Int} {x:Int} (h0:0≤x) (h1:x<p.zA.zN):lf (rowL p l) x=decide (x∈l):=Qo1 h0 h1
def okS (p:Qa) (L:List Bool) (i:Int):Bool:=((escP p L i).1==0)&&(!decide (i∈p.zC)&&decide (0≤ati (Qjj p L) i))
section
variable {p:Qa} (hp:RightP p)
include hp
def SubL (p:Qa) (L L' : List Bool):Prop:=∀ i,0≤i→i<p.zA.zN→lf L i=true→lf L' i=true
theorem Qboz {L L' : List Bool} (h:SubL p L L') {i:Int} (he:(escP p L i).1=0):(escP p L' i).1=0:=by
 unfold escP at he ⊢;cases hf:(outP p.zA i).find? (fun y=>!lf L y.To&&decide (y.Event∈p.zB)) with
 | some y=>rw [hf] at he;simp at he
 | none =>
  rw [hf] at he;rw [List.find?_eq_none] at hf;have hf' : (outP p.zA i).find? (fun y=>!lf L' y.To&&decide (y.Event∈p.zB))=none:=by
   rw [List.find?_eq_none];intro y hy hq;have hr:=(Qr9 hp y hy).1;simp only [Bool.and_eq_true,Bool.not_eq_true',decide_eq_true_eq] at hq;refine hf y hy ?_;simp only [Bool.and_eq_true,Bool.not_eq_true',decide_eq_true_eq];refine ⟨?_,hq.2⟩;cases hl:lf L y.To with
   | false=>rfl
   | true=>rw [h y.To hr.1 hr.2 hl] at hq;exact hq.1
  rw [hf'];dsimp only at he ⊢;have ht:Qi1 p L' i=true→Qi1 p L i=true:=by
   unfold Qi1;rw [List.any_eq_true,List.any_eq_true];rintro ⟨y,hy,hq⟩;have hr:=(Qr9 hp y hy).1;refine ⟨y,hy,?_⟩;simp only [Bool.and_eq_true,Bool.not_eq_true'] at hq ⊢;refine ⟨hq.1,?_⟩;cases hl:lf L y.To with
   | false=>rfl
   | true=>rw [h y.To hr.1 hr.2 hl] at hq;exact hq.2
  have hfo:Qut p L i=true→Qut p L' i=true:=by
   unfold Qut;rw [List.any_eq_true,List.any_eq_true];rintro ⟨y,hy,hq⟩;have hr:=(Qr9 hp y hy).1;simp only [Bool.and_eq_true] at hq;exact ⟨y,hy,by simp only [Bool.and_eq_true];exact ⟨h y.To hr.1 hr.2 hq.1,hq.2⟩⟩
  cases h1:Qi1 p L' i with
  | false=>simp
  | true =>
   rw [ht h1] at he;cases h2:Qut p L i with
   | true=>rw [hfo h2];simp
   | false=>rw [h2] at he;simp at he
theorem Qbnw {L L' : List Bool} (h:SubL p L L') {i:Int} (h0:0≤i) (h1:i<p.zA.zN) (hd:0≤ati (Qjj p L) i):0≤ati (Qjj p L') i:=by
 have D:=Qm4 hp L;have D':=Qm4 hp L';have key:∀ (v:Nat) (i:Int),0≤i→i<p.zA.zN→ati (Qjj p L) i=v→0≤ati (Qjj p L') i:=by
  intro v
  induction v with
  | zero =>
   intro i h0 h1 hv;obtain ⟨k1,k2⟩:=(D.z i h0 h1).1 (by omega);have:=(D'.z i h0 h1).2 ⟨h i h0 h1 k1,k2⟩;omega
  | succ v ih =>
   intro i h0 h1 hv;obtain ⟨e,he,k1,k2,k3⟩:=D.ps i h0 h1 (by omega);have hr:=hp.a.ed0 e he;have k4:=ih e.To hr.2.2.1 hr.2.2.2.1 (by omega);have k5:=D.lv i h0 h1 (by omega);have k6:=D'.bound hp L' hr.2.2.1 hr.2.2.2.1;have:=D'.cl e he (by rw [k1];exact h i h0 h1 k5) k4 k6;rw [k1] at this;exact this
 exact key (ati (Qjj p L) i).toNat i h0 h1 (by omega)
theorem Qbk5 {L:List Bool} (hok:∀ i,0≤i→i<p.zA.zN→lf L i=true→okS p L i=true) {T:List Qb} (hT:Okt p T) (h:SubL p L (Qbb p T)) {rank:Int} (hr:1≤rank):SubL p L (Qbb p (T++Qhf p (Qbb p T) rank)):=by
 intro i h0 h1 hl;have hT':=hT.round hr;have k0:=h i h0 h1 hl;rw [Q4x hT.rg h0 h1] at k0;rw [Q4x hT'.rg h0 h1];simp only [Bool.not_eq_true',List.any_eq_false] at k0 ⊢;intro x hx;rcases List.mem_append.1 hx with hx|hx
 ·exact k0 x hx
 ·intro hb;have hq:x.State=i:=by simpa using hb
  clear hb;have hk:=hok i h0 h1 hl;unfold okS at hk;simp only [Bool.and_eq_true,beq_iff_eq,decide_eq_true_eq] at hk;have e1:=Qboz hp h hk.1;have e2:=Qbnw hp h h0 h1 hk.2.2;unfold Qhf at hx;split at hx
  ·obtain ⟨j,hj,hz⟩:=List.mem_filterMap.1 hx;unfold remE at hz;by_cases hc:(lf (Qbb p T) j&&((escP p (Qbb p T) j).1 != 0))=true
   ·rw [if_pos hc] at hz;cases hz;have hq:j=i:=hq;subst hq;simp only [Bool.and_eq_true,bne_iff_ne] at hc;exact hc.2 e1
   ·rw [if_neg hc] at hz;cases hz
  ·obtain ⟨j,hj,hz⟩:=List.mem_filterMap.1 hx;unfold remB at hz;by_cases hc:(lf (Qbb p T) j&&decide (ati (Qjj p (Qbb p T)) j<0))=true
   ·rw [if_pos hc] at hz;cases hz;have hq:j=i:=hq;subst hq;simp only [Bool.and_eq_true,decide_eq_true_eq] at hc;omega
   ·rw [if_neg hc] at hz;cases hz
theorem Qbe3 {L:List Bool} (hok:∀ i,0≤i→i<p.zA.zN→lf L i=true→okS p L i=true):∀ {f:Nat} {rank:Int} {T:List Qb} {r:Int},Okt p T→SubL p L (Qbb p T)→1≤rank→SubL p L (Qbb p (Qse p f rank T r).1)
 | 0,_,_,_,_,h,_=>h
 | f+1,rank,T,r,hT,h,hr=>by
  rw [Qse];split
  ·exact h
  ·exact Qbe3 hok (hT.round hr) (Qbk5 hp hok hT h hr) (by omega)
theorem Qbe4:∀ {f:Nat} {rank:Int} {T:List Qb} {r:Int},Okt p T→nS p+1≤f+T.length→1≤rank→Okt p (Qse p f rank T r).1∧(∃ rk,Qhf p (Qbb p (Qse p f rank T r).1) rk=[])∧T <+: (Qse p f rank T r).1
 | 0,rank,T,r,hT,hf,_=>absurd hT.len (by omega)
 | f+1,rank,T,r,hT,hf,hr=>by
  rw [Qse];split
  ·rename_i he;exact ⟨hT,⟨rank,he⟩,List.prefix_refl _⟩
  ·rename_i he;have hpos:0<(Qhf p (Qbb p T) rank).length:=List.length_pos_iff.2 he;obtain ⟨h1,h2,h3⟩:=Qbe4 (f:=f) (rank:=rank+1) (T:=T++Qhf p (Qbb p T) rank) (r:=rank) (hT.round hr) (by rw [List.length_append];omega) (by omega);exact ⟨h1,h2,List.IsPrefix.trans (List.prefix_append _ _) h3⟩
theorem Qbj6:Okt p (solP p).1∧(∃ rk,Qhf p (Qbb p (solP p).1) rk=[])∧T0 p <+: (solP p).1:=Qbe4 hp (Qbiv hp) (by omega) (by omega)
theorem Qbo0 {i:Int} (h0:0≤i) (h1:i<p.zA.zN) (hl:lf (Qbb p (solP p).1) i=true):okS p (Qbb p (solP p).1) i=true:=by
 obtain ⟨hT,⟨rk,hrk⟩,hpre⟩:=Qbj6 hp;generalize (solP p).1=T at hT hrk hpre hl ⊢;have hfor:i∉p.zC:=fun hm=>by
  have:(⟨i,1,1,-1⟩ : Qb)∈T:=hpre.subset (List.mem_map.2 ⟨i,hm,rfl⟩);rw [Q4x hT.rg h0 h1] at hl;simp only [Bool.not_eq_true',List.any_eq_false] at hl;exact hl _ this (by simp)
 unfold Qhf at hrk;split at hrk
 ·rename_i hE;rw [hrk] at hE;simp at hE
 ·rename_i hE;have hE' : Q6z p (Qbb p T) rk=[]:=List.eq_nil_of_length_eq_zero (by omega);have e1:=List.filterMap_eq_nil_iff.1 hE' i (Qi0.2 ⟨h0,h1⟩);have e2:=List.filterMap_eq_nil_iff.1 hrk i (Qi0.2 ⟨h0,h1⟩);unfold remE at e1;unfold remB at e2;rw [hl] at e1 e2;unfold okS;simp only [Bool.true_and] at e1 e2;split at e1
  ·cases e1
  ·rename_i q1;split at e2
   ·cases e2
   ·rename_i q2;simp only [bne_iff_ne,ne_eq,Decidable.not_not] at q1;simp only [decide_eq_true_eq] at q2;have:0≤ati (Qjj p (Qbb p T)) i:=by omega
    simp [q1,hfor,this]
end
end Go.Abs
end
section
namespace Go.Abs
open Go
def Qbhw (p:Qa):List (Int×List Int):=p.zA.zM.foldl (fun m x=>setM m x.To (getM m x.To []++[x.From])) []
def spr (p:Qa) (L:List Bool):Q2:=⟨p.zA,p.zB,Qbhw p,L⟩
theorem Qbhx {y:Int}:∀ {l:List Qc} {m:List (Int×List Int)},getM (l.foldl (fun m x=>setM m x.To (getM m x.To []++[x.From])) m) y []=getM m y []++(l.filter fun x=>x.To==y).map (·.From)
 | [],m=>by simp
 | x::l,m=>by
  rw [List.foldl_cons,Qbhx (l:=l),Q97];by_cases h:y=x.To
  ·subst h;simp
  ·rw [if_neg h];have:(x.To==y)=false:=by rw [beq_eq_false_iff_ne];exact fun e=>h e.symm
   simp [this]
theorem Qbqs (p:Qa) (y:Int):getM (Qbhw p) y []=(p.zA.zM.filter fun x=>x.To==y).map (·.From):=by
 unfold Qbhw;rw [Qbhx];simp [getM]
theorem Qbe5 {k:Int}:∀ {l:List Qc},l.Pairwise (fun a b=>a.From≤b.From)→l.filter (fun x=>decide (x.From<k+1))=l.filter (fun x=>decide (x.From<k))++l.filter fun x=>x.From==k
 | [],_=>rfl
 | x::l,h=>by
  obtain ⟨h1,h2⟩:=List.pairwise_cons.1 h;have ih:=Qbe5 (k:=k) h2;simp only [List.filter_cons];by_cases c1:x.From<k
  ·have c2:x.From<k+1:=by omega
   have c3:(x.From==k)=false:=by rw [beq_eq_false_iff_ne];omega
   simp [c1,c2,c3,ih]
  ·have e1:l.filter (fun x=>decide (x.From<k))=[]:=List.filter_eq_nil_iff.2 fun y hy=>by have:=h1 y hy;simp;omega
   rw [e1,List.nil_append] at ih;by_cases c2:x.From=k
   ·have c3:x.From<k+1:=by omega
    simp [c1,c2,e1,ih];omega
   ·have c3:¬ x.From<k+1:=by omega
    have c4:(x.From==k)=false:=by rw [beq_eq_false_iff_ne];exact c2
    simp [c1,c3,c4,e1,ih]
theorem Qbk6 {a:Qe} (h:Right a):a.zM=(upto a.zN).flatMap (outP a):=by
 have hs:a.zM.Pairwise (fun a b=>a.From≤b.From):=h.ed.imp fun h=>by unfold Qta at h;omega
 have key:∀ k:Nat,a.zM.filter (fun x=>decide (x.From<(k:Int)))=((List.range k).map fun (i:Nat)=>(i:Int)).flatMap (outP a):=by
  intro k
  induction k with
  | zero =>
   refine List.filter_eq_nil_iff.2 fun y hy=>?_;have:=(h.ed0 y hy).1;simp;omega
  | succ k ih =>
   rw [show ((k+1:Nat):Int)=(k:Int)+1 from by omega,Qbe5 hs,ih,List.range_succ,List.map_append,List.flatMap_append];simp [outP]
 have:=key a.zN.toNat;unfold upto;rw [← this];refine (List.filter_eq_self.2 fun y hy=>?_).symm;have:=h.ed0 y hy;have:=h.st;simp;omega
def Qho (p:Qa) (L:List Bool) (rank:Int) (acc:List Qb) (x:Qc):List Qb :=
 if (lf L x.From&&(!lf L x.To&&decide (x.Event∈p.zB))) && !(acc.getLast?.any fun r=>r.State==x.From) then acc++[⟨x.From,rank,2,x.Event⟩] else acc
section
variable {p:Qa} {L:List Bool} {rank:Int}
theorem Qbhy {i:Int}:∀ {l:List Qc} {acc:List Qb},(∀ x∈l,x.From=i)→(acc.getLast?.any fun r=>r.State==i)=true→l.foldl (Qho p L rank) acc=acc
 | [],_,_,_=>rfl
 | x::l,acc,h,h1=>by
  have hx:=h x (by simp);have e:Qho p L rank acc x=acc:=by unfold Qho;rw [hx,h1];simp
  rw [List.foldl_cons,e];exact Qbhy (fun y hy=>h y (by simp [hy])) h1
theorem Qbgb {i:Int}:∀ {l:List Qc} {acc:List Qb},(∀ x∈l,x.From=i)→(acc.getLast?.any fun r=>r.State==i)=false →
  l.foldl (Qho p L rank) acc=acc++(if lf L i then (match l.find? (fun y=>!lf L y.To&&decide (y.Event∈p.zB)) with|some y=>[⟨i,rank,2,y.Event⟩]|none=>[]) else [])
 | [],acc,_,_=>by simp
 | x::l,acc,h,h1=>by
  have hx:=h x (by simp);have hl:∀ y∈l,y.From=i:=fun y hy=>h y (by simp [hy]);rw [List.foldl_cons,List.find?_cons];by_cases hi:lf L i=true
  ·by_cases hb:(!lf L x.To&&decide (x.Event∈p.zB))=true
   ·have e:Qho p L rank acc x=acc++[⟨i,rank,2,x.Event⟩]:=by unfold Qho;rw [hx,h1,hi,hb];rfl
    rw [e,Qbhy hl (by simp),if_pos hi,hb]
   ·have hb':=Bool.eq_false_iff.2 hb;have e:Qho p L rank acc x=acc:=by unfold Qho;rw [hb'];simp
    rw [e,Qbgb hl h1,if_pos hi,if_pos hi,hb']
  ·have hi':=Bool.eq_false_iff.2 hi;have e:Qho p L rank acc x=acc:=by unfold Qho;rw [hx,hi'];simp
   rw [e,Qbgb hl h1,if_neg hi,if_neg hi]
theorem Qbqt (hnt:∀ e∈p.zA.zM,e.Event≠p.Tick) (i:Int) :
  (remE p L rank i).toList=if lf L i then (match (outP p.zA i).find? (fun y=>!lf L y.To&&decide (y.Event∈p.zB)) with|some y=>[⟨i,rank,2,y.Event⟩]|none=>[]) else []:=by
 have ht:Qi1 p L i=false:=by
  unfold Qi1;rw [List.any_eq_false];intro y hy;have:=hnt y (List.mem_filter.1 hy).1;simp [this]
 unfold remE escP;rw [ht];cases lf L i with
 | false=>rfl
 | true=>cases (outP p.zA i).find? (fun y=>!lf L y.To&&decide (y.Event∈p.zB))<;>rfl
theorem Qbk7 {i:Int} {r:Qb} (h:r∈(remE p L rank i).toList):r.State=i:=by
 unfold remE at h;split at h
 ·simp at h;subst h;rfl
 ·cases h
theorem Qbhz (hnt:∀ e∈p.zA.zM,e.Event≠p.Tick):∀ {l:List Int} {acc:List Qb},l.Pairwise (· < ·)→(∀ r∈acc,∀ i∈l,r.State<i) →
  l.foldl (fun acc i=>(outP p.zA i).foldl (Qho p L rank) acc) acc=acc++l.filterMap (remE p L rank)
 | [],acc,_,_=>by simp
 | i::l,acc,hl,ha=>by
  obtain ⟨h1,h2⟩:=List.pairwise_cons.1 hl;have hlast:(acc.getLast?.any fun r=>r.State==i)=false:=by
   cases hq:acc.getLast? with
   | none=>rfl
   | some r =>
    have:=ha r (List.mem_of_getLast? hq) i (by simp);simp;omega
  rw [List.foldl_cons,Qbgb (fun x hx=>by simpa using (List.mem_filter.1 hx).2) hlast,← Qbqt hnt,Qbhz hnt h2 (fun r hr j hj=>?_),List.filterMap_cons]
  ·cases remE p L rank i<;>simp
  ·rcases List.mem_append.1 hr with hr|hr
   ·exact ha r hr j (by simp [hj])
   ·rw [Qbk7 hr];exact h1 j hj
theorem Qbo1 (hp:RightP p) (hnt:∀ e∈p.zA.zM,e.Event≠p.Tick):p.zA.zM.foldl (Qho p L rank) []=Q6z p L rank:=by
 conv=>lhs;rw [Qbk6 hp.a]
 rw [List.foldl_flatMap,Qbhz hnt (Qur _) (fun r hr=>by cases hr)]
 rfl
end
section
variable {p:Qa} (hp:RightP p)
include hp
theorem Qbo2:Qiy p.zA p.zC p.zB=some (spr p (Qbb p (T0 p))):=by
 unfold Qiy Qdo;obtain ⟨fuel,hfu,hge⟩ : ∃ f,Qch=f∧1099511627776≤f:=⟨_,rfl,Nat.le_refl _⟩;rw [hfu];have hst:=hp.a.st;have hsm:=hp.a.small;have hpl:=hp.small;have hnS:nS p≤4096:=by unfold nS;omega
 rw [show mkO p.zA.zN false=some (List.replicate (nS p) false) from by unfold mkO lim;rw [if_pos (by omega)],Option.bind_some];refine Option.bind_eq_some_iff.2 ⟨List.replicate (nS p) true,?_,?_⟩
 ·refine (Qeh (l:=upto p.zA.zN) (fun i (c:List Bool)=>(i,c)) (fun c i=>c.set i.toNat true) (fun _ c=>c.length=nS p) (fun c=>some c) (by rw [Qbr];unfold big;omega) hge (fun k n s hn hs=>?_) (fun n s hn hs=>by rw [List.length_set];exact hs) (fun k s hs=>?_) (s0:=List.replicate (nS p) false) (by simp)).trans ?_
  ·have hn':=Qiv hn;dsimp only;rw [Qj6 hn,if_pos (by omega),Qkv (by omega) (by omega),Option.bind_some,Qks (by omega) (by unfold nS at hs;omega),Option.bind_some]
  ·dsimp only;rw [Qbr,if_neg (by omega)]
  ·rw [Q92 (f:=fun _=>true) (by simp),List.map_const',Qbr]
 refine Option.bind_eq_some_iff.2 ⟨Qbb p (T0 p),?_,?_⟩
 ·refine (Qeh (l:=p.zC) (fun i (c:List Bool)=>(i,c)) (fun c x=>c.set x.toNat false) (fun _ c=>c.length=nS p) (fun c=>some c) hpl.2.1 hge (fun k n s hn hs=>?_) (fun n s hn hs=>by rw [List.length_set];exact hs) (fun k s hs=>?_) (s0:=List.replicate (nS p) true) (by simp)).trans ?_
  ·have hr:=hp.fo.rg _ (List.getElem_mem hn);dsimp only;rw [if_pos (by omega),Qbt hn,Option.bind_some,Qkv hr.1 (by omega),Option.bind_some,Qks hr.1 (by unfold nS at hs;omega),Option.bind_some]
  ·dsimp only;rw [if_neg (by omega)]
  ·unfold Qbb T0;rw [List.foldl_map]
 refine Option.bind_eq_some_iff.2 ⟨Qbhw p,?_,?_⟩
 ·refine (Qeh (l:=p.zA.zM) (fun i (c:List (Int×List Int))=>(i,c)) (fun m x=>setM m x.To (getM m x.To []++[x.From])) (fun n c=>∀ y,(getM c y []).length≤n) (fun c=>some c) hsm.1.2.2 hge (fun k n s hn hs=>?_) (fun n s hn hs y=>?_) (fun k s hs=>?_) (s0:=[]) (fun y=>by simp [getM])).trans rfl
  ·have h1:=hs p.zA.zM[n].To;have h2:=hsm.2.2.2;dsimp only;rw [if_pos (by omega),Qbt hn,Option.bind_some,Qby (by simp only [List.length_cons,List.length_nil];unfold lim;omega),Option.bind_some]
  ·rw [Q97];split
   ·have:=hs p.zA.zM[n].To;simp only [List.length_append,List.length_cons,List.length_nil];omega
   ·have:=hs y;omega
  ·dsimp only;rw [if_neg (by omega)]
 rw [Q0w (by rw [Qgn]),Option.bind_some]
 rfl
theorem Qbqu {L:List Bool} (hL:L.length=nS p) (hnt:∀ e∈p.zA.zM,e.Event≠p.Tick) (rank:Int):Qe6 (spr p L) rank=some (Q6z p L rank):=by
 unfold Qe6 Qb1;obtain ⟨fuel,hfu,hge⟩ : ∃ f,Qch=f∧1099511627776≤f:=⟨_,rfl,Nat.le_refl _⟩;rw [hfu,show (spr p L).left_=L from rfl,show (spr p L).zA=p.zA from rfl,show (spr p L).uncontrollable_=p.zB from rfl];have hsm:=hp.a.small;have hpl:=hp.small;refine Option.bind_eq_some_iff.2 ⟨Q6z p L rank,?_,rfl⟩;rw [← Qbo1 hp hnt];refine Qeh (l:=p.zA.zM) (fun i (acc:List Qb)=>(acc,i)) (Qho p L rank) (fun n acc=>acc.length≤n) (fun acc=>some acc) hsm.1.2.2 hge (fun k n s hn hs=>?_) (fun n s hn hs=>?_) (fun k s hs=>?_) (s0:=[]) (Nat.le_refl _)
 ·have hr:=hp.a.ed0 _ (List.getElem_mem hn);have h2:=hsm.2.2.2;dsimp only;rw [if_pos (by omega),Qbt hn];generalize p.zA.zM[n]=x at hr;obtain ⟨r1,r2,r3,r4,r5⟩:=hr;simp only [Option.bind_some,Qgv hL (p:=p) ⟨r1,r2⟩,Qgv hL (p:=p) ⟨r3,r4⟩];have happ:appO s [(⟨x.From,rank,2,x.Event⟩ : Qb)]=some (s++[⟨x.From,rank,2,x.Event⟩]):=Qby (by simp only [List.length_cons,List.length_nil];unfold lim;omega);have hlast:(if ((s.length:Int)>0) then ((getO s (IntKind.wrap .i64 ((s.length:Int)-1))).bind fun x30=>some (x30.State==x.From)) else some false)=some (s.getLast?.any fun r=>r.State==x.From):=by
   by_cases hz:s.length=0
   ·have:s=[]:=List.eq_nil_of_length_eq_zero hz;subst this;rfl
   ·rw [if_pos (by omega),Qm0 (by omega) (by omega),show (s.length:Int)-1=((s.length-1:Nat):Int) from by omega,Qbt (by omega),Option.bind_some,List.getLast?_eq_getElem?,List.getElem?_eq_getElem (by omega)]
    rfl
  rw [happ,hlast];have hcon:Qdf p.zB x.Event=some (decide (x.Event∈p.zB)):=Q8i hpl.2.2.1;rw [hcon];unfold Qho;cases lf L x.From<;>cases lf L x.To<;>cases decide (x.Event∈p.zB)<;>cases (s.getLast?.any fun r=>r.State==x.From)<;>rfl
 ·unfold Qho;split
  ·simp only [List.length_append,List.length_cons,List.length_nil];omega
  ·omega
 ·dsimp only;rw [if_neg (by omega)]
end
end Go.Abs
end
section
namespace Go.Abs
open Go
inductive CoR (p:Qa) (L:List Bool):Int→Prop where
 | mk (y:Int) (h1:lf L y=true) (h2:y∈p.zA.zL):CoR p L y
 | step (e:Qc) (h1:e∈p.zA.zM) (h2:lf L e.From=true) (h3:CoR p L e.To):CoR p L e.From
section
variable {p:Qa} (hp:RightP p) {L:List Bool}
include hp
theorem CoR.rg {y:Int} (h:CoR p L y):0≤y∧y<p.zA.zN:=by
 cases h with
 | mk _ h1 h2=>exact hp.a.ma0 _ h2
 | step e h1 h2 h3=>have:=hp.a.ed0 e h1;exact ⟨this.1,this.2.1⟩
theorem Qbo3 {y:Int} (h:CoR p L y):0≤ati (Qjj p L) y:=by
 induction h with
 | mk y h1 h2 =>
  have hr:=hp.a.ma0 _ h2;have:=((Qm4 hp L).z y hr.1 hr.2).2 ⟨h1,h2⟩;omega
 | step e h1 h2 h3 ih =>
  have hr:=hp.a.ed0 e h1;exact (Qm4 hp L).cl e h1 h2 ih ((Qm4 hp L).bound hp L hr.2.2.1 hr.2.2.2.1)
theorem Qbj7:∀ (n:Nat) {y:Int},0≤y→y<p.zA.zN→ati (Qjj p L) y=(n:Int)→CoR p L y
 | 0,y,h0,h1,hd=>by
  obtain ⟨k1,k2⟩:=((Qm4 hp L).z y h0 h1).1 (by simpa using hd);exact .mk y k1 k2
 | n+1,y,h0,h1,hd=>by
  obtain ⟨e,k1,k2,k3,k4⟩:=(Qm4 hp L).ps y h0 h1 (by omega);have hr:=hp.a.ed0 e k1;have hl:=(Qm4 hp L).lv y h0 h1 (by omega);subst k2;exact .step e k1 hl (Qbj7 n hr.2.2.1 hr.2.2.2.1 (by omega))
theorem Qbqv {y:Int} (h0:0≤y) (h1:y<p.zA.zN):CoR p L y↔0≤ati (Qjj p L) y :=
 ⟨Qbo3 hp,fun h=>Qbj7 hp (ati (Qjj p L) y).toNat h0 h1 (by omega)⟩
end
theorem Qbqw {α β:Type} {o:Option α} {K:α→Option β} {P:α→Prop} {Q:β→Prop} (h:∃ v,o=some v∧P v) (k:∀ v,P v→∃ D,K v=some D∧Q D):∃ D,o.bind K=some D∧Q D:=by
 obtain ⟨v,rfl,hv⟩:=h;exact k v hv
theorem Q40 {α β:Type} {o:Option α} {K:α→Option β} {v:α} {Q:β→Prop} (h:o=some v) (k:∃ D,K v=some D∧Q D):∃ D,o.bind K=some D∧Q D:=by
 rw [h];exact k
structure BI (p:Qa) (L:List Bool) (l out:List Int):Prop where
 ln:out.length=nS p
 nd:l.Nodup
 rg:∀ y∈l,CoR p L y
 mem:∀ y,0≤y→y<p.zA.zN→(0≤ati out y↔y∈l)
 bd:∀ y∈l,ati out y<l.length
section
variable {p:Qa} (hp:RightP p) {L:List Bool}
include hp
theorem BI.len {l out:List Int} (h:BI p L l out):l.length≤nS p:=Fnd.len (a:=p.zA) ⟨h.nd,fun y hy=>(h.rg y hy).rg hp⟩
theorem BI.add {l out:List Int} (h:BI p L l out) {x v:Int} (hc:CoR p L x) (hx:x∉l) (h0:0≤v) (h1:v≤l.length):BI p L (l++[x]) (out.set x.toNat v):=by
 have hr:=hc.rg hp;have hln:=h.ln;refine ⟨by rw [List.length_set];exact hln,?_,fun y hy=>?_,fun y k0 k1=>?_,fun y hy=>?_⟩
 ·rw [List.nodup_append];exact ⟨h.nd,by simp,fun a ha b hb=>by simp at hb;subst hb;rintro rfl;exact hx ha⟩
 ·rcases List.mem_append.1 hy with hy|hy
  ·exact h.rg y hy
  ·simp at hy;subst hy;exact hc
 ·rw [Q8l ⟨hr.1,by rw [hln];unfold nS;omega⟩ k0,List.mem_append];by_cases e:y=x
  ·subst e;simp [h0]
  ·rw [if_neg e,h.mem y k0 k1];simp [e]
 ·rw [List.length_append,List.length_singleton];rcases List.mem_append.1 hy with hy|hy
  ·have k:=(h.rg y hy).rg hp;rw [Q8l ⟨hr.1,by rw [hln];unfold nS;omega⟩ k.1];split
   ·omega
   ·have:=h.bd y hy;omega
  ·simp at hy;subst hy;rw [Q8l ⟨hr.1,by rw [hln];unfold nS;omega⟩ hr.1,if_pos rfl];omega
def Qhp (L:List Bool) (i:Nat) (s:List Int×List Int) (x:Int):List Int×List Int :=
 if lf L x&&decide (ati s.2 x<0) then (s.1++[x],s.2.set x.toNat (ati s.2 (s.1.getD i 0)+1)) else s
theorem Qbh0 {s:List Int×List Int} {i:Nat} (h:BI p L s.1 s.2) (hi:i<s.1.length) {e:Qc} (he:e∈p.zA.zM) (ht:e.To=s.1[i]) :
  BI p L (Qhp L i s e.From).1 (Qhp L i s e.From).2∧s.1 <+: (Qhp L i s e.From).1∧(lf L e.From=true→e.From∈(Qhp L i s e.From).1):=by
 have hr:=hp.a.ed0 e he;have hmem:s.1[i]∈s.1:=List.getElem_mem hi;unfold Qhp;by_cases hc:(lf L e.From&&decide (ati s.2 e.From<0))=true
 ·rw [if_pos hc];simp only [Bool.and_eq_true,decide_eq_true_eq] at hc;have hx:e.From∉s.1:=fun hh=>by have:=(h.mem _ hr.1 hr.2.1).2 hh;omega
  have hco:CoR p L e.From:=.step e he hc.1 (by rw [ht];exact h.rg _ hmem);have hgd:s.1.getD i 0=s.1[i]:=by rw [List.getD_eq_getElem?_getD,List.getElem?_eq_getElem hi];rfl
  have hrg:=(h.rg _ hmem).rg hp;have h1:=(h.mem _ hrg.1 hrg.2).2 hmem;have h2:=h.bd _ hmem;refine ⟨h.add hp hco hx (by rw [hgd];omega) (by rw [hgd];omega),List.prefix_append _ _,fun _=>by simp⟩
 ·rw [if_neg hc];refine ⟨h,List.prefix_refl _,fun hl=>?_⟩;simp only [hl,Bool.true_and,decide_eq_true_eq] at hc;exact (h.mem _ hr.1 hr.2.1).1 (by omega)
theorem Qbe6 {i:Nat}:∀ {es:List Qc} {s:List Int×List Int},BI p L s.1 s.2→(hi:i<s.1.length)→(∀ e∈es,e∈p.zA.zM∧e.To=s.1[i]) →
  BI p L ((es.map (·.From)).foldl (Qhp L i) s).1 ((es.map (·.From)).foldl (Qhp L i) s).2∧s.1 <+: ((es.map (·.From)).foldl (Qhp L i) s).1∧∀ e∈es,lf L e.From=true→e.From∈((es.map (·.From)).foldl (Qhp L i) s).1
 | [],s,h,hi,_=>⟨h,List.prefix_refl _,fun e he=>by cases he⟩
 | e::es,s,h,hi,hes=>by
  obtain ⟨he1,he2⟩:=hes e (by simp);obtain ⟨k1,k2,k3⟩:=Qbh0 hp h hi he1 he2;have hi' : i<(Qhp L i s e.From).1.length:=Nat.lt_of_lt_of_le hi k2.length_le;obtain ⟨q1,q2,q3⟩:=Qbe6 (i:=i) (es:=es) (s:=Qhp L i s e.From) k1 hi' (fun e' he'=>by
   obtain ⟨a1,a2⟩:=hes e' (by simp [he']);exact ⟨a1,by rw [a2];exact (k2.getElem hi).trans rfl⟩)
  rw [List.map_cons,List.foldl_cons];refine ⟨q1,k2.trans q2,fun e' he' hl=>?_⟩;rcases List.mem_cons.1 he' with rfl|he'
  ·exact q2.subset (k3 hl)
  ·exact q3 e' he' hl
theorem Qy1 (hL:L.length=nS p):∃ D,Qc3 (spr p L)=some D∧D.length=nS p∧∀ y,0≤y→y<p.zA.zN→(ati D y<0↔ati (Qjj p L) y<0):=by
 unfold Qc3 Q1;obtain ⟨fuel,hfu,hge⟩ : ∃ f,Qch=f∧1099511627776≤f:=⟨_,rfl,Nat.le_refl _⟩;rw [hfu,show (spr p L).left_=L from rfl,show (spr p L).zA=p.zA from rfl,show (spr p L).back_=Qbhw p from rfl];have hst:=hp.a.st;have hsm:=hp.a.small;have hnS:nS p≤4096:=by unfold nS;omega
 have hnT:Int.toNat p.zA.zN=nS p:=rfl;rw [show mkO p.zA.zN (0:Int)=some (List.replicate (nS p) 0) from by unfold mkO lim;rw [if_pos (by omega)],Option.bind_some];refine Q40 (v:=List.replicate (nS p) (-1)) ?_ ?_
 ·refine (Qeh (l:=upto p.zA.zN) (fun i (c:List Int)=>(i,c)) (fun c i=>c.set i.toNat (-1)) (fun _ c=>c.length=nS p) (fun c=>some c) (by rw [Qbr];unfold big;omega) hge (fun k n s hn hs=>?_) (fun n s hn hs=>by rw [List.length_set];exact hs) (fun k s hs=>?_) (s0:=List.replicate (nS p) 0) (by simp)).trans ?_
  ·have hn':=Qiv hn;dsimp only;rw [Qj6 hn,if_pos (by omega),Qkv (by omega) (by omega),Option.bind_some,Qks (by omega) (by unfold nS at hs;omega),Option.bind_some]
  ·dsimp only;rw [Qbr,if_neg (by omega)]
  ·rw [Q92 (f:=fun _=>-1) (by simp),List.map_const',Qbr]
 obtain ⟨l1,o1,hm1,hB1,hM1⟩ : ∃ l1 o1,Qcm (fun (k22:List Int×Int×List Int→Option (List Int×List Int)) ((l19,x20,c21):(List Int)×Int×(List Int))=>(if (x20<(p.zA.zL.length:Int)) then ((((getO p.zA.zL x20).bind fun x24=>((inO L.length x24).bind fun u26=>((getO L x24).bind fun x28=>(if x28 then ((inO (Int.toNat p.zA.zN) x24).bind fun u31=>((setO c21 x24 0).bind fun x33=>((appO l19 [x24]).bind fun x35=>some (x35,x33)))) else some (l19,c21)))))).bind fun ((l37,c38):(List Int)×(List Int))=>k22 (l37,(IntKind.wrap .i64 (x20+1)),c38)) else some (l19,c21))) fuel ([],0,List.replicate (nS p) (-1))=some (l1,o1)∧BI p L l1 o1∧∀ y∈p.zA.zL,lf L y=true→y∈l1:=by
  let stp:List Int×List Int→Int→List Int×List Int:=fun s x=>if lf L x then (s.1++[x],s.2.set x.toNat 0) else s;have hI:∀ (n:Nat) (s:List Int×List Int) (hn:n<p.zA.zL.length),(BI p L s.1 s.2∧s.1=(p.zA.zL.take n).filter (lf L))→BI p L (stp s p.zA.zL[n]).1 (stp s p.zA.zL[n]).2∧(stp s p.zA.zL[n]).1=(p.zA.zL.take (n+1)).filter (lf L):=by
   rintro n s hn ⟨h1,h2⟩;have hmm:=List.getElem_mem hn;simp only [stp];rw [List.take_succ_eq_append_getElem hn,List.filter_append];cases hq:lf L p.zA.zL[n] with
   | false=>simp only [Bool.false_eq_true,if_false];refine ⟨h1,?_⟩;simp [h2,hq]
   | true =>
    simp only [if_true];refine ⟨h1.add hp (.mk _ hq hmm) (fun hx=>?_) (Int.le_refl _) (by omega),by simp [h2,hq]⟩;rw [h2] at hx;have hx:=(List.mem_filter.1 hx).1;obtain ⟨j,hj,e⟩:=List.getElem_of_mem hx;rw [List.getElem_take] at e;rw [List.length_take] at hj;have:=List.pairwise_iff_getElem.1 hp.a.ma j n (by omega) hn (by omega);omega
  have h0:BI p L [] (List.replicate (nS p) (-1))∧([]:List Int)=(p.zA.zL.take 0).filter (lf L):=by
   refine ⟨⟨by simp,by simp,fun y hy=>absurd hy (by simp),fun y k0 k1=>?_,fun y hy=>absurd hy (by simp)⟩,rfl⟩;rw [show ati (List.replicate (nS p) (-1)) y = -1 from Qbhn k0 (by unfold nS;omega)];simp
  have hend:=Qbb0 (l:=p.zA.zL) (stp:=stp) (I:=fun n s=>BI p L s.1 s.2∧s.1=(p.zA.zL.take n).filter (lf L)) hI (s0:=([],List.replicate (nS p) (-1))) h0;refine ⟨(p.zA.zL.foldl stp ([],List.replicate (nS p) (-1))).1,(p.zA.zL.foldl stp ([],List.replicate (nS p) (-1))).2,?_,hend.1,fun y hy hl=>by rw [hend.2,List.take_length];exact List.mem_filter.2 ⟨hy,hl⟩⟩;refine Qeh (l:=p.zA.zL) (fun i (s:List Int×List Int)=>(s.1,i,s.2)) stp (fun n s=>BI p L s.1 s.2∧s.1=(p.zA.zL.take n).filter (lf L)) (fun s=>some (s.1,s.2)) hsm.1.2.1 hge (fun k n s hn hs=>?_) hI (fun k s hs=>?_) (s0:=([],List.replicate (nS p) (-1))) h0
  ·have hr:=hp.a.ma0 _ (List.getElem_mem hn);have hsl:=hs.1.len hp;have hso:=hs.1.ln;dsimp only;rw [if_pos (by omega),Qbt hn];generalize p.zA.zL[n]=x at hr;simp only [Option.bind_some,Qgv hL (p:=p) hr,stp];cases lf L x with
   | false=>rfl
   | true =>
    simp only [if_true];rw [Qkv hr.1 (by unfold nS at hnT;omega),Option.bind_some,Qks hr.1 (by unfold nS at hso;omega),Option.bind_some,Qby (by simp only [List.length_cons,List.length_nil];unfold lim;omega),Option.bind_some,Option.bind_some]
  ·dsimp only;rw [if_neg (by omega)]
 refine Q40 hm1 ?_;dsimp only;refine Qbqw (P:=fun c=>c.length=nS p∧∀ y,0≤y→y<p.zA.zN→(ati c y<0↔ati (Qjj p L) y<0)) ?_ ?_
 ·refine Qgf (fun x:List Int×Int×List Int=>∃ n:Nat,x.2.1=n∧n≤x.1.length∧BI p L x.1 x.2.2∧(∀ y∈p.zA.zL,lf L y=true→y∈x.1)∧∀ j s,j<n→x.1[j]? = some s→∀ e∈p.zA.zM,e.To=s→lf L e.From=true→e.From∈x.1)
   (fun x=>5001-x.2.1.toNat) (fun _ r=>∃ v,r=some v∧v.length=nS p∧∀ y,0≤y→y<p.zA.zN→(ati v y<0↔ati (Qjj p L) y<0)) ?_ fuel (l1,0,o1) ⟨0,rfl,Nat.zero_le _,hB1,hM1,fun j s hj=>absurd hj (Nat.not_lt_zero _)⟩ (by dsimp only;omega)
  rintro k ⟨l,x,c⟩ ⟨n,hx,hnl,hB,hM,hD⟩ ih;dsimp only at hx hnl hB hM hD ih ⊢;subst hx;have hll:=hB.len hp;by_cases hlt:n<l.length
  ·rw [if_pos (by omega),Qbt hlt,Option.bind_some];have hE:getM (Qbhw p) l[n] []=(p.zA.zM.filter fun x=>x.To==l[n]).map (·.From):=Qbqs p _;have hes:∀ e∈p.zA.zM.filter (fun x=>x.To==l[n]),e∈p.zA.zM∧e.To=l[n]:=fun e he=>by
    obtain ⟨a,b⟩:=List.mem_filter.1 he;exact ⟨a,by simpa using b⟩
   have hsz:(p.zA.zM.filter fun x=>x.To==l[n]).length≤131072:=Nat.le_trans (List.length_filter_le _ _) hsm.2.2.2;rw [hE];have hin:∀ e∈p.zA.zM,e.To=l[n]→e∈p.zA.zM.filter (fun x=>x.To==l[n]):=fun e he ht=>List.mem_filter.2 ⟨he,by simpa using ht⟩;generalize p.zA.zM.filter (fun x=>x.To==l[n])=es at hes hsz hin;obtain ⟨q1,q2,q3⟩:=Qbe6 hp (i:=n) (es:=es) (s:=(l,c)) hB hlt hes;refine Q40 (v:=(es.map (·.From)).foldl (Qhp L n) (l,c)) ?_ ?_
   ·refine Qeh (l:=es.map (·.From)) (fun j (s:List Int×List Int)=>(s.1,j,s.2)) (Qhp L n) (fun _ s=>BI p L s.1 s.2∧l <+: s.1) (fun s=>some (s.1,s.2)) (by rw [List.length_map];unfold big;omega) hge (fun k m s hm hs=>?_) (fun m s hm hs=>?_) (fun k s hs=>?_) (s0:=(l,c)) ⟨hB,List.prefix_refl _⟩
    ·obtain ⟨h1,h2⟩:=hs;have hm' : m<es.length:=by rw [List.length_map] at hm;exact hm
     have he:=hes _ (List.getElem_mem hm');have hr:=hp.a.ed0 _ he.1;have hsl:=h1.len hp;have hso:=h1.ln;have hni:n<s.1.length:=Nat.lt_of_lt_of_le hlt h2.length_le;have hrg:=(h1.rg _ (List.getElem_mem hni)).rg hp;have hgd:s.1.getD n 0=s.1[n]:=by rw [List.getD_eq_getElem?_getD,List.getElem?_eq_getElem hni];rfl
     have b1:=(h1.mem _ hrg.1 hrg.2).2 (List.getElem_mem hni);have b2:=h1.bd _ (List.getElem_mem hni);dsimp only;rw [if_pos (by omega),Qbt hm,List.getElem_map];generalize es[m].From=y at hr;unfold nS at hso;simp only [Option.bind_some,Qgv hL (p:=p) ⟨hr.1,hr.2.1⟩,Qkv (n:=Int.toNat p.zA.zN) hr.1 (by omega),Qm3 (d:=0) (l:=s.2) hr.1 (by omega),Qbt hni,Qkv (n:=Int.toNat p.zA.zN) hrg.1 (by omega),Qm3 (d:=0) (l:=s.2) hrg.1 (by omega)];rw [Qks hr.1 (by omega),Qm0 (by unfold ati at b1;omega) (by unfold ati at b1 b2;omega)];unfold Qhp;rw [hgd];simp only [Option.bind_some,Qby (show s.1.length+[y].length≤lim from by simp only [List.length_cons,List.length_nil];unfold lim;omega)];cases lf L y with
     | false=>rfl
     | true =>
      simp only [if_true,Option.bind_some,Bool.true_and];by_cases hq:ati s.2 y<0
      ·simp [hq]
      ·simp [hq]
    ·obtain ⟨h1,h2⟩:=hs;have hm' : m<es.length:=by rw [List.length_map] at hm;exact hm
     have he:=hes _ (List.getElem_mem hm');have hni:n<s.1.length:=Nat.lt_of_lt_of_le hlt h2.length_le;rw [List.getElem_map];obtain ⟨k1,k2,_⟩:=Qbh0 hp h1 hni he.1 (by rw [he.2];exact h2.getElem hlt);exact ⟨k1,h2.trans k2⟩
    ·dsimp only;rw [List.length_map,if_neg (by omega)]
   generalize (es.map (·.From)).foldl (Qhp L n) (l,c)=s at q1 q2 q3;dsimp only at q1 q2 q3 ⊢;rw [Qcn (by omega)];have hql:=q2.length_le;refine ih _ ⟨n+1,rfl,by dsimp only;omega,q1,fun y hy hl=>q2.subset (hM y hy hl),fun j t hj ht e he hto hl=>?_⟩ (by dsimp only;omega);dsimp only at ht ⊢;have hj' : j<l.length:=by omega
   have hq:l[j]? = some t:=by
    obtain ⟨tl,e2⟩:=q2;rw [← e2,List.getElem?_append_left hj'] at ht;exact ht
   by_cases hjn:j=n
   ·subst hjn;rw [List.getElem?_eq_getElem hlt] at hq;exact q3 e (hin e he (by rw [hto];exact (Option.some.inj hq).symm)) hl
   ·exact q2.subset (hD j t (by omega) hq e he hto hl)
  ·rw [if_neg (by omega)];refine ⟨c,rfl,hB.ln,fun y h0 h1=>?_⟩;have hcor:∀ y,CoR p L y→y∈l:=by
    intro y hy
    induction hy with
    | mk y h1 h2=>exact hM y h2 h1
    | step e h1 h2 h3 ih =>
     obtain ⟨j,hj,e2⟩:=List.getElem_of_mem ih;exact hD j e.To (by omega) (by rw [List.getElem?_eq_getElem hj,e2]) e h1 rfl h2
   have k1:CoR p L y↔y∈l:=⟨hcor y,fun h=>hB.rg y h⟩;have k2:=hB.mem y h0 h1;have k3:=Qbqv hp (L:=L) h0 h1;constructor
   ·intro h;have:¬ 0≤ati (Qjj p L) y:=fun hh=>by have:=k2.2 (k1.1 (k3.2 hh));omega
    omega
   ·intro h;have:¬ 0≤ati c y:=fun hh=>by have:=k3.1 (k1.2 (k2.1 hh));omega
    omega
 ·rintro c ⟨hc1,hc2⟩;rw [Q0w (show c.length=Int.toNat p.zA.zN from hc1),Option.bind_some];exact ⟨c,rfl,hc1,hc2⟩
end
end Go.Abs
end
section
namespace Go.Abs
open Go
theorem Qbd0 {L:List Bool} {i:Nat} {l:List Qc} {s:List Int×List Qc} :
  (l.filter fun x=>lf L x.To).foldl (fun s x=>(ins s.1 x.To,s.2++[⟨(i:Int),x.Event,((ins s.1 x.To).idxOf x.To:Int)⟩])) s=l.foldl (Qem L i) s:=by
 rw [List.foldl_filter];rfl
section
variable {p:Qa} (hp:RightP p) {L:List Bool} (hL:L.length=nS p)
include hp hL
theorem Qbk8 (rank:Int):Qeg (spr p L) rank=some (Qbns p L rank):=by
 unfold Qeg Qbq;obtain ⟨fuel,hfu,hge⟩ : ∃ f,Qch=f∧1099511627776≤f:=⟨_,rfl,Nat.le_refl _⟩;obtain ⟨D,hD,hDl,hDs⟩:=Qy1 hp hL;rw [hfu,hD,Option.bind_some,show (spr p L).left_=L from rfl];have hst:=hp.a.st;have hul:(upto p.zA.zN).length<big:=by rw [Qbr];unfold big;omega
 have huf:(upto p.zA.zN).length<fuel:=by rw [Qbr];omega
 rw [Qbdl (l:=upto p.zA.zN) (f:=remB p L rank) hul huf (fun k acc n hn ha=>by
  have hn':=Qiv hn;have h2:(n:Int)<p.zA.zN:=by omega
  have hds:=hDs (n:Int) (by omega) h2;unfold nS at hDl;dsimp only;rw [Qj6 hn,if_pos (by omega),Qm3 (d:=0) (l:=D) (by omega) (by omega),Option.bind_some];simp only [Qgv hL (p:=p) (x:=(n:Int)) ⟨by omega,h2⟩,Option.bind_some];rw [Qby (by simp only [List.length_cons,List.length_nil];unfold lim;omega)];unfold remB;cases hq:lf L (n:Int) with
  | false=>simp
  | true =>
   by_cases h3:ati D (n:Int)<0
   ·have h4:=hds.1 h3;unfold ati at h3;simp [h3,h4]
   ·have h4:¬ ati (Qjj p L) (n:Int)<0:=fun h=>h3 (hds.2 h);unfold ati at h3;simp [h3,h4]) (fun k acc=>by
  unfold nS at hDl;dsimp only;rw [Qbr,if_neg (by omega)]),Option.bind_some]
 rfl
theorem Qbqx (hnt:∀ e∈p.zA.zM,e.Event≠p.Tick) (rank:Int):Qd4 (spr p L) rank true=some (Qhf p L rank):=by
 unfold Qd4 Qb2;rw [Qbqu hp hL hnt,Qbk8 hp hL];unfold Qhf;simp only [Option.bind_some,Bool.not_true];by_cases h:((Q6z p L rank).length:Int)>0
 ·rw [if_pos h,if_pos h];rfl
 ·rw [if_neg h,if_neg h];rfl
theorem Qbo4 {fuel:Nat} (hge:1099511627776≤fuel) {i:Nat} (hi:i≤4096) {s:Int} {st:List Int} {es:List Qc} {c:List (Int×Int)} (hf:Fnd p.zA st) (hc:MapOk c st) (he:es.length≤131072*4096) {row:List Qc} (hrow:row=(outP p.zA s).filter fun x=>lf L x.To) :
  ∃ c',MapOk c' ((outP p.zA s).foldl (Qem L i) (st,es)).1∧Qcm (fun (k65:List Int×Int×List Qc×List (Int×Int)→Option (List Int×List Qc×List (Int×Int))) ((order61,x62,a63,c64):(List Int)×Int×(List Qc)×(List (Int×Int)))=>(if (x62<(row.length:Int)) then ((getO row x62).bind fun x67=>(((if (hasM c64 x67.To) then some (order61,(getM c64 x67.To 0),c64) else ((appO order61 [x67.To]).bind fun x70=>some (x70,(order61.length:Int),(setM c64 x67.To (order61.length:Int)))))).bind fun ((order72,to73,c74):(List Int)×Int×(List (Int×Int)))=>((appO a63 [(Qc.mk (i:Int) x67.Event to73)]).bind fun x75=>k65 (order72,(IntKind.wrap .i64 (x62+1)),x75,c74)))) else some (order61,a63,c64))) fuel (st,0,es,c)=some (((outP p.zA s).foldl (Qem L i) (st,es)).1,((outP p.zA s).foldl (Qem L i) (st,es)).2,c'):=by
 have hst:=hp.a.st;have hnS:nS p≤4096:=by unfold nS;omega
 have hol:=Q4y hp s;have hrl:row.length≤(outP p.zA s).length:=by rw [hrow];exact List.length_filter_le _ _
 have hrt:∀ x∈row,0≤x.To∧x.To<p.zA.zN:=fun x hx=>by
  rw [hrow] at hx;exact (Qr9 hp _ (List.mem_filter.1 hx).1).1
 let add:List Int×List Qc→Qc→List Int×List Qc:=fun s x=>(ins s.1 x.To,s.2++[⟨(i:Int),x.Event,((ins s.1 x.To).idxOf x.To:Int)⟩]);have hfold:row.foldl add (st,es)=(outP p.zA s).foldl (Qem L i) (st,es):=by rw [hrow];exact Qbd0
 let stp:(List Int×List Qc)×List (Int×Int)→Qc→(List Int×List Qc)×List (Int×Int):=fun s x=>(add s.1 x,if x.To∈s.1.1 then s.2 else setM s.2 x.To (s.1.1.length:Int));have hproj:∀ (l:List Qc) (s:(List Int×List Qc)×List (Int×Int)),(l.foldl stp s).1=l.foldl add s.1:=by
  intro l
  induction l with
  | nil=>intro s;rfl
  | cons x l ih=>intro s;rw [List.foldl_cons,List.foldl_cons,ih]
 have hI:∀ (n:Nat) (q:(List Int×List Qc)×List (Int×Int)) (hn:n<row.length),(Fnd p.zA q.1.1∧MapOk q.2 q.1.1∧q.1.2.length≤131072*4096+n)→(Fnd p.zA (stp q row[n]).1.1∧MapOk (stp q row[n]).2 (stp q row[n]).1.1∧(stp q row[n]).1.2.length≤131072*4096+(n+1)):=by
  rintro n q hn ⟨h1,h2,h3⟩;have hr:=hrt _ (List.getElem_mem hn);generalize row[n]=x at hr;simp only [stp,add];refine ⟨h1.ins hr,?_,by simp only [List.length_append,List.length_cons,List.length_nil];omega⟩;by_cases hm:x.To∈q.1.1
  ·have:ins q.1.1 x.To=q.1.1:=by unfold ins;rw [if_pos hm]
   rw [this,if_pos hm];exact h2
  ·have:ins q.1.1 x.To=q.1.1++[x.To]:=by unfold ins;rw [if_neg hm]
   rw [this,if_neg hm];exact h2.ins hm
 have h0:Fnd p.zA ((st,es),c).1.1∧MapOk ((st,es),c).2 ((st,es),c).1.1∧((st,es),c).1.2.length≤131072*4096+0:=⟨hf,hc,he⟩;have hend:=Qbb0 (l:=row) (stp:=stp) (I:=fun n q=>Fnd p.zA q.1.1∧MapOk q.2 q.1.1∧q.1.2.length≤131072*4096+n) hI h0;refine ⟨(row.foldl stp ((st,es),c)).2,?_,?_⟩
 ·have:=hend.2.1;rw [hproj,hfold] at this;exact this
 ·refine (Qeh (l:=row) (fun j (q:(List Int×List Qc)×List (Int×Int))=>(q.1.1,j,q.1.2,q.2)) stp (fun n q=>Fnd p.zA q.1.1∧MapOk q.2 q.1.1∧q.1.2.length≤131072*4096+n) (fun q=>some (q.1.1,q.1.2,q.2)) (by unfold big;omega) hge (fun k n q hn hq=>?_) hI (fun k q hq=>?_) (s0:=((st,es),c)) h0).trans ?_
  ·obtain ⟨h1,h2,h3⟩:=hq;have hr:=hrt _ (List.getElem_mem hn);have hfl:=h1.len;dsimp only;rw [if_pos (by omega),Qbt hn];generalize row[n]=x at hr;simp only [Option.bind_some,stp,add];rw [(h2 x.To).1];by_cases hm:x.To∈q.1.1
   ·have hins:ins q.1.1 x.To=q.1.1:=by unfold ins;rw [if_pos hm]
    rw [hins];simp only [hm,decide_true,if_true,Option.bind_some,(h2 x.To).2 hm];rw [Qby (by simp only [List.length_cons,List.length_nil];unfold lim;omega)];rfl
   ·have hins:ins q.1.1 x.To=q.1.1++[x.To]:=by unfold ins;rw [if_neg hm]
    have hidx:(q.1.1++[x.To]).idxOf x.To=q.1.1.length:=by rw [List.idxOf_append,if_neg hm];simp
    rw [hins,hidx];simp only [hm,decide_false,Bool.false_eq_true,if_false];rw [Qby (l:=q.1.1) (by simp only [List.length_cons,List.length_nil];unfold lim;omega)];simp only [Option.bind_some];rw [Qby (by simp only [List.length_cons,List.length_nil];unfold lim;omega)];rfl
  ·dsimp only;rw [if_neg (by omega)]
  ·rw [hproj,hfold]
theorem Qbqy:Qdv (spr p L)=some (⟨p.zA.zK,((supP p L).1.length:Int),(supP p L).2.1,(supP p L).2.2⟩,(supP p L).1):=by
 unfold Qdv Qbe;obtain ⟨fuel,hfu,hge⟩ : ∃ f,Qch=f∧1099511627776≤f:=⟨_,rfl,Nat.le_refl _⟩;rw [hfu];rw [show (spr p L).left_=L from rfl,show (spr p L).zA=p.zA from rfl];have hst:=hp.a.st;have hnS:nS p≤4096:=by unfold nS;omega
 have hsm:=hp.a.small;rw [Qbj2 (by unfold lim;omega),Option.bind_some];by_cases hz:0<p.zA.zN∧lf L 0=true
 ·have hb:(if (p.zA.zN==0)=true then some true else ((inO L.length 0).bind fun u11=>((getO L 0).bind fun x13=>some (!x13))))=some false:=by
   rw [if_neg (by simp;omega)];simp only [Qgv hL (p:=p) (x:=0) ⟨Int.le_refl _,hz.1⟩,Option.bind_some,hz.2];rfl
  rw [hb,Option.bind_some,if_neg (by simp)];rw [show mkO p.zA.zN ([]:List Qc)=some (List.replicate (nS p) []) from by unfold mkO lim;rw [if_pos (by omega)],Option.bind_some];refine Option.bind_eq_some_iff.2 ⟨(upto p.zA.zN).map fun i=>(outP p.zA i).filter fun x=>lf L x.To,?_,?_⟩
  ·refine (Qm1 (len:=p.zA.zM.length) (fun n (c:List (List Qc))=>((n:Int),c)) (fun n c=>c=(upto p.zA.zN).map fun i=>((p.zA.zM.take n).filter fun x=>x.From==i).filter fun x=>lf L x.To) (fun n c=>some ((upto p.zA.zN).map fun i=>(outP p.zA i).filter fun x=>lf L x.To)) ?_ ?_ fuel 0 (List.replicate (nS p) []) (Nat.zero_le _) (by have:=hsm.1.2.2;unfold big at this;omega) ?_)
   ·rintro k n c hn hc ih;have hr:=hp.a.ed0 _ (List.getElem_mem hn);have hcl:c.length=nS p:=by rw [hc,List.length_map,Qbr]
    have hb:=hsm.2.2.2;have hlen:(((p.zA.zM.take n).filter fun x=>x.From==p.zA.zM[n].From).filter fun x=>lf L x.To).length≤n:=Nat.le_trans (List.length_filter_le _ _) (Nat.le_trans (List.length_filter_le _ _) (by rw [List.length_take];omega));dsimp only;rw [if_pos (by omega),Qbt hn,Option.bind_some];simp only [Qgv hL (p:=p) ⟨hr.2.2.1,hr.2.2.2.1⟩,Option.bind_some];have hat:at0 [] c p.zA.zM[n].From=((p.zA.zM.take n).filter fun x=>x.From==p.zA.zM[n].From).filter fun x=>lf L x.To:=by rw [hc,Qo1 hr.1 hr.2.1]
    unfold nS at hcl;cases hq:lf L p.zA.zM[n].To with
    | true =>
     simp only [if_true];rw [Qkv hr.1 (by omega),Option.bind_some,Qm3 (d:=[]) hr.1 (by omega),Option.bind_some,hat,Qby (by simp only [List.length_cons,List.length_nil];unfold lim;omega),Option.bind_some,Option.bind_some,Qks hr.1 (by omega),Option.bind_some,Option.bind_some,Qcn (by omega)];refine ih _ ?_;refine Qbdq (d:=[]) (by rw [List.length_set,hcl,List.length_map,Qbr]) fun y h0 h1=>?_;rw [List.length_set,hcl] at h1;have h2:y<p.zA.zN:=by omega
     rw [Qbj1 ⟨hr.1,by omega⟩ h0,Qo1 h0 h2,List.take_succ_eq_append_getElem hn,List.filter_append,List.filter_append];by_cases he:y=p.zA.zM[n].From
     ·rw [if_pos he,← he];simp [he,hq]
     ·rw [if_neg he,hc,Qo1 h0 h2];have:(p.zA.zM[n].From==y)=false:=by rw [beq_eq_false_iff_ne];exact fun e=>he e.symm
      simp [this]
    | false =>
     simp only [Bool.false_eq_true,if_false,Option.bind_some];rw [Qcn (by omega)];refine ih _ ?_;rw [hc];refine List.map_congr_left fun i _=>?_;rw [List.take_succ_eq_append_getElem hn,List.filter_append,List.filter_append];have:(([p.zA.zM[n]]:List Qc).filter fun x=>x.From==i).filter (fun x=>lf L x.To)=[]:=by
      rw [List.filter_eq_nil_iff];intro y hy;have:=(List.mem_filter.1 hy).1;simp at this;subst this;simp [hq]
     rw [this,List.append_nil]
   ·rintro k c hc;dsimp only;rw [if_neg (by omega),hc,List.take_length]
    rfl
   ·refine Qbdq (d:=[]) (by rw [List.length_replicate,List.length_map,Qbr]) fun y h0 h1=>?_;rw [List.length_replicate] at h1;have h2:y<p.zA.zN:=by unfold nS at h1;omega
    rw [Qbhn h0 (by unfold nS at h1 ⊢;omega),Qo1 h0 h2];simp
  generalize hR:((upto p.zA.zN).map fun i=>(outP p.zA i).filter fun x=>lf L x.To)=R;have hRl:R.length=nS p:=by rw [← hR,List.length_map,Qbr]
  have hRat:∀ {y:Int},0≤y→y<p.zA.zN→at0 [] R y=(outP p.zA y).filter fun x=>lf L x.To:=fun h0 h1=>by rw [← hR,Qo1 h0 h1]
  have hs0:st0 p L=[0]:=by unfold st0;rw [if_pos hz]
  have hc0:MapOk (setM ([]:List (Int×Int)) 0 0) [0]:=fun r=>⟨by rw [Qbb1];simp [hasM],fun hr=>by simp only [List.mem_singleton] at hr;subst hr;rfl⟩;generalize hA:supP p L=A;have hf0:Fnd p.zA [0]:=hs0 ▸ Qbnu hp (L:=L);have hA' : bldS p L (nS p+1) 0 [0] [] []=A:=by rw [← hA];unfold supP;rw [hs0]
  refine Qbj0 (P:=fun r=>∃ c' : List (Int×Int),r=(A.1,[],[],[],A.2.1,A.2.2,c')) ?_ ?_
  ·refine Qgf (fun x:List Int×Int×List Int×List Int×List Qc×List Int×List Qc×List (Int×Int)=>∃ (n f:Nat),x.2.1=n∧x.2.2.1=[]∧x.2.2.2.1=[]∧x.2.2.2.2.1=[]∧n+f=nS p+1∧n≤x.1.length∧Fnd p.zA x.1∧x.2.2.2.2.2.1.length≤n∧x.2.2.2.2.2.2.1.length≤131072*n∧MapOk x.2.2.2.2.2.2.2 x.1∧bldS p L f n x.1 x.2.2.2.2.2.1 x.2.2.2.2.2.2.1=A)
    (fun x=>5001-x.2.1.toNat) (fun _ r=>∃ v,r=some v∧∃ c' : List (Int×Int),v=(A.1,[],[],[],A.2.1,A.2.2,c')) ?_ fuel ([0],0,[],[],[],[],[],setM [] 0 0) ⟨0,nS p+1,rfl,rfl,rfl,rfl,by omega,Nat.zero_le _,hf0,Nat.zero_le _,Nat.zero_le _,hc0,hA'⟩ (by dsimp only;omega)
   rintro k ⟨st,x,c1,c2,c3,ms,es,c⟩ ⟨n,f,hx,h1,h2,h3,hf,hnl,hfd,hms,hes,hc,hB⟩ ih;dsimp only at hx h1 h2 h3 hnl hfd hms hes hc hB ih ⊢;subst hx h1 h2 h3;have hfl:=hfd.len;by_cases hlt:n<st.length
   ·obtain ⟨f,rfl⟩ : ∃ g,f=g+1:=⟨f-1,by unfold nS at *;omega⟩;have hi:st[n]? = some st[n]:=List.getElem?_eq_getElem hlt;have hr:=hfd.rg _ (List.getElem_mem hlt);unfold nS at hRl;rw [if_pos (by omega),Qbt hlt,Option.bind_some,Qkv hr.1 (by omega),Option.bind_some,Qm3 (d:=[]) hr.1 (by omega),Option.bind_some];rw [bldS,hi] at hB;dsimp only at hB;obtain ⟨k1,k2,k3⟩:=Qbb2 hp (i:=n) (L:=L) (l:=outP p.zA st[n]) (s:=(st,es)) (fun x hx=>(Qr9 hp x hx).1) hfd;have hol:=Q4y hp st[n];have hn4:n≤4096:=by unfold nS at *;omega
    obtain ⟨c',hc',hrow⟩:=Qbo4 hp hL hge (i:=n) hn4 (s:=st[n]) (es:=es) hfd hc (by omega) (row:=at0 [] R st[n]) (hRat hr.1 hr.2);rw [hrow,Option.bind_some];have hk2:=k2.length_le;dsimp only at hk2;have hlt2:n<((outP p.zA st[n]).foldl (Qem L n) (st,es)).1.length:=by omega
    have hsame:((outP p.zA st[n]).foldl (Qem L n) (st,es)).1[n]=st[n]:=(k2.getElem hlt).symm;dsimp only;rw [Qbt hlt2,Option.bind_some,hsame,Q8i hsm.1.2.1,Option.bind_some];have hmk:(if decide (st[n]∈p.zA.zL)=true then (appO ms [(n:Int)]).bind fun x85=>some (((outP p.zA st[n]).foldl (Qem L n) (st,es)).1,x85,((outP p.zA st[n]).foldl (Qem L n) (st,es)).2,c') else some (((outP p.zA st[n]).foldl (Qem L n) (st,es)).1,ms,((outP p.zA st[n]).foldl (Qem L n) (st,es)).2,c'))=some (((outP p.zA st[n]).foldl (Qem L n) (st,es)).1,(if st[n]∈p.zA.zL then ms++[(n:Int)] else ms),((outP p.zA st[n]).foldl (Qem L n) (st,es)).2,c'):=by
     rw [Qby (by simp only [List.length_cons,List.length_nil];unfold lim;unfold nS at *;omega)];by_cases hm:st[n]∈p.zA.zL<;>simp [hm]
    rw [hmk,Option.bind_some,Qcn (by omega)];refine ih _ ⟨n+1,f,rfl,rfl,rfl,rfl,by omega,by dsimp only;omega,k1,?_,by dsimp only at k3 ⊢;omega,hc',hB⟩ (by simp only [Int.toNat_natCast];unfold nS at *;omega);dsimp only;split
    ·simp only [List.length_append,List.length_cons,List.length_nil];omega
    ·omega
   ·rw [if_neg (by omega)];have hB' : (st,ms,es)=A:=by
     cases f with
     | zero=>exact hB
     | succ f=>rw [bldS,List.getElem?_eq_none (by omega)] at hB;exact hB
    subst hB';exact ⟨_,rfl,c,rfl⟩
  ·rintro _ ⟨c',rfl⟩
   rfl
 ·have hb:(if (p.zA.zN==0)=true then some true else ((inO L.length 0).bind fun u11=>((getO L 0).bind fun x13=>some (!x13))))=some true:=by
   by_cases h1:p.zA.zN=0
   ·rw [if_pos (by simp [h1])]
   ·have h2:0<p.zA.zN:=by omega
    have h3:lf L 0=false:=Bool.eq_false_iff.2 fun h=>hz ⟨h2,h⟩;rw [if_neg (by simp [h1])];simp only [Qgv hL (p:=p) (x:=0) ⟨Int.le_refl _,h2⟩,Option.bind_some,h3];rfl
  rw [hb,Option.bind_some,if_pos rfl];have hs0:st0 p L=[]:=by unfold st0;rw [if_neg hz]
  have:supP p L=([],[],[]):=by unfold supP;rw [hs0];rfl
  rw [this];rfl
end
end Go.Abs
end
section
namespace Go.Abs
open Go
theorem Qbpq:∀ {l:List Qb},(l.map (·.State)).Nodup→Qbbq ltRm l=true
 | [],_=>rfl
 | x::xs,h=>by
  rw [List.map_cons,List.nodup_cons] at h;simp only [Qbbq,Bool.and_eq_true,List.all_eq_true];refine ⟨fun y hy=>?_,Qbpq h.2⟩;have:x.State≠y.State:=fun e=>h.1 (List.mem_map.2 ⟨y,hy,e.symm⟩);simp only [ltRm,Bool.or_eq_true,decide_eq_true_eq];omega
theorem Qbo5 {p:Qa} (hp:RightP p) {T:List Qb} (h:Okt p T):∃ T',Qbol T=some T'∧T'.Perm T:=by
 have hst:=hp.a.st;have hl:=h.len;unfold Qbol Qbok;rw [if_pos (by unfold nS at hl;omega),if_pos ?_]
 ·exact ⟨_,rfl,Qkr _ _⟩
 ·simp only [Bool.and_eq_true,List.all_eq_true];refine ⟨fun x hx=>?_,Qbpq h.nd⟩;have:=h.rg x hx;simp only [okRm,decide_eq_true_eq];omega
section
variable {p:Qa} (hp:RightP p) (hnt:∀ e∈p.zA.zM,e.Event≠p.Tick)
include hp hnt
theorem Qbiy {fuel:Nat} (hge:1099511627776≤fuel) {S:List Qb×Int} {f:Nat} (hS:Qse p f 2 (T0 p) (r0 p)=S) (hf:nS p+1≤f+(T0 p).length) :
  Qcm (fun (k48:Int×List Qb×Int×List Bool→Option (List Qb×Int×List Bool)) ((rank44,r45,r46,c47):Int×(List Qb)×Int×(List Bool))=>((lenO c47 (nS p)).bind fun _=>((Qd4 (spr p c47) rank44 true).bind fun x51=>(if ((x51.length:Int)==0) then some (r45,r46,c47) else ((Qcm (fun k55 ((x53,c54):Int×(List Bool))=>(if (x53<(x51.length:Int)) then ((getO x51 x53).bind fun x57=>((inO (nS p) x57.State).bind fun u59=>((setO c54 x57.State false).bind fun x61=>k55 ((IntKind.wrap .i64 (x53+1)),x61)))) else some c54)) fuel (0,c47)).bind fun (c63:List Bool)=>((appO r45 x51).bind fun x64=>k48 ((IntKind.wrap .i64 (rank44+1)),x64,rank44,c63))))))) fuel (2,T0 p,r0 p,Qbb p (T0 p))=some (S.1,S.2,Qbb p S.1):=by
 have hst:=hp.a.st;have hnS:nS p≤4096:=by unfold nS;omega
 refine Q9z (fun x:Int×List Qb×Int×List Bool=>∃ (f:Nat) (T:List Qb),x.2.1=T∧x.2.2.2=Qbb p T∧Okt p T∧Qse p f x.1 T x.2.2.1=S∧nS p+1≤f+T.length∧2≤x.1∧x.1≤T.length+2) (fun x=>(6000-x.1).toNat) (some (S.1,S.2,Qbb p S.1)) ⟨f,T0 p,rfl,rfl,Qbiv hp,hS,hf,by dsimp only;omega,by dsimp only;omega⟩ (by dsimp only;omega) ?_;rintro k ⟨rank,T',r,L⟩ ⟨f,T,hc,hL,hT,hS,hf,h2,hrk⟩ ih;dsimp only at hc hL hS hf h2 hrk ih ⊢;subst hc hL;have hTl:=hT.len;rw [Q0w (Qgn p _),Option.bind_some,Qbqx hp (Qgn p _) hnt,Option.bind_some];obtain ⟨f,rfl⟩ : ∃ g,f=g+1:=⟨f-1,by omega⟩;rw [Qse] at hS;by_cases he:Qhf p (Qbb p T') rank=[]
 ·rw [if_pos he] at hS;rw [if_pos (by rw [he];rfl)];subst hS;rfl
 ·rw [if_neg he] at hS;have hpos:0<(Qhf p (Qbb p T') rank).length:=List.length_pos_iff.2 he;rw [if_neg (by simp only [beq_iff_eq];omega)];have hok:=hT.round (rank:=rank) (by omega);have hmem:∀ x∈Qhf p (Qbb p T') rank,0≤x.State∧x.State<p.zA.zN:=fun x hx=>(Qy0 hx).1;have hol:=hok.len;rw [List.length_append] at hol;generalize Qhf p (Qbb p T') rank=l at *
  have hin:Qcm (fun (k55:Int×List Bool→Option (List Bool)) ((x53,c54):Int×(List Bool))=>(if (x53<(l.length:Int)) then ((getO l x53).bind fun x57=>((inO (nS p) x57.State).bind fun u59=>((setO c54 x57.State false).bind fun x61=>k55 ((IntKind.wrap .i64 (x53+1)),x61)))) else some c54)) fuel (0,Qbb p T')=some (Qbb p (T'++l)):=by
   refine (Qeh (l:=l) (fun i (s:List Bool)=>(i,s)) (fun s x=>s.set x.State.toNat false) (fun _ s=>s.length=nS p) (fun s=>some s) (by unfold big;omega) hge (fun k n s hn hs=>?_) (fun n s hn hs=>by simp only [List.length_set];exact hs) (fun k s hs=>?_) (s0:=Qbb p T') (Qgn p T')).trans ?_
   ·have hr:=hmem _ (List.getElem_mem hn);unfold nS at hs ⊢;dsimp only;rw [if_pos (by omega),Qbt hn,Option.bind_some,Qkv hr.1 (by omega),Option.bind_some,Qks hr.1 (by omega),Option.bind_some]
   ·dsimp only;rw [if_neg (by omega)]
   ·rw [Qbe2]
  rw [hin,Option.bind_some,Qby (by unfold lim;omega),Option.bind_some,Qm0 (by omega) (by omega)];refine ih _ ⟨f,T'++l,rfl,rfl,hok,hS,by rw [List.length_append];omega,by dsimp only;omega,by dsimp only;rw [List.length_append];omega⟩ (by dsimp only;omega)
theorem Qbk9:∃ r,Qig p.zA p.zC p.zB true=some r∧r.zF.Kept=(upto p.zA.zN).filter (lf (Qbb p (solP p).1)) ∧
  r.zI=⟨p.zA.zK,((supP p (Qbb p (solP p).1)).1.length:Int),(supP p (Qbb p (solP p).1)).2.1,(supP p (Qbb p (solP p).1)).2.2⟩∧r.zP=(supP p (Qbb p (solP p).1)).1:=by
 unfold Qig Qdb;obtain ⟨fuel,hfu,hge⟩ : ∃ f,Qch=f∧1099511627776≤f:=⟨_,rfl,Nat.le_refl _⟩;rw [hfu,Qbo2 hp,Option.bind_some];have hst:=hp.a.st;have hnS:nS p≤4096:=by unfold nS;omega
 have hpl:=hp.small;have hfl:=hp.fo.small hst.2;rw [show (spr p (Qbb p (T0 p))).left_=Qbb p (T0 p) from rfl,show (spr p (Qbb p (T0 p))).zA=p.zA from rfl,show (spr p (Qbb p (T0 p))).uncontrollable_=p.zB from rfl,show (spr p (Qbb p (T0 p))).back_=Qbhw p from rfl,Qgn];refine Q40 (v:=([],[],[],[],[],[],[],[],[],T0 p,r0 p,[],[],[],[])) ?_ ?_
 ·refine (Qeh (l:=p.zC) (fun i (s:List Qb×Int)=>(i,[],[],[],[],[],[],[],[],[],s.1,s.2,[],[],[],[])) (fun s x=>(s.1++[⟨x,1,1,-1⟩],1)) (fun n s=>s.1.length≤n) (fun s=>some ([],[],[],[],[],[],[],[],[],s.1,s.2,[],[],[],[])) hpl.2.1 hge (fun k n s hn hs=>?_) (fun n s hn hs=>by simp only [List.length_append,List.length_cons,List.length_nil];omega) (fun k s hs=>?_) (s0:=(([]:List Qb),(0:Int))) (by simp)).trans ?_
  ·dsimp only;rw [if_pos (by omega),Qbt hn,Option.bind_some,Qby (by simp only [List.length_cons,List.length_nil];unfold lim;omega),Option.bind_some]
  ·dsimp only;rw [if_neg (by omega)]
  ·have e1:p.zC.foldl (fun (s:List Qb×Int) x=>(s.1++[(⟨x,1,1,-1⟩ : Qb)],(1:Int))) ([],0)=(p.zC.foldl (fun (c:List Qb) x=>c++[⟨x,1,1,-1⟩]) [],p.zC.foldl (fun (_:Int) _=>(1:Int)) 0):=Q96 (f:=fun (c:List Qb) (x:Int)=>c++[⟨x,1,1,-1⟩]) (g:=fun _ _=>(1:Int));have e2:p.zC.foldl (fun (c:List Qb) x=>c++[⟨x,1,1,-1⟩]) []=T0 p:=by
    have:∀ (l:List Int) (acc:List Qb),l.foldl (fun (c:List Qb) x=>c++[⟨x,1,1,-1⟩]) acc=acc++l.map fun x=>⟨x,1,1,-1⟩:=by
     intro l
     induction l with
     | nil=>intro acc;simp
     | cons x l ih=>intro acc;rw [List.foldl_cons,ih];simp
    rw [this];rfl
   have e3:p.zC.foldl (fun (_:Int) _=>(1:Int)) 0=r0 p:=by
    unfold r0;cases p.zC with
    | nil=>rfl
    | cons x l =>
     rw [if_neg (by simp),List.foldl_cons];have:∀ l:List Int,l.foldl (fun (_:Int) _=>(1:Int)) 1=1:=fun l=>by induction l with|nil=>rfl|cons y l ih=>rw [List.foldl_cons,ih]
     exact this l
   rw [e1,e2,e3]
 dsimp only;have hS:=Qbiy hp hnt hge (S:=solP p) (f:=nS p+1) rfl (by omega);have hSok:=(Qbj6 hp).1;generalize solP p=S at hS hSok ⊢;obtain ⟨T,r⟩:=S;dsimp only at hS hSok ⊢;refine Q40 hS ?_;dsimp only;obtain ⟨T',hT',_⟩:=Qbo5 hp hSok;rw [hT',Option.bind_some];have hlL:=Qgn p T;obtain ⟨D,hD,hDl,_⟩:=Qy1 hp hlL;rw [Q0w hlL];simp only [Option.bind_some];rw [show Q2.mk p.zA p.zB (Qbhw p) (Qbb p T)=spr p (Qbb p T) from rfl,hD,Option.bind_some,Qbqy hp hlL];refine Q40 (v:=((upto p.zA.zN).filter (lf (Qbb p T)),((upto p.zA.zN).filter (lf (Qbb p T))).map (ati D))) ?_ ?_
 ·refine (Qeh (l:=upto p.zA.zN) (fun i (s:List Int×List Int)=>(i,s.1,s.2)) (fun s i=>if lf (Qbb p T) i then (s.1++[i],s.2++[ati D i]) else s) (fun n s=>s.1.length≤n∧s.2.length≤n) (fun s=>some (s.1,s.2)) (by rw [Qbr];unfold big;omega) hge (fun k n s hn hs=>?_) (fun n s hn hs=>?_) (fun k s hs=>?_) (s0:=([],[])) (by simp)).trans ?_
  ·have hn':=Qiv hn;obtain ⟨a1,a2⟩:=hs;have hx:0≤(n:Int)∧(n:Int)<p.zA.zN:=⟨by omega,by omega⟩;unfold nS at hDl;dsimp only;rw [Qj6 hn,if_pos (by omega),Qm3 (d:=0) (l:=D) hx.1 (by omega),Option.bind_some];have hla:=Qgv hlL hx;rw [hlL] at hla;simp only [hla,Option.bind_some];rw [Qby (l:=s.1) (by simp only [List.length_cons,List.length_nil];unfold lim;omega),Qby (l:=s.2) (by simp only [List.length_cons,List.length_nil];unfold lim;omega)];cases lf (Qbb p T) (n:Int)<;>rfl
  ·obtain ⟨a1,a2⟩:=hs;split
   ·simp only [List.length_append,List.length_cons,List.length_nil];omega
   ·omega
  ·unfold nS at hDl;rw [Qbr,if_neg (by omega)]
  ·have:∀ (l:List Int) (s:List Int×List Int),l.foldl (fun s i=>if lf (Qbb p T) i then (s.1++[i],s.2++[ati D i]) else s) s=(s.1++l.filter (lf (Qbb p T)),s.2++(l.filter (lf (Qbb p T))).map (ati D)):=by
    intro l
    induction l with
    | nil=>intro s;simp
    | cons x l ih =>
     intro s;rw [List.foldl_cons,ih];cases hq:lf (Qbb p T) x<;>simp [hq]
   rw [this];rfl
 exact ⟨_,rfl,rfl,rfl,rfl⟩
theorem Qbo6:Qhr p.zA p.zC p.zB=some ((upto p.zA.zN).filter (lf (Qbb p (solP p).1)),0):=by
 have hpl:=hp.small;obtain ⟨r,hr,hk,_⟩:=Qbk9 hp hnt;have hcheck:Qix p.zA p.zC p.zB=some 0:=by
  unfold Qix Qdn;rw [Qbjw hpl.1,Qbdk.2 hp.a,Option.bind_some,if_neg (by simp),Qus hpl.2.1,Qo6.2 hp.fo,Option.bind_some,if_neg (by simp),Qus hpl.2.2.1,Qo6.2 hp.un]
  rfl
 unfold Qhr Qd0 Qh6 Qcd;rw [hcheck,Option.bind_some,if_neg (by simp),hr];simp only [Option.bind_some,hk]
end
end Go.Abs
end
section
namespace Go.Abs
open Go
def bq (b i:Int):Bool:=andI .i64 (b.fdiv (2 ^ (min (Int.toNat i) (IntKind.bits .i64)))) 1==1
def Qbla (p:Qa) (b:Int):List Int:=(upto p.zA.zN).foldl (fun c i=>if bq b i then c else c.set i.toNat 1) (List.replicate (nS p) 0)
section
variable {p:Qa} (hp:RightP p) (b:Int)
theorem Qbj8:(Qbla p b).length=nS p∧∀ x:Int,0≤x→x<p.zA.zN→ati (Qbla p b) x=if bq b x then 0 else 1:=by
 have:=Qbb0 (l:=upto p.zA.zN) (stp:=fun (c:List Int) i=>if bq b i then c else c.set i.toNat 1) (I:=fun m c=>c.length=nS p∧∀ x:Int,0≤x→x<p.zA.zN→ati c x=if x<m∧bq b x=false then 1 else 0) (s0:=List.replicate (nS p) 0) (fun m c hm hc=>?_) ⟨by simp,fun x h0 h1=>by rw [show ati (List.replicate (nS p) 0) x=0 from Qbhn h0 (by unfold nS;omega),if_neg (by omega)]⟩
 ·refine ⟨this.1,fun x h0 h1=>?_⟩;rw [show ati (Qbla p b) x=_ from this.2 x h0 h1,Qbr];cases bq b x with
  | true=>simp
  | false=>rw [if_pos ⟨by omega,rfl⟩];simp
 ·have hm':=Qiv hm;obtain ⟨c1,c2⟩:=hc;rw [Qj6 hm];split
  ·rename_i hb;refine ⟨c1,fun x h0 h1=>?_⟩;rw [c2 x h0 h1];by_cases hx:x=m
   ·subst hx;rw [hb];simp
   ·have:(x<(m:Int))↔(x<((m+1:Nat):Int)):=by omega
    simp only [this]
  ·rename_i hb;refine ⟨by rw [List.length_set];exact c1,fun x h0 h1=>?_⟩;rw [Q8l ⟨by omega,by unfold nS at c1;omega⟩ h0,c2 x h0 h1];by_cases hx:x=m
   ·subst hx;rw [if_pos rfl,if_pos ⟨by omega,by simpa using hb⟩]
   ·rw [if_neg hx];have:(x<(m:Int))↔(x<((m+1:Nat):Int)):=by omega
    simp only [this]
theorem Qbq0:Qbnq (Qbla p b)=rowL p ((upto p.zA.zN).filter (bq b)):=by
 have hl:=(Qbj8 (p:=p) b).1;refine Qbdq (d:=false) (by rw [Qbho,Qbf9,hl]) fun x h0 h1=>?_;rw [Qbho,hl] at h1;have h2:x<p.zA.zN:=by unfold nS at h1;omega
 have e1:lf (Qbnq (Qbla p b)) x=(ati (Qbla p b) x==0):=Qbos h0 (by unfold nS at hl;omega);have e2:lf (rowL p ((upto p.zA.zN).filter (bq b))) x=decide (x∈(upto p.zA.zN).filter (bq b)):=Qbga h0 h2;show lf _ x=lf _ x;rw [e1,e2,(Qbj8 b).2 x h0 h2];cases hq:bq b x with
 | true=>simp [hq,Qi0,h0,h2]
 | false=>simp [hq]
include hp
theorem Qbo7 {l:List Int} (hl:SetP p.zA.zN l) (h:l.all (okS p (rowL p l))=true):∀ x∈l,x∈(upto p.zA.zN).filter (lf (Qbb p (solP p).1)):=by
 have hok:∀ i,0≤i→i<p.zA.zN→lf (rowL p l) i=true→okS p (rowL p l) i=true:=fun i h0 h1 hi=>by
  rw [Qbga h0 h1] at hi;exact List.all_eq_true.1 h i (by simpa using hi)
 have hsub:SubL p (rowL p l) (Qbb p (T0 p)):=fun i h0 h1 hi=>by
  have:=hok i h0 h1 hi;unfold okS at this;simp only [Bool.and_eq_true,Bool.not_eq_true',decide_eq_false_iff_not] at this;rw [Q4x (Qbiv hp).rg h0 h1];simp only [Bool.not_eq_true',List.any_eq_false];intro x hx;obtain ⟨y,hy,rfl⟩:=List.mem_map.1 hx;intro hq;have hq:y=i:=by simpa using hq
  subst hq;exact this.2.1 hy
 have:=Qbe3 hp hok (f:=nS p+1) (rank:=2) (r:=r0 p) (Qbiv hp) hsub (by omega);intro x hx;have hr:=hl.rg x hx;refine List.mem_filter.2 ⟨Qi0.2 hr,this x hr.1 hr.2 ?_⟩;rw [Qbga hr.1 hr.2];simpa using hx
theorem Qbqz:((upto p.zA.zN).filter (lf (Qbb p (solP p).1))).all (okS p (rowL p ((upto p.zA.zN).filter (lf (Qbb p (solP p).1)))))=true:=by
 have e:rowL p ((upto p.zA.zN).filter (lf (Qbb p (solP p).1)))=Qbb p (solP p).1:=by
  refine Qbdq (d:=false) (by rw [Qbf9,Qgn]) fun x h0 h1=>?_;rw [Qbf9] at h1;have h2:x<p.zA.zN:=by unfold nS at h1;omega
  have e2:lf (rowL p ((upto p.zA.zN).filter (lf (Qbb p (solP p).1)))) x=decide (x∈(upto p.zA.zN).filter (lf (Qbb p (solP p).1))):=Qbga h0 h2;show lf _ x=lf _ x;rw [e2,Bool.eq_iff_iff];simp [Qi0,h0,h2]
 rw [e,List.all_eq_true];intro x hx;obtain ⟨h1,h2⟩:=List.mem_filter.1 hx;have:=Qi0.1 h1;exact Qbo0 hp this.1 this.2 h2
end
end Go.Abs
end
section
namespace Go.Abs
open Go
structure Mrg (kp:Bool→Bool→Bool) (l m a b out:List Int):Prop where
 sa:a.Pairwise (· < ·)
 sb:b.Pairwise (· < ·)
 so:out.Pairwise (· < ·)
 oa:∀ o∈out,∀ x∈a,o<x
 ob:∀ o∈out,∀ x∈b,o<x
 ln:out.length+a.length+b.length<big
 eq:∀ x,(x∈out∨kp (decide (x∈a)) (decide (x∈b))=true)↔kp (decide (x∈l)) (decide (x∈m))=true
theorem Mrg.step {kp:Bool→Bool→Bool} (h0:kp false false=false) {l m a b out a' b' : List Int} {z:Int} {p q:Bool} (h:Mrg kp l m a b out) (ha:a=if p then z::a' else a') (hb:b=if q then z::b' else b') (hpq:p=true∨q=true)
  (hza:∀ x∈a',z<x) (hzb:∀ x∈b',z<x):Mrg kp l m a' b' (if kp p q then out++[z] else out):=by
 have ma:∀ x,x∈a↔(p=true∧x=z)∨x∈a':=fun x=>by rw [ha];cases p<;>simp
 have mb:∀ x,x∈b↔(q=true∧x=z)∨x∈b':=fun x=>by rw [hb];cases q<;>simp
 have hoz:∀ o∈out,o<z:=fun o ho=>by
  rcases hpq with rfl|rfl
  ·exact h.oa o ho z ((ma z).2 (.inl ⟨rfl,rfl⟩))
  ·exact h.ob o ho z ((mb z).2 (.inl ⟨rfl,rfl⟩))
 have hm:∀ o,o∈(if kp p q then out++[z] else out)↔o∈out∨(kp p q=true∧o=z):=fun o=>by cases kp p q<;>simp
 have hza' : z∉a':=fun hx=>by have:=hza z hx;omega
 have hzb' : z∉b':=fun hx=>by have:=hzb z hx;omega
 refine ⟨?_,?_,?_,?_,?_,?_,fun x=>?_⟩
 ·have:=h.sa;rw [ha] at this;cases p
  ·exact this
  ·exact (List.pairwise_cons.1 this).2
 ·have:=h.sb;rw [hb] at this;cases q
  ·exact this
  ·exact (List.pairwise_cons.1 this).2
 ·cases kp p q
  ·exact h.so
  ·simp only [if_true];rw [List.pairwise_append];exact ⟨h.so,by simp,fun o ho y hy=>by simp at hy;subst hy;exact hoz o ho⟩
 ·intro o ho x hx;rcases (hm o).1 ho with ho|⟨_,rfl⟩
  ·exact h.oa o ho x ((ma x).2 (.inr hx))
  ·exact hza x hx
 ·intro o ho x hx;rcases (hm o).1 ho with ho|⟨_,rfl⟩
  ·exact h.ob o ho x ((mb x).2 (.inr hx))
  ·exact hzb x hx
 ·have h1:=h.ln;have h2:a.length=a'.length+if p then 1 else 0:=by rw [ha];cases p<;>simp
  have h3:b.length=b'.length+if q then 1 else 0:=by rw [hb];cases q<;>simp
  have h4:(if kp p q then out++[z] else out).length≤out.length+1:=by split<;>simp
  rcases hpq with rfl|rfl<;>simp at h2 h3<;>omega
 ·rw [← h.eq x,hm];by_cases hx:x=z
  ·subst hx;have e1:decide (x∈a)=p:=by rw [Bool.eq_iff_iff,decide_eq_true_eq,ma];simp [hza']
   have e2:decide (x∈b)=q:=by rw [Bool.eq_iff_iff,decide_eq_true_eq,mb];simp [hzb']
   rw [e1,e2,decide_eq_false hza',decide_eq_false hzb',h0];simp
  ·have e1:decide (x∈a)=decide (x∈a'):=decide_eq_decide.2 (by rw [ma];simp [hx]);have e2:decide (x∈b)=decide (x∈b'):=decide_eq_decide.2 (by rw [mb];simp [hx]);rw [e1,e2];simp [hx]
theorem Qbo8 {kp:Bool→Bool→Bool} {keep:Bool→Bool→Option Bool} (hk:∀ p q,keep p q=some (kp p q)) (h0:kp false false=false) {l m:List Int} (hl:l.Pairwise (· < ·)) (hm:m.Pairwise (· < ·)) (hlm:l.length+m.length<big) :
  ∃ R,Qge l m keep=some R∧R.Pairwise (· < ·)∧∀ x,x∈R↔kp (decide (x∈l)) (decide (x∈m))=true:=by
 unfold Qge Qb3;obtain ⟨fuel,hfu,hge⟩ : ∃ f,Qch=f∧1099511627776≤f:=⟨_,rfl,Nat.le_refl _⟩;rw [hfu];have hg:∀ (x:Int) (l:List Int),getO (x::l) 0=some x:=fun x l=>Qbt (l:=x::l) (n:=0) (by simp);have hd:∀ (x:Int) (l:List Int),slcO (x::l) 1 ((x::l).length:Int)=some l:=fun x l=>by
  have:=Qbjv (l:=x::l) (i:=1) (j:=(x::l).length) (by simp) (by simp);rw [List.take_length] at this;exact this
 have key:=Qgf (F:=fun (k14:List Int×List Int×List Int→Option (List Int)) ((a11,b12,out13):(List Int)×(List Int)×(List Int))=>(((if ((a11.length:Int)>0) then some true else some (decide ((b12.length:Int)>0)))).bind fun (x16:Bool)=>(if x16 then (((if ((a11.length:Int)>0) then (if ((b12.length:Int)==0) then some true else ((getO a11 0).bind fun x20=>((getO b12 0).bind fun x22=>some (decide (x20≤x22))))) else some false)).bind fun (inA24:Bool)=>(((if ((b12.length:Int)>0) then (if ((a11.length:Int)==0) then some true else ((getO b12 0).bind fun x27=>((getO a11 0).bind fun x29=>some (decide (x27≤x29))))) else some false)).bind fun (inB31:Bool)=>(((if inA24 then ((getO a11 0).bind fun x33=>((slcO a11 1 (a11.length:Int)).bind fun x35=>some (x35,x33))) else some (a11,0))).bind fun ((a37,x38):(List Int)×Int)=>(((if inB31 then ((getO b12 0).bind fun x40=>((slcO b12 1 (b12.length:Int)).bind fun x42=>some (x42,x40))) else some (b12,x38))).bind fun ((b44,x45):(List Int)×Int)=>((keep inA24 inB31).bind fun x47=>(if x47 then ((appO out13 [x45]).bind fun x49=>k14 (a37,b44,x49)) else k14 (a37,b44,out13))))))) else some out13)))
  (fun x:List Int×List Int×List Int=>Mrg kp l m x.1 x.2.1 x.2.2) (fun x=>x.1.length+x.2.1.length) (fun _ r=>∃ R,r=some R∧R.Pairwise (· < ·)∧∀ x,x∈R↔kp (decide (x∈l)) (decide (x∈m))=true) ?_ fuel (l,m,[]) ⟨hl,hm,by simp,by simp,by simp,by simpa using hlm,by simp⟩ (by unfold big at hlm;dsimp only;omega)
 ·obtain ⟨R,h1,h2,h3⟩:=key;exact ⟨R,by rw [h1];rfl,h2,h3⟩
 rintro k ⟨a,b,out⟩ h ih;dsimp only at h ih ⊢;have hln:=h.ln;have happ:∀ z:Int,out.length+1≤big→appO out [z]=some (out++[z]):=fun z hz=>Qby (by simp only [List.length_cons,List.length_nil];unfold lim;unfold big at hz;omega);have fin:∀ (a' b' : List Int) (z:Int) (p q:Bool),out.length+1≤big→Mrg kp l m a' b' (if kp p q then out++[z] else out)→a'.length+b'.length<a.length+b.length →
   ∃ R,((keep p q).bind fun x47=>if x47 then ((appO out [z]).bind fun x49=>k (a',b',x49)) else k (a',b',out))=some R∧R.Pairwise (· < ·)∧∀ x,x∈R↔kp (decide (x∈l)) (decide (x∈m))=true:=by
  intro a' b' z p q hz hM hlt;rw [hk,happ z hz];simp only [Option.bind_some];have:=ih (a',b',if kp p q then out++[z] else out) hM hlt;cases hkp:kp p q<;>simp only [hkp,Bool.false_eq_true,if_false,if_true] at this ⊢ <;> exact this
 match a,b,h,fin,hln with
 | [],[],h,fin,hln =>
  refine ⟨out,by simp,h.so,fun x=>?_⟩;rw [← h.eq x];simp [h0]
 | [],y::ys,h,fin,hln =>
  rw [show ((([]:List Int).length:Nat):Int)=0 from rfl];have hp:(((y::ys).length:Nat):Int)>0:=by simp only [List.length_cons];omega
  rw [if_neg (by omega),Option.bind_some,if_pos (by simp)];rw [if_neg (by omega),Option.bind_some,if_pos hp,if_pos (by rfl),Option.bind_some,if_neg (by simp),Option.bind_some,if_pos rfl,hg,hd];simp only [Option.bind_some];exact fin [] ys y false true (by simp only [List.length_cons] at hln;omega) (h.step h0 (z:=y) (p:=false) (q:=true) rfl rfl (.inr rfl) (by simp) (List.pairwise_cons.1 h.sb).1) (by simp)
 | x::xs,[],h,fin,hln =>
  rw [show ((([]:List Int).length:Nat):Int)=0 from rfl];have hp:(((x::xs).length:Nat):Int)>0:=by simp only [List.length_cons];omega
  rw [if_pos hp,Option.bind_some,if_pos rfl,if_pos hp,if_pos (by rfl),Option.bind_some,if_neg (by omega),Option.bind_some,if_pos rfl,hg,hd];simp only [Option.bind_some,Bool.false_eq_true,if_false];exact fin xs [] x true false (by simp only [List.length_cons] at hln;omega) (h.step h0 (z:=x) (p:=true) (q:=false) rfl rfl (.inl rfl) (List.pairwise_cons.1 h.sa).1 (by simp)) (by simp)
 | x::xs,y::ys,h,fin,hln =>
  obtain ⟨ha1,ha2⟩:=List.pairwise_cons.1 h.sa;obtain ⟨hb1,hb2⟩:=List.pairwise_cons.1 h.sb;have hp:(((x::xs).length:Nat):Int)>0:=by simp only [List.length_cons];omega
  have hq:(((y::ys).length:Nat):Int)>0:=by simp only [List.length_cons];omega
  have hp0:((((x::xs).length:Nat):Int)==0)=false:=by simp only [beq_eq_false_iff_ne];omega
  have hq0:((((y::ys).length:Nat):Int)==0)=false:=by simp only [beq_eq_false_iff_ne];omega
  rw [if_pos hp,Option.bind_some,if_pos rfl,if_pos hp,if_neg (by rw [hq0];simp),hg,hg,Option.bind_some,Option.bind_some,Option.bind_some,if_pos hq,if_neg (by rw [hp0];simp),Option.bind_some,Option.bind_some,Option.bind_some,hd,hd];simp only [List.length_cons] at hln;rcases Int.lt_trichotomy x y with hxy|rfl|hxy
  ·have e1:decide (x≤y)=true:=decide_eq_true (by omega);have e2:decide (y≤x)=false:=decide_eq_false (by omega);simp only [e1,e2,Option.bind_some,if_true,Bool.false_eq_true,if_false];exact fin xs (y::ys) x true false (by omega) (h.step h0 (z:=x) (p:=true) (q:=false) rfl rfl (.inl rfl) ha1 (fun z hz=>by
    rcases List.mem_cons.1 hz with rfl|hz
    ·exact hxy
    ·have:=hb1 z hz;omega)) (by simp)
  ·have e1:decide (x≤x)=true:=decide_eq_true (by omega);simp only [e1,Option.bind_some,if_true];exact fin xs ys x true true (by omega) (h.step h0 (z:=x) (p:=true) (q:=true) rfl rfl (.inl rfl) ha1 hb1) (by simp;omega)
  ·have e1:decide (x≤y)=false:=decide_eq_false (by omega);have e2:decide (y≤x)=true:=decide_eq_true (by omega);simp only [e1,e2,Option.bind_some,if_true,Bool.false_eq_true,if_false];exact fin (x::xs) ys y false true (by omega) (h.step h0 (z:=y) (p:=false) (q:=true) rfl rfl (.inr rfl) (fun z hz=>by
    rcases List.mem_cons.1 hz with rfl|hz
    ·exact hxy
    ·have:=ha1 z hz;omega) hb1) (by simp)
end Go.Abs
end
section
namespace Go.Abs
open Go
theorem Qbj9 {l m:List Int} (hl:l.Pairwise (· < ·)) (hm:m.Pairwise (· < ·)) (hlm:l.length+m.length<big) :
  ∃ R,Qj3 l m=some R∧R.Pairwise (· < ·)∧∀ x,x∈R↔x∈l∨x∈m:=by
 unfold Qj3 Qdj;obtain ⟨R,h1,h2,h3⟩:=Qbo8 (kp:=fun p q=>p||q) (keep:=Qmw) (fun p q=>by cases p<;>cases q<;>rfl) rfl hl hm hlm;exact ⟨R,by rw [h1];rfl,h2,fun x=>by rw [h3];simp⟩
end Go.Abs
end
section
namespace Go.Abs
open Go
theorem Qblb {p q:Qa} (h:q.zA=p.zA) (L:List Bool):Qjj q L=Qjj p L:=by
 have:∀ k,dN q L k=dN p L k:=by
  intro k
  induction k with
  | zero=>unfold dN Qbk0;rw [h]
  | succ k ih=>unfold dN;rw [ih,h]
 unfold Qjj;rw [this,h]
theorem Qbka {p:Qa} {L:List Bool} {i:Int}:(escP p L i).1=0↔(∀ y∈outP p.zA i,lf L y.To=false→y.Event∉p.zB)∧(Qi1 p L i=true→Qut p L i=true):=by
 unfold escP;cases hf:(outP p.zA i).find? (fun y=>!lf L y.To&&decide (y.Event∈p.zB)) with
 | some y =>
  have h1:=List.find?_some hf;have h2:=List.mem_of_find?_eq_some hf;simp only [Bool.and_eq_true,Bool.not_eq_true',decide_eq_true_eq] at h1;constructor
  ·intro h;simp at h
  ·intro h;exact absurd h1.2 (h.1 y h2 h1.1)
 | none =>
  rw [List.find?_eq_none] at hf;constructor
  ·intro h;refine ⟨fun y hy h1 h2=>hf y hy (by simp [h1,h2]),fun h1=>?_⟩;cases h2:Qut p L i with
   | true=>rfl
   | false=>rw [h1,h2] at h;simp at h
  ·rintro ⟨_,h⟩;cases h1:Qi1 p L i with
   | false=>simp
   | true=>rw [h h1];simp
theorem Qbh1 {p q:Qa} (hp:RightP p) (hq:RightP q) (h1:q.zA=p.zA) (h2:q.zC=p.zC) (h3:∀ x∈q.zB,x∈p.zB) (h4:∀ x∈p.zD,x∈q.zD) (h5:q.Tick=p.Tick) :
  ∀ x∈(upto p.zA.zN).filter (lf (Qbb p (solP p).1)),x∈(upto q.zA.zN).filter (lf (Qbb q (solP q).1)):=by
 have hk:=Qbqz hp;have hset:SetP p.zA.zN ((upto p.zA.zN).filter (lf (Qbb p (solP p).1))):=⟨fun x hx=>Qi0.1 (List.mem_filter.1 hx).1,(Qur _).filter _⟩;generalize (upto p.zA.zN).filter (lf (Qbb p (solP p).1))=l at hk hset;refine Qbo7 hq (l:=l) (h1 ▸ hset) ?_;rw [List.all_eq_true] at hk ⊢;intro x hx;have:=hk x hx;have hrow:rowL q l=rowL p l:=by unfold rowL;rw [h1]
 rw [hrow];unfold okS at this ⊢;simp only [Bool.and_eq_true,beq_iff_eq,Bool.not_eq_true',decide_eq_false_iff_not,decide_eq_true_eq] at this ⊢;obtain ⟨a1,a2,a3⟩:=this;rw [Qbka] at a1;refine ⟨Qbka.2 ⟨fun y hy hl hu=>?_,fun ht=>?_⟩,by rw [h2];exact a2,by rw [Qblb h1];exact a3⟩
 ·rw [h1] at hy;exact a1.1 y hy hl (h3 _ hu)
 ·have ht' : Qi1 p (rowL p l) x=true:=by unfold Qi1 at ht ⊢;rw [h1,h5] at ht;exact ht
  have:=a1.2 ht';unfold Qut at this ⊢;rw [h1];rw [List.any_eq_true] at this ⊢;obtain ⟨y,hy,hb⟩:=this;refine ⟨y,hy,?_⟩;simp only [Bool.and_eq_true,decide_eq_true_eq] at hb ⊢;exact ⟨hb.1,h4 _ hb.2⟩
theorem Q98 (p:Qa):((upto p.zA.zN).filter (lf (Qbb p (solP p).1))).Pairwise (· < ·):=(Qur _).filter _
theorem Q99 (p:Qa):((upto p.zA.zN).filter (lf (Qbb p (solP p).1))).length≤nS p:=by
 have:=List.length_filter_le (lf (Qbb p (solP p).1)) (upto p.zA.zN);rw [Qbr] at this;exact this
theorem Qbh2 {k:Qbj} (hk:Qbiw k) {f u:Int} (hf:0≤f∧f<256) (hu:0≤u∧u<256):Qea k f u=some true:=by
 unfold Qea Qc4;rw [Qbkx];simp only [Option.bind_some,if_true];obtain ⟨p,hM,hp,ht,h5,hal,hU4,hF4⟩:=Qbix hk;obtain ⟨F,hF,hFs,hF4',hFl,hFlb⟩:=Q4z hf.1 hf.2;obtain ⟨U,hU,hUs,hU4',hUl,hUlb⟩:=Q4z hu.1 hu.2;rw [hM,Option.bind_some,Qtc hp,Option.bind_some];have hpl:=hp.small;have hfl:=hp.fc.small (by omega);have hul:=hp.un.small (by omega);obtain ⟨A,hA,hAs,hAm⟩:=Qbj9 hp.fc.so hFs.so (by unfold big;omega);obtain ⟨B,hB,hBs,hBm⟩:=Qbj9 hp.un.so hUs.so (by unfold big;omega);have hA4:∀ x∈A,0≤x∧x<4:=fun x hx=>by
  rcases (hAm x).1 hx with h|h
  ·exact ⟨(hp.fc.rg x h).1,hF4 x h⟩
  ·exact ⟨(hFs.rg x h).1,hFlb x h⟩
 have hB4:∀ x∈B,0≤x∧x<4:=fun x hx=>by
  rcases (hBm x).1 hx with h|h
  ·exact ⟨(hp.un.rg x h).1,hU4 x h⟩
  ·exact ⟨(hUs.rg x h).1,hUlb x h⟩
 have hq:RightP ⟨p.zA,p.zC,p.zB,A,p.Tick⟩:=⟨hp.a,hp.fo,hp.un,⟨fun x hx=>by have:=hA4 x hx;omega,hAs⟩,hp.ti,hp.tu,fun h=>by have:=hA4 _ h;simp only at this;omega⟩;have hs:RightP ⟨p.zA,p.zC,B,p.zD,p.Tick⟩:=⟨hp.a,hp.fo,⟨fun x hx=>by have:=hB4 x hx;omega,hBs⟩,hp.fc,hp.ti,fun h=>by have:=hB4 _ h;simp only at this;omega,hp.tf⟩;have hw:RightP ⟨p.zA,p.zC,p.zB,p.zD,9⟩:=⟨hp.a,hp.fo,hp.un,hp.fc,by simp only;omega,fun h=>by have:=hU4 _ h;simp only at this;omega,fun h=>by have:=hF4 _ h;simp only at this;omega⟩;have hnt:∀ e∈p.zA.zM,e.Event≠9:=fun e he h=>by
  have:=hal _ (hp.a.ed0 e he).2.2.2.2;omega
 rw [hF,Option.bind_some,hA,Option.bind_some,Qtc hq,Option.bind_some,hU,Option.bind_some,hB,Option.bind_some,Qtc hs,Option.bind_some,Qtc hw,Option.bind_some];have hk9:=Qbo6 hw hnt;rw [show Qhr p.zA p.zC p.zB=some ((upto (⟨p.zA,p.zC,p.zB,p.zD,9⟩ : Qa).zA.zN).filter (lf (Qbb ⟨p.zA,p.zC,p.zB,p.zD,9⟩ (solP ⟨p.zA,p.zC,p.zB,p.zD,9⟩).1)),0) from hk9,Option.bind_some];have k1:Qfo (resP p (solP p).1 (solP p).2).zF.Kept (resP ⟨p.zA,p.zC,p.zB,A,p.Tick⟩ (solP ⟨p.zA,p.zC,p.zB,A,p.Tick⟩).1 (solP ⟨p.zA,p.zC,p.zB,A,p.Tick⟩).2).zF.Kept=some true:=by
  have l1:=Q99 p;have l2:=Q99 ⟨p.zA,p.zC,p.zB,A,p.Tick⟩;have hnS:nS p≤5:=by unfold nS;omega
  have hnS2:nS (⟨p.zA,p.zC,p.zB,A,p.Tick⟩ : Qa)=nS p:=rfl;rw [show (resP p (solP p).1 (solP p).2).zF.Kept=(upto p.zA.zN).filter (lf (Qbb p (solP p).1)) from rfl,show (resP ⟨p.zA,p.zC,p.zB,A,p.Tick⟩ (solP ⟨p.zA,p.zC,p.zB,A,p.Tick⟩).1 (solP ⟨p.zA,p.zC,p.zB,A,p.Tick⟩).2).zF.Kept=(upto (⟨p.zA,p.zC,p.zB,A,p.Tick⟩ : Qa).zA.zN).filter (lf (Qbb ⟨p.zA,p.zC,p.zB,A,p.Tick⟩ (solP ⟨p.zA,p.zC,p.zB,A,p.Tick⟩).1)) from rfl];rw [Qbhv (Q98 _) (Q98 _) (by unfold big;omega) (by omega)];exact congrArg some (decide_eq_true (Qbh1 hp hq rfl rfl (fun x h=>h) (fun x h=>(hAm x).2 (.inl h)) rfl))
 have k2:Qfo (resP ⟨p.zA,p.zC,B,p.zD,p.Tick⟩ (solP ⟨p.zA,p.zC,B,p.zD,p.Tick⟩).1 (solP ⟨p.zA,p.zC,B,p.zD,p.Tick⟩).2).zF.Kept (resP p (solP p).1 (solP p).2).zF.Kept=some true:=by
  have l1:=Q99 p;have l2:=Q99 ⟨p.zA,p.zC,B,p.zD,p.Tick⟩;have hnS:nS p≤5:=by unfold nS;omega
  have hnS2:nS (⟨p.zA,p.zC,B,p.zD,p.Tick⟩ : Qa)=nS p:=rfl;rw [show (resP p (solP p).1 (solP p).2).zF.Kept=(upto p.zA.zN).filter (lf (Qbb p (solP p).1)) from rfl,show (resP ⟨p.zA,p.zC,B,p.zD,p.Tick⟩ (solP ⟨p.zA,p.zC,B,p.zD,p.Tick⟩).1 (solP ⟨p.zA,p.zC,B,p.zD,p.Tick⟩).2).zF.Kept=(upto (⟨p.zA,p.zC,B,p.zD,p.Tick⟩ : Qa).zA.zN).filter (lf (Qbb ⟨p.zA,p.zC,B,p.zD,p.Tick⟩ (solP ⟨p.zA,p.zC,B,p.zD,p.Tick⟩).1)) from rfl];rw [Qbhv (Q98 _) (Q98 _) (by unfold big;omega) (by omega)];exact congrArg some (decide_eq_true (Qbh1 hs hp rfl rfl (fun x h=>(hBm x).2 (.inl h)) (fun x h=>h) rfl))
 have l3:=Q99 (⟨p.zA,p.zC,p.zB,p.zD,9⟩ : Qa);have hnS3:nS (⟨p.zA,p.zC,p.zB,p.zD,9⟩ : Qa)≤5:=by unfold nS;simp only;omega
 have k3:((resP (⟨p.zA,p.zC,p.zB,p.zD,9⟩ : Qa) (solP ⟨p.zA,p.zC,p.zB,p.zD,9⟩).1 (solP ⟨p.zA,p.zC,p.zB,p.zD,9⟩).2).zJ.length:Int)=0:=by
  have:(resP (⟨p.zA,p.zC,p.zB,p.zD,9⟩ : Qa) (solP ⟨p.zA,p.zC,p.zB,p.zD,9⟩).1 (solP ⟨p.zA,p.zC,p.zB,p.zD,9⟩).2).zJ=[]:=by
   unfold resP;refine List.filter_eq_nil_iff.2 fun i _=>?_;have:Qi1 (⟨p.zA,p.zC,p.zB,p.zD,9⟩ : Qa) (Qbb ⟨p.zA,p.zC,p.zB,p.zD,9⟩ (solP ⟨p.zA,p.zC,p.zB,p.zD,9⟩).1) i=false:=by
    unfold Qi1;rw [List.any_eq_false];intro y hy;have:=hnt y (List.mem_filter.1 hy).1;simp [this]
   simp [this]
  rw [this];rfl
 have k4:Qku (resP (⟨p.zA,p.zC,p.zB,p.zD,9⟩ : Qa) (solP ⟨p.zA,p.zC,p.zB,p.zD,9⟩).1 (solP ⟨p.zA,p.zC,p.zB,p.zD,9⟩).2).zF.Kept ((upto (⟨p.zA,p.zC,p.zB,p.zD,9⟩ : Qa).zA.zN).filter (lf (Qbb ⟨p.zA,p.zC,p.zB,p.zD,9⟩ (solP ⟨p.zA,p.zC,p.zB,p.zD,9⟩).1)))=some true:=by
  have e:(resP (⟨p.zA,p.zC,p.zB,p.zD,9⟩ : Qa) (solP ⟨p.zA,p.zC,p.zB,p.zD,9⟩).1 (solP ⟨p.zA,p.zC,p.zB,p.zD,9⟩).2).zF.Kept=(upto (⟨p.zA,p.zC,p.zB,p.zD,9⟩ : Qa).zA.zN).filter (lf (Qbb ⟨p.zA,p.zC,p.zB,p.zD,9⟩ (solP ⟨p.zA,p.zC,p.zB,p.zD,9⟩).1)):=rfl;rw [e,Qbnv (by unfold big;omega)];simp
 simp only [beq_self_eq_true,if_true];rw [k1,Option.bind_some,if_pos rfl,k2,Option.bind_some,if_pos rfl,k4,Option.bind_some,if_pos rfl,k3]
 rfl
end Go.Abs
end
