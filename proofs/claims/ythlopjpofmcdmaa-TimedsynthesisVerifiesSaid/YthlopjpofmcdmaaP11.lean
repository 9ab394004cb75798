/-
  Part 11 of the proof: see the last text.
-/
import Derived.Test.YthlopjpofmcdmaaP10
set_option linter.unusedVariables false
set_option linter.unusedSimpArgs false
set_option linter.unusedSectionVars false
section
namespace Go.Abs
open Go
section
variable {p:Qa} (hp:RightP p) (hnt:∀ e∈p.zB.zQ,e.Event≠p.Tick)
include hp hnt
end
end Go.Abs
end
section
namespace Go.Abs
open Go
section
variable {p:Qa} (hp:RightP p) (b:Int)
include hp
end
end Go.Abs
end
section
namespace Go.Abs
open Go
structure Mrg (kp:Bool→Bool→Bool) (l m a b out:List Int):Prop where
 sa:a.Pairwise (· < ·)
 sb:b.Pairwise (· < ·)
 so:out.Pairwise (· < ·)
 oa:∀ o∈out,∀ x∈a,o<x
 ob:∀ o∈out,∀ x∈b,o<x
 ln:out.length+a.length+b.length<big
 eq:∀ x,(x∈out∨kp (decide (x∈a)) (decide (x∈b))=true)↔kp (decide (x∈l)) (decide (x∈m))=true
theorem Mrg.step {kp:Bool→Bool→Bool} (h0:kp false false=false) {l m a b out a' b' : List Int} {z:Int} {p q:Bool} (h:Mrg kp l m a b out) (ha:a=if p then z::a' else a') (hb:b=if q then z::b' else b') (hpq:p=true∨q=true)
  (hza:∀ x∈a',z<x) (hzb:∀ x∈b',z<x):Mrg kp l m a' b' (if kp p q then out++[z] else out):=by
 have ma:∀ x,x∈a↔(p=true∧x=z)∨x∈a':=fun x=>by rw [ha];cases p<;>simp
 have mb:∀ x,x∈b↔(q=true∧x=z)∨x∈b':=fun x=>by rw [hb];cases q<;>simp
 have hoz:∀ o∈out,o<z:=fun o ho=>by
  rcases hpq with rfl|rfl
  ·exact h.oa o ho z ((ma z).2 (.inl ⟨rfl,rfl⟩))
  ·exact h.ob o ho z ((mb z).2 (.inl ⟨rfl,rfl⟩))
 have hm:∀ o,o∈(if kp p q then out++[z] else out)↔o∈out∨(kp p q=true∧o=z):=fun o=>by cases kp p q<;>simp
 have hza' : z∉a':=fun hx=>by have:=hza z hx;omega
 have hzb' : z∉b':=fun hx=>by have:=hzb z hx;omega
 refine ⟨?_,?_,?_,?_,?_,?_,fun x=>?_⟩
 ·have:=h.sa;rw [ha] at this;cases p
  ·exact this
  ·exact (List.pairwise_cons.1 this).2
 ·have:=h.sb;rw [hb] at this;cases q
  ·exact this
  ·exact (List.pairwise_cons.1 this).2
 ·cases kp p q
  ·exact h.so
  ·simp only [if_true];rw [List.pairwise_append];exact ⟨h.so,by simp,fun o ho y hy=>by simp at hy;subst hy;exact hoz o ho⟩
 ·intro o ho x hx;rcases (hm o).1 ho with ho|⟨_,rfl⟩
  ·exact h.oa o ho x ((ma x).2 (.inr hx))
  ·exact hza x hx
 ·intro o ho x hx;rcases (hm o).1 ho with ho|⟨_,rfl⟩
  ·exact h.ob o ho x ((mb x).2 (.inr hx))
  ·exact hzb x hx
 ·have h1:=h.ln;have h2:a.length=a'.length+if p then 1 else 0:=by rw [ha];cases p<;>simp
  have h3:b.length=b'.length+if q then 1 else 0:=by rw [hb];cases q<;>simp
  have h4:(if kp p q then out++[z] else out).length≤out.length+1:=by split<;>simp
  rcases hpq with rfl|rfl<;>simp at h2 h3<;>omega
 ·rw [← h.eq x,hm];by_cases hx:x=z
  ·subst hx;have e1:decide (x∈a)=p:=by rw [Bool.eq_iff_iff,decide_eq_true_eq,ma];simp [hza']
   have e2:decide (x∈b)=q:=by rw [Bool.eq_iff_iff,decide_eq_true_eq,mb];simp [hzb']
   rw [e1,e2,decide_eq_false hza',decide_eq_false hzb',h0];simp
  ·have e1:decide (x∈a)=decide (x∈a'):=decide_eq_decide.2 (by rw [ma];simp [hx]);have e2:decide (x∈b)=decide (x∈b'):=decide_eq_decide.2 (by rw [mb];simp [hx]);rw [e1,e2];simp [hx]
end Go.Abs
end
section
namespace Go.Abs
open Go
end Go.Abs
end
section
namespace Go.Abs
open Go
theorem Qbdk {p:Qa} {L:List Bool} {i:Int}:(escP p L i).1=0↔(∀ y∈outP p.zB i,lf L y.To=false→y.Event∉p.zC)∧(Qhq p L i=true→Qgs p L i=true):=by
 unfold escP;cases hf:(outP p.zB i).find? (fun y=>!lf L y.To&&decide (y.Event∈p.zC)) with
 | some y =>
  have h1:=List.find?_some hf;have h2:=List.mem_of_find?_eq_some hf;simp only [Bool.and_eq_true,Bool.not_eq_true',decide_eq_true_eq] at h1;constructor
  ·intro h;simp at h
  ·intro h;exact absurd h1.2 (h.1 y h2 h1.1)
 | none =>
  rw [List.find?_eq_none] at hf;constructor
  ·intro h;refine ⟨fun y hy h1 h2=>hf y hy (by simp [h1,h2]),fun h1=>?_⟩;cases h2:Qgs p L i with
   | true=>rfl
   | false=>rw [h1,h2] at h;simp at h
  ·rintro ⟨_,h⟩;cases h1:Qhq p L i with
   | false=>simp
   | true=>rw [h h1];simp
end Go.Abs
end
section
namespace Go.Abs
open Go
section
variable {p:Qa} {c:Qf}
theorem Qbby {x d:Int}:∀ {l:List Qc} {o f n:Bool},kl p c x d l (o,f,n) =
  (!(l.any fun y=>(y.From==x)&&(!decide (ati (Qi4 p c) y.To≥0)&&decide (y.Event∈p.zC))) &&
   kl p c x d [] (o||l.any (fun y=>(y.From==x)&&(!decide (ati (Qi4 p c) y.To≥0)&&(y.Event==p.Tick))),f||l.any (fun y=>(y.From==x)&&(decide (ati (Qi4 p c) y.To≥0)&&decide (y.Event∈p.zF))),
    n||l.any (fun y=>(y.From==x)&&(decide (ati (Qi4 p c) y.To≥0)&&decide (c.zH.getD (ati (Qi4 p c) y.To).toNat 0<d)))))
 | [],o,f,n=>by simp
 | y::ys,o,f,n=>by
  conv=>lhs;rw [kl]
  simp only [List.any_cons];by_cases hf:y.From=x
  case neg =>
   have h1:(y.From==x)=false:=by simpa using hf
   rw [if_pos hf,Qbby (l:=ys)]
   grind
  rw [if_neg (by simpa using hf)];have h1:(y.From==x)=true:=by simpa using hf
  simp only [h1,Bool.true_and];by_cases hb:(!decide (ati (Qi4 p c) y.To≥0)&&decide (y.Event∈p.zC))=true
  ·rw [if_pos hb,hb];simp
  ·rw [if_neg hb,Qbby (l:=ys)]
   grind
end
section
variable {p:Qa} (hp:RightP p) {c:Qf} (hs:Shap0 p c)
include hs
theorem Qbgv {y:Int} (h0:0≤y) (h1:y<p.zB.zS):decide (ati (Qi4 p c) y≥0)=lf (rowL p c.Kept) y:=by
 rw [Q04 h0 h1];apply decide_eq_decide.2;have:=Qxv (c:=c) hs.ke h0 h1
 grind
include hp
theorem Qbfm {n:Nat} (hn:n<c.Kept.length):kl p c c.Kept[n] (c.zH.getD n 0) p.zB.zQ (false,false,false)=Q06 p (rowL p c.Kept) (Qr5 p c) c.Kept[n]:=by
 have hd:=Q76 (p:=p) hs.dl hs.ke hn;have hx:=hs.ke.rg _ (List.getElem_mem hn);rw [← hd,Qbby];generalize c.Kept[n]=x at hx;have hin:=fun {y:Qc} (hy:y∈p.zB.zQ)=>Qbgv hs (hp.a.ed0 y hy).2.2.1 (hp.a.ed0 y hy).2.2.2.1;have cg:∀ {f g:Qc→Bool},(∀ y∈p.zB.zQ,f y=g y)→p.zB.zQ.any f=p.zB.zQ.any g:=fun h=>by
  grind
 have e1:(p.zB.zQ.any fun y=>(y.From==x)&&(!decide (ati (Qi4 p c) y.To≥0)&&decide (y.Event∈p.zC)))=(outP p.zB x).any fun y=>!lf (rowL p c.Kept) y.To&&decide (y.Event∈p.zC):=by
  grind [outP,List.any_filter]
 have e2:(p.zB.zQ.any fun y=>(y.From==x)&&(!decide (ati (Qi4 p c) y.To≥0)&&(y.Event==p.Tick)))=Qhq p (rowL p c.Kept) x:=by
  simp_all [Qhq,outP,List.any_filter,Bool.and_comm,lf]
 have e3:(p.zB.zQ.any fun y=>(y.From==x)&&(decide (ati (Qi4 p c) y.To≥0)&&decide (y.Event∈p.zF)))=Qgs p (rowL p c.Kept) x:=by
  simp_all [Qgs,outP,List.any_filter]
 have e4:(p.zB.zQ.any fun y=>(y.From==x)&&(decide (ati (Qi4 p c) y.To≥0)&&decide (c.zH.getD (ati (Qi4 p c) y.To).toNat 0<ati (Qr5 p c) x)))=(outP p.zB x).any fun y=>lf (rowL p c.Kept) y.To&&decide (ati (Qr5 p c) y.To<ati (Qr5 p c) x):=by
  unfold outP;rw [List.any_filter];refine cg fun y hy=>?_;rw [hin hy];have hr:=hp.a.ed0 y hy;cases hl:lf (rowL p c.Kept) y.To with
  | false=>simp
  | true =>
   rw [Q04 hr.2.2.1 hr.2.2.2.1] at hl;obtain ⟨m,hm,q1,q2⟩:=(Qxv (c:=c) hs.ke hr.2.2.1 hr.2.2.2.1).1 (by simpa using hl);rw [q2,Int.toNat_natCast,← q1,Q76 (p:=p) hs.dl hs.ke hm]
 rw [e1,e2,e3,e4];have hz:((escP p (rowL p c.Kept) x).1==0)=(!((outP p.zB x).any fun y=>!lf (rowL p c.Kept) y.To&&decide (y.Event∈p.zC))&&(!Qhq p (rowL p c.Kept) x||Qgs p (rowL p c.Kept) x)):=by
  rw [Bool.eq_iff_iff];simp only [beq_iff_eq,Qbdk,Bool.and_eq_true,Bool.not_eq_true',List.any_eq_false,Bool.or_eq_true,decide_eq_true_eq,not_and]
  grind
 unfold Q06;rw [hz];generalize ((outP p.zB x).any fun y=>lf (rowL p c.Kept) y.To&&decide (ati (Qr5 p c) y.To<ati (Qr5 p c) x))=nr;generalize ((outP p.zB x).any fun y=>!lf (rowL p c.Kept) y.To&&decide (y.Event∈p.zC))=bad;generalize Qhq p (rowL p c.Kept) x=tk;generalize Qgs p (rowL p c.Kept) x=fo;generalize ati (Qr5 p c) x=d
 grind [kl,Decidable.decide]
end
end Go.Abs
end
section
namespace Go.Abs
open Go
section
variable (p:Qa) (c:Qf) (r:Qb)
def Qbbz (y:Int):Qb:=c.zJ.getD (ati (Qr6 p c) y).toNat zR
def befB (y:Qc):Bool:=decide (ati (Qr6 p c) y.To≥0)&&decide ((Qbbz p c y.To).Rank<r.Rank)
def witB (y:Qc):Bool:=decide (ati (Qr6 p c) y.To≥0)&&(((Qbbz p c y.To).Rank==r.Rank)&&((Qbbz p c y.To).Reason==3))
def Qy1 (s:Bool×Bool×Bool) (y:Qc):Bool×Bool×Bool :=
 if y.From≠r.State then s else (s.1&&(befB p c r y||witB p c r y),s.2.1&&(befB p c r y || !decide (y.Event∈p.zF)),s.2.2||(befB p c r y&&(y.Event==r.Event)))
def finR (s:Bool×Bool×Bool):Bool :=
 if r.Reason=1 then decide (r.Event = -1)&&decide (r.State∈p.zD)
 else if r.Reason=2 then decide (r.Event∈p.zC)&&s.2.2
 else if r.Reason=4 then decide (r.Event=p.Tick)&&(s.2.2&&s.2.1)
 else if r.Reason=3 then decide (r.Event = -1)&&(s.1 && !decide (r.State∈p.zB.zP))
 else false
end
theorem Qbd8 {p:Qa} {c:Qf} {r:Qb}:∀ {l:List Qc} {s:Bool×Bool×Bool},l.foldl (Qy1 p c r) s =
  (s.1 && !((l.filter fun y=>y.From==r.State).any fun y=>!witB p c r y && !befB p c r y),s.2.1 && !((l.filter fun y=>y.From==r.State).any fun y=>decide (y.Event∈p.zF) && !befB p c r y),s.2.2||(l.filter fun y=>y.From==r.State).any fun y=>(y.Event==r.Event)&&befB p c r y)
 | [],s=>by simp
 | y::ys,s=>by
  rw [List.foldl_cons,Qbd8 (l:=ys)];unfold Qy1;by_cases hf:y.From=r.State
  case neg =>
   have h1:(y.From==r.State)=false:=by simpa using hf
   rw [if_pos hf];simp [List.filter_cons,h1]
  have h1:(y.From==r.State)=true:=by simpa using hf
  rw [if_neg (by simpa using hf)];simp only [List.filter_cons,h1,if_true,List.any_cons];obtain ⟨a,f,o⟩:=s;refine Prod.ext ?_ (Prod.ext ?_ ?_)
  ·dsimp only;generalize ((ys.filter fun y=>y.From==r.State).any fun y=>!witB p c r y && !befB p c r y)=q;cases a<;>cases befB p c r y<;>cases witB p c r y<;>cases q<;>rfl
  ·dsimp only;generalize ((ys.filter fun y=>y.From==r.State).any fun y=>decide (y.Event∈p.zF) && !befB p c r y)=q;cases f<;>cases befB p c r y<;>cases decide (y.Event∈p.zF)<;>cases q<;>rfl
  ·dsimp only;generalize ((ys.filter fun y=>y.From==r.State).any fun y=>(y.Event==r.Event)&&befB p c r y)=q;cases o<;>cases befB p c r y<;>cases (y.Event==r.Event)<;>cases q<;>rfl
section
variable {p:Qa} (hp:RightP p) {c:Qf} (hb2:c.zJ.length<big) (hs:Shap0 p c)
include hp hb2 hs
theorem Qbb0 {y:Int} (h0:0≤y) (h1:y<p.zB.zS) (h:ati (Qr6 p c) y≥0):∃ n,∃ hn:n<c.zJ.length,c.zJ[n].State=y∧ati (Qr6 p c) y=n∧Qbbz p c y=c.zJ[n]:=by
 have hat:=Q75 (c:=c) hs.re h0 h1;have:∃ x∈c.zJ,x.State=y:=Classical.byContradiction fun hc=>by
  grind
 grind [Qbbz,Int.toNat_natCast,Qpd]
theorem Q3p {n:Nat} (hn:n<c.zJ.length):Qec p c (Qr6 p c) (n:Int) =
  some (decide (1≤c.zJ[n].Rank)&&finR p c.zJ[n] (p.zB.zQ.foldl (Qy1 p c c.zJ[n]) (true,true,false))):=by
 unfold Qec Qcy;obtain ⟨fuel,hfu,hge⟩ : ∃ f,Qb0=f∧1099511627776≤f:=⟨_,rfl,Nat.le_refl _⟩;rw [hfu,Q2 hn,Option.bind_some];have hsm:=hp.a.small;have hb:c.zJ.length<1000000000000:=hb2;generalize c.zJ[n]=r;by_cases h1:r.Rank<1
 ·grind
 rw [if_neg h1,show decide (1≤r.Rank)=true from by grind,Bool.true_and];refine Option.bind_eq_some_iff.2 ⟨p.zB.zQ.foldl (Qy1 p c r) (true,true,false),?_,?_⟩
 ·refine Qf7 (l:=p.zB.zQ) (fun i (s:Bool×Bool×Bool)=>(s.1,s.2.1,s.2.2,i)) (Qy1 p c r) (fun _ _=>True) (fun s=>some (s.1,s.2.1,s.2.2)) hsm.1.2.2 hge (fun k m s hm _=>?_) (fun _ _ _ _=>trivial) (fun k s _=>?_) (s0:=(true,true,false)) trivial
  ·have he:=List.getElem_mem hm;have hr:=hp.a.ed0 _ he;have hsz:=hsm.2.2.2;obtain ⟨a,f,o⟩:=s;dsimp only;rw [if_pos (by omega),Q2 hm,Option.bind_some];generalize p.zB.zQ[m]=y at hr;obtain ⟨r1,r2,r3,r4,_⟩:=hr;have hkl:(Qr6 p c).length=nS p:=Q5p;unfold Qy1;by_cases hf:y.From=r.State
   case neg=>grind
   rw [if_neg (by simpa using hf),if_neg (by simpa using hf),Qi3 (d:=0) r3 (by unfold nS at hkl;omega),Option.bind_some,hasC hp];by_cases hin:ati (Qr6 p c) y.To≥0
   ·obtain ⟨q,hq,e0,e1,e2⟩:=Qbb0 hp hb2 hs r3 r4 hin;have e1' : at0 0 (Qr6 p c) y.To=(q:Int):=e1;have hbf:befB p c r y=decide (c.zJ[q].Rank<r.Rank):=by unfold befB;grind
    have hwt:witB p c r y=((c.zJ[q].Rank==r.Rank)&&(c.zJ[q].Reason==3)):=by unfold witB;grind
    rw [e1',if_pos (by omega),Q2 hq,hbf,hwt];simp only [Option.bind_some]
    grind
   ·have hin' : ¬ at0 0 (Qr6 p c) y.To≥0:=hin;have hbf:befB p c r y=false:=by unfold befB;grind
    have hwt:witB p c r y=false:=by unfold witB;grind
    grind
  grind
 grind [Qy1,hasF,hasU,Qbgu,finR]
theorem Qbfn {n:Nat} (hn:n<c.zJ.length):finR p c.zJ[n] (p.zB.zQ.foldl (Qy1 p c c.zJ[n]) (true,true,false))=Qyl p (rowL p c.Kept) (Qh7 p c.zJ) (Qty p c) c.zJ[n]:=by
 generalize c.zJ[n]=r;rw [Qbd8];have hnd:(c.zJ.map (·.State)).Nodup:=hs.re.so.imp fun h=>by omega
 have hrr:∀ x∈c.zJ,0≤x.State∧x.State<(List.replicate (nS p) (0:Int)).length:=fun x hx=>by
  have:=hs.re.rg _ (List.mem_map.2 ⟨x,hx,rfl⟩)
  grind
 have key:∀ y∈p.zB.zQ,befB p c r y=lowB (rowL p c.Kept) (Qh7 p c.zJ) y.To r.Rank∧witB p c r y=Q5l (rowL p c.Kept) (Qh7 p c.zJ) (Qty p c) y.To r.Rank:=by
  intro y hy;have hr:=hp.a.ed0 y hy;have hrow:=Q04 (p:=p) (l:=c.Kept) hr.2.2.1 hr.2.2.2.1;unfold befB witB lowB Q5l;rw [hrow];by_cases hin:ati (Qr6 p c) y.To≥0
  ·obtain ⟨q,hq,e0,e1,e2⟩:=Qbb0 hp hb2 hs hr.2.2.1 hr.2.2.2.1 hin;have hx:=List.getElem_mem hq;have h1:y.To∉c.Kept:=e0 ▸ hs.dj _ hx;have h2:ati (Qh7 p c.zJ) y.To=c.zJ[q].Rank:=by
    rw [← e0];exact Qf5 (d:=0) (f:=fun x:Qb=>x.State) (g:=fun x=>x.Rank) hrr hnd _ hx
   have h3:ati (Qty p c) y.To=c.zJ[q].Reason:=by
    rw [← e0];exact Qf5 (d:=0) (f:=fun x:Qb=>x.State) (g:=fun x=>x.Reason) hrr hnd _ hx
   grind
  ·have h1:y.To∈c.Kept:=by
    rcases hs.cover hr.2.2.1 hr.2.2.2.1 with h|⟨x,hx,e⟩
    ·exact h
    ·obtain ⟨m,hm,_,e2⟩:=(Q75 (c:=c) hs.re hr.2.2.1 hr.2.2.2.1).1 x hx e;omega
   grind
 have cg:∀ {f g:Qc→Bool},(∀ y∈p.zB.zQ,f y=g y)→(p.zB.zQ.filter fun y=>y.From==r.State).any f=(outP p.zB r.State).any g:=fun h=>by
  unfold outP
  grind
 have e1:((p.zB.zQ.filter fun y=>y.From==r.State).any fun y=>!witB p c r y && !befB p c r y)=(outP p.zB r.State).any fun y=>!Q5l (rowL p c.Kept) (Qh7 p c.zJ) (Qty p c) y.To r.Rank && !lowB (rowL p c.Kept) (Qh7 p c.zJ) y.To r.Rank:=cg fun y hy=>by grind
 have e2:((p.zB.zQ.filter fun y=>y.From==r.State).any fun y=>decide (y.Event∈p.zF) && !befB p c r y)=(outP p.zB r.State).any fun y=>decide (y.Event∈p.zF) && !lowB (rowL p c.Kept) (Qh7 p c.zJ) y.To r.Rank:=cg fun y hy=>by rw [(key y hy).1]
 have e3:((p.zB.zQ.filter fun y=>y.From==r.State).any fun y=>(y.Event==r.Event)&&befB p c r y)=byB p (rowL p c.Kept) (Qh7 p c.zJ) r:=by
  simp_all [byB]
 rw [e1,e2,e3];unfold finR Qyl
 grind
end
end Go.Abs
end
section
namespace Go.Abs
open Go
def Ok3 (l:List Qb) (N:Int) (K:List Int) (n:Nat) (hn:n<l.length):Prop:=0≤l[n].State∧l[n].State<N∧(0<n→l[n-1].State<l[n].State)∧ati K l[n].State<0
section
variable {l:List Qb} {N:Int} {K:List Int} {n:Nat}
theorem Q2i (hn:n<l.length) (hl:l.length<big) (hK:K.length=N.toNat) (h:Ok3 l N K n hn) :
  ((if (l[n].State<0) then some true else (if (l[n].State≥N) then some true else (if ((n:Int)>0) then ((getO l (IntKind.wrap .i64 ((n:Int)-1))).bind fun x51=>(if (l[n].State≤x51.State) then some true else ((inO (Int.toNat N) l[n].State).bind fun u54=>((getO K l[n].State).bind fun x56=>some (decide (x56≥0)))))) else ((inO (Int.toNat N) l[n].State).bind fun u58=>((getO K l[n].State).bind fun x60=>some (decide (x60≥0))))))):Option Bool)=some false:=by
 have hb:l.length<1000000000000:=hl;obtain ⟨h1,h2,h3,h4⟩:=h;have h4' : at0 0 K l[n].State<0:=h4;have hd:decide (at0 0 K l[n].State≥0)=false:=by grind
 rw [if_neg (by omega),if_neg (by omega),Qf8 h1 (by omega),Option.bind_some,Qi3 (d:=0) h1 (by omega),Option.bind_some,hd];by_cases h0:0<n
 ·have:=h3 h0;rw [if_pos (by omega),Qlu h0 (by omega),Q2 (show n-1<l.length by omega),Option.bind_some,if_neg (by omega)]
 grind
theorem Qbb1 (hn:n<l.length) (hl:l.length<big) (hK:K.length=N.toNat) (h:¬ Ok3 l N K n hn) :
  ((if (l[n].State<0) then some true else (if (l[n].State≥N) then some true else (if ((n:Int)>0) then ((getO l (IntKind.wrap .i64 ((n:Int)-1))).bind fun x51=>(if (l[n].State≤x51.State) then some true else ((inO (Int.toNat N) l[n].State).bind fun u54=>((getO K l[n].State).bind fun x56=>some (decide (x56≥0)))))) else ((inO (Int.toNat N) l[n].State).bind fun u58=>((getO K l[n].State).bind fun x60=>some (decide (x60≥0))))))):Option Bool)=some true:=by
 have hb:l.length<1000000000000:=hl;by_cases h1:l[n].State<0
 ·rw [if_pos h1]
 rw [if_neg h1];by_cases h2:l[n].State≥N
 ·rw [if_pos h2]
 rw [if_neg h2,Qf8 (by omega) (by omega),Option.bind_some,Qi3 (d:=0) (l:=K) (x:=l[n].State) (by omega) (by omega),Option.bind_some];by_cases h0:0<n
 ·rw [if_pos (by omega),Qlu h0 (by omega),Q2 (show n-1<l.length by omega),Option.bind_some];by_cases h4:l[n].State≤l[n-1].State
  ·rw [if_pos h4]
  ·rw [if_neg h4]
   try simp only [Option.bind_some]
   congr 1;simp only [decide_eq_true_eq];exact Decidable.byContradiction fun h5=>h ⟨by omega,by omega,fun _=>by omega,by grind⟩
 ·rw [if_neg (by omega)]
  try simp only [Option.bind_some]
  congr 1;simp only [decide_eq_true_eq];exact Decidable.byContradiction fun h5=>h ⟨by omega,by omega,fun h=>absurd h h0,by grind⟩
end
def Q3q (p:Qa) (c:Qf):Bool:=c.Kept.all (Q06 p (rowL p c.Kept) (Qr5 p c))&&c.zJ.all (fun r=>decide (1≤r.Rank)&&Qyl p (rowL p c.Kept) (Qh7 p c.zJ) (Qty p c) r)
section
variable {p:Qa} (hp:RightP p) {c:Qf} (h1:c.Kept.length<big) (h2:c.zJ.length<big) (h3:c.zH.length<big)
include hp h1 h2 h3
theorem Qbdl (hs:Shap0 p c) {fuel:Nat} (hge:1099511627776≤fuel) :
  Qbv (fun (k70:Int→Option Bool) (i69:Int)=>(if (i69<(c.Kept.length:Int)) then ((Qfx p c (Qi4 p c) i69).bind fun x73=>(if x73 then k70 (IntKind.wrap .i64 (i69+1)) else some false)) else ((lenO (Qr6 p c) (Int.toNat p.zB.zS)).bind fun _=>Qbv (fun k77 (i76:Int)=>(if (i76<(c.zJ.length:Int)) then ((Qec p c (Qr6 p c) i76).bind fun x80=>(if x80 then k77 (IntKind.wrap .i64 (i76+1)) else some false)) else some true)) fuel 0))) fuel 0=some (Q3q p c):=by
 have hb1:c.Kept.length<1000000000000:=h1;have hb2:c.zJ.length<1000000000000:=h2;have hR:Qbv (fun (k77:Int→Option Bool) (i76:Int)=>(if (i76<(c.zJ.length:Int)) then ((Qec p c (Qr6 p c) i76).bind fun x80=>(if x80 then k77 (IntKind.wrap .i64 (i76+1)) else some false)) else some true)) fuel 0=some (c.zJ.all (fun r=>decide (1≤r.Rank)&&Qyl p (rowL p c.Kept) (Qh7 p c.zJ) (Qty p c) r)):=by
  refine (Qgr (len:=c.zJ.length) (fun n (_:Unit)=>(n:Int)) (fun _ _=>True) (fun n _=>some ((c.zJ.drop n).all (fun r=>decide (1≤r.Rank)&&Qyl p (rowL p c.Kept) (Qh7 p c.zJ) (Qty p c) r))) ?_ ?_ fuel 0 () (Nat.zero_le _) (by omega) trivial).trans (by rw [List.drop_zero])
  ·intro k n _ hn _ ih
   try dsimp only
   rw [if_pos (by omega),Q3p hp h2 hs hn,Option.bind_some,Qbfn hp h2 hs hn,List.drop_eq_getElem_cons hn,List.all_cons,Qce (by omega)];cases (decide (1≤c.zJ[n].Rank)&&Qyl p (rowL p c.Kept) (Qh7 p c.zJ) (Qty p c) c.zJ[n]) with
   | true=>simp_all
   | false=>grind
  grind
 refine (Qgr (len:=c.Kept.length) (fun n (_:Unit)=>(n:Int)) (fun _ _=>True) (fun n _=>some ((c.Kept.drop n).all (Q06 p (rowL p c.Kept) (Qr5 p c))&&c.zJ.all (fun r=>decide (1≤r.Rank)&&Qyl p (rowL p c.Kept) (Qh7 p c.zJ) (Qty p c) r))) ?_ ?_ fuel 0 () (Nat.zero_le _) (by omega) trivial).trans (by rw [List.drop_zero];rfl)
 ·intro k n _ hn _ ih
  try dsimp only
  rw [if_pos (by omega),Q6t hp h1 hs.dl hs.ke hn,Option.bind_some,Qbfm hp hs hn,List.drop_eq_getElem_cons hn,List.all_cons,Qce (by omega)];cases Q06 p (rowL p c.Kept) (Qr5 p c) c.Kept[n] with
  | true=>simp_all
  | false=>grind
 simp_all [if_neg,List.drop_length,Qkc,Q5p,Option.bind_some]
theorem Qbb2:(Shap0 p c→Qds p c=some (Q3q p c))∧(¬ Shap0 p c→Qds p c=some false):=by
 have hb1:c.Kept.length<1000000000000:=h1;have hb2:c.zJ.length<1000000000000:=h2;have hst:=hp.a.st;have hN:((nS p:Nat):Int)=p.zB.zS:=by unfold nS;omega
 have hnT:Int.toNat p.zB.zS=nS p:=rfl;have hmk:∀ {α:Type} (v:α),mkO p.zB.zS v=some (List.replicate (nS p) v):=fun v=>by unfold mkO lim;rw [if_pos (by omega)]
 have goal:∃ r,Qds p c=some r∧((Shap0 p c→r=Q3q p c)∧(¬ Shap0 p c→r=false)):=by
  have bad:∀ {X:Option Bool},¬ Shap0 p c→(∃ r,X=some r∧r=false)→∃ r,X=some r∧((Shap0 p c→r=Q3q p c)∧(¬ Shap0 p c→r=false)):=fun h ⟨r,k1,k2⟩=>⟨r,k1,fun hs=>absurd hs h,fun _=>k2⟩;unfold Qds Qcr;obtain ⟨fuel,hfu,hge⟩ : ∃ f,Qb0=f∧1099511627776≤f:=⟨_,rfl,Nat.le_refl _⟩;rw [hfu,Qkb (by omega) (by omega)];by_cases hln:c.Kept.length+c.zJ.length=nS p
  case neg =>
   rw [if_pos (by grind),Option.bind_some,if_pos rfl];exact bad (fun h=>hln h.ln) ⟨_,rfl,rfl⟩
  rw [if_neg (by grind),Option.bind_some];by_cases hdl:c.zH.length=c.Kept.length
  case neg =>
   rw [if_pos (by grind)];exact bad (fun h=>hdl h.dl) ⟨_,rfl,rfl⟩
  rw [if_neg (by grind),hmk,Option.bind_some,Option.bind_some];refine Qbdj (v:=(List.replicate (nS p) (-1),List.replicate (nS p) (-1))) ?_ ?_
  ·refine (Qf7 (l:=upto p.zB.zS) (fun i (s:List Int×List Int)=>(i,s.1,s.2)) (fun s i=>(s.1.set i.toNat (-1),s.2.set i.toNat (-1))) (fun _ s=>s.1.length=nS p∧s.2.length=nS p) (fun s=>some (s.1,s.2)) (by rw [Qch];unfold big;omega) hge (fun k n s hn hs=>?_) (fun n s hn hs=>by grind) (fun k s hs=>?_) (s0:=(List.replicate (nS p) 0,List.replicate (nS p) 0)) (by simp)).trans ?_
   ·have hn':=Qko hn;obtain ⟨a1,a2⟩:=hs;unfold nS at a1 a2
    simp_all [Qlw,if_pos,Qf8,Option.bind_some,Qe1]
   ·simp_all [Qch,if_neg]
   ·rw [show (upto p.zB.zS).foldl (fun (s:List Int×List Int) i=>(s.1.set i.toNat (-1),s.2.set i.toNat (-1))) (List.replicate (nS p) 0,List.replicate (nS p) 0)=((upto p.zB.zS).foldl (fun (c:List Int) i=>c.set i.toNat (-1)) (List.replicate (nS p) 0),(upto p.zB.zS).foldl (fun (c:List Int) i=>c.set i.toNat (-1)) (List.replicate (nS p) 0)) from Qxs (f:=fun (c:List Int) (i:Int)=>c.set i.toNat (-1)) (g:=fun (c:List Int) (i:Int)=>c.set i.toNat (-1))]
    simp_all [Q02,List.map_const',Qch]
  dsimp only;have hrl:(List.replicate (nS p) (-1:Int)).length=nS p:=by simp
  by_cases hk:∀ n (hn:n<c.Kept.length),Ok1 c.Kept p.zB.zS n hn
  case neg =>
   have hk:∃ n,∃ hn:n<c.Kept.length,¬ Ok1 c.Kept p.zB.zS n hn:=Classical.byContradiction fun h=>hk fun n hn=>Classical.byContradiction fun h'=>h ⟨n,hn,h'⟩;obtain ⟨m,⟨hm,hbad⟩,hleast⟩:=Qnh hk;have hgood:∀ n (hn:n<m),Ok1 c.Kept p.zB.zS n (by omega):=fun n hn=>Classical.byContradiction fun h=>by have:=hleast n ⟨by omega,h⟩;omega
   refine bad (fun h=>hbad (SetP.ok1 h.ke m hm)) ?_;refine Qzg (m:=m) (fun i (s:List Int)=>(i,s)) (fun n s=>s.set (c.Kept.getD n 0).toNat (n:Int)) (fun _ s=>s.length=nS p) (fun r=>r=false) (by unfold big;omega) hge (fun k n s hn hs=>?_) (fun n s hn hs=>by grind) (fun k s hs=>?_) (s0:=List.replicate (nS p) (-1)) hrl
   ·have hn' : n<c.Kept.length:=by omega
    have hok:=hgood n hn;have hr1:=hok.1;have hr2:=hok.2.1;unfold nS at hs;rw [show c.Kept.getD n 0=c.Kept[n] from Qpd hn'];dsimp only;rw [if_pos (by omega),Q2 hn',Option.bind_some,Qvj hn' h1 hok,Option.bind_some,if_neg (by simp),Qf8 hr1 (by omega),Option.bind_some,Qe1 hr1 (by omega),Option.bind_some]
   ·dsimp only;rw [if_pos (by omega),Q2 hm,Option.bind_some,Q5i hm h1 hbad,Option.bind_some,if_pos rfl];exact ⟨_,rfl,rfl⟩
  have hke:SetP p.zB.zS c.Kept:=Qbbt hk;have hzk:c.Kept.zipIdx.length=c.Kept.length:=by simp
  refine Qbfj (Qyj (l:=c.Kept.zipIdx) (fun i (s:List Int)=>(i,s)) (fun s (q:Int×Nat)=>s.set q.1.toNat (q.2:Int)) (fun _ s=>s.length=nS p) (by rw [hzk];exact h1) hge (fun k n s hn hs=>?_) (fun n s hn hs=>by grind) (fun k k' s hs=>?_) (s0:=List.replicate (nS p) (-1)) hrl) ?_
  ·have hn' : n<c.Kept.length:=by omega
   have hok:=hk n hn';have hr1:=hok.1;have hr2:=hok.2.1;unfold nS at hs;rw [show c.Kept.zipIdx[n]=(c.Kept[n],n) from by simp];dsimp only;rw [if_pos (by omega),Q2 hn',Option.bind_some,Qvj hn' h1 hok,Option.bind_some,if_neg (by simp),Qf8 hr1 (by omega),Option.bind_some,Qe1 hr1 (by omega),Option.bind_some]
  ·grind
  rw [show c.Kept.zipIdx.foldl (fun s (q:Int×Nat)=>s.set q.1.toNat (q.2:Int)) (List.replicate (nS p) (-1))=Qi4 p c from rfl];dsimp only;rw [if_neg (by omega)];have hkl:(Qi4 p c).length=nS p:=Q5o;have hKn:(Qi4 p c).length=p.zB.zS.toNat:=hkl;by_cases hr:∀ n (hn:n<c.zJ.length),Ok3 c.zJ p.zB.zS (Qi4 p c) n hn
  case neg =>
   have hr:∃ n,∃ hn:n<c.zJ.length,¬ Ok3 c.zJ p.zB.zS (Qi4 p c) n hn:=Classical.byContradiction fun h=>hr fun n hn=>Classical.byContradiction fun h'=>h ⟨n,hn,h'⟩;obtain ⟨m,⟨hm,hbad⟩,hleast⟩:=Qnh hr;have hgood:∀ n (hn:n<m),Ok3 c.zJ p.zB.zS (Qi4 p c) n (by omega):=fun n hn=>Classical.byContradiction fun h=>by have:=hleast n ⟨by omega,h⟩;omega
   refine bad (fun h=>hbad ?_) ?_
   ·have hx:=h.re.rg _ (List.mem_map.2 ⟨_,List.getElem_mem hm,rfl⟩);refine ⟨hx.1,hx.2,fun h0=>?_,?_⟩
    ·have:=List.pairwise_iff_getElem.1 h.re.so (m-1) m (by grind) (by grind) (by omega);simpa using this
    ·have:=(Qxv (c:=c) hke hx.1 hx.2).2 (h.dj _ (List.getElem_mem hm));omega
   ·refine Qzg (m:=m) (fun i (s:List Int)=>(i,s)) (fun n s=>s.set (c.zJ.getD n zR).State.toNat (n:Int)) (fun _ s=>s.length=nS p) (fun r=>r=false) (by unfold big;omega) hge (fun k n s hn hs=>?_) (fun n s hn hs=>by grind) (fun k s hs=>?_) (s0:=List.replicate (nS p) (-1)) hrl
    ·have hn' : n<c.zJ.length:=by omega
     have hok:=hgood n hn;have hr1:=hok.1;have hr2:=hok.2.1;unfold nS at hs;rw [show c.zJ.getD n zR=c.zJ[n] from Qpd hn'];dsimp only;rw [if_pos (by omega),Q2 hn',Option.bind_some,Q2i hn' h2 hKn hok,Option.bind_some,if_neg (by simp),Qf8 hr1 (by omega),Option.bind_some,Qe1 hr1 (by omega),Option.bind_some]
    ·dsimp only;rw [if_pos (by omega),Q2 hm,Option.bind_some,Qbb1 hm h2 hKn hbad,Option.bind_some,if_pos rfl];exact ⟨_,rfl,rfl⟩
  have hs:Shap0 p c:=by
   refine ⟨hln,hdl,hke,⟨fun x hx=>?_,Q3m fun n hn=>?_⟩,fun x hx hin=>?_⟩
   ·obtain ⟨z,hz,rfl⟩:=List.mem_map.1 hx;obtain ⟨n,hn,rfl⟩:=List.getElem_of_mem hz;exact ⟨(hr n hn).1,(hr n hn).2.1⟩
   ·rw [List.length_map] at hn;have:=(hr (n+1) hn).2.2.1 (by omega);simpa using this
   ·obtain ⟨n,hn,rfl⟩:=List.getElem_of_mem hx;have hq:=hr n hn;obtain ⟨m,hm,_,e⟩:=(Qxv (c:=c) hke hq.1 hq.2.1).1 hin;have:=hq.2.2.2;omega
  have hzr:c.zJ.zipIdx.length=c.zJ.length:=by simp
  refine Qbfj (Qyj (l:=c.zJ.zipIdx) (fun i (s:List Int)=>(i,s)) (fun s (q:Qb×Nat)=>s.set q.1.State.toNat (q.2:Int)) (fun _ s=>s.length=nS p) (by rw [hzr];exact h2) hge (fun k n s hn hs=>?_) (fun n s hn hs=>by grind) (fun k k' s hs=>?_) (s0:=List.replicate (nS p) (-1)) hrl) ?_
  ·have hn' : n<c.zJ.length:=by omega
   have hok:=hr n hn';have hr1:=hok.1;have hr2:=hok.2.1;unfold nS at hs;rw [show c.zJ.zipIdx[n]=(c.zJ[n],n) from by simp];dsimp only;rw [if_pos (by omega),Q2 hn',Option.bind_some,Q2i hn' h2 hKn hok,Option.bind_some,if_neg (by simp),Qf8 hr1 (by omega),Option.bind_some,Qe1 hr1 (by omega),Option.bind_some]
  ·grind
  rw [show c.zJ.zipIdx.foldl (fun s (q:Qb×Nat)=>s.set q.1.State.toNat (q.2:Int)) (List.replicate (nS p) (-1))=Qr6 p c from rfl];dsimp only;rw [if_neg (by omega),Qkc hKn,Option.bind_some,Qbdl hp h1 h2 h3 hs hge];exact ⟨_,rfl,fun _=>rfl,fun h=>absurd hs h⟩
 grind
theorem Qxw:∃ b,Qds p c=some b∧Qdm p c=some (if b then 0 else 24):=by
 obtain ⟨v1,v2⟩:=Q5n hp h1 h2 h3;obtain ⟨q1,q2⟩:=Qbb2 hp h1 h2 h3;by_cases h0:Shap0 p c
 ·refine ⟨Q3q p c,q1 h0,?_⟩;by_cases hr:∀ x∈c.zJ,1≤x.Rank
  ·rw [v1 (Q07.2 ⟨h0,hr⟩)];have:Q3q p c=Q84 p c:=by
    unfold Q3q Q84
    grind
   rw [this]
  ·rw [v2 fun h=>hr (Q07.1 h).2];have:Q3q p c=false:=by
    rw [Bool.eq_false_iff];intro h;unfold Q3q at h
    grind
   rw [this];rfl
 grind [Q07]
end
end Go.Abs
end
section
namespace Go.Abs
open Go
structure Qwt (x:Qs):Prop where
 fi:0≤x.Field∧x.Field<256
 att:0≤x.At∧x.At<256
 by' : -128≤x.By∧x.By<128
def Qv2 (n:Nat) (c:Qf):Prop:=c.Kept.length≤n∧c.zH.length≤n∧c.zJ.length≤n
theorem Q5q {k:Qbb} (hk:Q03 k) {x:Qs×Qs} (hx1:Qwt x.1) (hx2:Qwt x.2)
  (hch:∀ (n:Nat) (c:Qf) (x:Qs),n≤100→Qv2 n c→Qwt x→∃ c',Qe0 c x=some c'∧Qv2 (n+1) c'):Qc2 k x=some true:=by
 unfold Qc2 Qeb;rw [Q8w];simp only [Option.bind_some,if_true];obtain ⟨p,hM,hp,_,h5⟩:=Qbbr hk;have hres:=Qbbq hp (Qxt hp).1 (r:=(solP p).2);rw [hM,Option.bind_some,Qbda hp,Option.bind_some,hres,Option.bind_some];have hst:=hp.a.st;have hnS:nS p≤5:=by unfold nS;omega
 have hs:=Qxu hp;have hln:=hs.ln;have hdl:=hs.dl;rw [show (resP p (solP p).1 (solP p).2).zG=crt p from rfl];have hc0:Qv2 5 (crt p):=⟨by omega,by omega,by omega⟩;obtain ⟨c1,e1,s1⟩:=hch 5 (crt p) x.1 (by omega) hc0 hx1;obtain ⟨c2,e2,s2⟩:=hch 6 c1 x.2 (by omega) s1 hx2;rw [e1,Option.bind_some,e2,Option.bind_some];have big7:∀ {c:Qf},Qv2 7 c→c.Kept.length<big∧c.zJ.length<big∧c.zH.length<big:=fun ⟨a,b,d⟩=>by unfold big;omega
 have up:∀ {n:Nat} {c:Qf},n≤7→Qv2 n c→Qv2 7 c:=fun h ⟨a,b,d⟩=>⟨by omega,by omega,by omega⟩;obtain ⟨a1,a2,a3⟩:=big7 (up (by omega) hc0);have hv:Qdm p (crt p)=some 0:=by
  grind [Q5n,Qbdi]
 obtain ⟨b,hb1,hb2⟩:=Qxw hp a1 a2 a3;have hbt:b=true:=by
  grind
 subst hbt;rw [hv,hb1];simp only [Option.bind_some,bne_self_eq_false,Bool.false_eq_true,if_false,Bool.not_true];obtain ⟨fuel,hfu,hge⟩ : ∃ f,Qb0=f∧1099511627776≤f:=⟨_,rfl,Nat.le_refl _⟩;rw [hfu];have all:∀ c∈[c1,c2,(⟨[],[],[]⟩ : Qf)],Qv2 7 c:=by
  intro c hc;simp only [List.mem_cons,List.not_mem_nil,or_false] at hc;rcases hc with rfl|rfl|rfl
  ·exact up (by omega) s1
  ·exact s2
  ·exact ⟨by simp,by simp,by simp⟩
 have hl3:[c1,c2,(⟨[],[],[]⟩ : Qf)].length=3:=rfl;generalize [c1,c2,(⟨[],[],[]⟩ : Qf)]=l at all hl3;refine (Qgr (len:=3) (fun n (_:Unit)=>(n:Int)) (fun _ _=>True) (fun _ _=>some true) ?_ ?_ fuel 0 () (Nat.zero_le _) (by omega) trivial)
 ·intro k' n _ hn _ ih
  try dsimp only
  obtain ⟨b1,b2,b3⟩:=big7 (all _ (List.getElem_mem (show n<l.length by omega)));obtain ⟨b,q1,q2⟩:=Qxw hp b1 b2 b3;rw [if_pos (by omega),Q2 (show n<l.length by omega),Option.bind_some,q1,q2,Qce (by omega)];cases b<;>simp only [Option.bind_some,if_true,Bool.false_eq_true,if_false,bne_self_eq_false]<;>exact ih () trivial
 grind
end Go.Abs
end
section
namespace Go.Abs
open Go
section
variable {α:Type}
theorem Q5r {l:List α} (h:0<l.length):neO l=some ():=by
 cases l with
 | nil=>simp at h
 | cons=>rfl
theorem Q3r {a:Int} {n:Nat} (h0:0≤a) (hn:0<n):∃ j:Nat,remO .i64 a (n:Int)=some (j:Int)∧j<n:=by
 refine ⟨(a.tmod n).toNat,?_,?_⟩
 ·unfold remO;rw [if_neg (by omega),Int.toNat_of_nonneg (Int.tmod_nonneg _ h0)]
 simp_all [Int.tmod_lt_of_pos,Int.tmod_nonneg]
theorem Q3s {l:List α} {j:Nat} {y:α} (h:j<l.length):setO l (j:Int) y=some (l.set j y):=by
 grind [Qe1,Int.toNat_natCast]
theorem Qbfo {l:List α} {j:Nat} {φ:α→α} (h:j<l.length):updO l (j:Int) φ=some (l.set j (φ l[j])):=by
 unfold updO;rw [Q2 h,Option.bind_some,Q3s h]
theorem Q08 {n j:Nat} (h:j≤n):preO n (j:Int)=some ():=by
 simp_all [preO,if_pos]
theorem Qp6 {l m:List α} (h:l.length+m.length≤1000):appO l m=some (l++m):=Qd7 (Nat.le_trans h (by unfold lim;omega))
theorem Qbb3 {l:List α} {j:Nat} (h:j<l.length) (hl:l.length≤1000):delO l (j:Int) ((j+1:Nat):Int)=some (l.take j++l.drop (j+1)):=by
 unfold delO leO;rw [Int.toNat_natCast,Int.toNat_natCast,if_pos (by omega),Option.bind_some,Qp6 (by grind)]
end
theorem Q2j (R:List Qb) (st:Int) (hR:R.length≤1000):∀ (fuel n:Nat),n≤R.length→R.length-n<fuel →
  ∃ i:Nat,i≤R.length∧Qbv (fun k (i:Int)=>((if (i<(R.length:Int)) then ((getO R i).bind fun x=>some (decide (x.State<st))) else some false).bind fun (b:Bool)=>(if b then k (IntKind.wrap .i64 (i+1)) else some i))) fuel (n:Int)=some (i:Int)
 | 0,n,_,h=>by omega
 | fuel+1,n,hn,hf=>by
  simp only [Qbv];by_cases hlt:n<R.length
  ·rw [if_pos (by omega),Q2 hlt,Option.bind_some,Option.bind_some];by_cases hs:R[n].State<st
   ·rw [if_pos (by simpa using hs),Qce (by omega)];exact Q2j R st hR fuel (n+1) (by omega) (by omega)
   grind
  grind
theorem Q87 {n:Nat} {c:Qf} {x:Qs} (hn:n≤100) (hc:Qv2 n c) (hx:Qwt x):∃ c',Qe0 c x=some c'∧Qv2 (n+1) c':=by
 obtain ⟨K,D,R⟩:=c;obtain ⟨h1,h2,h3⟩:=hc;have h1:K.length≤n:=h1;have h2:D.length≤n:=h2;have h3:R.length≤n:=h3;obtain ⟨hF,hA,hB⟩:=hx;unfold Qe0 Qcf;obtain ⟨fuel,hfu,hge⟩ : ∃ f,Qb0=f∧1099511627776≤f:=⟨_,rfl,Nat.le_refl _⟩;rw [hfu];simp only [Qp6 (show ([]:List Int).length+K.length≤1000 by simp;omega),Qp6 (show ([]:List Int).length+D.length≤1000 by simp;omega),Qp6 (show ([]:List Qb).length+R.length≤1000 by simp;omega),Option.bind_some,List.nil_append];rw [Qkb (x:=x.At) (by omega) (by omega),Qkb (x:=x.By) (by omega) (by omega)];obtain ⟨q,hq,hq8⟩ : ∃ q:Nat,Int.tmod x.Field 8=q∧q<8:=by
  have e1:=Int.tmod_nonneg 8 hF.1;have e2:=Int.tmod_lt_of_pos x.Field (show (0:Int)<8 by omega);exact ⟨(Int.tmod x.Field 8).toNat,by omega,by omega⟩
 rw [hq];have hA0:=hA.1;generalize x.At=at' at *
 generalize x.By=by' at *
 have L:∀ {K' D' : List Int} {R' : List Qb},K'.length≤n+1→D'.length≤n+1→R'.length≤n+1→∃ c',some (Qf.mk K' D' R')=some c'∧Qv2 (n+1) c':=fun a b c=>⟨_,rfl,a,b,c⟩;by_cases c1:q<2∧0<K.length
 ·rw [if_pos (by omega),Option.bind_some];simp only [decide_eq_true_eq];rw [if_pos (by omega)];by_cases c0:q=0
  ·subst c0;obtain ⟨j,hj,hjl⟩:=Q3r hA0 c1.2;rw [if_pos (by rfl),Q5r c1.2,Option.bind_some,hj,Option.bind_some,Qf8 (by omega) (by omega),Option.bind_some,Q2 hjl,Option.bind_some,Option.bind_some,Q3s hjl,Option.bind_some,Qkc (by simp),Option.bind_some,Option.bind_some]
   grind [List.length_set,List.length_append,List.length_take,List.length_drop,List.length_cons,List.length_nil]
  ·rw [if_neg (by simp;omega)];by_cases cD:0<D.length
   ·obtain ⟨j,hj,hjl⟩:=Q3r hA0 cD;rw [if_pos (by omega),Q5r cD,Option.bind_some,hj,Option.bind_some,Qf8 (by omega) (by omega),Option.bind_some,Q2 hjl,Option.bind_some,Option.bind_some,Q3s hjl,Option.bind_some,Qkc (by simp),Option.bind_some,Option.bind_some]
    grind [List.length_set,List.length_append,List.length_take,List.length_drop,List.length_cons,List.length_nil]
   grind
 obtain ⟨b,hb⟩ : ∃ b:Bool,(if (q:Int)<2 then some (at',by',decide ((K.length:Int)>0)) else some (at',by',false))=some (at',by',b)∧b=false:=by
  by_cases h:q<2
  ·simp_all
  ·rw [if_neg (by omega)];exact ⟨_,rfl,rfl⟩
 obtain ⟨hb,rfl⟩:=hb;rw [hb,Option.bind_some];simp only [Bool.false_eq_true,if_false];by_cases c2:q<6∧0<R.length
 ·rw [if_pos (by omega),Option.bind_some];simp only [decide_eq_true_eq];obtain ⟨j,hj,hjl⟩:=Q3r hA0 c2.2;rw [if_pos (by omega),Q5r c2.2,Option.bind_some,hj,Option.bind_some,Qf8 (by omega) (by omega),Option.bind_some];simp only [Q2 hjl,Option.bind_some,Qbfo hjl,Qkc (List.length_set ..)]
  grind [List.length_set,List.length_append,List.length_take,List.length_drop,List.length_cons,List.length_nil]
 obtain ⟨b,hb,rfl⟩ : ∃ b:Bool,(if (q:Int)<6 then some (decide ((R.length:Int)>0)) else some false)=some b∧b=false:=by
  by_cases h:q<6
  ·simp_all
  ·rw [if_neg (by omega)];exact ⟨_,rfl,rfl⟩
 rw [hb,Option.bind_some];simp only [Bool.false_eq_true,if_false];by_cases c3:q=6∧0<K.length∧0<D.length
 ·obtain ⟨rfl,cK,cD⟩:=c3;rw [if_pos (by rfl),if_pos (by omega),Option.bind_some];simp only [decide_eq_true_eq];rw [if_pos (by omega)];obtain ⟨m,hm,hmK,hmD,hm0⟩ : ∃ m:Nat,(if (D.length:Int)<(K.length:Int) then (D.length:Int) else (K.length:Int))=m∧m≤K.length∧m≤D.length∧0<m:=by
   grind
  rw [hm];obtain ⟨j,hj,hjm⟩:=Q3r hA0 hm0;have hjK:j<K.length:=by omega
  have hjD:j<D.length:=by omega
  rw [hj,Option.bind_some,Q2 hjK,Option.bind_some,Q5r cK,Option.bind_some,Q5r cD,Option.bind_some,Q08 (by omega),Option.bind_some,Qce (by omega),Q08 (by omega),Option.bind_some,Qbb3 hjK (by omega),Option.bind_some,Q08 (by omega),Option.bind_some,Q08 (by omega),Option.bind_some,Qbb3 hjD (by omega),Option.bind_some];obtain ⟨i,hi,hl⟩:=Q2j R K[j] (by omega) fuel 0 (by omega) (by omega);rw [show ((0:Nat):Int)=0 from rfl] at hl;rw [hl,Option.bind_some,Q08 hi,Option.bind_some,Option.bind_some,Int.toNat_natCast,Qp6 (by simp;omega),Option.bind_some,Qp6 (by simp;omega),Option.bind_some,Option.bind_some];refine L ?_ ?_ ?_<;>(try dsimp only)<;>(grind)<;>omega
 obtain ⟨b,hb,rfl⟩ : ∃ b:Bool,(if ((q:Int)==6)=true then (if (K.length:Int)>0 then some (decide ((D.length:Int)>0)) else some false) else some false)=some b∧b=false:=by
  grind
 rw [hb,Option.bind_some];simp only [Bool.false_eq_true,if_false]
 grind [Qp6,List.length_set,List.length_append,List.length_take,List.length_drop,List.length_cons,List.length_nil]
theorem Qbb4 {k:Qbb} (hk:Q03 k) {x:Qs×Qs} (hx1:Qwt x.1) (hx2:Qwt x.2):Qc2 k x=some true :=by grind [Q5q,Q87]
end Go.Abs
end
section
namespace Go.Proofs
open Go Go.Abs
theorem Qbg9 {x:Int} (h:wfI .i8 x) : -128≤x∧x<128:=by
 unfold wfI at h;simp [Lit.wf,IntKind.min,IntKind.max,IntKind.bits,IntKind.signed] at h;omega
theorem Qbgw {x:Qs} (h:W_71 x):Qwt x:=⟨Q5g h.1,Q5g h.2.1,Qbg9 h.2.2⟩
end Go.Proofs
end
