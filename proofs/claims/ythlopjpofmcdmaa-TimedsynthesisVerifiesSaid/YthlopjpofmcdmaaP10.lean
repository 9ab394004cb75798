/-
  Part 10 of the proof: see the last text.
-/
import Derived.Test.YthlopjpofmcdmaaP9
set_option linter.unusedVariables false
set_option linter.unusedSimpArgs false
set_option linter.unusedSectionVars false
section
namespace Go.Abs
open Go
def Q6p (p:Qa) (L:List Bool):List Int:=(upto p.zB.zS).map fun i=>if lf L i&&decide (i∈p.zB.zP) then 0 else -1
def Qwr (L:List Bool) (d:Int) (out:List Int) (x:Qc):Bool:=lf L x.From&&(lf L x.To&&(decide (ati out x.From<0)&&(ati out x.To==d)))
def Qm4 (L:List Bool) (d:Int) (out:List Int) (x:Qc):List Int:=if Qwr L d out x then out.set x.From.toNat (d+1) else out
def dN (p:Qa) (L:List Bool):Nat→List Int
 | 0=>Q6p p L
 | k+1=>p.zB.zQ.foldl (Qm4 L (k:Int)) (dN p L k)
def Qm5 (p:Qa) (L:List Bool):List Int:=dN p L p.zB.zS.toNat
structure Grow (p:Qa) (L:List Bool) (d:Int) (out out' : List Int):Prop where
 ln:out'.length=out.length
 vl:∀ y,0≤y→y<p.zB.zS→ati out' y=ati out y∨(ati out y<0∧ati out' y=d+1∧lf L y=true∧∃ e∈p.zB.zQ,e.From=y∧lf L e.To=true∧ati out e.To=d)
section
variable {p:Qa} (hp:RightP p) {L:List Bool} {d:Int} (hd:0≤d)
theorem Grow.refl (out:List Int):Grow p L d out out:=⟨rfl,fun _ _ _=>.inl rfl⟩
include hp hd
theorem Grow.trans {a b c:List Int} (h:Grow p L d a b) (k:Grow p L d b c):Grow p L d a c:=by
 refine ⟨k.ln.trans h.ln,fun y h0 h1=>?_⟩;rcases k.vl y h0 h1 with e|⟨k1,k2,k3,e,he,k4,k5,k6⟩
 ·rw [e];exact h.vl y h0 h1
 ·rcases h.vl y h0 h1 with e1|⟨_,e1,_⟩
  ·refine .inr ⟨by omega,k2,k3,e,he,k4,k5,?_⟩;have hr:=hp.a.ed0 e he;rcases h.vl e.To hr.2.2.1 hr.2.2.2.1 with e2|⟨_,e2,_⟩<;>omega
  ·omega
theorem Qvh {out:List Int} (hl:out.length=p.zB.zS.toNat) {x:Qc} (hx:x∈p.zB.zQ):Grow p L d out (Qm4 L d out x):=by
 unfold Qm4;cases hc:Qwr L d out x with
 | false=>exact Grow.refl out
 | true =>
  have hr:=hp.a.ed0 x hx;unfold Qwr at hc;simp only [Bool.and_eq_true,decide_eq_true_eq,beq_iff_eq] at hc;refine ⟨by simp,fun y h0 h1=>?_⟩;simp only [if_true];rw [Qwp ⟨hr.1,by omega⟩ h0];by_cases hy:y=x.From
  ·subst hy;rw [if_pos rfl];exact .inr ⟨hc.2.2.1,rfl,hc.1,x,hx,rfl,hc.2.1,hc.2.2.2⟩
  ·rw [if_neg hy];exact .inl rfl
theorem Qxq:∀ {l:List Qc} {out:List Int},(∀ x∈l,x∈p.zB.zQ)→out.length=p.zB.zS.toNat→Grow p L d out (l.foldl (Qm4 L d) out)
 | [],out,_,_=>Grow.refl out
 | x::l,out,hm,hl=>by
  have h1:=Qvh (L:=L) hp hd hl (hm x (by simp));exact h1.trans hp hd (Qxq (l:=l) (fun y hy=>hm y (by simp [hy])) (by rw [h1.ln,hl]))
theorem Q7y:∀ {l:List Qc} {out:List Int},(∀ x∈l,x∈p.zB.zQ)→out.length=p.zB.zS.toNat→∀ e∈l,lf L e.From=true→lf L e.To=true→ati (l.foldl (Qm4 L d) out) e.To=d→0≤ati (l.foldl (Qm4 L d) out) e.From
 | [],_,_,_,_,he,_,_,_=>by cases he
 | x::l,out,hm,hl,e,he,h1,h2,h3=>by
  have g1:=Qvh (L:=L) hp hd hl (hm x (by simp));have hl1:(Qm4 L d out x).length=p.zB.zS.toNat:=by rw [g1.ln,hl]
  have g2:=Qxq (L:=L) hp hd (l:=l) (fun y hy=>hm y (by simp [hy])) hl1;rw [List.foldl_cons] at h3 ⊢;rcases List.mem_cons.1 he with rfl|he
  ·have hr:=hp.a.ed0 e (hm e (by simp));have k1:ati out e.To=d:=by
    rcases g2.vl e.To hr.2.2.1 hr.2.2.2.1 with q|⟨_,q,_⟩<;>rcases g1.vl e.To hr.2.2.1 hr.2.2.2.1 with q'|⟨_,q',_⟩<;>omega
   have k2:0≤ati (Qm4 L d out e) e.From:=by
    by_cases hn:ati out e.From<0
    ·have hc:Qwr L d out e=true:=by unfold Qwr;simp [h1,h2,hn,k1]
     unfold Qm4;rw [hc,if_pos rfl,Qwp ⟨hr.1,by omega⟩ hr.1,if_pos rfl];omega
    ·rcases g1.vl e.From hr.1 hr.2.1 with q|⟨q,_⟩<;>omega
   rcases g2.vl e.From hr.1 hr.2.1 with q|⟨q,_⟩<;>omega
  ·exact Q7y (fun y hy=>hm y (by simp [hy])) hl1 e he h1 h2 h3
end
structure DI (p:Qa) (L:List Bool) (k:Int) (out:List Int):Prop where
 ln:out.length=p.zB.zS.toNat
 rg:∀ y,0≤y→y<p.zB.zS→ati out y = -1∨0≤ati out y∧ati out y≤k
 lv:∀ y,0≤y→y<p.zB.zS→0≤ati out y→lf L y=true
 z:∀ y,0≤y→y<p.zB.zS→(ati out y=0↔lf L y=true∧y∈p.zB.zP)
 ps:∀ y,0≤y→y<p.zB.zS→0<ati out y→∃ e∈p.zB.zQ,e.From=y∧lf L e.To=true∧ati out e.To=ati out y-1
 cl:∀ e∈p.zB.zQ,lf L e.From=true→0≤ati out e.To→ati out e.To<k→0≤ati out e.From
section
variable {p:Qa} (hp:RightP p) (L:List Bool)
theorem Qbc6 {y:Int} (h0:0≤y) (h1:y<p.zB.zS):ati (Q6p p L) y=if lf L y&&decide (y∈p.zB.zP) then 0 else -1:=Qu2 h0 h1
include hp
theorem Q48:∀ k:Nat,DI p L (k:Int) (dN p L k)
 | 0=>by
  refine ⟨by simp [dN,Q6p,Qch],fun y h0 h1=>?_,fun y h0 h1 h2=>?_,fun y h0 h1=>?_,fun y h0 h1 h2=>?_,fun e he h2 h3 h4=>by omega⟩
  all_goals simp only [dN] at *
  all_goals rw [Qbc6 L h0 h1] at *
  all_goals cases hl:lf L y<;>by_cases hm:y∈p.zB.zP<;>simp_all
 | k+1=>by
  have ih:=Q48 k;have hd:(0:Int)≤(k:Int):=by omega
  have g:=Qxq (L:=L) hp hd (l:=p.zB.zQ) (out:=dN p L k) (fun _ h=>h) ih.ln;have c:=Q7y (L:=L) hp hd (l:=p.zB.zQ) (out:=dN p L k) (fun _ h=>h) ih.ln;change Grow p L (k:Int) (dN p L k) (dN p L (k+1)) at g;have c:∀ e∈p.zB.zQ,lf L e.From=true→lf L e.To=true→ati (dN p L (k+1)) e.To=k→0≤ati (dN p L (k+1)) e.From:=c;refine ⟨by rw [g.ln,ih.ln],fun y h0 h1=>?_,fun y h0 h1 h2=>?_,fun y h0 h1=>?_,fun y h0 h1 h2=>?_,fun e he h2 h3 h4=>?_⟩
  ·rcases g.vl y h0 h1 with q|⟨_,q,_⟩
   ·rw [q];rcases ih.rg y h0 h1 with r|r
    ·exact .inl r
    ·exact .inr ⟨r.1,by omega⟩
   ·exact .inr ⟨by omega,by omega⟩
  ·rcases g.vl y h0 h1 with q|⟨_,_,q,_⟩
   ·exact ih.lv y h0 h1 (by omega)
   ·exact q
  ·rw [← ih.z y h0 h1];rcases g.vl y h0 h1 with q|⟨_,q,_⟩<;>omega
  ·rcases g.vl y h0 h1 with q|⟨_,q,_,e,he,q1,q2,q3⟩
   ·obtain ⟨e,he,q1,q2,q3⟩:=ih.ps y h0 h1 (by omega);have hr:=hp.a.ed0 e he;refine ⟨e,he,q1,q2,?_⟩;rcases g.vl e.To hr.2.2.1 hr.2.2.2.1 with r|⟨r,_⟩<;>omega
   ·have hr:=hp.a.ed0 e he;refine ⟨e,he,q1,q2,?_⟩;rcases g.vl e.To hr.2.2.1 hr.2.2.2.1 with r|⟨r,_⟩<;>omega
  ·have hr:=hp.a.ed0 e he;by_cases hk:ati (dN p L (k+1)) e.To=k
   ·refine c e he h2 ?_ hk;rcases g.vl e.To hr.2.2.1 hr.2.2.2.1 with r|⟨_,r,_⟩
    ·exact ih.lv e.To hr.2.2.1 hr.2.2.2.1 (by omega)
    ·omega
   ·have:0≤ati (dN p L k) e.From:=by
     refine ih.cl e he h2 ?_ ?_
     all_goals (rcases g.vl e.To hr.2.2.1 hr.2.2.2.1 with r|⟨_,r,_⟩<;>omega)
    rcases g.vl e.From hr.1 hr.2.1 with r|⟨r,_⟩<;>omega
theorem Q49 {d:Int} {out:List Int}:∀ {l:List Qc},(∀ e∈l,Qwr L d out e=false)→l.foldl (Qm4 L d) out=out
 | [],_=>rfl
 | x::l,h=>by
  rw [List.foldl_cons];have:Qm4 L d out x=out:=by unfold Qm4;rw [h x (by simp)];rfl
  rw [this];exact Q49 fun e he=>h e (by simp [he])
theorem Q5a {k:Nat} (h:dN p L (k+1)=dN p L k):∀ m:Nat,k≤m→dN p L m=dN p L k
 | 0,hm=>by
  obtain rfl:k=0:=by omega
  rfl
 | m+1,hm=>by
  by_cases hk:k=m+1
  ·subst hk;rfl
  ·have ih:=Q5a h m (by omega);show p.zB.zQ.foldl (Qm4 L (m:Int)) (dN p L m)=_;by_cases hkm:k=m
   ·subst hkm;exact h
   ·rw [ih];refine Q49 hp L fun e he=>?_;have hr:=hp.a.ed0 e he;have:=(Q48 hp L k).rg e.To hr.2.2.1 hr.2.2.2.1;unfold Qwr;have:(ati (dN p L k) e.To==(m:Int))=false:=by rw [beq_eq_false_iff_ne];omega
    rw [this];simp
theorem DI.bound {k:Int} {out:List Int} (h:DI p L k out) {y:Int} (h0:0≤y) (h1:y<p.zB.zS):ati out y<p.zB.zS:=by
 have key:∀ (v:Nat) (y:Int),0≤y→y<p.zB.zS→ati out y=v→∀ j:Nat,j≤v→∃ x,0≤x∧x<p.zB.zS∧ati out x=j:=by
  intro v
  induction v with
  | zero=>intro y h0 h1 hv j hj;exact ⟨y,h0,h1,by omega⟩
  | succ v ih =>
   intro y h0 h1 hv j hj;by_cases hjv:j=v+1
   ·exact ⟨y,h0,h1,by omega⟩
   ·obtain ⟨e,he,_,_,q⟩:=h.ps y h0 h1 (by omega);have hr:=hp.a.ed0 e he;exact ih e.To hr.2.2.1 hr.2.2.2.1 (by omega) j (by omega)
 refine Decidable.byContradiction fun hc=>?_;have hst:=hp.a.st;have hk:=key (ati out y).toNat y h0 h1 (by omega);have hsub:∀ x∈upto (ati out y+1),x∈(upto p.zB.zS).map (ati out):=fun x hx=>by
  rw [Qgy] at hx;obtain ⟨z,k1,k2,k3⟩:=hk x.toNat (by omega);exact List.mem_map.2 ⟨z,Qgy.2 ⟨k1,k2⟩,by omega⟩
 have hnd:(upto (ati out y+1)).Nodup:=(Qu1 _).imp fun h=>by omega
 have hlen:∀ {l m:List Int},l.Nodup→(∀ x∈l,x∈m)→l.length≤m.length:=fun {l m} h hs=>by
  induction l generalizing m with
  | nil=>simp
  | cons x l ih =>
   obtain ⟨a1,a2⟩:=List.nodup_cons.1 h;have hx:=hs x (by simp);have:=ih (m:=m.erase x) a2 fun y hy=>(List.mem_erase_of_ne (by rintro rfl;exact a1 hy)).2 (hs y (by simp [hy]));rw [List.length_erase_of_mem hx] at this;have:0<m.length:=List.length_pos_of_mem hx;simp only [List.length_cons];omega
 have:=hlen hnd hsub;rw [Qch,List.length_map,Qch] at this;omega
theorem Qs8:DI p L p.zB.zS (Qm5 p L):=by
 have:=Q48 hp L p.zB.zS.toNat;have hst:=hp.a.st;rw [show ((p.zB.zS.toNat:Nat):Int)=p.zB.zS by omega] at this;exact this
end
end Go.Abs
end
section
namespace Go.Abs
open Go
theorem Qko {n:Int} {k:Nat} (h:k<(upto n).length):k<n.toNat:=by rw [Qch] at h;exact h
def Qrh (L:List Bool) (d:Int) (s:Bool×List Int) (x:Qc):Bool×List Int:=if Qwr L d s.2 x then (true,s.2.set x.From.toNat (d+1)) else s
theorem Q5b {L:List Bool} {d:Int}:∀ {l:List Qc} {s:Bool×List Int},(l.foldl (Qrh L d) s).2=l.foldl (Qm4 L d) s.2
 | [],s=>rfl
 | x::l,s=>by
  rw [List.foldl_cons,List.foldl_cons,Q5b (l:=l)];congr 1;unfold Qrh Qm4;cases Qwr L d s.2 x<;>rfl
section
variable {p:Qa} (hp:RightP p) {L:List Bool} {d:Int} (hd:0≤d)
include hp hd
theorem Q5c:∀ {l:List Qc} {s:Bool×List Int},(∀ x∈l,x∈p.zB.zQ)→s.2.length=p.zB.zS.toNat→(l.foldl (Qrh L d) s).1=true→s.1=true∨∃ y,0≤y∧y<p.zB.zS∧ati (l.foldl (Qm4 L d) s.2) y=d+1
 | [],s,_,_,h=>.inl h
 | x::l,s,hm,hl,h=>by
  rw [List.foldl_cons] at h ⊢;have hx:=hm x (by simp);have hr:=hp.a.ed0 x hx;have g1:=Qvh (L:=L) hp hd hl hx;have e2:(Qrh L d s x).2=Qm4 L d s.2 x:=by unfold Qrh Qm4;cases Qwr L d s.2 x<;>rfl
  rcases Q5c (l:=l) (s:=Qrh L d s x) (fun y hy=>hm y (by simp [hy])) (by rw [e2,g1.ln,hl]) h with q|q
  ·cases hc:Qwr L d s.2 x with
   | false =>
    have:Qrh L d s x=s:=by unfold Qrh;rw [hc];rfl
    rw [this] at q;exact .inl q
   | true =>
    refine .inr ⟨x.From,hr.1,hr.2.1,?_⟩;have k1:ati (Qm4 L d s.2 x) x.From=d+1:=by
     unfold Qm4;rw [hc,if_pos rfl,Qwp ⟨hr.1,by omega⟩ hr.1,if_pos rfl]
    have g2:=Qxq (L:=L) hp hd (l:=l) (out:=Qm4 L d s.2 x) (fun y hy=>hm y (by simp [hy])) (by rw [g1.ln,hl]);rcases g2.vl x.From hr.1 hr.2.1 with r|⟨r,_⟩<;>omega
  ·rw [e2] at q;exact .inr q
theorem Q5d:∀ {l:List Qc} {s:Bool×List Int},(l.foldl (Qrh L d) s).1=false→l.foldl (Qm4 L d) s.2=s.2
 | [],s,_=>rfl
 | x::l,s,h=>by
  rw [List.foldl_cons] at h ⊢;have mono:∀ {l:List Qc} {s:Bool×List Int},s.1=true→(l.foldl (Qrh L d) s).1=true:=by
   intro l
   induction l with
   | nil=>intro s h;exact h
   | cons y l ih=>intro s h;rw [List.foldl_cons];refine ih ?_;unfold Qrh;cases Qwr L d s.2 y<;>simp [h]
  cases hc:Qwr L d s.2 x with
  | true =>
   have:(Qrh L d s x).1=true:=by unfold Qrh;rw [hc];rfl
   rw [mono this] at h;cases h
  | false =>
   have e1:Qrh L d s x=s:=by unfold Qrh;rw [hc];rfl
   have e2:Qm4 L d s.2 x=s.2:=by unfold Qm4;rw [hc];rfl
   rw [e1] at h;rw [e2];exact Q5d h
end
section
variable {p:Qa} (hp:RightP p) {L:List Bool} (hL:L.length=p.zB.zS.toNat)
theorem Q2c {c:List Int} (hc:c.length=p.zB.zS.toNat):(upto p.zB.zS).foldl (fun c i=>c.set i.toNat (if lf L i&&decide (i∈p.zB.zP) then 0 else -1)) c=Q6p p L:=Q02 hc
include hp hL
theorem Q5e:Qc9 (tsk p L)=some (Qm5 p L):=by
 unfold Qc9 Qz;obtain ⟨fuel,hfu,hge⟩ : ∃ f,Qb0=f∧1099511627776≤f:=⟨_,rfl,Nat.le_refl _⟩;rw [hfu];rw [show (tsk p L).left_=L from rfl,show (tsk p L).zT=p from rfl];have hst:=hp.a.st;have hsm:=hp.a.small;rw [show mkO p.zB.zS (0:Int)=some (List.replicate p.zB.zS.toNat 0) from by unfold mkO lim;rw [if_pos (by omega)]];rw [Option.bind_some];refine Option.bind_eq_some_iff.2 ⟨Q6p p L,?_,?_⟩
 ·refine (Qf7 (l:=upto p.zB.zS) (fun i (c:List Int)=>(i,c)) (fun c i=>c.set i.toNat (if lf L i&&decide (i∈p.zB.zP) then 0 else -1)) (fun _ c=>c.length=p.zB.zS.toNat) (fun c=>some c) (by rw [Qch];unfold big;omega) hge (fun k n s hn hs=>?_) (fun n s hn hs=>by rw [List.length_set];exact hs) (fun k s hs=>?_) (by simp)).trans ?_
  ·have hn':=Qko hn;dsimp only;rw [Qlw hn,if_pos (by omega),Qf8 (by omega) (by omega),Qe1 (by omega) (by omega)];simp only [Option.bind_some,Qlx hL (p:=p) (x:=(n:Int)) ⟨by omega,by omega⟩];rw [Qc0 hp.a.ma hsm.1.2.1,Qe1 (by omega) (by rw [List.length_set];omega)];cases lf L (n:Int)<;>by_cases hm:(n:Int)∈p.zB.zP<;>simp [hm]
  ·dsimp only;rw [Qch,if_neg (by omega)]
  ·rw [Q2c (by simp)]
 have hround:∀ (d:Nat) (c:List Int),c.length=p.zB.zS.toNat→d≤4096→Qbv (fun (k41:Bool×Int×List Int→Option (Bool×List Int)) ((more38,x39,c40):Bool×Int×(List Int))=>(if (x39<(p.zB.zQ.length:Int)) then ((((getO p.zB.zQ x39).bind fun x43=>((((inO L.length x43.From).bind fun u45=>((getO L x43.From).bind fun x47=>(if x47 then ((inO L.length x43.To).bind fun u50=>((getO L x43.To).bind fun x52=>(if x52 then ((inO (Int.toNat p.zB.zS) x43.From).bind fun u55=>((getO c40 x43.From).bind fun x57=>(if (x57<0) then ((inO (Int.toNat p.zB.zS) x43.To).bind fun u60=>((getO c40 x43.To).bind fun x62=>some (x62==(IntKind.wrap .i64 (((d:Int)+1)-1))))) else some false))) else some false))) else some false)))).bind fun (x64:Bool)=>(if x64 then ((inO (Int.toNat p.zB.zS) x43.From).bind fun u66=>((setO c40 x43.From ((d:Int)+1)).bind fun x68=>some (true,x68,x43.From,x43.Event,x43.To))) else some (more38,c40,x43.From,x43.Event,x43.To))))).bind fun ((more70,c71,c72,c73,c74):Bool×(List Int)×Int×Int×Int)=>k41 (more70,(IntKind.wrap .i64 (x39+1)),c71)) else some (more38,c40))) fuel (false,0,c)=some (p.zB.zQ.foldl (Qrh L d) (false,c)):=by
  intro d c hc hd;refine (Qf7 (l:=p.zB.zQ) (fun i (s:Bool×List Int)=>(s.1,i,s.2)) (Qrh L d) (fun _ s=>s.2.length=p.zB.zS.toNat) (fun s=>some s) hsm.1.2.2 hge (fun k n s hn hs=>?_) (fun n s hn hs=>by unfold Qrh;split<;>simp [hs]) (fun k s hs=>?_) (s0:=(false,c)) hc)
  ·have hr:=hp.a.ed0 _ (List.getElem_mem hn);dsimp only;rw [if_pos (by omega),Q2 hn];simp only [Option.bind_some,Qlx hL (p:=p) (x:=p.zB.zQ[n].From) ⟨hr.1,hr.2.1⟩,Qlx hL (p:=p) (x:=p.zB.zQ[n].To) ⟨hr.2.2.1,hr.2.2.2.1⟩];rw [Qf8 hr.1 (by omega),Qf8 hr.2.2.1 (by omega),Qi3 (d:=0) (l:=s.2) hr.1 (by omega),Qi3 (d:=0) (l:=s.2) hr.2.2.1 (by omega),Qe1 (l:=s.2) hr.1 (by omega),Qkb (x:=(d:Int)+1-1) (by omega) (by omega)];unfold Qrh Qwr;simp only [Option.bind_some,show (d:Int)+1-1=d by omega];generalize p.zB.zQ[n]=e at hr ⊢;cases lf L e.From<;>cases lf L e.To<;>by_cases h1:ati s.2 e.From<0<;>by_cases h2:ati s.2 e.To=d<;>simp [h1,h2]
  ·dsimp only;rw [if_neg (by omega)]
 have hlast:(lenO (Qm5 p L) (Int.toNat p.zB.zS))=some ():=Qkc (Qs8 hp L).ln;refine Option.bind_eq_some_iff.2 ⟨Qm5 p L,?_,by rw [hlast];rfl⟩;refine Qzd (fun x=>∃ d:Nat,x.1=(d:Int)+1∧x.2.2=dN p L d∧(x.2.1=true∧d≤p.zB.zS.toNat∨x.2.1=false∧dN p L d=Qm5 p L)) (fun x=>p.zB.zS.toNat+4-x.1.toNat) (some (Qm5 p L)) ⟨0,rfl,rfl,.inl ⟨rfl,by omega⟩⟩ (by dsimp only;omega) ?_;rintro k ⟨r,more,c⟩ ⟨d,hr,hc,hm⟩ ih;dsimp only at hr hc hm ih ⊢;subst hr hc;rcases hm with ⟨rfl,hdn⟩|⟨rfl,hq⟩
 ·rw [if_pos rfl];have hln:=(Q48 hp L d).ln;rw [hround d _ hln (by omega),Option.bind_some];have hsnd:(p.zB.zQ.foldl (Qrh L d) (false,dN p L d)).2=dN p L (d+1):=Q5b;have hd0:(0:Int)≤(d:Int):=by omega
  have hwr:IntKind.wrap .i64 ((d:Int)+1+1)=((d+1:Nat):Int)+1:=by rw [Qkb (by omega) (by omega)];omega
  generalize hgen:p.zB.zQ.foldl (Qrh L d) (false,dN p L d)=R at hsnd;obtain ⟨m,c'⟩:=R;dsimp only at hsnd ⊢;subst hsnd;rw [hwr];refine ih _ ⟨d+1,rfl,rfl,?_⟩ (by dsimp only;omega);cases m with
  | true =>
   left;refine ⟨rfl,?_⟩;rcases Q5c hp hd0 (L:=L) (l:=p.zB.zQ) (s:=(false,dN p L d)) (fun _ h=>h) hln (by rw [hgen]) with q|⟨y,h0,h1,h2⟩
   ·cases q
   ·have:=(Q48 hp L (d+1)).bound hp L h0 h1;have h2:ati (dN p L (d+1)) y=(d:Int)+1:=h2;omega
  | false =>
   right;refine ⟨rfl,?_⟩;have hs:dN p L (d+1)=dN p L d:=Q5d hp hd0 (L:=L) (l:=p.zB.zQ) (s:=(false,dN p L d)) (by rw [hgen]);rw [hs];exact (Q5a hp L hs _ hdn).symm
 ·rw [if_neg (by simp),hq]
end
section
variable {p:Qa} (hp:RightP p) {R:List Int} (hR:Qbbh p R) (T:List Qb) (r:Int)
theorem Qbc7 {L:List Bool} {k:Nat} (hp:RightP p):p.zB.zQ.foldl (fun out x=>if lf L x.From&&(decide (ati out x.From<0)&&(ati out x.To==(k:Int))) then out.set x.From.toNat ((k:Int)+1) else out) (dN p L k)=dN p L (k+1):=by
 have hd:(0:Int)≤(k:Int):=by omega
 have key:∀ (l:List Qc) (out:List Int),(∀ x∈l,x∈p.zB.zQ)→Grow p L k (dN p L k) out→l.foldl (fun out x=>if lf L x.From&&(decide (ati out x.From<0)&&(ati out x.To==(k:Int))) then out.set x.From.toNat ((k:Int)+1) else out) out=l.foldl (Qm4 L (k:Int)) out:=by
  intro l
  induction l with
  | nil=>intro out _ _;rfl
  | cons x l ih =>
   intro out hm hg;have hx:=hm x (by simp);have hr:=hp.a.ed0 x hx;have hln:out.length=p.zB.zS.toNat:=by rw [hg.ln,(Q48 hp L k).ln]
   rw [List.foldl_cons,List.foldl_cons];have e:(if lf L x.From&&(decide (ati out x.From<0)&&(ati out x.To==(k:Int))) then out.set x.From.toNat ((k:Int)+1) else out)=Qm4 L (k:Int) out x:=by
    unfold Qm4 Qwr;by_cases ht:ati out x.To=(k:Int)
    ·have:lf L x.To=true:=by
      rcases hg.vl x.To hr.2.2.1 hr.2.2.2.1 with q|⟨_,_,q,_⟩
      ·exact (Q48 hp L k).lv x.To hr.2.2.1 hr.2.2.2.1 (by omega)
      ·exact q
     rw [this,Bool.true_and]
    ·have:(ati out x.To==(k:Int))=false:=by simpa using ht
     rw [this];simp
   rw [e];exact ih _ (fun y hy=>hm y (by simp [hy])) (hg.trans hp hd (Qvh hp hd hln hx))
 exact key p.zB.zQ _ (fun _ h=>h) (Grow.refl _)
include hp hR
theorem Qxr:Qda ⟨p,R,T,r⟩=some (Qm5 p (Qdx R)):=by
 unfold Qda Q0;obtain ⟨fuel,hfu,hge⟩ : ∃ f,Qb0=f∧1099511627776≤f:=⟨_,rfl,Nat.le_refl _⟩;rw [hfu];dsimp only;have hst:=hp.a.st;have hsm:=hp.a.small;rw [show mkO p.zB.zS (0:Int)=some (List.replicate p.zB.zS.toNat 0) from by unfold mkO lim;rw [if_pos (by omega)]];rw [Option.bind_some];refine Option.bind_eq_some_iff.2 ⟨Q6p p (Qdx R),?_,?_⟩
 ·refine (Qf7 (l:=upto p.zB.zS) (fun i (c:List Int)=>(i,c)) (fun c i=>c.set i.toNat (if lf (Qdx R) i&&decide (i∈p.zB.zP) then 0 else -1)) (fun _ c=>c.length=p.zB.zS.toNat) (fun c=>some c) (by rw [Qch];unfold big;omega) hge (fun k n s hn hs=>?_) (fun n s hn hs=>by rw [List.length_set];exact hs) (fun k s hs=>?_) (by simp)).trans ?_
  ·have hn':=Qko hn;have hra:=Qp5 hR (x:=(n:Int)) ⟨by omega,by omega⟩;dsimp only;rw [Qlw hn,if_pos (by omega),Qf8 (by omega) (by omega),Qe1 (by omega) (by omega)];simp only [Option.bind_some,hra];rw [Qqw hsm.1.2.1,Qe1 (by omega) (by rw [List.length_set];omega)];cases lf (Qdx R) (n:Int)<;>by_cases hm:(n:Int)∈p.zB.zP<;>simp [hm]
  ·dsimp only;rw [Qch,if_neg (by omega)]
  ·rw [Q2c (by simp)]
 have hround:∀ (d:Nat) (c:List Int),c.length=p.zB.zS.toNat→d≤4096→Qbv (fun (k37:Int×List Int→Option (List Int)) ((x35,c36):Int×(List Int))=>(if (x35<(p.zB.zQ.length:Int)) then ((((getO p.zB.zQ x35).bind fun x39=>((((inO R.length x39.From).bind fun u41=>((getO R x39.From).bind fun x43=>(if (x43==0) then ((inO (Int.toNat p.zB.zS) x39.From).bind fun u46=>((getO c36 x39.From).bind fun x48=>(if (x48<0) then ((inO (Int.toNat p.zB.zS) x39.To).bind fun u51=>((getO c36 x39.To).bind fun x53=>some (x53==(d:Int)))) else some false))) else some false)))).bind fun (x55:Bool)=>(if x55 then ((inO (Int.toNat p.zB.zS) x39.From).bind fun u57=>((setO c36 x39.From (IntKind.wrap .i64 ((d:Int)+1))).bind fun x59=>some (x59,x39.From,x39.Event,x39.To))) else some (c36,x39.From,x39.Event,x39.To))))).bind fun ((c61,y62,y63,y64):(List Int)×Int×Int×Int)=>k37 ((IntKind.wrap .i64 (x35+1)),c61)) else some c36)) fuel (0,c)=some (p.zB.zQ.foldl (fun out x=>if lf (Qdx R) x.From&&(decide (ati out x.From<0)&&(ati out x.To==(d:Int))) then out.set x.From.toNat ((d:Int)+1) else out) c):=by
  intro d c hc hd;refine (Qf7 (l:=p.zB.zQ) (fun i (s:List Int)=>(i,s)) (fun out x=>if lf (Qdx R) x.From&&(decide (ati out x.From<0)&&(ati out x.To==(d:Int))) then out.set x.From.toNat ((d:Int)+1) else out) (fun _ s=>s.length=p.zB.zS.toNat) (fun s=>some s) hsm.1.2.2 hge (fun k n s hn hs=>?_) (fun n s hn hs=>by split<;>simp [hs]) (fun k s hs=>?_) hc)
  ·have hr:=hp.a.ed0 _ (List.getElem_mem hn);have hra:=Qp5 hR (x:=p.zB.zQ[n].From) ⟨hr.1,hr.2.1⟩;dsimp only;rw [if_pos (by omega),Q2 hn];simp only [Option.bind_some,hra];rw [Qf8 hr.1 (by omega),Qf8 hr.2.2.1 (by omega),Qi3 (d:=0) (l:=s) hr.1 (by omega),Qi3 (d:=0) (l:=s) hr.2.2.1 (by omega),Qkb (x:=(d:Int)+1) (by omega) (by omega),Qe1 (l:=s) hr.1 (by omega)];simp only [Option.bind_some];generalize p.zB.zQ[n]=e at hr ⊢;cases lf (Qdx R) e.From<;>by_cases h1:ati s e.From<0<;>by_cases h2:ati s e.To=d<;>simp [h1,h2]
  ·dsimp only;rw [if_neg (by omega)]
 have hlast:(lenO (Qm5 p (Qdx R)) (Int.toNat p.zB.zS))=some ():=Qkc (Qs8 hp _).ln;refine Option.bind_eq_some_iff.2 ⟨Qm5 p (Qdx R),?_,by rw [hlast];rfl⟩;refine Qgr (len:=p.zB.zS.toNat) (fun n (c:List Int)=>((n:Int),c)) (fun n c=>c=dN p (Qdx R) n) (fun n c=>some (Qm5 p (Qdx R))) ?_ ?_ fuel 0 (Q6p p (Qdx R)) (Nat.zero_le _) (by omega) rfl
 ·rintro k n c hn rfl ih;dsimp only;rw [if_pos (by omega),hround n _ (Q48 hp _ n).ln (by omega),Option.bind_some,Qbc7 hp,Qce (by omega)];exact ih _ rfl
 ·rintro k c rfl;dsimp only;rw [if_neg (by omega)];rfl
end
end Go.Abs
end
section
namespace Go.Abs
open Go
def remE (p:Qa) (L:List Bool) (rank i:Int):Option Qb:=if lf L i&&((escP p L i).1 != 0) then some ⟨i,rank,(escP p L i).1,(escP p L i).2⟩ else none
def remB (p:Qa) (L:List Bool) (rank i:Int):Option Qb:=if lf L i&&decide (ati (Qm5 p L) i<0) then some ⟨i,rank,3,-1⟩ else none
def Qv0 (p:Qa) (L:List Bool) (rank:Int):List Qb:=(upto p.zB.zS).filterMap (remE p L rank)
def Qbbj (p:Qa) (L:List Bool) (rank:Int):List Qb:=(upto p.zB.zS).filterMap (remB p L rank)
def Qhc (p:Qa) (L:List Bool) (rank:Int):List Qb:=if ((Qv0 p L rank).length:Int)>0 then Qv0 p L rank else Qbbj p L rank
theorem Qbfd (p:Qa) (L:List Bool) (s:Int):(escP p L s).1=0∨(escP p L s).1=2∨(escP p L s).1=4:=by
 unfold escP;split
 ·exact .inr (.inl rfl)
 ·split
  ·exact .inr (.inr rfl)
  ·exact .inl rfl
theorem Qbbk (p:Qa) (R:List Int) (s:Int):decide ((Q6o p R s).1>0)=((escP p (Qdx R) s).1 != 0)∧((escP p (Qdx R) s).1≠0→Q6o p R s=escP p (Qdx R) s):=by
 unfold Q6o;rcases Qbfd p (Qdx R) s with h|h|h<;>simp [h]
section
variable {p:Qa} (hp:RightP p) {L:List Bool} (hL:L.length=p.zB.zS.toNat) (rank:Int)
include hp hL
theorem Qbc8:Qd4 (tsk p L) rank=some (Qhc p L rank):=by
 unfold Qd4 Qb8;obtain ⟨fuel,hfu,hge⟩ : ∃ f,Qb0=f∧1099511627776≤f:=⟨_,rfl,Nat.le_refl _⟩;rw [hfu,Q5e hp hL];rw [show (tsk p L).left_=L from rfl];have hst:=hp.a.st;have hul:(upto p.zB.zS).length<big:=by rw [Qch];unfold big;omega
 have huf:(upto p.zB.zS).length<fuel:=by rw [Qch];omega
 rw [Qxm (l:=upto p.zB.zS) (f:=remE p L rank) hul huf (fun k acc n hn ha=>by
  have hn':=Qko hn;dsimp only;rw [Qlw hn,if_pos (by omega),Q47 hp hL ⟨by omega,by omega⟩];simp only [Option.bind_some,Qlx hL (p:=p) (x:=(n:Int)) ⟨by omega,by omega⟩];rw [Qd7 (by simp only [List.length_cons,List.length_nil];unfold lim;omega)];unfold remE;cases lf L (n:Int)<;>by_cases h1:(escP p L (n:Int)).1=0<;>simp [h1]) (fun k acc=>by
  dsimp only;rw [Qch,if_neg (by omega)]),Option.bind_some]
 unfold Qhc;by_cases hE:((Qv0 p L rank).length:Int)>0
 ·rw [if_pos hE,if_pos (show ((((upto p.zB.zS).filterMap (remE p L rank)).length:Nat):Int)>0 from hE)];rfl
 ·rw [if_neg hE,if_neg (show ¬ ((((upto p.zB.zS).filterMap (remE p L rank)).length:Nat):Int)>0 from hE)];have hnil:(upto p.zB.zS).filterMap (remE p L rank)=[]:=List.eq_nil_of_length_eq_zero (by unfold Qv0 at hE;omega);rw [hnil];simp only [Option.bind_some];have hdl:=(Qs8 hp L).ln;rw [Qxm (l:=upto p.zB.zS) (f:=remB p L rank) hul huf (fun k acc n hn ha=>by
   have hn':=Qko hn;dsimp only;rw [Qlw hn,if_pos (by omega),Qi3 (d:=0) (l:=Qm5 p L) (by omega) (by omega)];simp only [Option.bind_some,Qlx hL (p:=p) (x:=(n:Int)) ⟨by omega,by omega⟩];rw [Qd7 (by simp only [List.length_cons,List.length_nil];unfold lim;omega)];unfold remB;cases lf L (n:Int)<;>by_cases h1:ati (Qm5 p L) (n:Int)<0<;>simp [h1]) (fun k acc=>by
   dsimp only;rw [Qch,if_neg (by omega)])]
  rfl
end
section
variable {p:Qa} (hp:RightP p) {R:List Int} (hR:Qbbh p R) (T:List Qb) (r rank:Int)
include hp hR
theorem Qbbl:Qez ⟨p,R,T,r⟩ rank=some (Qhc p (Qdx R) rank):=by
 unfold Qez Qca;obtain ⟨fuel,hfu,hge⟩ : ∃ f,Qb0=f∧1099511627776≤f:=⟨_,rfl,Nat.le_refl _⟩;rw [hfu,Qxr hp hR T r];dsimp only;have hst:=hp.a.st;have hRl:=hR.ln;have hul:(upto p.zB.zS).length<big:=by rw [Qch];unfold big;omega
 have huf:(upto p.zB.zS).length<fuel:=by rw [Qch];omega
 rw [Qxm (l:=upto p.zB.zS) (f:=remE p (Qdx R) rank) hul huf (fun k acc n hn ha=>by
  have hn':=Qko hn;have hra:=Qp5 hR (x:=(n:Int)) ⟨by omega,by omega⟩;obtain ⟨hm1,hm2⟩:=Qbbk p R (n:Int);dsimp only;rw [Qlw hn,if_pos (by omega),Qbfc hp hR];simp only [Option.bind_some,hra.1,hra.2.1];have h4:(ati R (n:Int)>0)↔lf (Qdx R) (n:Int)=false:=by
   rw [← decide_eq_true_iff (p:=ati R (n:Int)>0),hra.2.2.2];simp
  have h5:((Q6o p R (n:Int)).1>0)↔(escP p (Qdx R) (n:Int)).1≠0:=by
   rw [← decide_eq_true_iff (p:=(Q6o p R (n:Int)).1>0),hm1];simp
  simp only [h4,h5];rw [Qd7 (by simp only [List.length_cons,List.length_nil];unfold lim;omega)];unfold remE;cases lf (Qdx R) (n:Int)<;>by_cases h1:(escP p (Qdx R) (n:Int)).1=0
  ·simp [h1]
  ·simp [h1]
  ·simp [h1]
  ·rw [hm2 h1];simp [h1]) (fun k acc=>by
  dsimp only;rw [Qch,if_neg (by omega)]),Option.bind_some]
 unfold Qhc;by_cases hE:((Qv0 p (Qdx R) rank).length:Int)>0
 ·rw [if_pos hE,if_pos (show ((((upto p.zB.zS).filterMap (remE p (Qdx R) rank)).length:Nat):Int)>0 from hE)];rfl
 ·rw [if_neg hE,if_neg (show ¬ ((((upto p.zB.zS).filterMap (remE p (Qdx R) rank)).length:Nat):Int)>0 from hE)];have hnil:(upto p.zB.zS).filterMap (remE p (Qdx R) rank)=[]:=List.eq_nil_of_length_eq_zero (by unfold Qv0 at hE;omega);rw [hnil];simp only [Option.bind_some];have hdl:=(Qs8 hp (Qdx R)).ln;rw [Qxm (l:=upto p.zB.zS) (f:=remB p (Qdx R) rank) hul huf (fun k acc n hn ha=>by
   have hn':=Qko hn;have hra:=Qp5 hR (x:=(n:Int)) ⟨by omega,by omega⟩;dsimp only;rw [Qlw hn,if_pos (by omega),Qi3 (d:=0) (l:=Qm5 p (Qdx R)) (by omega) (by omega)];simp only [Option.bind_some,hra];rw [Qd7 (by simp only [List.length_cons,List.length_nil];unfold lim;omega)];unfold remB;cases lf (Qdx R) (n:Int)<;>by_cases h1:ati (Qm5 p (Qdx R)) (n:Int)<0<;>simp [h1]) (fun k acc=>by
   dsimp only;rw [Qch,if_neg (by omega)])]
  rfl
end
end Go.Abs
end
section
namespace Go.Abs
open Go
abbrev nS (p:Qa):Nat:=p.zB.zS.toNat
def Qbn (p:Qa) (T:List Qb):List Bool:=T.foldl (fun c x=>c.set x.State.toNat false) (List.replicate (nS p) true)
def Qh7 (p:Qa) (T:List Qb):List Int:=T.foldl (fun c x=>c.set x.State.toNat x.Rank) (List.replicate (nS p) 0)
def Qtx (p:Qa) (T:List Qb):List Qb:=T.foldl (fun c x=>c.set x.State.toNat x) (List.replicate (nS p) ⟨0,0,0,0⟩)
theorem Qly (p:Qa) (T:List Qb):(Qbn p T).length=nS p:=by unfold Qbn;rw [Qks (f:=fun x:Qb=>x.State.toNat) (g:=fun _=>false),List.length_replicate]
theorem Qu3 (p:Qa) (T:List Qb):(Qh7 p T).length=nS p:=by unfold Qh7;rw [Qks (f:=fun x:Qb=>x.State.toNat) (g:=fun x=>x.Rank),List.length_replicate]
theorem Qbbm (p:Qa) (T:List Qb):(Qtx p T).length=nS p:=by unfold Qtx;rw [Qks (f:=fun x:Qb=>x.State.toNat) (g:=fun x=>x),List.length_replicate]
structure Okt (p:Qa) (T:List Qb):Prop where
 rg:∀ x∈T,0≤x.State∧x.State<p.zB.zS
 rk:∀ x∈T,1≤x.Rank
 nd:(T.map (·.State)).Nodup
theorem Qws {p:Qa} {T:List Qb} (h:∀ x∈T,1≤x.Rank):Qdx (Qh7 p T)=Qbn p T:=by
 have key:∀ (T:List Qb) (R:List Int),(∀ x∈T,1≤x.Rank)→Qdx (T.foldl (fun c x=>c.set x.State.toNat x.Rank) R)=T.foldl (fun c x=>c.set x.State.toNat false) (Qdx R):=by
  intro T
  induction T with
  | nil=>intro R _;rfl
  | cons x T ih =>
   intro R hR;rw [List.foldl_cons,List.foldl_cons,ih _ fun y hy=>hR y (by simp [hy])];congr 1;unfold Qdx;rw [List.map_set];have:(x.Rank==0)=false:=by have:=hR x (by simp);rw [beq_eq_false_iff_ne];omega
   rw [this]
 unfold Qh7 Qbn;rw [key T _ h];congr 1;unfold Qdx;simp
theorem Qvi {p:Qa} {T:List Qb} (h:∀ x∈T,0≤x.State∧x.State<p.zB.zS) {y:Int} (h0:0≤y) (h1:y<p.zB.zS):lf (Qbn p T) y = !T.any fun x=>x.State==y:=by
 have key:∀ (T:List Qb) (c:List Bool),(∀ x∈T,0≤x.State∧x.State<p.zB.zS)→c.length=nS p→lf (T.foldl (fun c x=>c.set x.State.toNat false) c) y=(lf c y && !T.any fun x=>x.State==y):=by
  intro T
  induction T with
  | nil=>intro c _ _;simp
  | cons x T ih =>
   intro c hT hc;have hx:=hT x (by simp);rw [List.foldl_cons,ih _ (fun z hz=>hT z (by simp [hz])) (by rw [List.length_set];exact hc),Qbgo ⟨hx.1,by unfold nS at hc;omega⟩ h0,List.any_cons];by_cases hq:y=x.State
   ·subst hq;simp
   ·rw [if_neg hq];have:(x.State==y)=false:=by rw [beq_eq_false_iff_ne];exact fun e=>hq e.symm
    rw [this];simp
 unfold Qbn;rw [key T _ h (by simp)];have:lf (List.replicate (nS p) true) y=true:=Q2b h0 (by unfold nS;omega);rw [this,Bool.true_and]
theorem Q6q {p:Qa} {T:List Qb} (h:Okt p T):Qbbh p (Qh7 p T):=by
 refine ⟨Qu3 p T,fun y h0 h1=>?_⟩;have key:∀ (T:List Qb) (c:List Int),(∀ x∈T,0≤x.State∧x.State<p.zB.zS)→(∀ x∈T,1≤x.Rank)→c.length=nS p→0≤ati c y→0≤ati (T.foldl (fun c x=>c.set x.State.toNat x.Rank) c) y:=by
  intro T
  induction T with
  | nil=>intro c _ _ _ h;exact h
  | cons x T ih =>
   intro c hT hr hc h;have hx:=hT x (by simp);refine ih _ (fun z hz=>hT z (by simp [hz])) (fun z hz=>hr z (by simp [hz])) (by rw [List.length_set];exact hc) ?_;rw [Qwp ⟨hx.1,by unfold nS at hc;omega⟩ h0];split
   ·have:=hr x (by simp);omega
   ·exact h
 refine key T _ h.rg h.rk (by simp) ?_;have:ati (List.replicate (nS p) 0) y=0:=Q2b h0 (by unfold nS;omega);rw [this];omega
theorem Qze {p:Qa} {T:List Qb} (h:Okt p T) {x:Qb} (hx:x∈T):at0 ⟨0,0,0,0⟩ (Qtx p T) x.State=x:=by
 have key:∀ (T:List Qb) (c:List Qb),(∀ x∈T,0≤x.State∧x.State<p.zB.zS)→(T.map (·.State)).Nodup→c.length=nS p→∀ y:Int,0≤y→y<p.zB.zS→∀ z,at0 ⟨0,0,0,0⟩ (T.foldl (fun c x=>c.set x.State.toNat x) c) y=z→(∃ x∈T,x.State=y∧x=z)∨(∀ x∈T,x.State≠y)∧at0 ⟨0,0,0,0⟩ c y=z:=by
  intro T
  induction T with
  | nil=>intro c _ _ _ y h0 h1 z hz;exact .inr ⟨fun x hx=>(by cases hx),hz⟩
  | cons x T ih =>
   intro c hT hn hc y h0 h1 z hz;have hx:=hT x (by simp);rw [List.map_cons,List.nodup_cons] at hn;rw [List.foldl_cons] at hz;rcases ih _ (fun z hz=>hT z (by simp [hz])) hn.2 (by rw [List.length_set];exact hc) y h0 h1 z hz with ⟨w,hw,k1,k2⟩|⟨k1,k2⟩
   ·exact .inl ⟨w,by simp [hw],k1,k2⟩
   ·rw [Q2a ⟨hx.1,by unfold nS at hc;omega⟩ h0] at k2;by_cases hq:y=x.State
    ·rw [if_pos hq] at k2;exact .inl ⟨x,by simp,hq.symm,k2⟩
    ·rw [if_neg hq] at k2;refine .inr ⟨fun w hw=>?_,k2⟩;rcases List.mem_cons.1 hw with rfl|hw
     ·exact fun e=>hq e.symm
     ·exact k1 w hw
 have hr:=h.rg x hx;rcases key T (List.replicate (nS p) ⟨0,0,0,0⟩) h.rg h.nd (by simp) x.State hr.1 hr.2 _ rfl with ⟨w,hw,k1,k2⟩|⟨k1,_⟩
 ·change at0 ⟨0,0,0,0⟩ (Qtx p T) x.State=x;have:w=x:=by
   have hnd:=h.nd;have hpw:T.Pairwise fun a b=>a.State≠b.State:=by rw [List.Nodup,List.pairwise_map] at hnd;exact hnd
   rcases Classical.em (w=x) with e|hne
   ·exact e
   ·exfalso;obtain ⟨i,hi,rfl⟩:=List.getElem_of_mem hw;obtain ⟨j,hj,rfl⟩:=List.getElem_of_mem hx;rcases Nat.lt_trichotomy i j with hij|hij|hij
    ·exact List.pairwise_iff_getElem.1 hpw i j hi hj hij k1
    ·subst hij;exact hne rfl
    ·exact List.pairwise_iff_getElem.1 hpw j i hj hi hij k1.symm
  rw [← this];unfold Qtx;rw [this];exact k2.symm.trans this
 ·exact absurd rfl (k1 x hx)
theorem Qm6 {p:Qa} {L:List Bool} {rank:Int} {x:Qb} (hx:x∈Qhc p L rank):(0≤x.State∧x.State<p.zB.zS)∧lf L x.State=true∧x.Rank=rank:=by
 have hE:∀ x∈Qv0 p L rank,(0≤x.State∧x.State<p.zB.zS)∧lf L x.State=true∧x.Rank=rank:=fun x hx=>by
  obtain ⟨i,hi,h⟩:=List.mem_filterMap.1 hx;unfold remE at h;split at h<;>cases h;rename_i hc;exact ⟨Qgy.1 hi,by simp only [Bool.and_eq_true] at hc;exact hc.1,rfl⟩
 have hB:∀ x∈Qbbj p L rank,(0≤x.State∧x.State<p.zB.zS)∧lf L x.State=true∧x.Rank=rank:=fun x hx=>by
  obtain ⟨i,hi,h⟩:=List.mem_filterMap.1 hx;unfold remB at h;split at h<;>cases h;rename_i hc;exact ⟨Qgy.1 hi,by simp only [Bool.and_eq_true] at hc;exact hc.1,rfl⟩
 unfold Qhc at hx;split at hx
 ·exact hE x hx
 ·exact hB x hx
theorem Qbbn {f:Int→Option Qb} (hf:∀ i x,f i=some x→x.State=i) {l:List Int} (h:l.Pairwise (· < ·)):((l.filterMap f).map (·.State)).Pairwise (· < ·):=by
 rw [List.pairwise_map,List.pairwise_filterMap];refine h.imp fun {a b} hab x hx y hy=>?_;rw [hf a x hx,hf b y hy];exact hab
theorem Q6r (p:Qa) (L:List Bool) (rank:Int):((Qhc p L rank).map (·.State)).Pairwise (· < ·):=by
 unfold Qhc;split
 ·exact Qbbn (fun i x h=>by unfold remE at h;split at h<;>cases h;rfl) (Qu1 _)
 ·exact Qbbn (fun i x h=>by unfold remB at h;split at h<;>cases h;rfl) (Qu1 _)
theorem Okt.round {p:Qa} {T:List Qb} (h:Okt p T) {rank:Int} (hr:1≤rank):Okt p (T++Qhc p (Qbn p T) rank):=by
 refine ⟨fun x hx=>?_,fun x hx=>?_,?_⟩
 ·rcases List.mem_append.1 hx with hx|hx
  ·exact h.rg x hx
  ·exact (Qm6 hx).1
 ·rcases List.mem_append.1 hx with hx|hx
  ·exact h.rk x hx
  ·rw [(Qm6 hx).2.2];exact hr
 ·rw [List.map_append,List.nodup_append];refine ⟨h.nd,(Q6r p _ rank).imp fun h=>by omega,fun a ha b hb=>?_⟩;obtain ⟨x,hx,rfl⟩:=List.mem_map.1 ha;obtain ⟨y,hy,rfl⟩:=List.mem_map.1 hb;obtain ⟨k1,k2,_⟩:=Qm6 hy;intro e;rw [Qvi h.rg k1.1 k1.2] at k2;simp only [Bool.not_eq_true',List.any_eq_false] at k2;exact k2 x hx (by simp [e])
theorem Okt.len {p:Qa} {T:List Qb} (h:Okt p T):T.length≤nS p:=by
 have hsub:∀ x∈T.map (·.State),x∈upto p.zB.zS:=fun x hx=>by
  obtain ⟨y,hy,rfl⟩:=List.mem_map.1 hx;exact Qgy.2 (h.rg y hy)
 have hlen:∀ {l m:List Int},l.Nodup→(∀ x∈l,x∈m)→l.length≤m.length:=fun {l m} h hs=>by
  induction l generalizing m with
  | nil=>simp
  | cons x l ih =>
   obtain ⟨a1,a2⟩:=List.nodup_cons.1 h;have hx:=hs x (by simp);have:=ih (m:=m.erase x) a2 fun y hy=>(List.mem_erase_of_ne (by rintro rfl;exact a1 hy)).2 (hs y (by simp [hy]));rw [List.length_erase_of_mem hx] at this;have:0<m.length:=List.length_pos_of_mem hx;simp only [List.length_cons];omega
 have:=hlen h.nd hsub;rw [List.length_map,Qch] at this;exact this
def T0 (p:Qa):List Qb:=p.zD.map fun x=>⟨x,1,1,-1⟩
def r0 (p:Qa):Int:=if p.zD=[] then 0 else 1
def Qqy (p:Qa):Nat→Int→List Qb→Int→List Qb×Int
 | 0,_,T,r=>(T,r)
 | f+1,rank,T,r=>if Qhc p (Qbn p T) rank=[] then (T,r) else Qqy p f (rank+1) (T++Qhc p (Qbn p T) rank) rank
def solP (p:Qa):List Qb×Int:=Qqy p (nS p+1) 2 (T0 p) (r0 p)
theorem Qbbo {p:Qa} (hp:RightP p):Okt p (T0 p):=by
 unfold T0;refine ⟨fun x hx=>?_,fun x hx=>?_,?_⟩
 ·obtain ⟨y,hy,rfl⟩:=List.mem_map.1 hx;exact hp.fo.rg y hy
 ·obtain ⟨y,hy,rfl⟩:=List.mem_map.1 hx;exact Int.le_refl _
 ·rw [List.map_map];have:((fun x:Qb=>x.State) ∘ fun x:Int=>(⟨x,1,1,-1⟩ : Qb))=id:=rfl;rw [this,List.map_id];exact hp.fo.so.imp fun h=>by omega
end Go.Abs
end
section
namespace Go.Abs
open Go
theorem Qxs {α β γ:Type} {f:α→γ→α} {g:β→γ→β}:∀ {l:List γ} {a:α} {b:β},l.foldl (fun s x=>(f s.1 x,g s.2 x)) (a,b)=(l.foldl f a,l.foldl g b)
 | [],_,_=>rfl
 | x::l,a,b=>by rw [List.foldl_cons,Qxs (l:=l)];rfl
theorem Q8y {p:Qa} {T l:List Qb}:l.foldl (fun c x=>c.set x.State.toNat false) (Qbn p T)=Qbn p (T++l):=by unfold Qbn;rw [List.foldl_append]
theorem Q8z {p:Qa} {T l:List Qb}:l.foldl (fun c x=>c.set x.State.toNat x.Rank) (Qh7 p T)=Qh7 p (T++l):=by unfold Qh7;rw [List.foldl_append]
theorem Q80 {p:Qa} {T l:List Qb}:l.foldl (fun c x=>c.set x.State.toNat x) (Qtx p T)=Qtx p (T++l):=by unfold Qtx;rw [List.foldl_append]
theorem Qbgq {p:Qa} (hp:RightP p):(upto p.zB.zS).map (fun i=>!decide (i∈p.zD))=Qbn p (T0 p):=by
 refine Q45 (d:=false) (by rw [Qly,List.length_map,Qch]) fun x h0 h1=>?_;rw [List.length_map,Qch] at h1;have h2:x<p.zB.zS:=by omega
 rw [Qu2 h0 h2];have:=Qvi (Qbbo hp).rg h0 h2;rw [show at0 false (Qbn p (T0 p)) x=lf (Qbn p (T0 p)) x from rfl,this];congr 1;unfold T0;rw [List.any_map,Bool.eq_iff_iff,List.any_eq_true];simp
section
variable {p:Qa} (hp:RightP p)
include hp
theorem Qbc9:Qfc p=some (tsk p (Qbn p (T0 p))):=by
 unfold Qfc Qbk;obtain ⟨fuel,hfu,hge⟩ : ∃ f,Qb0=f∧1099511627776≤f:=⟨_,rfl,Nat.le_refl _⟩;rw [hfu];have hst:=hp.a.st;have hsm:=hp.a.small;have hpl:=hp.small;have hmk:∀ {α:Type} (v:α),mkO p.zB.zS v=some (List.replicate (nS p) v):=fun v=>by unfold mkO lim;rw [if_pos (by omega)]
 rw [hmk,hmk];simp only [Option.bind_some];refine Option.bind_eq_some_iff.2 ⟨Qyh p,?_,?_⟩
 ·refine (Qgr (len:=p.zB.zQ.length) (fun n (c:List (List Qc))=>((n:Int),c)) (fun n c=>c=(upto p.zB.zS).map fun i=>(p.zB.zQ.take n).filter fun x=>x.From==i) (fun n c=>some (Qyh p)) ?_ ?_ fuel 0 (List.replicate (nS p) []) (Nat.zero_le _) (by have:=hsm.1.2.2;unfold big at this;omega) ?_)
  ·rintro k n c hn hc ih;have hr:=hp.a.ed0 _ (List.getElem_mem hn);have hcl:c.length=nS p:=by rw [hc,List.length_map,Qch]
   have hb:=hsm.2.2.2;have hlen:((p.zB.zQ.take n).filter fun x=>x.From==p.zB.zQ[n].From).length≤n:=Nat.le_trans (List.length_filter_le _ _) (by rw [List.length_take];omega);dsimp only;rw [if_pos (by omega),Q2 hn,Option.bind_some,Qf8 hr.1 (by omega),Option.bind_some,Qi3 (d:=[]) hr.1 (by unfold nS at hcl;omega),Option.bind_some];have hat:at0 [] c p.zB.zQ[n].From=(p.zB.zQ.take n).filter fun x=>x.From==p.zB.zQ[n].From:=by rw [hc,Qu2 hr.1 hr.2.1]
   rw [hat,Qd7 (by simp only [List.length_cons,List.length_nil];unfold lim;omega),Option.bind_some,Option.bind_some,Qe1 hr.1 (by unfold nS at hcl;omega),Option.bind_some,Qce (by omega)];refine ih _ ?_;refine Q45 (d:=[]) (by rw [List.length_set,hcl,List.length_map,Qch]) fun y h0 h1=>?_;rw [List.length_set,hcl] at h1;have h2:y<p.zB.zS:=by unfold nS at h1;omega
   rw [Q2a ⟨hr.1,by unfold nS at hcl;omega⟩ h0,Qu2 h0 h2,List.take_succ_eq_append_getElem hn,List.filter_append];by_cases hq:y=p.zB.zQ[n].From
   ·rw [if_pos hq,← hq];simp [hq]
   ·rw [if_neg hq,hc,Qu2 h0 h2];have:(p.zB.zQ[n].From==y)=false:=by rw [beq_eq_false_iff_ne];exact fun e=>hq e.symm
    simp [this]
  ·rintro k c hc;dsimp only;rw [if_neg (by omega),hc,List.take_length]
   rfl
  ·refine Q45 (d:=[]) (by rw [List.length_replicate,List.length_map,Qch]) fun y h0 h1=>?_;rw [List.length_replicate] at h1;have h2:y<p.zB.zS:=by unfold nS at h1;omega
   rw [Q2b h0 (by unfold nS at h1 ⊢;omega),Qu2 h0 h2];simp
 refine Option.bind_eq_some_iff.2 ⟨Qbn p (T0 p),?_,?_⟩
 ·refine (Qf7 (l:=upto p.zB.zS) (fun i (c:List Bool)=>(i,c)) (fun c i=>c.set i.toNat (!decide (i∈p.zD))) (fun _ c=>c.length=nS p) (fun c=>some c) (by rw [Qch];unfold big;omega) hge (fun k n s hn hs=>?_) (fun n s hn hs=>by rw [List.length_set];exact hs) (fun k s hs=>?_) (s0:=List.replicate (nS p) false) (by simp)).trans ?_
  ·have hn':=Qko hn;dsimp only;rw [Qlw hn,if_pos (by omega),Qc0 hp.fo.so hpl.2.1,Option.bind_some,Qf8 (by omega) (by omega),Option.bind_some,Qe1 (by omega) (by unfold nS at hs;omega),Option.bind_some]
  ·dsimp only;rw [Qch,if_neg (by omega)]
  ·rw [Q02 (by simp),Qbgq hp]
 rw [Qkc (by unfold Qyh;rw [List.length_map,Qch]),Option.bind_some,Qkc (Qly p _),Option.bind_some]
 rfl
theorem Qbfp {fuel:Nat} (hge:1099511627776≤fuel) {S:List Qb×Int} {f:Nat} (hS:Qqy p f 2 (T0 p) (r0 p)=S) (hf:nS p+1≤f+(T0 p).length) :
  Qbv (fun (k26:Int×Int×List Qb×List Bool→Option (Int×List Qb×List Bool)) ((rank22,r23,c24,c25):Int×Int×(List Qb)×(List Bool))=>((lenO c25 (nS p)).bind fun _=>((Qd4 (tsk p c25) rank22).bind fun x29=>(if ((x29.length:Int)==0) then some (r23,c24,c25) else ((Qbv (fun k34 ((x31,c32,c33):Int×(List Qb)×(List Bool))=>(if (x31<(x29.length:Int)) then ((getO x29 x31).bind fun x36=>((inO (nS p) x36.State).bind fun u38=>((setO c33 x36.State false).bind fun x40=>((inO (Int.toNat ((nS p:Nat):Int)) x36.State).bind fun u42=>((setO c32 x36.State x36).bind fun x44=>k34 ((IntKind.wrap .i64 (x31+1)),x44,x40)))))) else some (c32,c33))) fuel (0,c24,c25)).bind fun ((c46,c47):(List Qb)×(List Bool))=>k26 ((IntKind.wrap .i64 (rank22+1)),rank22,c46,c47)))))) fuel (2,r0 p,Qtx p (T0 p),Qbn p (T0 p))=some (S.2,Qtx p S.1,Qbn p S.1):=by
 have hst:=hp.a.st;have hnS:nS p≤4096:=by unfold nS;omega
 refine Qzd (fun x:Int×Int×List Qb×List Bool=>∃ (f:Nat) (T:List Qb),x.2.2.1=Qtx p T∧x.2.2.2=Qbn p T∧Okt p T∧Qqy p f x.1 T x.2.1=S∧nS p+1≤f+T.length∧2≤x.1∧x.1≤T.length+2) (fun x=>(6000-x.1).toNat) (some (S.2,Qtx p S.1,Qbn p S.1)) ⟨f,T0 p,rfl,rfl,Qbbo hp,hS,hf,by dsimp only;omega,by dsimp only;omega⟩ (by dsimp only;omega) ?_;rintro k ⟨rank,r,c,L⟩ ⟨f,T,hc,hL,hT,hS,hf,h2,hrk⟩ ih;dsimp only at hc hL hS hf h2 hrk ih ⊢;subst hc hL;have hTl:=hT.len;rw [Qkc (Qly p T),Option.bind_some,Qbc8 hp (Qly p T),Option.bind_some];obtain ⟨f,rfl⟩ : ∃ g,f=g+1:=⟨f-1,by omega⟩;rw [Qqy] at hS;by_cases he:Qhc p (Qbn p T) rank=[]
 ·rw [if_pos he] at hS;rw [if_pos (by rw [he];rfl)];subst hS;rfl
 ·rw [if_neg he] at hS;have hpos:0<(Qhc p (Qbn p T) rank).length:=List.length_pos_iff.2 he;rw [if_neg (by simp only [beq_iff_eq];omega)];have hok:=hT.round (rank:=rank) (by omega);have hmem:∀ x∈Qhc p (Qbn p T) rank,0≤x.State∧x.State<p.zB.zS:=fun x hx=>(Qm6 hx).1;have hol:=hok.len;rw [List.length_append] at hol;generalize Qhc p (Qbn p T) rank=l at *
  have hin:Qbv (fun (k34:Int×List Qb×List Bool→Option (List Qb×List Bool)) ((x31,c32,c33):Int×(List Qb)×(List Bool))=>(if (x31<(l.length:Int)) then ((getO l x31).bind fun x36=>((inO (nS p) x36.State).bind fun u38=>((setO c33 x36.State false).bind fun x40=>((inO (Int.toNat ((nS p:Nat):Int)) x36.State).bind fun u42=>((setO c32 x36.State x36).bind fun x44=>k34 ((IntKind.wrap .i64 (x31+1)),x44,x40)))))) else some (c32,c33))) fuel (0,Qtx p T,Qbn p T)=some (Qtx p (T++l),Qbn p (T++l)):=by
   refine (Qf7 (l:=l) (fun i (s:List Qb×List Bool)=>(i,s.1,s.2)) (fun s x=>(s.1.set x.State.toNat x,s.2.set x.State.toNat false)) (fun _ s=>s.1.length=nS p∧s.2.length=nS p) (fun s=>some s) (by unfold big;omega) hge (fun k n s hn hs=>?_) (fun n s hn hs=>by simp only [List.length_set];exact hs) (fun k s hs=>?_) (s0:=(Qtx p T,Qbn p T)) ⟨Qbbm p T,Qly p T⟩).trans ?_
   ·have hr:=hmem _ (List.getElem_mem hn);obtain ⟨hs1,hs2⟩:=hs;unfold nS at hs1 hs2 ⊢;dsimp only;rw [if_pos (by omega),Q2 hn,Option.bind_some,Qf8 hr.1 (by omega),Option.bind_some,Qe1 hr.1 (by omega),Option.bind_some,Int.toNat_natCast,Qf8 hr.1 (by omega),Option.bind_some,Qe1 hr.1 (by omega),Option.bind_some]
   ·dsimp only;rw [if_neg (by omega)]
   ·rw [← Q80,← Q8y];exact congrArg some (Qxs (f:=fun (c:List Qb) (x:Qb)=>c.set x.State.toNat x) (g:=fun (c:List Bool) (x:Qb)=>c.set x.State.toNat false))
  rw [hin,Option.bind_some,Qkb (by omega) (by omega)];refine ih _ ⟨f,T++l,rfl,rfl,hok,hS,by rw [List.length_append];omega,by dsimp only;omega,by dsimp only;rw [List.length_append];omega⟩ (by dsimp only;omega)
theorem Qbbp {T l:List Qb} {R:List Int} {r:Int} (hR:R.length=nS p) (hl:∀ x∈l,0≤x.State∧x.State<p.zB.zS) (h1:T.length+l.length≤1000000) :
  Qe9 ⟨p,R,T,r⟩ l=some ⟨p,l.foldl (fun c x=>c.set x.State.toNat x.Rank) R,T++l,l.foldl (fun c x=>if x.Rank>c then x.Rank else c) r⟩:=by
 unfold Qe9 Qbz;obtain ⟨fuel,hfu,hge⟩ : ∃ f,Qb0=f∧1099511627776≤f:=⟨_,rfl,Nat.le_refl _⟩;rw [hfu];dsimp only;have hin:Qbv (fun (k11:Int×Int×List Int→Option (Int×List Int)) ((i8,c9,c10):Int×Int×(List Int))=>(if (i8<(l.length:Int)) then ((getO l i8).bind fun x13=>((getO l i8).bind fun x15=>((inO R.length x13.State).bind fun u17=>((setO c10 x13.State x15.Rank).bind fun c19=>((getO l i8).bind fun x21=>k11 ((IntKind.wrap .i64 (i8+1)),(if x21.Rank>c9 then x21.Rank else c9),c19)))))) else some (c9,c10))) fuel (0,r,R)=some (l.foldl (fun c x=>if x.Rank>c then x.Rank else c) r,l.foldl (fun c x=>c.set x.State.toNat x.Rank) R):=by
  refine (Qf7 (l:=l) (fun i (s:Int×List Int)=>(i,s.1,s.2)) (fun s x=>((if x.Rank>s.1 then x.Rank else s.1),s.2.set x.State.toNat x.Rank)) (fun _ s=>s.2.length=nS p) (fun s=>some s) (by unfold big;omega) hge (fun k n s hn hs=>?_) (fun n s hn hs=>by simp only [List.length_set];exact hs) (fun k s hs=>?_) (s0:=(r,R)) hR).trans ?_
  ·have hr:=hl _ (List.getElem_mem hn);unfold nS at hs hR;dsimp only;rw [if_pos (by omega),Q2 hn];simp only [Option.bind_some];rw [Qf8 hr.1 (by omega),Option.bind_some,Qe1 hr.1 (by omega),Option.bind_some]
  ·dsimp only;rw [if_neg (by omega)]
  ·exact congrArg some (Qxs (f:=fun (c:Int) (x:Qb)=>if x.Rank>c then x.Rank else c) (g:=fun (c:List Int) (x:Qb)=>c.set x.State.toNat x.Rank))
 rw [hin];simp only [Option.bind_some];rw [Qd7 (by unfold lim;omega),Option.bind_some]
omit hp in
theorem Q3k {rank:Int}:∀ {l:List Qb} {r:Int},(∀ x∈l,x.Rank=rank)→r≤rank→l.foldl (fun c x=>if x.Rank>c then x.Rank else c) r=if l=[] then r else rank
 | [],r,_,_=>by simp
 | x::l,r,h,hr=>by
  have hx:=h x (by simp);have:(if x.Rank>r then x.Rank else r)=rank:=by split<;>omega
  rw [List.foldl_cons,this,Q3k (fun y hy=>h y (by simp [hy])) (Int.le_refl _),if_neg (show ¬ (x::l=[]) by simp)];split<;>rfl
theorem Qbda:Qha p=some ⟨p,Qh7 p (solP p).1,(solP p).1,(solP p).2⟩:=by
 unfold Qha Qdg;obtain ⟨fuel,hfu,hge⟩ : ∃ f,Qb0=f∧1099511627776≤f:=⟨_,rfl,Nat.le_refl _⟩;rw [hfu];have hst:=hp.a.st;have hnS:nS p≤4096:=by unfold nS;omega
 have hpl:=hp.small;have hfl:=hp.fo.small hst.2;have hT0:=Qbbo hp;rw [show mkO p.zB.zS (0:Int)=some (List.replicate (nS p) 0) from by unfold mkO lim;rw [if_pos (by omega)]];rw [Option.bind_some];refine Option.bind_eq_some_iff.2 ⟨T0 p,?_,?_⟩
 ·refine (Q8u (l:=p.zD) (f:=fun x=>(⟨x,1,1,-1⟩ : Qb)) hpl.2.1 (by omega) (fun k acc n hn=>?_) (fun k acc=>?_)).trans rfl
  ·dsimp only;rw [if_pos (by omega),Q2 hn];rfl
  ·dsimp only;rw [if_neg (by omega)]
 rw [Qkc (by simp),Option.bind_some,Qbbp hp (by simp) hT0.rg (by have:=hT0.len;unfold nS at this;simp only [List.length_nil];omega),Option.bind_some];have hr0:(T0 p).foldl (fun c x=>if x.Rank>c then x.Rank else c) 0=r0 p:=by
  rw [Q3k (rank:=1) (fun x hx=>by unfold T0 at hx;obtain ⟨y,_,rfl⟩:=List.mem_map.1 hx;rfl) (by omega)];unfold r0 T0;cases p.zD<;>rfl
 rw [hr0,List.nil_append];dsimp only;refine Qzd (fun x=>∃ (f:Nat) (T:List Qb) (rank r:Int),x=(rank,Qh7 p T,p.zB.zO,p.zB.zS,p.zB.zP,p.zB.zQ,p.zD,p.zC,p.zF,p.Tick,T,r)∧Okt p T∧Qqy p f rank T r=solP p∧nS p+1≤f+T.length∧2≤rank∧rank≤T.length+2∧r≤rank-1) (fun x=>(6000-x.1).toNat) _ ⟨nS p+1,T0 p,2,r0 p,rfl,hT0,rfl,by omega,by omega,by omega,by unfold r0;split<;>omega⟩ (by dsimp only;omega) ?_;rintro k _ ⟨f,T,rank,r,rfl,hT,hS,hf,h2,hrk,hr⟩ ih;dsimp only at ih ⊢;have hTl:=hT.len;rw [Qkc (Qu3 p T),Option.bind_some];rw [show (Qa.mk (Qd.mk p.zB.zO p.zB.zS p.zB.zP p.zB.zQ) p.zD p.zC p.zF p.Tick)=p from rfl];rw [Qbbl hp (Q6q hT),Option.bind_some,Qws hT.rk];obtain ⟨f,rfl⟩ : ∃ g,f=g+1:=⟨f-1,by omega⟩;rw [Qqy] at hS;by_cases he:Qhc p (Qbn p T) rank=[]
 ·rw [if_pos he] at hS;rw [if_pos (by rw [he];rfl),← hS]
  rfl
 ·rw [if_neg he] at hS;have hpos:0<(Qhc p (Qbn p T) rank).length:=List.length_pos_iff.2 he;rw [if_neg (by simp only [beq_iff_eq];omega)];have hok:=hT.round (rank:=rank) (by omega);have hmem:∀ x∈Qhc p (Qbn p T) rank,0≤x.State∧x.State<p.zB.zS:=fun x hx=>(Qm6 hx).1;have hrank:∀ x∈Qhc p (Qbn p T) rank,x.Rank=rank:=fun x hx=>(Qm6 hx).2.2;have hol:=hok.len;rw [List.length_append] at hol;generalize Qhc p (Qbn p T) rank=l at *
  rw [Option.bind_some,Qbbp hp (Qu3 p T) hmem (by unfold nS at hol;omega),Option.bind_some,Q8z,Q3k hrank (by omega),if_neg he,Qkb (by omega) (by omega)];exact ih _ ⟨f,T++l,rank+1,rank,rfl,hok,hS,by rw [List.length_append];omega,by omega,by rw [List.length_append];omega,by omega⟩ (by dsimp only;omega)
end
end Go.Abs
end
section
namespace Go.Abs
open Go
theorem Q7z {β:Type} {z v:β} {k k' : Int}:∀ {m:List (Int×β)},getM (setM m k v) k' z=if k'=k then v else getM m k' z
 | []=>by simp [setM,getM]
 | (q,w)::m=>by
  by_cases h1:k=q
  ·subst h1;by_cases h2:k'=k<;>simp [setM,getM,h2]
  ·have h1' : (k==q)=false:=by simp [h1]
   simp only [setM,h1',Bool.false_eq_true,if_false,getM];rw [Q7z (m:=m)];by_cases h2:k'=q
   ·subst h2;have:k' ≠ k:=fun e=>h1 e.symm;simp [this]
   ·simp [h2]
theorem Q70 {β:Type} {v:β} {k k' : Int}:∀ {m:List (Int×β)},hasM (setM m k v) k'=(decide (k'=k)||hasM m k')
 | []=>by
  simp only [setM,hasM,List.any_cons,List.any_nil,Bool.or_false];rw [Bool.eq_iff_iff];simp
 | (q,w)::m=>by
  by_cases h1:k=q
  ·subst h1;simp only [setM,beq_self_eq_true,if_true,Qxa];rw [Bool.eq_iff_iff];simp
  ·have h1' : (k==q)=false:=by simp [h1]
   simp only [setM,h1',Bool.false_eq_true,if_false,Qxa];rw [Q70 (m:=m)];cases (k'==q)<;>cases decide (k'=k)<;>simp
def MapOk (m:List (Int×Int)) (st:List Int):Prop:=∀ r,hasM m r=decide (r∈st)∧(r∈st→getM m r 0=(st.idxOf r:Int))
theorem MapOk.ins {m:List (Int×Int)} {st:List Int} (h:MapOk m st) {r:Int} (hr:r∉st):MapOk (setM m r (st.length:Int)) (st++[r]):=by
 intro x;obtain ⟨h1,h2⟩:=h x;refine ⟨?_,fun hx=>?_⟩
 ·rw [Q70,h1,Bool.eq_iff_iff];simp;exact Or.comm
 ·rw [Q7z];by_cases hxr:x=r
  ·subst hxr;rw [if_pos rfl,List.idxOf_append];simp [hr]
  ·rw [if_neg hxr];have hx' : x∈st:=by
    rcases List.mem_append.1 hx with hx|hx
    ·exact hx
    ·simp at hx;exact absurd hx hxr
   rw [h2 hx',List.idxOf_append,if_pos hx']
def Qkz (L:List Bool) (i:Nat) (s:List Int×List Qc) (x:Qc):List Int×List Qc :=
 if lf L x.To then (ins s.1 x.To,s.2++[⟨(i:Int),x.Event,((ins s.1 x.To).idxOf x.To:Int)⟩]) else s
def bldS (p:Qa) (L:List Bool):Nat→Nat→List Int→List Int→List Qc→List Int×List Int×List Qc
 | 0,_,st,ms,es=>(st,ms,es)
 | f+1,i,st,ms,es=>match st[i]? with
  | none=>(st,ms,es)
  | some s=>bldS p L f (i+1) ((outP p.zB s).foldl (Qkz L i) (st,es)).1 (if s∈p.zB.zP then ms++[(i:Int)] else ms) ((outP p.zB s).foldl (Qkz L i) (st,es)).2
def st0 (p:Qa) (L:List Bool):List Int:=if 0<p.zB.zS∧lf L 0=true then [0] else []
def supP (p:Qa) (L:List Bool):List Int×List Int×List Qc:=bldS p L (nS p+1) 0 (st0 p L) [] []
section
variable {p:Qa} (hp:RightP p) {L:List Bool}
include hp
theorem Q3l {i:Nat}:∀ {l:List Qc} {s:List Int×List Qc},(∀ x∈l,0≤x.To∧x.To<p.zB.zS)→Fnd p.zB s.1→Fnd p.zB (l.foldl (Qkz L i) s).1∧s.1 <+: (l.foldl (Qkz L i) s).1∧(l.foldl (Qkz L i) s).2.length≤s.2.length+l.length
 | [],s,_,h=>⟨h,List.prefix_refl _,by simp⟩
 | x::l,s,hl,h=>by
  rw [List.foldl_cons];have hx:=hl x (by simp);unfold Qkz;cases hq:lf L x.To with
  | false =>
   rw [if_neg (by simp)];obtain ⟨h1,h2,h3⟩:=Q3l (i:=i) (l:=l) (s:=s) (fun y hy=>hl y (by simp [hy])) h;exact ⟨h1,h2,by simp only [List.length_cons];unfold Qkz at h3;omega⟩
  | true =>
   rw [if_pos rfl];obtain ⟨h1,h2,h3⟩:=Q3l (i:=i) (l:=l) (s:=(ins s.1 x.To,s.2++[⟨(i:Int),x.Event,((ins s.1 x.To).idxOf x.To:Int)⟩])) (fun y hy=>hl y (by simp [hy])) (h.ins hx);refine ⟨h1,List.IsPrefix.trans (Q6k _ _) h2,?_⟩;simp only [List.length_append,List.length_cons,List.length_nil] at h3 ⊢;unfold Qkz at h3;omega
theorem Q81 (s:Int):(outP p.zB s).length≤131072:=Nat.le_trans (List.length_filter_le _ _) hp.a.small.2.2.2
theorem Qbfe:Fnd p.zB (st0 p L):=by
 unfold st0;split
 ·rename_i h;exact ⟨by simp,fun x hx=>by simp only [List.mem_singleton] at hx;subst hx;exact ⟨Int.le_refl _,h.1⟩⟩
 ·exact ⟨by simp,fun x hx=>by cases hx⟩
variable (hL:L.length=nS p)
include hL
end
end Go.Abs
end
section
namespace Go.Abs
open Go
abbrev zR:Qb:=⟨0,0,0,0⟩
def remF (p:Qa) (T:List Qb) (i:Int):Option Qb:=if lf (Qbn p T) i then none else some (at0 zR (Qtx p T) i)
def resP (p:Qa) (T:List Qb) (r:Int):Qbh :=
 ⟨⟨(upto p.zB.zS).filter (lf (Qbn p T)),((upto p.zB.zS).filter (lf (Qbn p T))).map (ati (Qm5 p (Qbn p T))),(upto p.zB.zS).filterMap (remF p T)⟩,r,
  ⟨p.zB.zO,((supP p (Qbn p T)).1.length:Int),(supP p (Qbn p T)).2.1,(supP p (Qbn p T)).2.2⟩,(supP p (Qbn p T)).1,
  (upto p.zB.zS).filter fun i=>lf (Qbn p T) i&&Qhq p (Qbn p T) i⟩
def Qs9 (p:Qa) (T:List Qb) (s:List Int×List Int×List Qb×List Int) (i:Int):List Int×List Int×List Qb×List Int :=
 if lf (Qbn p T) i then (s.1++[i],s.2.1++[ati (Qm5 p (Qbn p T)) i],s.2.2.1,if Qhq p (Qbn p T) i then s.2.2.2++[i] else s.2.2.2) else (s.1,s.2.1,s.2.2.1++[at0 zR (Qtx p T) i],s.2.2.2)
theorem Q71 {p:Qa} {T:List Qb}:∀ {l:List Int} {s:List Int×List Int×List Qb×List Int},l.foldl (Qs9 p T) s =
  (s.1++l.filter (lf (Qbn p T)),s.2.1++(l.filter (lf (Qbn p T))).map (ati (Qm5 p (Qbn p T))),s.2.2.1++l.filterMap (remF p T),s.2.2.2++l.filter fun i=>lf (Qbn p T) i&&Qhq p (Qbn p T) i)
 | [],s=>by simp
 | x::l,s=>by
  rw [List.foldl_cons,Q71 (l:=l)];unfold Qs9;cases h:lf (Qbn p T) x with
  | true =>
   cases h2:Qhq p (Qbn p T) x<;>simp [List.filter_cons,List.filterMap_cons,h,h2,remF]
  | false=>simp [List.filter_cons,List.filterMap_cons,h,remF]
theorem Qbff {p:Qa} {T:List Qb} {s:List Int×List Int×List Qb×List Int} {i:Int} {n:Nat} (h:s.1.length≤n∧s.2.1.length≤n∧s.2.2.1.length≤n∧s.2.2.2.length≤n) :
  (Qs9 p T s i).1.length≤n+1∧(Qs9 p T s i).2.1.length≤n+1∧(Qs9 p T s i).2.2.1.length≤n+1∧(Qs9 p T s i).2.2.2.length≤n+1:=by
 unfold Qs9;split
 ·refine ⟨?_,?_,?_,?_⟩
  ·simp;omega
  ·simp;omega
  ·simp;omega
  ·dsimp only;split
   ·simp;omega
   ·omega
 ·simp;omega
section
variable {p:Qa} (hp:RightP p)
include hp
end
end Go.Abs
end
section
namespace Go.Abs
open Go
theorem Qta {α β:Type} {c:α→Bool} {g:α→β}:∀ {l:List α} {acc:List β},l.foldl (fun acc x=>if c x then acc++[g x] else acc) acc=acc++(l.filter c).map g
 | [],acc=>by simp
 | x::l,acc=>by
  rw [List.foldl_cons,Qta (l:=l)];cases h:c x<;>simp [List.filter_cons,h]
theorem Q82 {T:List Qb} (hn:(T.map (·.State)).Nodup) {x:Qb} (hx:x∈T):T.filter (fun y=>y.State==x.State)=[x]:=by
 induction T with
 | nil=>cases hx
 | cons y T ih =>
  rw [List.map_cons,List.nodup_cons] at hn;rcases List.mem_cons.1 hx with rfl|hx
  ·have:T.filter (fun y=>y.State==x.State)=[]:=List.filter_eq_nil_iff.2 fun z hz hq=>hn.1 (List.mem_map.2 ⟨z,hz,by simpa using hq⟩);rw [List.filter_cons,this];simp
  ·have:(y.State==x.State)=false:=by
    rw [beq_eq_false_iff_ne];exact fun e=>hn.1 (List.mem_map.2 ⟨x,hx,e.symm⟩)
   rw [List.filter_cons,this];exact ih hn.2 hx
theorem Q5f {p:Qa} {T:List Qb} (h:Okt p T) {i:Int} (hi:0≤i∧i<p.zB.zS):T.filter (fun y=>y.State==i)=if lf (Qbn p T) i then [] else [at0 zR (Qtx p T) i]:=by
 rw [Qvi h.rg hi.1 hi.2];cases ha:T.any (fun x=>x.State==i) with
 | false =>
  rw [List.any_eq_false] at ha;simp only [Bool.not_false,if_true];exact List.filter_eq_nil_iff.2 fun x hx=>ha x hx
 | true =>
  obtain ⟨x,hx,hq⟩:=List.any_eq_true.1 ha;have hq:x.State=i:=by simpa using hq
  subst hq;rw [Q82 h.nd hx,Qze h hx];simp
theorem Qbfg {p:Qa} (hp:RightP p) (L:List Bool) (i:Int):(p.zB.zQ.filter fun y=>y.From==i&&((y.Event==p.Tick) && !lf L y.To)).map (fun _=>i)=if Qhq p L i then [i] else []:=by
 have hpw:=hp.a.ed.filter (fun y:Qc=>y.From==i&&((y.Event==p.Tick) && !lf L y.To));have he:Qhq p L i = !(p.zB.zQ.filter fun y=>y.From==i&&((y.Event==p.Tick) && !lf L y.To)).isEmpty:=by
  unfold Qhq outP;rw [List.any_filter,Bool.eq_iff_iff,List.any_eq_true];simp only [Bool.not_eq_true',List.isEmpty_eq_false_iff_exists_mem,List.mem_filter]
 rw [he];have hmem:∀ x∈p.zB.zQ.filter (fun y=>y.From==i&&((y.Event==p.Tick) && !lf L y.To)),x.From=i∧x.Event=p.Tick:=fun x hx=>by
  have:=(List.mem_filter.1 hx).2;simp only [Bool.and_eq_true,beq_iff_eq] at this;exact ⟨this.1,this.2.1⟩
 generalize p.zB.zQ.filter (fun y=>y.From==i&&((y.Event==p.Tick) && !lf L y.To))=l at hpw hmem
 match l,hpw,hmem with
 | [],_,_=>rfl
 | [x],_,_=>rfl
 | x::y::l,hpw,hmem =>
  exfalso;have h1:=(List.pairwise_cons.1 hpw).1 y (by simp);have h2:=hmem x (by simp);have h3:=hmem y (by simp);unfold Qpc at h1;omega
theorem Qbdb {fuel:Nat} (hge:1099511627776≤fuel) {st:List Int} (hn:st.Nodup) (hl:st.length≤1000000) (t:Int) :
  Qbv (fun (k128:Int×Int→Option Int) ((to126,k127):Int×Int)=>(if (k127<(st.length:Int)) then ((((getO st k127).bind fun x130=>(if (x130==t) then some k127 else some to126))).bind fun (to133:Int)=>k128 (to133,(IntKind.wrap .i64 (k127+1)))) else some to126)) fuel ((-1),0)=some (if t∈st then (st.idxOf t:Int) else -1):=by
 refine (Qgr (len:=st.length) (fun n (to:Int)=>(to,(n:Int))) (fun n to=>to=if t∈st.take n then (st.idxOf t:Int) else -1) (fun n to=>some (if t∈st then (st.idxOf t:Int) else -1)) ?_ ?_ fuel 0 (-1) (Nat.zero_le _) (by omega) (by simp))
 ·rintro k n to hlt hto ih;dsimp only;rw [if_pos (by omega),Q2 hlt,Option.bind_some,Qce (by omega)];by_cases hq:st[n]=t
  ·rw [if_pos (by simp [hq]),Option.bind_some];refine ih _ ?_;have hm:t∈st.take (n+1):=by rw [List.take_succ_eq_append_getElem hlt];simp [hq]
   rw [if_pos hm];have:st.idxOf t=n:=by
    subst hq;exact List.Nodup.idxOf_getElem hn n hlt
   rw [this]
  ·rw [if_neg (by simpa using hq),Option.bind_some];refine ih _ ?_;rw [hto];have:t∈st.take (n+1)↔t∈st.take n:=by
    rw [List.take_succ_eq_append_getElem hlt,List.mem_append,List.mem_singleton];exact ⟨fun h=>h.elim id fun e=>absurd e.symm hq,.inl⟩
   simp only [this]
 ·rintro k to hto;dsimp only;rw [if_neg (by omega),hto,List.take_length]
section
variable {p:Qa} (hp:RightP p) {T:List Qb} (hT:Okt p T) (r:Int)
include hp
theorem Qbdc {fuel:Nat} (hge:1099511627776≤fuel) {R:List Int} (hR:Qbbh p R) {i:Nat} (hi:i≤4096) {s:Int} {st ms:List Int} {es:List Qc} (hf:Fnd p.zB st) (hs:st[i]? = some s) (he:es.length≤131072*4096) :
  Qbv (fun (k113:Int×List Qc×List Int→Option (List Int×List Qc×List Int)) ((x110,r111,r112):Int×(List Qc)×(List Int))=>(if (x110<(p.zB.zQ.length:Int)) then ((((getO p.zB.zQ x110).bind fun x115=>((((getO r112 (i:Int)).bind fun x117=>(if (x115.From != x117) then some true else ((inO R.length x115.To).bind fun u120=>((getO R x115.To).bind fun x122=>some (decide (x122>0))))))).bind fun (x124:Bool)=>(if x124 then some (r111,r112,x115.From,x115.Event,x115.To) else ((Qbv (fun k128 ((to126,k127):Int×Int)=>(if (k127<(r112.length:Int)) then ((((getO r112 k127).bind fun x130=>(if (x130==x115.To) then some k127 else some to126))).bind fun (to133:Int)=>k128 (to133,(IntKind.wrap .i64 (k127+1)))) else some to126)) fuel ((-1),0)).bind fun (to134:Int)=>(((if (to134<0) then ((appO r112 [x115.To]).bind fun x136=>some ((r112.length:Int),x136)) else some (to134,r112))).bind fun ((to138,r139):Int×(List Int))=>((appO r111 [(Qc.mk (i:Int) x115.Event to138)]).bind fun x140=>some (x140,r139,x115.From,x115.Event,x115.To)))))))).bind fun ((r142,r143,y144,y145,y146):(List Qc)×(List Int)×Int×Int×Int)=>k113 ((IntKind.wrap .i64 (x110+1)),r142,r143)) else some (ms,r111,r112))) fuel (0,es,st)=some (ms,((outP p.zB s).foldl (Qkz (Qdx R) i) (st,es)).2,((outP p.zB s).foldl (Qkz (Qdx R) i) (st,es)).1):=by
 have hst:=hp.a.st;have hnS:nS p≤4096:=by unfold nS;omega
 have hsm:=hp.a.small;have hfold:(outP p.zB s).foldl (Qkz (Qdx R) i) (st,es)=p.zB.zQ.foldl (fun q x=>if x.From==s then Qkz (Qdx R) i q x else q) (st,es):=by unfold outP;rw [List.foldl_filter]
 rw [hfold];refine (Qf7 (l:=p.zB.zQ) (fun j (q:List Int×List Qc)=>(j,q.2,q.1)) (fun q x=>if x.From==s then Qkz (Qdx R) i q x else q) (fun n q=>Fnd p.zB q.1∧q.1[i]? = some s∧q.2.length≤131072*4096+n) (fun q=>some (ms,q.2,q.1)) hsm.1.2.2 hge (fun k n q hn hq=>?_) (fun n q hn hq=>?_) (fun k q hq=>?_) (s0:=(st,es)) ⟨hf,hs,he⟩)
 ·obtain ⟨h1,h2,h3⟩:=hq;have hr:=hp.a.ed0 _ (List.getElem_mem hn);have hra:=Qp5 hR (x:=p.zB.zQ[n].To) ⟨hr.2.2.1,hr.2.2.2.1⟩;have hfl:=h1.len;have hil:i<q.1.length:=(List.getElem?_eq_some_iff.1 h2).1;have hgi:getO q.1 (i:Int)=some s:=by rw [Q2 hil];rw [← h2];exact (List.getElem?_eq_getElem hil).symm
  dsimp only;rw [if_pos (by omega),Q2 hn];generalize p.zB.zQ[n]=x at hr hra;simp only [Option.bind_some,hgi];by_cases hx:x.From=s
  ·have hx1:(x.From != s)=false:=by simp [hx]
   have hx2:(x.From==s)=true:=by simp [hx]
   simp only [hx1,hx2,Bool.false_eq_true,if_false,if_true,hra.1,hra.2.1,Option.bind_some,hra.2.2.2];unfold Qkz;cases hq:lf (Qdx R) x.To with
   | false=>simp
   | true =>
    simp only [Bool.not_true,Bool.false_eq_true,if_false,if_true];rw [Qbdb hge h1.nd (by unfold nS at hnS;omega),Option.bind_some];by_cases hm:x.To∈q.1
    ·have hins:ins q.1 x.To=q.1:=by unfold ins;rw [if_pos hm]
     rw [hins,if_pos hm,if_neg (by omega),Option.bind_some,Qd7 (by simp only [List.length_cons,List.length_nil];unfold lim;omega)]
     rfl
    ·have hins:ins q.1 x.To=q.1++[x.To]:=by unfold ins;rw [if_neg hm]
     have hidx:(q.1++[x.To]).idxOf x.To=q.1.length:=by rw [List.idxOf_append,if_neg hm];simp
     rw [hins,hidx,if_neg hm,if_pos (by omega),Qd7 (l:=q.1) (by simp only [List.length_cons,List.length_nil];unfold lim;omega)];simp only [Option.bind_some];rw [Qd7 (by simp only [List.length_cons,List.length_nil];unfold lim;omega)]
     rfl
  ·have hx1:(x.From != s)=true:=by simp [hx]
   have hx2:(x.From==s)=false:=by simp [hx]
   simp [hx1,hx2]
 ·obtain ⟨h1,h2,h3⟩:=hq;have hr:=hp.a.ed0 _ (List.getElem_mem hn);generalize p.zB.zQ[n]=x at hr;split
  ·unfold Qkz;split
   ·refine ⟨h1.ins ⟨hr.2.2.1,hr.2.2.2.1⟩,Qvg (Q6k _ _) h2,by simp only [List.length_append,List.length_cons,List.length_nil];omega⟩
   ·exact ⟨h1,h2,by omega⟩
  ·exact ⟨h1,h2,by omega⟩
 ·dsimp only;rw [if_neg (by omega)]
include hT
theorem Qbbq:Qet ⟨p,Qh7 p T,T,r⟩=some (resP p T r):=by
 unfold Qet Qb4;obtain ⟨fuel,hfu,hge⟩ : ∃ f,Qb0=f∧1099511627776≤f:=⟨_,rfl,Nat.le_refl _⟩;rw [hfu,Qxr hp (Q6q hT),Option.bind_some,Qws hT.rk];dsimp only;have hst:=hp.a.st;have hnS:nS p≤4096:=by unfold nS;omega
 have hsm:=hp.a.small;have hTl:=hT.len;have hR:=Q6q hT;have hRl:=Qu3 p T;have hlR:Qdx (Qh7 p T)=Qbn p T:=Qws hT.rk;have hlL:=Qly p T;have hD:=(Qs8 hp (Qbn p T)).ln;refine Option.bind_eq_some_iff.2 ⟨([],[],[],[],[],[],[],[],(resP p T r).zG.Kept,(resP p T r).zG.zH,(resP p T r).zG.zJ,[],[],[],(resP p T r).zN),?_,?_⟩
 ·refine (Qf7 (l:=upto p.zB.zS) (fun i (s:List Int×List Int×List Qb×List Int)=>(i,[],[],[],[],[],[],[],[],s.1,s.2.1,s.2.2.1,[],[],[],s.2.2.2)) (Qs9 p T) (fun n s=>s.1.length≤n∧s.2.1.length≤n∧s.2.2.1.length≤n∧s.2.2.2.length≤n) (fun s=>some ([],[],[],[],[],[],[],[],s.1,s.2.1,s.2.2.1,[],[],[],s.2.2.2)) (by rw [Qch];unfold big;omega) hge (fun k n s hn hs=>?_) (fun n s hn hs=>Qbff hs) (fun k s hs=>?_) (s0:=([],[],[],[])) (by simp)).trans ?_
  ·have hn':=Qko hn;obtain ⟨a1,a2,a3,a4⟩:=hs;have hx:0≤(n:Int)∧(n:Int)<p.zB.zS:=⟨by omega,by omega⟩;have hlt:∀ {l:List Int} {x:Int},l.length≤n→appO l [x]=some (l++[x]):=fun h=>Qd7 (by simp only [List.length_cons,List.length_nil];unfold lim;omega);dsimp only;rw [Qlw hn,if_pos (by unfold nS at hRl;omega)];have hrem:Qbv (fun (k28:Int×List Qb→Option (List Qb)) ((k26,r27):Int×(List Qb))=>(if (k26<(T.length:Int)) then ((((getO T k26).bind fun x30=>(if (x30.State==(n:Int)) then ((getO T k26).bind fun x33=>((appO r27 [x33]).bind fun x35=>some x35)) else some r27))).bind fun (r37:List Qb)=>k28 ((IntKind.wrap .i64 (k26+1)),r37)) else some r27)) fuel (0,s.2.2.1)=some (s.2.2.1++T.filter (fun y=>y.State==(n:Int))):=by
    refine (Qf7 (l:=T) (fun i (acc:List Qb)=>(i,acc)) (fun acc x=>if x.State==(n:Int) then acc++[x] else acc) (fun m acc=>acc.length≤n+m) (fun acc=>some acc) (by unfold big;omega) hge (fun k m acc hm ha=>?_) (fun m acc hm ha=>by split<;>first|(simp only [List.length_append,List.length_cons,List.length_nil];omega)|omega) (fun k acc ha=>?_) (s0:=s.2.2.1) (by omega)).trans ?_
    ·dsimp only;rw [if_pos (by omega),Q2 hm];simp only [Option.bind_some];rw [Qd7 (by simp only [List.length_cons,List.length_nil];unfold lim;unfold nS at hTl;omega)];cases T[m].State==(n:Int)<;>rfl
    ·dsimp only;rw [if_neg (by omega)]
    ·have:=Qta (c:=fun y:Qb=>y.State==(n:Int)) (g:=id) (l:=T) (acc:=s.2.2.1);rw [List.map_id] at this;exact congrArg some this
   rw [hrem,Option.bind_some,Q5f hT hx];have hra:=Qp5 hR hx;rw [hlR] at hra;have h4:(ati (Qh7 p T) (n:Int)>0)↔lf (Qbn p T) (n:Int)=false:=by
    rw [← decide_eq_true_iff (p:=ati (Qh7 p T) (n:Int)>0),hra.2.2.2];simp
   simp only [hra.1,hra.2.1,Option.bind_some,h4];unfold Qs9;cases hq:lf (Qbn p T) (n:Int) with
   | true =>
    simp only [Bool.true_eq_false,if_false,if_true,List.append_nil];rw [hlt a1,Option.bind_some,Qi3 (d:=0) (l:=Qm5 p (Qbn p T)) hx.1 (by omega),Option.bind_some,hlt a2,Option.bind_some];refine Qbc3 (P:=fun v=>v=(s.1++[(n:Int)],s.2.1++[ati (Qm5 p (Qbn p T)) (n:Int)],s.2.2.1,if Qhq p (Qbn p T) (n:Int) then s.2.2.2++[(n:Int)] else s.2.2.2)) ⟨_,?_,rfl⟩ (fun v hv=>by subst hv;rfl);refine (Qf7 (l:=p.zB.zQ) (fun i (acc:List Int)=>(i,acc)) (fun acc y=>if y.From==(n:Int)&&((y.Event==p.Tick) && !lf (Qbn p T) y.To) then acc++[(n:Int)] else acc) (fun m acc=>acc.length≤n+m) (fun acc=>some (s.1++[(n:Int)],s.2.1++[ati (Qm5 p (Qbn p T)) (n:Int)],s.2.2.1,acc)) hsm.1.2.2 hge (fun k m acc hm ha=>?_) (fun m acc hm ha=>by split<;>first|(simp only [List.length_append,List.length_cons,List.length_nil];omega)|omega) (fun k acc ha=>?_) (s0:=s.2.2.2) (by omega)).trans ?_
    ·have hr:=hp.a.ed0 _ (List.getElem_mem hm);have hrb:=Qp5 hR (x:=p.zB.zQ[m].To) ⟨hr.2.2.1,hr.2.2.2.1⟩;rw [hlR] at hrb;dsimp only;rw [if_pos (by omega),Q2 hm];generalize p.zB.zQ[m]=y at hr hrb;simp only [hrb.1,hrb.2.1,Option.bind_some,hrb.2.2.2];rw [Qd7 (by simp only [List.length_cons,List.length_nil];unfold lim;omega)];cases y.From==(n:Int)<;>cases y.Event==p.Tick<;>cases lf (Qbn p T) y.To<;>rfl
    ·dsimp only;rw [if_neg (by omega)]
    ·rw [Qta,Qbfg hp];cases Qhq p (Qbn p T) (n:Int)<;>simp
   | false =>
    simp
  ·dsimp only;rw [Qch,if_neg (by unfold nS at hRl;omega)]
  ·rw [Q71];simp only [List.nil_append]
   rfl
 ·dsimp only;have hstart:(if ((Qh7 p T).length:Int)==0 then some true else ((inO (Qh7 p T).length 0).bind fun u90=>((getO (Qh7 p T) 0).bind fun x92=>some (decide (x92>0)))))=some (!(decide (0<p.zB.zS∧lf (Qbn p T) 0=true))):=by
   by_cases h0:0<p.zB.zS
   ·have hra:=Qp5 hR (x:=0) ⟨Int.le_refl _,h0⟩;rw [hlR] at hra;rw [if_neg (by rw [hRl];unfold nS;simp;omega)];simp only [hra.1,hra.2.1,Option.bind_some,hra.2.2.2,h0,true_and];cases lf (Qbn p T) 0<;>rfl
   ·rw [if_pos (by rw [hRl];unfold nS;simp;omega)];simp [h0]
  rw [hstart,Option.bind_some];by_cases h0:0<p.zB.zS∧lf (Qbn p T) 0=true
  ·rw [if_neg (by simp [h0])];have hs0:st0 p (Qbn p T)=[0]:=by unfold st0;rw [if_pos h0]
   have hsup:supP p (Qbn p T)=bldS p (Qbn p T) (nS p+1) 0 [0] [] []:=by unfold supP;rw [hs0]
   have hf0:Fnd p.zB [0]:=hs0 ▸ Qbfe hp;generalize hA:supP p (Qbn p T)=A at hsup;have hres:resP p T r=⟨⟨(resP p T r).zG.Kept,(resP p T r).zG.zH,(resP p T r).zG.zJ⟩,r,⟨p.zB.zO,(A.1.length:Int),A.2.1,A.2.2⟩,A.1,(resP p T r).zN⟩:=by rw [← hA];rfl
   refine Option.bind_eq_some_iff.2 ⟨(A.2.1,A.2.2,A.1),?_,by rw [hres]⟩;refine Qzd (fun x:Int×List Int×List Qc×List Int=>∃ (n f:Nat),x.1=n∧n+f=nS p+1∧n≤x.2.2.2.length∧Fnd p.zB x.2.2.2∧x.2.1.length≤n∧x.2.2.1.length≤131072*n∧bldS p (Qbn p T) f n x.2.2.2 x.2.1 x.2.2.1=A) (fun x=>5001-x.1.toNat) _ ⟨0,nS p+1,rfl,by omega,Nat.zero_le _,hf0,Nat.zero_le _,Nat.zero_le _,hsup.symm⟩ (by dsimp only;omega) ?_;rintro k ⟨x,ms,es,st⟩ ⟨n,f,hx,hf,hnl,hfd,hms,hes,hB⟩ ih;dsimp only at hx hnl hfd hms hes hB ih ⊢;subst hx;have hfl:=hfd.len;by_cases hlt:n<st.length
   ·obtain ⟨f,rfl⟩ : ∃ g,f=g+1:=⟨f-1,by unfold nS at *;omega⟩;have hi:st[n]? = some st[n]:=List.getElem?_eq_getElem hlt;have hr:=hfd.rg _ (List.getElem_mem hlt);have hn4:n≤4096:=by unfold nS at *;omega
    rw [if_pos (by omega),Q2 hlt,Option.bind_some,Qqw hsm.1.2.1,Option.bind_some];have hmk:(if decide (st[n]∈p.zB.zP)=true then (appO ms [(n:Int)]).bind fun x36=>some x36 else some ms)=some (if st[n]∈p.zB.zP then ms++[(n:Int)] else ms):=by
     rw [Qd7 (by simp only [List.length_cons,List.length_nil];unfold lim;omega)];by_cases hm:st[n]∈p.zB.zP<;>simp [hm]
    rw [hmk,Option.bind_some];rw [bldS,hi] at hB;dsimp only at hB;obtain ⟨k1,k2,k3⟩:=Q3l hp (i:=n) (L:=Qbn p T) (l:=outP p.zB st[n]) (s:=(st,es)) (fun x hx=>(Qrg hp x hx).1) hfd;have hol:=Q81 hp st[n];have hrow:=Qbdc hp hge hR (i:=n) hn4 (s:=st[n]) (ms:=if st[n]∈p.zB.zP then ms++[(n:Int)] else ms) (es:=es) hfd hi (by omega);rw [hlR] at hrow;rw [hrow,Option.bind_some,Qce (by omega)];have hk2:=k2.length_le;refine ih _ ⟨n+1,f,rfl,by omega,by dsimp only at hk2 ⊢;omega,k1,?_,by dsimp only at k3 ⊢;omega,hB⟩ (by simp only [Int.toNat_natCast];omega);dsimp only;split
    ·simp only [List.length_append,List.length_cons,List.length_nil];omega
    ·omega
   ·rw [if_neg (by omega)];have hB' : (st,ms,es)=A:=by
     cases f with
     | zero=>exact hB
     | succ f=>rw [bldS,List.getElem?_eq_none (by omega)] at hB;exact hB
    subst hB'
    rfl
  ·rw [if_pos (by simp only [h0,decide_false,Bool.not_false])];have hs0:st0 p (Qbn p T)=[]:=by unfold st0;rw [if_neg h0]
   have hsup:supP p (Qbn p T)=([],[],[]):=by unfold supP;rw [hs0];rfl
   have hres:resP p T r=⟨⟨(resP p T r).zG.Kept,(resP p T r).zG.zH,(resP p T r).zG.zJ⟩,r,⟨p.zB.zO,0,[],[]⟩,[],(resP p T r).zN⟩:=by
    unfold resP;rw [hsup];rfl
   rw [hres]
end
end Go.Abs
end
section
namespace Go.Abs
open Go
structure Q03 (k:Qbb):Prop where
 ev:0≤k.Part.Events∧k.Part.Events<256
 gr:Qbbd k.Part.Graph
 fo:0≤k.zD∧k.zD<256
 un:0≤k.zC∧k.zC<256
 fc:0≤k.zF∧k.zF<256
def evB4 (s:Nat):Bool:=match Qdk (andI .u8 (s:Int) 15) with
 | some l=>Qbbb l&&l.all fun x=>decide (0≤x)&&decide (x<4)
 | none=>false
theorem Qbdd:(List.range 256).all evB4=true:=by kernel_rfl
theorem Q2d {s:Int} (h0:0≤s) (h1:s<256):∃ l,Qdk (andI .u8 s 15)=some l∧SetP 32 l∧(4:Int)∉l∧l.length≤4∧∀ x∈l,x<4:=by
 have:=List.all_eq_true.1 Qbdd s.toNat (List.mem_range.2 (by omega));unfold evB4 at this;rw [show ((s.toNat:Nat):Int)=s from by omega] at this;split at this
 ·rename_i l hl;simp only [Bool.and_eq_true,List.all_eq_true,decide_eq_true_eq] at this;have hso:=Q01 this.1;refine ⟨l,hl,⟨fun x hx=>?_,hso⟩,fun hx=>?_,?_,fun x hx=>(this.2 x hx).2⟩
  ·have:=this.2 x hx;omega
  ·have:=this.2 4 hx;omega
  ·have:=Qj1 hso this.2;omega
 ·cases this
def bitP (s i:Int):Bool:=andI .u8 (s.fdiv (2 ^ (min (Int.toNat i) (IntKind.bits .u8)))) 1==1
theorem Q6s {k:Qbb} (hk:Q03 k):∃ p,Qf6 k=some p∧RightP p∧p.Tick=4∧p.zB.zS≤5∧(∀ x∈p.zB.zO,x<5)∧(∀ x∈p.zC,x<4)∧∀ x∈p.zF,x<4:=by
 unfold Qf6 Qdp;obtain ⟨fuel,hfu,hge⟩ : ∃ f,Qb0=f∧1099511627776≤f:=⟨_,rfl,Nat.le_refl _⟩;obtain ⟨ev,hE,hev⟩:=Qbbc hk.ev.1 hk.ev.2;obtain ⟨m,hm,hmal,hM,hm5⟩:=Qbfa hev hk.gr;obtain ⟨un,hU,hun,hu4,_,hulb⟩:=Q2d hk.un.1 hk.un.2;obtain ⟨fc,hF,hfc,hf4,_,hflb⟩:=Q2d hk.fc.1 hk.fc.2;have ha:=Q44 hm;have hal5:∀ x∈(Qtd m).zO,x<5:=fun x hx=>by
  rw [show (Qtd m).zO=m.zO from rfl,hmal] at hx;exact (hev.rg x hx).2
 have h5:(Qtd m).zS≤5:=by
  have:=(Qyf hm).1.len;show ((Qqv m).length:Int)≤5;omega
 generalize Qtd m=a at ha hM h5 hal5;have hst:=ha.st;rw [hfu];refine ⟨⟨a,(upto a.zS).filter (bitP k.zD),un,fc,4⟩,Option.bind_eq_some_iff.2 ⟨ev,hE,Option.bind_eq_some_iff.2 ⟨a,hM,Option.bind_eq_some_iff.2 ⟨un,hU,Option.bind_eq_some_iff.2 ⟨fc,hF,?_⟩⟩⟩⟩,⟨ha,⟨fun x hx=>?_,(Qu1 _).filter _⟩,hun,hfc,by simp only;omega,hu4,hf4⟩,rfl,h5,hal5,hulb,hflb⟩
 ·refine Option.bind_eq_some_iff.2 ⟨([],[],[],[],[],[],(upto a.zS).filter (bitP k.zD)),?_,rfl⟩;refine (Qf7 (l:=upto a.zS) (fun i (acc:List Int)=>(i,[],[],[],[],[],[],acc)) (fun acc i=>if bitP k.zD i then acc++[i] else acc) (fun n acc=>acc.length≤n) (fun acc=>some ([],[],[],[],[],[],acc)) (by rw [Qch];unfold big;omega) hge (fun k' n acc hn ha'=>?_) (fun n acc hn ha'=>by split<;>first|(simp only [List.length_append,List.length_cons,List.length_nil];omega)|omega) (fun k' acc ha'=>?_) (s0:=[]) (by simp)).trans ?_
  ·have hn':=Qko hn;dsimp only;rw [Qlw hn,if_pos (by omega)];rw [show shrO .u8 k.zD (n:Int)=some (k.zD.fdiv (2 ^ (min (Int.toNat (n:Int)) (IntKind.bits .u8)))) from by unfold shrO;rw [if_neg (by omega)]];rw [Option.bind_some,Qd7 (by simp only [List.length_cons,List.length_nil];unfold lim;omega)];show ((if bitP k.zD (n:Int)=true then _ else _:Option _).bind _)=_;cases bitP k.zD (n:Int)<;>rfl
  ·dsimp only;rw [Qch,if_neg (by omega)]
  ·have:=Qta (c:=bitP k.zD) (g:=id) (l:=upto a.zS) (acc:=([]:List Int));rw [List.map_id,List.nil_append] at this;exact congrArg (fun z=>some (([]:List Int),([]:List Int),([]:List Qc),([]:List Int),([]:List Int),([]:List Int),z)) this
 ·exact Qgy.1 (List.mem_filter.1 hx).1
theorem Qbbr {k:Qbb} (hk:Q03 k):∃ p,Qf6 k=some p∧RightP p∧p.Tick=4∧p.zB.zS≤5:=by
 obtain ⟨p,h1,h2,h3,h4,_⟩:=Q6s hk;exact ⟨p,h1,h2,h3,h4⟩
section
variable {p:Qa} (hp:RightP p)
include hp
end
end Go.Abs
end
section
namespace Go.Proofs
open Go Go.Abs
theorem Q5g {x:Int} (h:wfI .u8 x):0≤x∧x<256:=by
 unfold wfI at h;simp [Lit.wf,IntKind.min,IntKind.max,IntKind.bits,IntKind.signed] at h;omega
theorem Qbde {g:Qco} (h:W_26 g):Qbbd g:=by
 unfold W_26 W_24 W_23 W_5 at h;obtain ⟨h1,h2,⟨a1,a2,a3,a4,a5⟩,⟨b1,b2,b3,b4,b5⟩,⟨c1,c2,c3,c4,c5⟩,⟨d1,d2,d3,d4,d5⟩,⟨e1,e2,e3,e4,e5⟩⟩:=h;refine ⟨Q5g h1,fun x hx=>?_⟩;simp only [List.mem_cons,List.not_mem_nil,or_false] at hx;rcases hx with rfl|rfl|rfl|rfl|rfl|rfl|rfl|rfl|rfl|rfl|rfl|rfl|rfl|rfl|rfl|rfl|rfl|rfl|rfl|rfl|rfl|rfl|rfl|rfl|rfl<;>exact Q5g (by assumption)
theorem Qbgr {k:Qbb} (h:W_30 k):Q03 k :=
 ⟨Q5g h.1.1,Qbde h.1.2,Q5g h.2.1,Q5g h.2.2.1,Q5g h.2.2.2⟩
end Go.Proofs
end
section
namespace Go.Abs
open Go
def rowL (p:Qa) (l:List Int):List Bool:=(upto p.zB.zS).map fun i=>decide (i∈l)
theorem Qzf (p:Qa) (l:List Int):(rowL p l).length=nS p:=by unfold rowL;rw [List.length_map,Qch]
theorem Q04 {p:Qa} {l:List Int} {x:Int} (h0:0≤x) (h1:x<p.zB.zS):lf (rowL p l) x=decide (x∈l):=Qu2 h0 h1
def okS (p:Qa) (L:List Bool) (i:Int):Bool:=((escP p L i).1==0)&&(!decide (i∈p.zD)&&decide (0≤ati (Qm5 p L) i))
section
variable {p:Qa} (hp:RightP p)
include hp
theorem Q2e:∀ {f:Nat} {rank:Int} {T:List Qb} {r:Int},Okt p T→nS p+1≤f+T.length→1≤rank→Okt p (Qqy p f rank T r).1∧(∃ rk,Qhc p (Qbn p (Qqy p f rank T r).1) rk=[])∧T <+: (Qqy p f rank T r).1
 | 0,rank,T,r,hT,hf,_=>absurd hT.len (by omega)
 | f+1,rank,T,r,hT,hf,hr=>by
  rw [Qqy];split
  ·rename_i he;exact ⟨hT,⟨rank,he⟩,List.prefix_refl _⟩
  ·rename_i he;have hpos:0<(Qhc p (Qbn p T) rank).length:=List.length_pos_iff.2 he;obtain ⟨h1,h2,h3⟩:=Q2e (f:=f) (rank:=rank+1) (T:=T++Qhc p (Qbn p T) rank) (r:=rank) (hT.round hr) (by rw [List.length_append];omega) (by omega);exact ⟨h1,h2,List.IsPrefix.trans (List.prefix_append _ _) h3⟩
theorem Qxt:Okt p (solP p).1∧(∃ rk,Qhc p (Qbn p (solP p).1) rk=[])∧T0 p <+: (solP p).1:=Q2e hp (Qbbo hp) (by omega) (by omega)
theorem Qbdf {i:Int} (h0:0≤i) (h1:i<p.zB.zS) (hl:lf (Qbn p (solP p).1) i=true):okS p (Qbn p (solP p).1) i=true:=by
 obtain ⟨hT,⟨rk,hrk⟩,hpre⟩:=Qxt hp;generalize (solP p).1=T at hT hrk hpre hl ⊢;have hfor:i∉p.zD:=fun hm=>by
  have:(⟨i,1,1,-1⟩ : Qb)∈T:=hpre.subset (List.mem_map.2 ⟨i,hm,rfl⟩);rw [Qvi hT.rg h0 h1] at hl
  grind
 unfold Qhc at hrk;split at hrk
 ·grind
 ·rename_i hE;have hE' : Qv0 p (Qbn p T) rk=[]:=List.eq_nil_of_length_eq_zero (by omega);have e1:=List.filterMap_eq_nil_iff.1 hE' i (Qgy.2 ⟨h0,h1⟩);have e2:=List.filterMap_eq_nil_iff.1 hrk i (Qgy.2 ⟨h0,h1⟩);unfold remE at e1;unfold remB at e2;rw [hl] at e1 e2;unfold okS
  grind
end
end Go.Abs
end
section
namespace Go.Abs
open Go
theorem Qyj {X S R α:Type} {F:(X→Option R)→X→Option R} {fuel:Nat} {l:List α} (mk:Int→S→X) (stp:S→α→S) (I:Nat→S→Prop) (hl:l.length<big) (hf:1099511627776≤fuel)
  (step:∀ (k:X→Option R) (n:Nat) (s:S) (h:n<l.length),I n s→F k (mk n s)=k (mk (IntKind.wrap .i64 ((n:Int)+1)) (stp s l[n])))
  (keep:∀ (n:Nat) (s:S) (h:n<l.length),I n s→I (n+1) (stp s l[n]))
  (last:∀ (k k' : X→Option R) (s:S),I l.length s→F k (mk l.length s)=F k' (mk l.length s)) {s0:S} (h0:I 0 s0):Qbv F fuel (mk 0 s0)=F (fun _=>none) (mk l.length (l.foldl stp s0)) :=
 Qf7 (K:=fun s=>F (fun _=>none) (mk l.length s)) mk stp I hl hf step keep (fun k s hs=>last k _ s hs) h0
theorem Qzg {X S R:Type} {F:(X→Option R)→X→Option R} {fuel m:Nat} (mk:Int→S→X) (stp:Nat→S→S) (I:Nat→S→Prop) (Z:R→Prop) (hm:m<big) (hf:1099511627776≤fuel)
  (step:∀ (k:X→Option R) (n:Nat) (s:S),n<m→I n s→F k (mk n s)=k (mk (IntKind.wrap .i64 ((n:Int)+1)) (stp n s)))
  (keep:∀ (n:Nat) (s:S),n<m→I n s→I (n+1) (stp n s))
  (stop:∀ (k:X→Option R) (s:S),I m s→∃ r,F k (mk m s)=some r∧Z r) {s0:S} (h0:I 0 s0):∃ r,Qbv F fuel (mk 0 s0)=some r∧Z r:=by
 have hb:m<1000000000000:=hm;have key:∀ (j n:Nat) (s:S) (f:Nat),n+j=m→j<f→I n s→∃ r,Qbv F f (mk n s)=some r∧Z r:=by
  intro j
  induction j with
  | zero =>
   intro n s f hn hf hi;obtain rfl:n=m:=by omega
   obtain ⟨f,rfl⟩ : ∃ g,f=g+1:=⟨f-1,by omega⟩;exact stop (Qbv F f) s hi
  | succ j ih =>
   intro n s f hn hf hi;obtain ⟨f,rfl⟩ : ∃ g,f=g+1:=⟨f-1,by omega⟩
   grind [Qbv,Go.step,Qce]
 exact key m 0 s0 fuel (by omega) (by omega) h0
theorem Qm7 {α β:Type} {d:α} {f:β→Int} {g:β→α} {y:Int} (hy:0≤y):∀ {l:List β} {c:List α},(∀ x∈l,0≤f x∧f x<c.length)→(∀ x∈l,f x≠y)→at0 d (l.foldl (fun c x=>c.set (f x).toNat (g x)) c) y=at0 d c y
 | [],_,_,_=>rfl
 | x::l,c,hr,hn=>by
  rw [List.foldl_cons,Qm7 hy (l:=l) (fun z hz=>by grind) (fun z hz=>hn z (by simp [hz])),Q2a (hr x (by simp)) hy,if_neg (fun e=>hn x (by simp) e.symm)]
theorem Qf5 {α β:Type} {d:α} {f:β→Int} {g:β→α}:∀ {l:List β} {c:List α},(∀ x∈l,0≤f x∧f x<c.length)→(l.map f).Nodup→∀ x∈l,at0 d (l.foldl (fun c x=>c.set (f x).toNat (g x)) c) (f x)=g x
 | [],_,_,_,x,h=>by cases h
 | x::l,c,hr,hn,z,hz=>by
  rw [List.map_cons,List.nodup_cons] at hn;have hr' : ∀ w∈l,0≤f w∧f w<((c.set (f x).toNat (g x)).length:Int):=fun w hw=>by grind
  rw [List.foldl_cons];rcases List.mem_cons.1 hz with rfl|hz
  ·rw [Qm7 (hr z (by simp)).1 hr' (fun w hw e=>hn.1 (List.mem_map.2 ⟨w,hw,e⟩)),Q2a (hr z (by simp)) (hr z (by simp)).1,if_pos rfl]
  ·exact Qf5 hr' hn.2 z hz
theorem Qbfh {l m:List Int} (h:l.Nodup) (hs:∀ x∈l,x∈m):l.length≤m.length:=by
 induction l generalizing m with
 | nil=>simp
 | cons x l ih =>
  obtain ⟨a1,a2⟩:=List.nodup_cons.1 h;have hx:=hs x (by simp);have:=ih (m:=m.erase x) a2 fun y hy=>(List.mem_erase_of_ne (by rintro rfl;exact a1 hy)).2 (hs y (by simp [hy]))
  grind
theorem Q3m {l:List Int} (h:∀ (n:Nat) (hn:n+1<l.length),l[n]<l[n+1]):l.Pairwise (· < ·):=by
 rw [List.pairwise_iff_getElem];intro i j hi hj hij
 induction j with
 | zero=>omega
 | succ j ih =>
  grind
structure Shape (p:Qa) (c:Qf):Prop where
 ln:c.Kept.length+c.zJ.length=nS p
 dl:c.zH.length=c.Kept.length
 ke:SetP p.zB.zS c.Kept
 re:SetP p.zB.zS (c.zJ.map (·.State))
 dj:∀ x∈c.zJ,x.State∉c.Kept
 rk:∀ x∈c.zJ,1≤x.Rank
def Qr5 (p:Qa) (c:Qf):List Int:=(c.Kept.zip c.zH).foldl (fun b (q:Int×Int)=>b.set q.1.toNat q.2) (List.replicate (nS p) 0)
def Qty (p:Qa) (c:Qf):List Int:=c.zJ.foldl (fun b x=>b.set x.State.toNat x.Reason) (List.replicate (nS p) 0)
def prfC (p:Qa) (c:Qf):Qi:=⟨tsk p (rowL p c.Kept),Qh7 p c.zJ,Qr5 p c,Qty p c⟩
section
variable {p:Qa} {c:Qf}
theorem Shape.rr (h:Shape p c):∀ x∈c.zJ,0≤x.State∧x.State<p.zB.zS:=fun x hx=>h.re.rg _ (List.mem_map.2 ⟨x,hx,rfl⟩)
theorem Shape.nd (h:Shape p c):(c.zJ.map (·.State)).Nodup:=h.re.so.imp fun h=>by omega
theorem Shape.cover (h:Shape p c) {y:Int} (h0:0≤y) (h1:y<p.zB.zS):y∈c.Kept∨∃ x∈c.zJ,x.State=y:=by
 refine Classical.byContradiction fun hc=>?_;rw [not_or] at hc;have hnd:(y::(c.Kept++c.zJ.map (·.State))).Nodup:=by
  rw [List.nodup_cons,List.nodup_append];refine ⟨fun hm=>?_,h.ke.so.imp fun h=>by omega,h.nd,fun a ha b hb e=>?_⟩
  ·grind
  ·subst e;obtain ⟨x,hx,e⟩:=List.mem_map.1 hb;exact h.dj x hx (e ▸ ha)
 have:=Qbfh hnd (m:=upto p.zB.zS) fun x hx=>by
  rw [Qgy];rcases List.mem_cons.1 hx with rfl|hx
  ·exact ⟨h0,h1⟩
  ·rcases List.mem_append.1 hx with hx|hx
   ·exact h.ke.rg x hx
   ·exact h.re.rg x hx
 rw [Qch,List.length_cons,List.length_append,List.length_map] at this;have:=h.ln
 grind
theorem Q5h:(Qr5 p c).length=nS p:=by simp_all [Qr5,Qks,List.length_replicate]
theorem Qbbs:(Qty p c).length=nS p:=by simp_all [Qty,Qks,List.length_replicate]
end
def Ok1 (l:List Int) (N:Int) (n:Nat) (hn:n<l.length):Prop:=0≤l[n]∧l[n]<N∧(0<n→l[n-1]<l[n])
theorem Qvj {l:List Int} {N:Int} {n:Nat} (hn:n<l.length) (hl:l.length<big) (h:Ok1 l N n hn) :
  ((if (l[n]<0) then some true else (if (l[n]≥N) then some true else (if ((n:Int)>0) then ((getO l (IntKind.wrap .i64 ((n:Int)-1))).bind fun x33=>some (decide (l[n]≤x33))) else some false))):Option Bool)=some false:=by
 have hb:l.length<1000000000000:=hl;obtain ⟨h1,h2,h3⟩:=h;rw [if_neg (by omega),if_neg (by omega)];by_cases h0:0<n
 ·have:=h3 h0;rw [if_pos (by omega),Qlu h0 (by omega),Q2 (show n-1<l.length by omega),Option.bind_some]
  grind
 grind
theorem Q5i {l:List Int} {N:Int} {n:Nat} (hn:n<l.length) (hl:l.length<big) (h:¬ Ok1 l N n hn) :
  ((if (l[n]<0) then some true else (if (l[n]≥N) then some true else (if ((n:Int)>0) then ((getO l (IntKind.wrap .i64 ((n:Int)-1))).bind fun x33=>some (decide (l[n]≤x33))) else some false))):Option Bool)=some true:=by
 have hb:l.length<1000000000000:=hl;by_cases h1:l[n]<0
 ·rw [if_pos h1]
 rw [if_neg h1];by_cases h2:l[n]≥N
 ·rw [if_pos h2]
 rw [if_neg h2];have h3:¬ (0<n→l[n-1]<l[n]):=fun h3=>h ⟨by omega,by omega,h3⟩;have h0:0<n:=Decidable.byContradiction fun h0=>h3 fun h=>absurd h h0;have h4:¬ l[n-1]<l[n]:=fun h4=>h3 fun _=>h4;rw [if_pos (by omega),Qlu h0 (by omega),Q2 (show n-1<l.length by omega),Option.bind_some]
 grind
theorem Qbbt {l:List Int} {N:Int} (h:∀ n (hn:n<l.length),Ok1 l N n hn):SetP N l:=by
 refine ⟨fun x hx=>?_,Q3m fun n hn=>?_⟩
 ·obtain ⟨n,hn,rfl⟩:=List.getElem_of_mem hx;exact ⟨(h n hn).1,(h n hn).2.1⟩
 ·have:=(h (n+1) hn).2.2 (by omega);simpa using this
theorem SetP.ok1 {l:List Int} {N:Int} (h:SetP N l) (n:Nat) (hn:n<l.length):Ok1 l N n hn :=
 ⟨(h.rg _ (List.getElem_mem hn)).1,(h.rg _ (List.getElem_mem hn)).2,fun h0=>List.pairwise_iff_getElem.1 h.so (n-1) n (by omega) hn (by omega)⟩
def Ok2 (l:List Qb) (N:Int) (S:List Bool) (n:Nat) (hn:n<l.length):Prop:=0≤l[n].State∧l[n].State<N∧lf S l[n].State=false∧(0<n→l[n-1].State<l[n].State)∧1≤l[n].Rank
theorem Q2f {l:List Qb} {N:Nat} {S:List Bool} {n:Nat} (hn:n<l.length) (hl:l.length<big) (hS:S.length=N) (h:Ok2 l N S n hn) :
  ((if (l[n].State<0) then some true else (if (l[n].State≥(N:Int)) then some true else ((inO (Int.toNat (N:Int)) l[n].State).bind fun u61=>((getO S l[n].State).bind fun x63=>(if x63 then some true else (if ((n:Int)>0) then ((getO l (IntKind.wrap .i64 ((n:Int)-1))).bind fun x67=>(if (l[n].State≤x67.State) then some true else some (decide (l[n].Rank<1)))) else some (decide (l[n].Rank<1)))))))):Option Bool)=some false:=by
 have hb:l.length<1000000000000:=hl;obtain ⟨h1,h2,h3,h4,h5⟩:=h;have h3' : at0 false S l[n].State=false:=h3;rw [if_neg (by omega),if_neg (by omega),Int.toNat_natCast,Qf8 h1 h2,Option.bind_some,Qi3 (d:=false) h1 (by omega),Option.bind_some,h3',if_neg (by simp)];have hr:decide (l[n].Rank<1)=false:=by grind
 by_cases h0:0<n
 ·have:=h4 h0;rw [if_pos (by omega),Qlu h0 (by omega),Q2 (show n-1<l.length by omega),Option.bind_some,if_neg (by omega),hr]
 grind
theorem Qbbu {l:List Qb} {N:Nat} {S:List Bool} {n:Nat} (hn:n<l.length) (hl:l.length<big) (hS:S.length=N) (h:¬ Ok2 l N S n hn) :
  ((if (l[n].State<0) then some true else (if (l[n].State≥(N:Int)) then some true else ((inO (Int.toNat (N:Int)) l[n].State).bind fun u61=>((getO S l[n].State).bind fun x63=>(if x63 then some true else (if ((n:Int)>0) then ((getO l (IntKind.wrap .i64 ((n:Int)-1))).bind fun x67=>(if (l[n].State≤x67.State) then some true else some (decide (l[n].Rank<1)))) else some (decide (l[n].Rank<1)))))))):Option Bool)=some true:=by
 have hb:l.length<1000000000000:=hl;by_cases h1:l[n].State<0
 ·rw [if_pos h1]
 rw [if_neg h1];by_cases h2:l[n].State≥(N:Int)
 ·rw [if_pos h2]
 rw [if_neg h2,Int.toNat_natCast,Qf8 (by omega) (by omega),Option.bind_some,Qi3 (d:=false) (by omega) (by omega),Option.bind_some];cases h3:at0 false S l[n].State with
 | true=>rw [if_pos rfl]
 | false =>
  rw [if_neg (by simp)];by_cases h0:0<n
  ·rw [if_pos (by omega),Qlu h0 (by omega),Q2 (show n-1<l.length by omega),Option.bind_some];by_cases h4:l[n].State≤l[n-1].State
   ·rw [if_pos h4]
   ·rw [if_neg h4];congr 1;have:¬ 1≤l[n].Rank:=fun h5=>h ⟨by omega,by omega,h3,fun _=>by omega,h5⟩
    grind
  ·rw [if_neg (by omega)];congr 1;have:¬ 1≤l[n].Rank:=fun h5=>h ⟨by omega,by omega,h3,fun h=>absurd h h0,h5⟩
   grind
end Go.Abs
end
section
namespace Go.Abs
open Go
theorem Qbfi {α β γ δ:Type} {f:α→δ→α} {g:β→δ→β} {h:γ→δ→γ}:∀ {l:List δ} {a:α} {b:β} {c:γ},l.foldl (fun s x=>(f s.1 x,g s.2.1 x,h s.2.2 x)) (a,b,c)=(l.foldl f a,l.foldl g b,l.foldl h c)
 | [],_,_,_=>rfl
 | x::l,a,b,c=>by rw [List.foldl_cons,Qbfi (l:=l)];rfl
theorem Qpd {α:Type} {l:List α} {n:Nat} {d:α} (h:n<l.length):l.getD n d=l[n]:=by grind
theorem Qbfj {R:Type} {X Y:Option R} {Q:R→Prop} (h:X=Y) (k:∃ r,Y=some r∧Q r):∃ r,X=some r∧Q r:=h ▸ k
def Q5j (p:Qa) (c:Qf):List Bool:=(c.Kept.zip c.zH).foldl (fun b (q:Int×Int)=>b.set q.1.toNat true) (List.replicate (nS p) false)
def Q1d (c:Qf) (L:List Bool):List Bool:=(c.Kept.zip c.zH).foldl (fun b (q:Int×Int)=>b.set q.1.toNat true) L
theorem Qyk {c:Qf} (h:c.zH.length=c.Kept.length):(c.Kept.zip c.zH).map Prod.fst=c.Kept:=List.map_fst_zip (by omega)
theorem Q05 {c:Qf} (h:c.zH.length=c.Kept.length) {q:Int×Int} (hq:q∈c.Kept.zip c.zH):q.1∈c.Kept:=by
 have:q.1∈(c.Kept.zip c.zH).map Prod.fst:=List.mem_map.2 ⟨q,hq,rfl⟩
 rwa [Qyk h] at this
theorem Qbbv {c:Qf} (h:c.zH.length=c.Kept.length) {y:Int} (hy:y∈c.Kept):∃ q∈c.Kept.zip c.zH,q.1=y:=by
 grind [Qyk]
section
variable {p:Qa} {c:Qf} {L:List Bool} (hL:L.length=nS p)
theorem Qbbw:(Q5j p c).length=nS p:=by simp_all [Q5j,Qks,List.length_replicate]
include hL in
theorem Q5k:(Q1d c L).length=nS p:=by unfold Q1d;rw [Qks (f:=fun q:Int×Int=>q.1.toNat) (g:=fun _=>true),hL]
theorem Q72 (hd:c.zH.length=c.Kept.length) (hk:SetP p.zB.zS c.Kept) {y:Int} (h0:0≤y) (h1:y<p.zB.zS):lf (Q5j p c) y=decide (y∈c.Kept):=by
 have hr:∀ q∈c.Kept.zip c.zH,0≤(fun q:Int×Int=>q.1) q∧(fun q:Int×Int=>q.1) q<((List.replicate (nS p) false).length:Int):=fun q hq=>by
  have:=hk.rg _ (Q05 hd hq)
  grind
 by_cases hy:y∈c.Kept
 ·obtain ⟨q,hq,rfl⟩:=Qbbv hd hy;rw [decide_eq_true hy];exact Qf5 (d:=false) (f:=fun q:Int×Int=>q.1) (g:=fun _=>true) hr (by rw [show (c.Kept.zip c.zH).map (fun q:Int×Int=>q.1)=c.Kept from Qyk hd];exact hk.so.imp fun h=>by omega) q hq
 ·rw [decide_eq_false hy];refine (Qm7 (d:=false) (f:=fun q:Int×Int=>q.1) (g:=fun _=>true) h0 hr (fun q hq e=>hy (e ▸ Q05 hd hq))).trans ?_;exact Q2b h0 (by unfold nS;omega)
include hL in
theorem Qbdg (h:Shape p c):c.zJ.foldl (fun b x=>b.set x.State.toNat false) (Q1d c L)=rowL p c.Kept:=by
 have hl1:=Q5k (c:=c) hL;refine Q45 (d:=false) (by rw [Qks (f:=fun x:Qb=>x.State.toNat) (g:=fun _=>false),hl1,Qzf]) fun y h0 h1=>?_;rw [Qks (f:=fun x:Qb=>x.State.toNat) (g:=fun _=>false),hl1] at h1;have h2:y<p.zB.zS:=by unfold nS at h1;omega
 have hr:∀ x∈c.zJ,0≤(fun x:Qb=>x.State) x∧(fun x:Qb=>x.State) x<((Q1d c L).length:Int):=fun x hx=>by
  have:=h.rr x hx;rw [hl1];unfold nS;(try dsimp only);omega
 rw [show at0 false (rowL p c.Kept) y=lf (rowL p c.Kept) y from rfl,Q04 h0 h2];rcases h.cover h0 h2 with hy|⟨x,hx,rfl⟩
 ·rw [decide_eq_true hy];refine (Qm7 (d:=false) (f:=fun x:Qb=>x.State) (g:=fun _=>false) h0 hr (fun x hx e=>h.dj x hx (e ▸ hy))).trans ?_;obtain ⟨q,hq,rfl⟩:=Qbbv h.dl hy;refine Qf5 (d:=false) (f:=fun q:Int×Int=>q.1) (g:=fun _=>true) (fun q hq=>?_) (by rw [show (c.Kept.zip c.zH).map (fun q:Int×Int=>q.1)=c.Kept from Qyk h.dl];exact h.ke.so.imp fun h=>by omega) q hq;have:=h.ke.rg _ (Q05 h.dl hq);rw [hL];unfold nS;(try dsimp only);omega
 ·rw [decide_eq_false (h.dj x hx)];exact Qf5 (d:=false) (f:=fun x:Qb=>x.State) (g:=fun _=>false) hr h.nd x hx
end
section
variable {p:Qa} (hp:RightP p) {c:Qf} (h1:c.Kept.length<big) (h2:c.zJ.length<big) (h3:c.zH.length<big) {L:List Bool} (hL:L.length=nS p)
theorem Q73 {X:Option (Qi×Bool×Qe)} (h:¬ Shape p c) (k:∃ r,X=some r∧r.2.1=false):∃ r,X=some r∧(Shape p c→r=(prfC p c,true,tsk p (rowL p c.Kept)))∧(¬ Shape p c→r.2.1=false):=by
 grind
include hp h1 h2 h3 hL
theorem Qbfk:∃ r,Qhb (tsk p L) c=some r∧(Shape p c→r=(prfC p c,true,tsk p (rowL p c.Kept)))∧(¬ Shape p c→r.2.1=false):=by
 have hb1:c.Kept.length<1000000000000:=h1;have hb2:c.zJ.length<1000000000000:=h2;have hst:=hp.a.st;have hN:((nS p:Nat):Int)=p.zB.zS:=by unfold nS;omega
 have hmk:∀ {α:Type} (v:α),mkO ((nS p:Nat):Int) v=some (List.replicate (nS p) v):=fun v=>by unfold mkO lim;grind
 unfold Qhb Qdh;obtain ⟨fuel,hfu,hge⟩ : ∃ f,Qb0=f∧1099511627776≤f:=⟨_,rfl,Nat.le_refl _⟩;rw [hfu];rw [show (tsk p L).left_=L from rfl,show (tsk p L).zT=p from rfl,show (tsk p L).from_=Qyh p from rfl,hL,Qkb (by omega) (by omega)];by_cases hln:c.Kept.length+c.zJ.length=nS p
 case neg =>
  rw [if_pos (by grind),Option.bind_some,if_pos rfl];exact Q73 (fun h=>hln h.ln) ⟨_,rfl,rfl⟩
 rw [if_neg (by grind),Option.bind_some];by_cases hdl:c.zH.length=c.Kept.length
 case neg =>
  rw [if_pos (by grind)];exact Q73 (fun h=>hdl h.dl) ⟨_,rfl,rfl⟩
 rw [if_neg (by grind),hmk,Option.bind_some,Option.bind_some,Option.bind_some,hmk,Option.bind_some];have hz:(c.Kept.zip c.zH).length=c.Kept.length:=by grind
 by_cases hk:∀ n (hn:n<c.Kept.length),Ok1 c.Kept ((nS p:Nat):Int) n hn
 case neg =>
  have hk:∃ n,∃ hn:n<c.Kept.length,¬ Ok1 c.Kept ((nS p:Nat):Int) n hn:=Classical.byContradiction fun h=>hk fun n hn=>Classical.byContradiction fun h'=>h ⟨n,hn,h'⟩;obtain ⟨m,⟨hm,hbad⟩,hleast⟩:=Qnh hk;have hgood:∀ n (hn:n<m),Ok1 c.Kept ((nS p:Nat):Int) n (by omega):=fun n hn=>Classical.byContradiction fun h=>by have:=hleast n ⟨by omega,h⟩;omega
  refine Q73 (fun h=>hbad (SetP.ok1 (by rw [hN];exact h.ke) m hm)) ?_;refine Qzg (m:=m) (fun i (s:List Int×List Bool×List Bool)=>(i,s.1,s.2.1,s.2.2)) (fun n s=>(s.1.set (c.Kept.getD n 0).toNat (c.zH.getD n 0),s.2.1.set (c.Kept.getD n 0).toNat true,s.2.2.set (c.Kept.getD n 0).toNat true))
   (fun _ s=>s.1.length=nS p∧s.2.1.length=nS p∧s.2.2.length=nS p) (fun (r:Qi×Bool×Qe)=>r.2.1=false) (by unfold big;omega) hge (fun k n s hn hs=>?_) (fun n s hn hs=>by grind) (fun k s hs=>?_) (s0:=(List.replicate (nS p) 0,List.replicate (nS p) false,L)) ⟨by simp,by simp,hL⟩
  ·have hn' : n<c.Kept.length:=by omega
   have hnd:n<c.zH.length:=by omega
   obtain ⟨hs1,hs2,hs3⟩:=hs;have hok:=hgood n hn;have hr1:=hok.1;have hr2:=hok.2.1;rw [show c.Kept.getD n 0=c.Kept[n] from Qpd hn',show c.zH.getD n 0=c.zH[n] from Qpd hnd];dsimp only;rw [if_pos (by omega),Q2 hn',Option.bind_some,Qvj hn' h1 hok,Option.bind_some,if_neg (by simp),Q2 hnd,Option.bind_some,Int.toNat_natCast,Qf8 hr1 hr2,Option.bind_some,Qe1 hr1 (by omega),Option.bind_some,Option.bind_some,Qe1 hr1 (by omega),Option.bind_some,Option.bind_some,Qe1 hr1 (by omega),Option.bind_some]
  ·dsimp only;rw [if_pos (by omega),Q2 hm,Option.bind_some,Q5i hm h1 hbad,Option.bind_some,if_pos rfl];exact ⟨_,rfl,rfl⟩
 have hke:SetP p.zB.zS c.Kept:=by rw [← hN];exact Qbbt hk
 refine Qbfj (Qyj (l:=c.Kept.zip c.zH) (fun i (s:List Int×List Bool×List Bool)=>(i,s.1,s.2.1,s.2.2)) (fun s (q:Int×Int)=>(s.1.set q.1.toNat q.2,s.2.1.set q.1.toNat true,s.2.2.set q.1.toNat true))
  (fun _ s=>s.1.length=nS p∧s.2.1.length=nS p∧s.2.2.length=nS p) (by rw [hz];exact h1) hge (fun k n s hn hs=>?_) (fun n s hn hs=>by grind) (fun k k' s hs=>?_) (s0:=(List.replicate (nS p) 0,List.replicate (nS p) false,L)) ⟨by simp,by simp,hL⟩) ?_
 ·have hn' : n<c.Kept.length:=by omega
  have hnd:n<c.zH.length:=by omega
  obtain ⟨hs1,hs2,hs3⟩:=hs;have hok:=hk n hn';have hr1:=hok.1;have hr2:=hok.2.1;rw [show (c.Kept.zip c.zH)[n]=(c.Kept[n],c.zH[n]) from List.getElem_zip];dsimp only;rw [if_pos (by omega),Q2 hn',Option.bind_some,Qvj hn' h1 hok,Option.bind_some,if_neg (by simp),Q2 hnd,Option.bind_some,Int.toNat_natCast,Qf8 hr1 hr2,Option.bind_some,Qe1 hr1 (by omega),Option.bind_some,Option.bind_some,Qe1 hr1 (by omega),Option.bind_some,Option.bind_some,Qe1 hr1 (by omega),Option.bind_some]
 ·grind
 have hfold:(c.Kept.zip c.zH).foldl (fun (s:List Int×List Bool×List Bool) (q:Int×Int)=>(s.1.set q.1.toNat q.2,s.2.1.set q.1.toNat true,s.2.2.set q.1.toNat true)) (List.replicate (nS p) 0,List.replicate (nS p) false,L)=(Qr5 p c,Q5j p c,Q1d c L) :=
  Qbfi (f:=fun (b:List Int) (q:Int×Int)=>b.set q.1.toNat q.2) (g:=fun (b:List Bool) (q:Int×Int)=>b.set q.1.toNat true) (h:=fun (b:List Bool) (q:Int×Int)=>b.set q.1.toNat true)
 rw [hfold];dsimp only;rw [if_neg (by omega)];have hsl:(Q5j p c).length=nS p:=Qbbw;have hll:(Q1d c L).length=nS p:=Q5k hL;by_cases hr:∀ n (hn:n<c.zJ.length),Ok2 c.zJ ((nS p:Nat):Int) (Q5j p c) n hn
 case neg =>
  have hr:∃ n,∃ hn:n<c.zJ.length,¬ Ok2 c.zJ ((nS p:Nat):Int) (Q5j p c) n hn:=Classical.byContradiction fun h=>hr fun n hn=>Classical.byContradiction fun h'=>h ⟨n,hn,h'⟩;obtain ⟨m,⟨hm,hbad⟩,hleast⟩:=Qnh hr;have hgood:∀ n (hn:n<m),Ok2 c.zJ ((nS p:Nat):Int) (Q5j p c) n (by omega):=fun n hn=>Classical.byContradiction fun h=>by have:=hleast n ⟨by omega,h⟩;omega
  refine Q73 (fun h=>hbad ?_) ?_
  ·have hx:=h.rr _ (List.getElem_mem hm);refine ⟨hx.1,by omega,?_,fun h0=>?_,h.rk _ (List.getElem_mem hm)⟩
   ·rw [Q72 hdl hke hx.1 hx.2];exact decide_eq_false (h.dj _ (List.getElem_mem hm))
   ·have:=List.pairwise_iff_getElem.1 h.re.so (m-1) m (by grind) (by grind) (by omega);simpa using this
  refine Qzg (m:=m) (fun i (s:List Int×List Int×List Bool)=>(i,s.1,s.2.1,s.2.2)) (fun n s=>(s.1.set (c.zJ.getD n zR).State.toNat (c.zJ.getD n zR).Rank,s.2.1.set (c.zJ.getD n zR).State.toNat (c.zJ.getD n zR).Reason,s.2.2.set (c.zJ.getD n zR).State.toNat false))
   (fun _ s=>s.1.length=nS p∧s.2.1.length=nS p∧s.2.2.length=nS p) (fun (r:Qi×Bool×Qe)=>r.2.1=false) (by unfold big;omega) hge (fun k n s hn hs=>?_) (fun n s hn hs=>by grind) (fun k s hs=>?_) (s0:=(List.replicate (nS p) 0,List.replicate (nS p) 0,Q1d c L)) ⟨by simp,by simp,hll⟩
  ·have hn' : n<c.zJ.length:=by omega
   obtain ⟨hs1,hs2,hs3⟩:=hs;have hok:=hgood n hn;have hr1:=hok.1;have hr2:=hok.2.1;rw [show c.zJ.getD n zR=c.zJ[n] from Qpd hn'];dsimp only;rw [if_pos (by omega),Q2 hn',Option.bind_some,Q2f hn' h2 hsl hok,Option.bind_some,if_neg (by simp),Qf8 hr1 hr2,Option.bind_some,Qe1 hr1 (by omega),Option.bind_some,Int.toNat_natCast,Qf8 hr1 hr2,Option.bind_some,Qe1 hr1 (by omega),Option.bind_some,Option.bind_some,Qe1 hr1 (by omega),Option.bind_some]
  ·dsimp only;rw [if_pos (by omega),Q2 hm,Option.bind_some,Qbbu hm h2 hsl hbad,Option.bind_some,if_pos rfl];exact ⟨_,rfl,rfl⟩
 have hsh:Shape p c:=by
  refine ⟨hln,hdl,hke,⟨fun x hx=>?_,Q3m fun n hn=>?_⟩,fun x hx=>?_,fun x hx=>?_⟩
  ·obtain ⟨y,hy,rfl⟩:=List.mem_map.1 hx;obtain ⟨n,hn,rfl⟩:=List.getElem_of_mem hy;have:=hr n hn;exact ⟨this.1,by have:=this.2.1;omega⟩
  ·rw [List.length_map] at hn;have:=(hr (n+1) hn).2.2.2.1 (by omega);simpa using this
  ·obtain ⟨n,hn,rfl⟩:=List.getElem_of_mem hx;have:=hr n hn;have h9:=this.2.2.1;rw [Q72 hdl hke this.1 (by have:=this.2.1;omega)] at h9;simpa using h9
  ·obtain ⟨n,hn,rfl⟩:=List.getElem_of_mem hx;exact (hr n hn).2.2.2.2
 refine ⟨(prfC p c,true,tsk p (rowL p c.Kept)),?_,fun _=>rfl,fun h=>absurd hsh h⟩;refine (Qf7 (l:=c.zJ) (fun i (s:List Int×List Int×List Bool)=>(i,s.1,s.2.1,s.2.2)) (fun s x=>(s.1.set x.State.toNat x.Rank,s.2.1.set x.State.toNat x.Reason,s.2.2.set x.State.toNat false))
  (fun _ s=>s.1.length=nS p∧s.2.1.length=nS p∧s.2.2.length=nS p) (fun s=>some (⟨tsk p s.2.2,s.1,Qr5 p c,s.2.1⟩,true,tsk p s.2.2)) h2 hge (fun k n s hn hs=>?_) (fun n s hn hs=>by grind) (fun k s hs=>?_) (s0:=(List.replicate (nS p) 0,List.replicate (nS p) 0,Q1d c L)) ⟨by simp,by simp,hll⟩).trans ?_
 ·obtain ⟨hs1,hs2,hs3⟩:=hs;have hok:=hr n hn;have hr1:=hok.1;have hr2:=hok.2.1;dsimp only;rw [if_pos (by omega),Q2 hn,Option.bind_some,Q2f hn h2 hsl hok,Option.bind_some,if_neg (by simp),Qf8 hr1 hr2,Option.bind_some,Qe1 hr1 (by omega),Option.bind_some,Int.toNat_natCast,Qf8 hr1 hr2,Option.bind_some,Qe1 hr1 (by omega),Option.bind_some,Option.bind_some,Qe1 hr1 (by omega),Option.bind_some]
 ·obtain ⟨hs1,hs2,hs3⟩:=hs;dsimp only;rw [if_neg (by omega),Int.toNat_natCast,Qkc hs1,Option.bind_some,Qkc Q5h,Option.bind_some,Qkc hs2,Option.bind_some]
  rfl
 ·have hfold:c.zJ.foldl (fun (s:List Int×List Int×List Bool) x=>(s.1.set x.State.toNat x.Rank,s.2.1.set x.State.toNat x.Reason,s.2.2.set x.State.toNat false)) (List.replicate (nS p) 0,List.replicate (nS p) 0,Q1d c L)=(Qh7 p c.zJ,Qty p c,c.zJ.foldl (fun b x=>b.set x.State.toNat false) (Q1d c L)) :=
   Qbfi (f:=fun (b:List Int) (x:Qb)=>b.set x.State.toNat x.Rank) (g:=fun (b:List Int) (x:Qb)=>b.set x.State.toNat x.Reason) (h:=fun (b:List Bool) (x:Qb)=>b.set x.State.toNat false)
  rw [hfold];dsimp only;rw [Qbdg hL hsh]
  rfl
end
end Go.Abs
end
section
namespace Go.Abs
open Go
def Q06 (p:Qa) (L:List Bool) (D:List Int) (i:Int):Bool :=
 ((escP p L i).1==0)&&(!decide (i∈p.zD)&&(if ati D i=0 then decide (i∈p.zB.zP) else decide (ati D i>0)&&(outP p.zB i).any fun y=>lf L y.To&&decide (ati D y.To<ati D i)))
def lowB (L:List Bool) (R:List Int) (s k:Int):Bool:=!lf L s&&decide (ati R s<k)
def byB (p:Qa) (L:List Bool) (R:List Int) (r:Qb):Bool:=(outP p.zB r.State).any fun y=>(y.Event==r.Event)&&lowB L R y.To r.Rank
def Q5l (L:List Bool) (R Q:List Int) (s k:Int):Bool:=!lf L s&&((ati Q s==3)&&(ati R s==k))
def Qyl (p:Qa) (L:List Bool) (R Q:List Int) (r:Qb):Bool :=
 if r.Reason=1 then decide (r.Event = -1)&&decide (r.State∈p.zD)
 else if r.Reason=2 then decide (r.Event∈p.zC)&&byB p L R r
 else if r.Reason=4 then decide (r.Event=p.Tick)&&(byB p L R r && !(outP p.zB r.State).any fun y=>decide (y.Event∈p.zF) && !lowB L R y.To r.Rank)
 else if r.Reason=3 then decide (r.Event = -1)&&(!decide (r.State∈p.zB.zP) && !(outP p.zB r.State).any fun y=>!Q5l L R Q y.To r.Rank && !lowB L R y.To r.Rank)
 else false
theorem Q5m {l:List Qb} {f:Qb→Option Bool} {p:Qb→Bool} (hf:∀ x∈l,f x=some (p x)) (hl:l.length<big):Qdn l f=some (l.any p):=by
 unfold Qdn Qbw Qg5 Qcd;obtain ⟨fuel,hfu,hge⟩ : ∃ f,Qb0=f∧1099511627776≤f:=⟨_,rfl,Nat.le_refl _⟩;rw [hfu];obtain ⟨i,h1,h2⟩:=Qyg hf hl hge
 grind
section
variable {p:Qa} (hp:RightP p) {L:List Bool} {R D Q:List Int} (hL:L.length=nS p) (hR:R.length=nS p) (hD:D.length=nS p) (hQ:Q.length=nS p)
include hp
theorem Qbgs {x:Int}:Qbg p.zB.zP x=some (decide (x∈p.zB.zP)):=Qc0 hp.a.ma hp.a.small.1.2.1
theorem Qbgt {x:Int}:Qbg p.zD x=some (decide (x∈p.zD)):=Qc0 hp.fo.so hp.small.2.1
theorem Qbg7 {x:Int}:Qbg p.zC x=some (decide (x∈p.zC)):=Qc0 hp.un.so hp.small.2.2.1
theorem Qbg8 {x:Int}:Qbg p.zF x=some (decide (x∈p.zF)):=Qc0 hp.fc.so hp.small.2.2.2
omit hp in
theorem Qv1 {l:List Int} (hl:l.length=nS p) {x:Int} (hx:0≤x∧x<p.zB.zS):inO l.length x=some ()∧getO l x=some (ati l x) :=
 ⟨Qf8 hx.1 (by unfold nS at hl;omega),Qi3 hx.1 (by unfold nS at hl;omega)⟩
include hL hD
theorem Qbdh {i:Int} (hi:0≤i∧i<p.zB.zS):Qeu ⟨tsk p L,R,D,Q⟩ i=some (Q06 p L D i):=by
 unfold Qeu Qb5 Q06;dsimp only;rw [show (tsk p L).zT=p from rfl,show (tsk p L).from_=Qyh p from rfl,Q47 hp hL hi,Option.bind_some];rcases escP p L i with ⟨e1,e2⟩;dsimp only;by_cases h0:e1=0
 case neg =>
  grind
 rw [if_neg (by simpa using h0),Qbgt hp,Option.bind_some,Option.bind_some,show (e1==0)=true from beq_iff_eq.2 h0,Bool.true_and];by_cases hf:i∈p.zD
 ·grind
 rw [if_neg (by simpa using hf),decide_eq_false hf,(Qv1 hD hi).1,Option.bind_some,(Qv1 hD hi).2,Option.bind_some];by_cases hz:ati D i=0
 ·simp_all [if_pos,Qbgs]
 rw [if_neg (by simpa using hz),if_neg hz];by_cases hg:ati D i>0
 case neg=>grind
 rw [if_pos hg,decide_eq_true hg,(Qyi hi).1,Option.bind_some,(Qyi hi).2,Option.bind_some];rw [Qk3 (p:=fun y=>lf L y.To&&decide (ati D y.To<ati D i)) (fun y hy=>?_) (Qs7 hp i)]
 ·rfl
 ·have hy:=(Qrg hp y hy).1;unfold Qfw Qbr;dsimp only;rw [show (tsk p L).left_=L from rfl,(Qlx hL hy).1,Option.bind_some,(Qlx hL hy).2,Option.bind_some,(Qv1 hD hy).1,Option.bind_some,(Qv1 hD hy).2,Option.bind_some];cases lf L y.To<;>rfl
omit hD
include hR
omit hp in
theorem Q3n {s k:Int} (hs:0≤s∧s<p.zB.zS):Qc1 ⟨tsk p L,R,D,Q⟩ s k=some (lowB L R s k):=by
 unfold Qc1 Qu lowB;dsimp only;rw [show (tsk p L).left_=L from rfl,(Qlx hL hs).1,Option.bind_some,(Qlx hL hs).2,Option.bind_some,(Qv1 hR hs).1,Option.bind_some,(Qv1 hR hs).2,Option.bind_some];cases lf L s<;>rfl
include hQ
theorem Q83 {r:Qb} (hr:0≤r.State∧r.State<p.zB.zS):Qej ⟨tsk p L,R,D,Q⟩ r=some (Qyl p L R Q r):=by
 unfold Qej Qbs Qyl;dsimp only;rw [show (tsk p L).zT=p from rfl,show (tsk p L).from_=Qyh p from rfl,(Qyi hr).1,Option.bind_some,(Qyi hr).2,Option.bind_some];have hby:Qbe (outP p.zB r.State) (fun a29=>Qdz a29 r ⟨tsk p L,R,D,Q⟩)=some (byB p L R r):=by
  refine Qk3 (fun y hy=>?_) (Qs7 hp r.State);have hy:=(Qrg hp y hy).1;unfold Qdz Qba
  grind [Q3n]
 have hfo:Qbe (outP p.zB r.State) (fun a42=>Qd0 a42 ⟨tsk p L,R,D,Q⟩ r)=some ((outP p.zB r.State).any fun y=>decide (y.Event∈p.zF) && !lowB L R y.To r.Rank):=by
  refine Qk3 (fun y hy=>?_) (Qs7 hp r.State);have hy:=(Qrg hp y hy).1;unfold Qd0 Qbl;dsimp only;rw [show (tsk p L).zT=p from rfl,Qbg8 hp,Option.bind_some,Q3n hL hR hy]
  grind
 have hbl:Qbe (outP p.zB r.State) (fun a52=>Qd1 a52 ⟨tsk p L,R,D,Q⟩ r)=some ((outP p.zB r.State).any fun y=>!Q5l L R Q y.To r.Rank && !lowB L R y.To r.Rank):=by
  refine Qk3 (fun y hy=>?_) (Qs7 hp r.State);have hy:=(Qrg hp y hy).1;unfold Qd1 Qbm Q5l;dsimp only;rw [show (tsk p L).left_=L from rfl,(Qlx hL hy).1,Option.bind_some,(Qlx hL hy).2,Option.bind_some,(Qv1 hQ hy).1,Option.bind_some,(Qv1 hQ hy).2,Option.bind_some,(Qv1 hR hy).1,Option.bind_some,(Qv1 hR hy).2,Option.bind_some,Q3n hL hR hy]
  grind
 rw [hby,hfo,hbl,Qbgt hp,Qbg7 hp,Qbgs hp]
 grind
end
def Q84 (p:Qa) (c:Qf):Bool:=c.Kept.all (Q06 p (rowL p c.Kept) (Qr5 p c))&&c.zJ.all (Qyl p (rowL p c.Kept) (Qh7 p c.zJ) (Qty p c))
section
variable {p:Qa} (hp:RightP p) {c:Qf} (h1:c.Kept.length<big) (h2:c.zJ.length<big) (h3:c.zH.length<big)
include hp h1 h2 h3
theorem Q5n:(Shape p c→Qdm p c=some (if Q84 p c then 0 else 24))∧(¬ Shape p c→Qdm p c=some 24):=by
 have hL:=Qly p (T0 p);obtain ⟨r,k1,k2,k3⟩:=Qbfk hp h1 h2 h3 hL;unfold Qdm Qcg;rw [Q3j hp.small,Q8x.2 hp,Option.bind_some,if_neg (by simp),Qbc9 hp,Option.bind_some,k1,Option.bind_some];refine ⟨fun hs=>?_,fun hs=>?_⟩
 case refine_2 =>
  grind
 rw [k2 hs];dsimp only;have hRl:(rowL p c.Kept).length=nS p:=Qzf p c.Kept;rw [if_pos rfl,show (tsk p (Qbn p (T0 p))).left_=Qbn p (T0 p) from rfl,show (tsk p (rowL p c.Kept)).left_=rowL p c.Kept from rfl,Qly,Qkc hRl,Option.bind_some];rw [show Qi.mk (Qe.mk (tsk p (Qbn p (T0 p))).zT (tsk p (Qbn p (T0 p))).from_ (rowL p c.Kept)) (prfC p c).ranks_ (prfC p c).distances_ (prfC p c).reasons_=prfC p c from rfl];have hk:Qek c.Kept (fun a13=>Qfj a13 (prfC p c))=some (c.Kept.any fun i=>!Q06 p (rowL p c.Kept) (Qr5 p c) i):=by
  refine Q46 (fun i hi=>?_) h1;unfold Qfj Qcl prfC;rw [Qbdh hp hRl Q5h (hs.ke.rg i hi)];rfl
 have hr:Qdn c.zJ (fun a20=>Qfk a20 (prfC p c))=some (c.zJ.any fun r=>!Qyl p (rowL p c.Kept) (Qh7 p c.zJ) (Qty p c) r):=by
  refine Q5m (fun x hx=>?_) h2;unfold Qfk Qcn prfC;rw [Q83 hp hRl (Qu3 p c.zJ) Qbbs (hs.rr x hx)];rfl
 grind [Q84,Q06,rowL,Qr5,List.any_eq_not_all_not,Qyl,Qh7,Qty]
end
end Go.Abs
end
section
namespace Go.Abs
open Go
def Low (T:List Qb) (k s:Int):Prop:=∃ z∈T,z.State=s∧z.Rank<k
def Lowb (T:List Qb) (k s:Int):Prop:=∃ z∈T,z.State=s∧(z.Rank<k∨z.Rank=k∧z.Reason=3)
def Just (p:Qa) (T:List Qb) (x:Qb):Prop :=
 (x.Reason=1∧x.Event = -1∧x.State∈p.zD) ∨
 (x.Reason=2∧x.Event∈p.zC∧∃ y∈outP p.zB x.State,y.Event=x.Event∧Low T x.Rank y.To) ∨
 (x.Reason=4∧x.Event=p.Tick∧(∃ y∈outP p.zB x.State,y.Event=x.Event∧Low T x.Rank y.To)∧∀ y∈outP p.zB x.State,y.Event∈p.zF→Low T x.Rank y.To) ∨
 (x.Reason=3∧x.Event = -1∧x.State∉p.zB.zP∧∀ y∈outP p.zB x.State,Lowb T x.Rank y.To)
theorem Low.mono {T U:List Qb} (h:∀ z∈T,z∈U) {k s:Int}:Low T k s→Low U k s:=fun ⟨z,h1,h2⟩=>⟨z,h z h1,h2⟩
theorem Lowb.mono {T U:List Qb} (h:∀ z∈T,z∈U) {k s:Int}:Lowb T k s→Lowb U k s:=fun ⟨z,h1,h2⟩=>⟨z,h z h1,h2⟩
theorem Just.mono {p:Qa} {T U:List Qb} (h:∀ z∈T,z∈U) {x:Qb} (k:Just p T x):Just p U x:=by
 rcases k with k|⟨k1,k2,y,k3,k4,k5⟩|⟨k1,k2,⟨y,k3,k4,k5⟩,k6⟩|⟨k1,k2,k3,k4⟩
 ·exact .inl k
 ·exact .inr (.inl ⟨k1,k2,y,k3,k4,k5.mono h⟩)
 ·exact .inr (.inr (.inl ⟨k1,k2,⟨y,k3,k4,k5.mono h⟩,fun y hy hf=>(k6 y hy hf).mono h⟩))
 ·exact .inr (.inr (.inr ⟨k1,k2,k3,fun y hy=>(k4 y hy).mono h⟩))
section
variable {p:Qa} (hp:RightP p)
theorem gone {T:List Qb} (hT:Okt p T) {y:Int} (h0:0≤y) (h1:y<p.zB.zS) (h:lf (Qbn p T) y=false):∃ z∈T,z.State=y:=by
 rw [Qvi hT.rg h0 h1] at h;simp only [Bool.not_eq_false',List.any_eq_true] at h;obtain ⟨z,hz,h⟩:=h;exact ⟨z,hz,by simpa using h⟩
theorem Qzh {T:List Qb} (hT:Okt p T) {z:Qb} (hz:z∈T):lf (Qbn p T) z.State=false:=by
 have hr:=hT.rg z hz;rw [Qvi hT.rg hr.1 hr.2];simp only [Bool.not_eq_false',List.any_eq_true];exact ⟨z,hz,by simp⟩
include hp
theorem Q85 {T:List Qb} (hT:Okt p T) {rank:Int} (hl:∀ z∈T,z.Rank<rank) {x:Qb} (hx:x∈Qhc p (Qbn p T) rank):Just p (T++Qhc p (Qbn p T) rank) x:=by
 have low:∀ y:Qc,∀ s:Int,y∈outP p.zB s→lf (Qbn p T) y.To=false→Low T rank y.To:=fun y s hy h=>by
  have hr:=(Qrg hp y hy).1;obtain ⟨z,hz,e⟩:=gone hT hr.1 hr.2 h;exact ⟨z,hz,e,hl z hz⟩
 by_cases hE:((Qv0 p (Qbn p T) rank).length:Int)>0
 ·rw [show Qhc p (Qbn p T) rank=Qv0 p (Qbn p T) rank from if_pos hE] at hx;refine Just.mono (T:=T) (fun z hz=>List.mem_append_left _ hz) ?_;obtain ⟨i,hi,hz⟩:=List.mem_filterMap.1 hx;unfold remE at hz;by_cases hc:(lf (Qbn p T) i&&((escP p (Qbn p T) i).1 != 0))=true
  case neg=>rw [if_neg hc] at hz;cases hz
  rw [if_pos hc] at hz;cases hz;simp only [Bool.and_eq_true,bne_iff_ne] at hc;have h2:=hc.2;unfold Just;dsimp only;unfold escP at h2 ⊢;cases hf:(outP p.zB i).find? (fun y=>!lf (Qbn p T) y.To&&decide (y.Event∈p.zC)) with
  | some y =>
   have hy:=List.mem_of_find?_eq_some hf;have hq:=List.find?_some hf;simp only [Bool.and_eq_true,Bool.not_eq_true',decide_eq_true_eq] at hq;exact .inr (.inl ⟨rfl,hq.2,y,hy,rfl,low y i hy hq.1⟩)
  | none =>
   rw [hf] at h2;dsimp only at h2 ⊢;by_cases ht:(Qhq p (Qbn p T) i && !Qgs p (Qbn p T) i)=true
   case neg=>rw [if_neg ht] at h2;exact absurd rfl h2
   rw [if_pos ht];simp only [Bool.and_eq_true,Bool.not_eq_true'] at ht;obtain ⟨t1,t2⟩:=ht;unfold Qhq at t1;obtain ⟨y,hy,hq⟩:=List.any_eq_true.1 t1;simp only [Bool.and_eq_true,Bool.not_eq_true',beq_iff_eq] at hq;refine .inr (.inr (.inl ⟨rfl,rfl,⟨y,hy,hq.1,low y i hy hq.2⟩,fun y hy hfc=>low y i hy ?_⟩));unfold Qgs at t2;have:=List.any_eq_false.1 t2 y hy;cases hh:lf (Qbn p T) y.To with
   | false=>rfl
   | true=>exact absurd (by simp [hh,hfc]) this
 ·have hB:Qhc p (Qbn p T) rank=Qbbj p (Qbn p T) rank:=if_neg hE;rw [hB] at hx ⊢;obtain ⟨i,hi,hz⟩:=List.mem_filterMap.1 hx;unfold remB at hz;by_cases hc:(lf (Qbn p T) i&&decide (ati (Qm5 p (Qbn p T)) i<0))=true
  case neg=>rw [if_neg hc] at hz;cases hz
  rw [if_pos hc] at hz;cases hz;simp only [Bool.and_eq_true,decide_eq_true_eq] at hc;have hir:=Qgy.1 hi;have D:=Qs8 hp (Qbn p T);refine .inr (.inr (.inr ⟨rfl,rfl,fun hm=>?_,fun y hy=>?_⟩))
  ·have:=(D.z i hir.1 hir.2).2 ⟨hc.1,hm⟩;omega
  ·obtain ⟨hr,hfr,hed⟩:=Qrg hp y hy;dsimp only at hfr ⊢;cases hh:lf (Qbn p T) y.To with
   | false =>
    obtain ⟨z,hz,e,hlt⟩:=low y i hy hh;exact ⟨z,List.mem_append_left _ hz,e,.inl hlt⟩
   | true =>
    refine ⟨⟨y.To,rank,3,-1⟩,List.mem_append_right _ (List.mem_filterMap.2 ⟨y.To,Qgy.2 hr,?_⟩),rfl,.inr ⟨rfl,rfl⟩⟩;unfold remB;rw [if_pos];simp only [hh,Bool.true_and,decide_eq_true_eq];refine Int.not_le.1 fun h=>?_;have:=D.cl y hed (by rw [hfr];exact hc.1) h (D.bound hp _ hr.1 hr.2);rw [hfr] at this;omega
theorem Q2g:∀ {f:Nat} {rank:Int} {T:List Qb} {r:Int},Okt p T→(∀ z∈T,z.Rank<rank)→(∀ x∈T,Just p T x)→1≤rank→∀ x∈(Qqy p f rank T r).1,Just p (Qqy p f rank T r).1 x
 | 0,_,_,_,_,_,h,_=>h
 | f+1,rank,T,r,hT,hl,h,hr=>by
  rw [Qqy];split
  ·exact h
  ·refine Q2g (hT.round hr) (fun z hz=>?_) (fun x hx=>?_) (by omega)
   ·rcases List.mem_append.1 hz with hz|hz
    ·have:=hl z hz;omega
    ·rw [(Qm6 hz).2.2];omega
   ·rcases List.mem_append.1 hx with hx|hx
    ·exact (h x hx).mono fun z hz=>List.mem_append_left _ hz
    ·exact Q85 hp hT hl hx
theorem Qbbx:∀ x∈(solP p).1,Just p (solP p).1 x:=by
 refine Q2g hp (Qbbo hp) (fun z hz=>?_) (fun x hx=>?_) (by omega)
 ·obtain ⟨y,hy,rfl⟩:=List.mem_map.1 hz;show (1:Int)<2;omega
 ·obtain ⟨y,hy,rfl⟩:=List.mem_map.1 hx;exact .inl ⟨rfl,rfl,hy⟩
end
abbrev crt (p:Qa):Qf:=(resP p (solP p).1 (solP p).2).zG
section
variable {p:Qa} (hp:RightP p)
theorem Qzi {T:List Qb} (hT:Okt p T) {x:Qb}:x∈(upto p.zB.zS).filterMap (remF p T)↔x∈T:=by
 rw [List.mem_filterMap];constructor
 ·rintro ⟨i,hi,h⟩;have hir:=Qgy.1 hi;unfold remF at h;cases hl:lf (Qbn p T) i with
  | true=>rw [hl,if_pos rfl] at h;cases h
  | false =>
   rw [hl,if_neg (by simp)] at h;obtain ⟨z,hz,rfl⟩:=gone hT hir.1 hir.2 hl;rw [Qze hT hz] at h;cases h;exact hz
 ·intro hx;refine ⟨x.State,Qgy.2 (hT.rg x hx),?_⟩;unfold remF;rw [Qzh hT hx,if_neg (by simp),Qze hT hx]
theorem Q86 {T:List Qb} (hT:Okt p T):((upto p.zB.zS).filterMap (remF p T)).map (·.State)=(upto p.zB.zS).filter fun i=>!lf (Qbn p T) i:=by
 have key:∀ l:List Int,(∀ i∈l,0≤i∧i<p.zB.zS)→(l.filterMap (remF p T)).map (·.State)=l.filter fun i=>!lf (Qbn p T) i:=by
  intro l
  induction l with
  | nil=>intro _;rfl
  | cons i l ih =>
   intro h;have hir:=h i (by simp);have ih':=ih fun j hj=>h j (by simp [hj]);cases hl:lf (Qbn p T) i with
   | true =>
    rw [List.filterMap_cons_none (show remF p T i=none from if_pos hl),List.filter_cons_of_neg (by simp [hl])];exact ih'
   | false =>
    obtain ⟨z,hz,rfl⟩:=gone hT hir.1 hir.2 hl;have hr:remF p T z.State=some z:=by unfold remF;rw [hl,if_neg (by simp),Qze hT hz]
    rw [List.filterMap_cons_some hr,List.filter_cons_of_pos (by simp [hl]),List.map_cons,ih']
 exact key _ fun i hi=>Qgy.1 hi
theorem Q2h {f:Int→Bool}:SetP p.zB.zS ((upto p.zB.zS).filter f) :=
 ⟨fun x hx=>Qgy.1 (List.mem_filter.1 hx).1,(Qu1 _).filter _⟩
theorem Qy0 {α:Type} {f:α→Bool}:∀ {l:List α},(l.filter f).length+(l.filter fun i=>!f i).length=l.length
 | []=>rfl
 | x::l=>by
  have:=Qy0 (f:=f) (l:=l);rw [List.filter_cons,List.filter_cons];cases f x<;>simp<;>omega
include hp
theorem Qxu:Shape p (crt p):=by
 obtain ⟨hT,-,-⟩:=Qxt hp;unfold crt;generalize (solP p).1=T at hT ⊢;have hrs:=Q86 hT;refine ⟨?_,by simp [resP],Q2h,?_,fun x hx=>?_,fun x hx=>hT.rk x ((Qzi hT).1 hx)⟩
 ·have h1:=congrArg List.length hrs;rw [List.length_map] at h1;have h2:=Qy0 (f:=lf (Qbn p T)) (l:=upto p.zB.zS);rw [Qch] at h2;show ((upto p.zB.zS).filter (lf (Qbn p T))).length+((upto p.zB.zS).filterMap (remF p T)).length=_;unfold nS;omega
 ·show SetP _ (((upto p.zB.zS).filterMap (remF p T)).map (·.State));rw [hrs];exact Q2h
 ·have:=Qzh hT ((Qzi hT).1 hx);intro h;have:=(List.mem_filter.1 h).2
  simp_all
omit hp in
theorem Qbfl:rowL p (crt p).Kept=Qbn p (solP p).1:=by
 refine Q45 (d:=false) (by rw [Qzf,Qly]) fun y h0 h1=>?_;rw [Qzf] at h1;have h2:y<p.zB.zS:=by unfold nS at h1;omega
 rw [show at0 false (rowL p (crt p).Kept) y=lf (rowL p (crt p).Kept) y from rfl,Q04 h0 h2];show decide (y∈(upto p.zB.zS).filter (lf (Qbn p (solP p).1)))=lf (Qbn p (solP p).1) y;rw [Bool.eq_iff_iff,decide_eq_true_eq,List.mem_filter,Qgy];exact ⟨fun h=>h.2,fun h=>⟨⟨h0,h2⟩,h⟩⟩
theorem Q74 {y:Int} (hy:y∈(crt p).Kept):ati (Qr5 p (crt p)) y=ati (Qm5 p (Qbn p (solP p).1)) y:=by
 have hs:=Qxu hp;have hq:(y,ati (Qm5 p (Qbn p (solP p).1)) y)∈(crt p).Kept.zip (crt p).zH:=by
  show _∈((upto p.zB.zS).filter (lf (Qbn p (solP p).1))).zip (((upto p.zB.zS).filter (lf (Qbn p (solP p).1))).map (ati (Qm5 p (Qbn p (solP p).1))));rw [List.zip_map_right,List.mem_map];refine ⟨(y,y),?_,rfl⟩;have:∀ (l:List Int),y∈l→(y,y)∈l.zip l:=fun l=>by
   induction l with
   | nil=>intro h;cases h
   | cons a l ih =>
    intro h;rw [List.zip_cons_cons];rcases List.mem_cons.1 h with rfl|h
    ·simp
    ·exact List.mem_cons_of_mem _ (ih h)
  exact this _ hy
 refine Qf5 (d:=0) (f:=fun q:Int×Int=>q.1) (g:=fun q=>q.2) (fun q hq=>?_) (by rw [show ((crt p).Kept.zip (crt p).zH).map (fun q:Int×Int=>q.1)=(crt p).Kept from Qyk hs.dl];exact hs.ke.so.imp fun h=>by omega) _ hq;have:=hs.ke.rg _ (Q05 hs.dl hq);rw [List.length_replicate];unfold nS;(try dsimp only);omega
theorem Q3o {z:Qb} (hz:z∈(solP p).1):ati (Qh7 p (crt p).zJ) z.State=z.Rank∧ati (Qty p (crt p)) z.State=z.Reason:=by
 have hs:=Qxu hp;have hm:z∈(crt p).zJ:=(Qzi (Qxt hp).1).2 hz;have hr:∀ x∈(crt p).zJ,0≤(fun x:Qb=>x.State) x∧(fun x:Qb=>x.State) x<((List.replicate (nS p) (0:Int)).length:Int):=fun x hx=>by
  have:=hs.rr x hx;rw [List.length_replicate];unfold nS;(try dsimp only);omega
 exact ⟨Qf5 (d:=0) (f:=fun x:Qb=>x.State) (g:=fun x=>x.Rank) hr hs.nd z hm,Qf5 (d:=0) (f:=fun x:Qb=>x.State) (g:=fun x=>x.Reason) hr hs.nd z hm⟩
theorem Qbdi:Q84 p (crt p)=true:=by
 have hs:=Qxu hp;obtain ⟨hT,-,-⟩:=Qxt hp;have hrow:=Qbfl (p:=p);have D:=Qs8 hp (Qbn p (solP p).1);have low:∀ {k s:Int},Low (solP p).1 k s→lowB (Qbn p (solP p).1) (Qh7 p (crt p).zJ) s k=true:=fun {k s} ⟨z,hz,e,hlt⟩=>by
  subst e;unfold lowB;rw [Qzh hT hz,(Q3o hp hz).1];simpa using hlt
 have same:∀ {k s:Int},Lowb (solP p).1 k s→(Q5l (Qbn p (solP p).1) (Qh7 p (crt p).zJ) (Qty p (crt p)) s k||lowB (Qbn p (solP p).1) (Qh7 p (crt p).zJ) s k)=true:=fun {k s} ⟨z,hz,e,hlt⟩=>by
  rcases hlt with hlt|⟨h1,h2⟩
  ·rw [low ⟨z,hz,e,hlt⟩,Bool.or_true]
  ·subst e;unfold Q5l;rw [Qzh hT hz,(Q3o hp hz).1,(Q3o hp hz).2];simp [h1,h2]
 unfold Q84;rw [hrow,Bool.and_eq_true,List.all_eq_true,List.all_eq_true];refine ⟨fun i hi=>?_,fun x hx=>?_⟩
 ·have hm:=List.mem_filter.1 hi;have hir:=Qgy.1 hm.1;have hok:=Qbdf hp hir.1 hir.2 hm.2;unfold okS at hok;simp only [Bool.and_eq_true,beq_iff_eq,decide_eq_true_eq,Bool.not_eq_true',decide_eq_false_iff_not] at hok;obtain ⟨h1,h2,h3⟩:=hok;unfold Q06;rw [h1,decide_eq_false h2,Q74 hp hi];simp only [beq_self_eq_true,Bool.not_false,Bool.true_and];by_cases h0:ati (Qm5 p (Qbn p (solP p).1)) i=0
  ·rw [if_pos h0,decide_eq_true ((D.z i hir.1 hir.2).1 h0).2]
  ·rw [if_neg h0,Bool.and_eq_true,decide_eq_true_eq,List.any_eq_true];refine ⟨by omega,?_⟩;obtain ⟨e,he,k1,k2,k3⟩:=D.ps i hir.1 hir.2 (by omega);have hr:=hp.a.ed0 e he;refine ⟨e,List.mem_filter.2 ⟨he,by simp [k1]⟩,?_⟩;have hk:e.To∈(crt p).Kept:=List.mem_filter.2 ⟨Qgy.2 ⟨hr.2.2.1,hr.2.2.2.1⟩,k2⟩;rw [k2,Q74 hp hk,k3];simp only [Bool.true_and,decide_eq_true_eq];omega
 ·have hxT:=(Qzi hT).1 hx;have by_ok:(∃ y∈outP p.zB x.State,y.Event=x.Event∧Low (solP p).1 x.Rank y.To)→byB p (Qbn p (solP p).1) (Qh7 p (crt p).zJ) x=true:=fun ⟨y,hy,e,hl⟩=>by
   unfold byB;exact List.any_eq_true.2 ⟨y,hy,by rw [low hl];simp [e]⟩
  unfold Qyl;rcases Qbbx hp x hxT with ⟨k1,k2,k3⟩|⟨k1,k2,k3⟩|⟨k1,k2,k3,k4⟩|⟨k1,k2,k3,k4⟩
  ·rw [if_pos k1];simp [k2,k3]
  ·rw [if_neg (by omega),if_pos k1,by_ok k3];simp [k2]
  ·rw [if_neg (by omega),if_neg (by omega),if_pos k1,by_ok k3,decide_eq_true k2,Bool.true_and,Bool.true_and,Bool.not_eq_true',List.any_eq_false];intro y hy;by_cases hf:y.Event∈p.zF
   ·rw [low (k4 y hy hf)];simp
   ·simp [hf]
  ·rw [if_neg (by omega),if_neg (by omega),if_neg (by omega),if_pos k1,decide_eq_true k2,decide_eq_false k3,Bool.true_and,Bool.not_false,Bool.true_and,Bool.not_eq_true',List.any_eq_false];intro y hy;have:=same (k4 y hy);rw [Bool.or_eq_true] at this;rcases this with h|h<;>simp [h]
end
end Go.Abs
end
section
namespace Go.Abs
open Go
section
variable {p:Qa} {L:List Bool} {rank:Int}
end
section
variable {p:Qa} (hp:RightP p)
include hp
end
end Go.Abs
end
section
namespace Go.Abs
open Go
inductive CoR (p:Qa) (L:List Bool):Int→Prop where
 | mk (y:Int) (h1:lf L y=true) (h2:y∈p.zB.zP):CoR p L y
 | step (e:Qc) (h1:e∈p.zB.zQ) (h2:lf L e.From=true) (h3:CoR p L e.To):CoR p L e.From
section
variable {p:Qa} (hp:RightP p) {L:List Bool}
include hp
theorem CoR.rg {y:Int} (h:CoR p L y):0≤y∧y<p.zB.zS:=by
 cases h with
 | mk _ h1 h2=>exact hp.a.ma0 _ h2
 | step e h1 h2 h3=>have:=hp.a.ed0 e h1;exact ⟨this.1,this.2.1⟩
end
theorem Qbdj {α β:Type} {o:Option α} {K:α→Option β} {v:α} {Q:β→Prop} (h:o=some v) (k:∃ D,K v=some D∧Q D):∃ D,o.bind K=some D∧Q D:=by
 rw [h];exact k
structure BI (p:Qa) (L:List Bool) (l out:List Int):Prop where
 ln:out.length=nS p
 nd:l.Nodup
 rg:∀ y∈l,CoR p L y
 mem:∀ y,0≤y→y<p.zB.zS→(0≤ati out y↔y∈l)
 bd:∀ y∈l,ati out y<l.length
section
variable {p:Qa} (hp:RightP p) {L:List Bool}
include hp
theorem BI.len {l out:List Int} (h:BI p L l out):l.length≤nS p:=Fnd.len (a:=p.zB) ⟨h.nd,fun y hy=>(h.rg y hy).rg hp⟩
theorem BI.add {l out:List Int} (h:BI p L l out) {x v:Int} (hc:CoR p L x) (hx:x∉l) (h0:0≤v) (h1:v≤l.length):BI p L (l++[x]) (out.set x.toNat v):=by
 have hr:=hc.rg hp;have hln:=h.ln;refine ⟨by rw [List.length_set];exact hln,?_,fun y hy=>?_,fun y k0 k1=>?_,fun y hy=>?_⟩
 ·rw [List.nodup_append];exact ⟨h.nd,by simp,fun a ha b hb=>by simp at hb;subst hb;rintro rfl;exact hx ha⟩
 ·rcases List.mem_append.1 hy with hy|hy
  ·exact h.rg y hy
  ·simp at hy;subst hy;exact hc
 ·rw [Qwp ⟨hr.1,by rw [hln];unfold nS;omega⟩ k0,List.mem_append];by_cases e:y=x
  ·subst e;simp [h0]
  ·rw [if_neg e,h.mem y k0 k1];simp [e]
 ·rw [List.length_append,List.length_singleton];rcases List.mem_append.1 hy with hy|hy
  ·have k:=(h.rg y hy).rg hp;rw [Qwp ⟨hr.1,by rw [hln];unfold nS;omega⟩ k.1];split
   ·omega
   ·have:=h.bd y hy;omega
  ·simp at hy;subst hy;rw [Qwp ⟨hr.1,by rw [hln];unfold nS;omega⟩ hr.1,if_pos rfl];omega
end
end Go.Abs
end
section
namespace Go.Abs
open Go
structure Shap0 (p:Qa) (c:Qf):Prop where
 ln:c.Kept.length+c.zJ.length=nS p
 dl:c.zH.length=c.Kept.length
 ke:SetP p.zB.zS c.Kept
 re:SetP p.zB.zS (c.zJ.map (·.State))
 dj:∀ x∈c.zJ,x.State∉c.Kept
theorem Q07 {p:Qa} {c:Qf}:Shape p c↔Shap0 p c∧∀ x∈c.zJ,1≤x.Rank :=
 ⟨fun h=>⟨⟨h.ln,h.dl,h.ke,h.re,h.dj⟩,h.rk⟩,fun h=>⟨h.1.ln,h.1.dl,h.1.ke,h.1.re,h.1.dj,h.2⟩⟩
theorem Shap0.cover {p:Qa} {c:Qf} (h:Shap0 p c) {y:Int} (h0:0≤y) (h1:y<p.zB.zS):y∈c.Kept∨∃ x∈c.zJ,x.State=y:=by
 have hs:Shape p ⟨c.Kept,c.zH,c.zJ.map fun x=>{ x with Rank:=1 }⟩:=by
  refine ⟨by simpa using h.ln,h.dl,h.ke,?_,fun x hx=>?_,fun x hx=>?_⟩
  ·have:(c.zJ.map fun x=>{ x with Rank:=1 }).map (·.State)=c.zJ.map (·.State):=by rw [List.map_map];rfl
   rw [this];exact h.re
  ·obtain ⟨z,hz,rfl⟩:=List.mem_map.1 hx;exact h.dj z hz
  grind
 rcases hs.cover h0 h1 with k|⟨x,hx,hk⟩
 all_goals grind
def Qi4 (p:Qa) (c:Qf):List Int:=c.Kept.zipIdx.foldl (fun b (q:Int×Nat)=>b.set q.1.toNat (q.2:Int)) (List.replicate (nS p) (-1))
def Qr6 (p:Qa) (c:Qf):List Int:=c.zJ.zipIdx.foldl (fun b (q:Qb×Nat)=>b.set q.1.State.toNat (q.2:Int)) (List.replicate (nS p) (-1))
section
variable {p:Qa} {c:Qf}
theorem Q5o:(Qi4 p c).length=nS p:=by simp_all [Qi4,Qks,List.length_replicate]
theorem Q5p:(Qr6 p c).length=nS p:=by simp_all [Qr6,Qks,List.length_replicate]
theorem Qbd6 {α:Type} {l:List α} {q:α×Nat} (h:q∈l.zipIdx):∃ hn:q.2<l.length,l[q.2]=q.1:=by
 grind
theorem Qbd7 {α:Type} {l:List α} {n:Nat} (h:n<l.length):(l[n],n)∈l.zipIdx:=by
 grind
theorem Qxv (hk:SetP p.zB.zS c.Kept) {y:Int} (h0:0≤y) (h1:y<p.zB.zS):(y∈c.Kept→∃ n,∃ hn:n<c.Kept.length,c.Kept[n]=y∧ati (Qi4 p c) y=n)∧(y∉c.Kept→ati (Qi4 p c) y = -1):=by
 have hlen:(List.replicate (nS p) (-1:Int)).length=nS p:=by simp
 have hin:∀ q∈c.Kept.zipIdx,0≤q.1∧q.1<(List.replicate (nS p) (-1:Int)).length:=fun q hq=>by
  obtain ⟨hn,e⟩:=Qbd6 hq;have:=hk.rg _ (e ▸ List.getElem_mem hn)
  grind
 refine ⟨fun hy=>?_,fun hy=>?_⟩
 ·obtain ⟨n,hn,rfl⟩:=List.getElem_of_mem hy;refine ⟨n,hn,rfl,?_⟩;have hnd:(c.Kept.zipIdx.map (·.1)).Nodup:=by
   rw [List.zipIdx_map_fst];exact hk.so.imp fun h=>by omega
  exact Qf5 (d:=0) (f:=fun q:Int×Nat=>q.1) (g:=fun q=>(q.2:Int)) hin hnd _ (Qbd7 hn)
 ·have:=Qm7 (d:=0) (f:=fun q:Int×Nat=>q.1) (g:=fun q=>(q.2:Int)) h0 hin (fun q hq e=>by
   grind)
  unfold Qi4 ati;rw [this];exact Q2b h0 (by unfold nS;omega)
theorem Q75 (hk:SetP p.zB.zS (c.zJ.map (·.State))) {y:Int} (h0:0≤y) (h1:y<p.zB.zS):(∀ x∈c.zJ,x.State=y→∃ n,∃ hn:n<c.zJ.length,c.zJ[n]=x∧ati (Qr6 p c) y=n)∧((∀ x∈c.zJ,x.State≠y)→ati (Qr6 p c) y = -1):=by
 have hlen:(List.replicate (nS p) (-1:Int)).length=nS p:=by simp
 have hin:∀ q∈c.zJ.zipIdx,0≤q.1.State∧q.1.State<(List.replicate (nS p) (-1:Int)).length:=fun q hq=>by
  obtain ⟨hn,e⟩:=Qbd6 hq;have:=hk.rg _ (List.mem_map.2 ⟨_,e ▸ List.getElem_mem hn,rfl⟩)
  grind
 refine ⟨fun x hx hxy=>?_,fun hy=>?_⟩
 ·obtain ⟨n,hn,rfl⟩:=List.getElem_of_mem hx;refine ⟨n,hn,rfl,?_⟩;have hnd:(c.zJ.zipIdx.map (fun q=>q.1.State)).Nodup:=by
   have:c.zJ.zipIdx.map (fun q=>q.1.State)=c.zJ.map (·.State):=by
    rw [show (fun q:Qb×Nat=>q.1.State)=(fun r:Qb=>r.State) ∘ Prod.fst from rfl,← List.map_map,List.zipIdx_map_fst]
   rw [this];exact hk.so.imp fun h=>by omega
  have:=Qf5 (d:=0) (f:=fun q:Qb×Nat=>q.1.State) (g:=fun q=>(q.2:Int)) hin hnd _ (Qbd7 hn);dsimp only at this;rw [hxy] at this;exact this
 ·have:=Qm7 (d:=0) (f:=fun q:Qb×Nat=>q.1.State) (g:=fun q=>(q.2:Int)) h0 hin (fun q hq e=>by
   grind)
  unfold Qr6 ati;rw [this];exact Q2b h0 (by unfold nS;omega)
theorem Q76 (hd:c.zH.length=c.Kept.length) (hk:SetP p.zB.zS c.Kept) {n:Nat} (hn:n<c.Kept.length):ati (Qr5 p c) c.Kept[n]=c.zH.getD n 0:=by
 have hz:(c.Kept[n],c.zH[n]'(by omega))∈c.Kept.zip c.zH:=by
  have:(c.Kept.zip c.zH)[n]'(by grind)=(c.Kept[n],c.zH[n]'(by omega)):=List.getElem_zip
  grind
 have hin:∀ q∈c.Kept.zip c.zH,0≤q.1∧q.1<(List.replicate (nS p) (0:Int)).length:=fun q hq=>by
  have:=hk.rg _ (Q05 hd hq)
  grind
 have hnd:((c.Kept.zip c.zH).map (·.1)).Nodup:=by
  rw [show (c.Kept.zip c.zH).map (·.1)=c.Kept from Qyk hd];exact hk.so.imp fun h=>by omega
 have:=Qf5 (d:=0) (f:=fun q:Int×Int=>q.1) (g:=fun q=>q.2) hin hnd _ hz;rw [Qpd (show n<c.zH.length by omega)];exact this
end
def kl (p:Qa) (c:Qf) (x d:Int):List Qc→Bool×Bool×Bool→Bool
 | [],(o,f,n)=>!(decide (x∈p.zD)||((o && !f)||decide (d<0)))&&(((d==0)&&decide (x∈p.zB.zP))||(decide (d>0)&&n))
 | y::ys,(o,f,n)=>if y.From≠x then kl p c x d ys (o,f,n) else
   if !decide (ati (Qi4 p c) y.To≥0)&&decide (y.Event∈p.zC) then false else
   kl p c x d ys (o||(!decide (ati (Qi4 p c) y.To≥0)&&(y.Event==p.Tick)),f||(decide (ati (Qi4 p c) y.To≥0)&&decide (y.Event∈p.zF)),
    n||(decide (ati (Qi4 p c) y.To≥0)&&decide (c.zH.getD (ati (Qi4 p c) y.To).toNat 0<d)))
section
variable {p:Qa} (hp:RightP p) {c:Qf} (hb1:c.Kept.length<big) (hd:c.zH.length=c.Kept.length) (hk:SetP p.zB.zS c.Kept)
include hp
theorem hasU {x:Int}:Qbc p.zC x=some (decide (x∈p.zC)):=Qqw hp.small.2.2.1
theorem hasF {x:Int}:Qbc p.zD x=some (decide (x∈p.zD)):=Qqw hp.small.2.1
theorem hasC {x:Int}:Qbc p.zF x=some (decide (x∈p.zF)):=Qqw hp.small.2.2.2
theorem Qbgu {x:Int}:Qbc p.zB.zP x=some (decide (x∈p.zB.zP)):=Qqw hp.a.small.1.2.1
include hb1 hd hk
theorem Q6t {n:Nat} (hn:n<c.Kept.length):Qfx p c (Qi4 p c) (n:Int)=some (kl p c c.Kept[n] (c.zH.getD n 0) p.zB.zQ (false,false,false)):=by
 unfold Qfx Qdi;obtain ⟨fuel,hfu,hge⟩ : ∃ f,Qb0=f∧1099511627776≤f:=⟨_,rfl,Nat.le_refl _⟩;have hnd:n<c.zH.length:=by omega
 rw [hfu,Q2 hn,Option.bind_some,Q2 hnd,Option.bind_some,Qpd hnd];have hsm:=hp.a.small;have hb:c.Kept.length<1000000000000:=hb1;generalize c.Kept[n]=x;generalize c.zH[n]=d;have key:=Qgr (F:=fun (k13:Bool×Bool×Bool×Int→Option Bool) ((out9,forced10,nearer11,x12):Bool×Bool×Bool×Int)=>(if (x12<(p.zB.zQ.length:Int)) then letJ (fun ((out39,forced40,nearer41,y42,y43,y44):Bool×Bool×Bool×Int×Int×Int)=>k13 (out39,forced40,nearer41,(IntKind.wrap .i64 (x12+1)))) fun J45=>((getO p.zB.zQ x12).bind fun x15=>(if (x15.From != x) then J45 (out9,forced10,nearer11,x15.From,x15.Event,x15.To) else ((getO (Qi4 p c) x15.To).bind fun x18=>(((if (decide (x18≥0)) then some false else ((Qbc p.zC x15.Event).bind fun x22=>some x22))).bind fun (x23:Bool)=>(if x23 then some false else (((if out9 then some true else (if (decide (x18≥0)) then some false else some (x15.Event==p.Tick)))).bind fun (out27:Bool)=>(((if forced10 then some true else (if (x18≥0) then ((Qbc p.zF x15.Event).bind fun x31=>some x31) else some false))).bind fun (forced32:Bool)=>(if nearer11 then J45 (out27,forced32,true,x15.From,x15.Event,x15.To) else (if (x18≥0) then ((getO (Qi4 p c) x15.To).bind fun x35=>((getO c.zH x35).bind fun x37=>J45 (out27,forced32,decide (x37<d),x15.From,x15.Event,x15.To))) else J45 (out27,forced32,false,x15.From,x15.Event,x15.To)))))))))) else ((((Qbc p.zD x).bind fun x47=>(if x47 then some true else (if out9 then (if forced10 then some (decide (d<0)) else some true) else some (decide (d<0)))))).bind fun (x51:Bool)=>(if x51 then some false else (((if (d==0) then ((Qbc p.zB.zP x).bind fun x55=>(if x55 then some true else (if (d>0) then some nearer11 else some false))) else (if (d>0) then some nearer11 else some false))).bind fun (x59:Bool)=>some x59))))) (len:=p.zB.zQ.length) (fun n (s:Bool×Bool×Bool)=>(s.1,s.2.1,s.2.2,(n:Int))) (fun _ _=>True) (fun n s=>some (kl p c x d (p.zB.zQ.drop n) s)) ?_ ?_ fuel 0 (false,false,false) (Nat.zero_le _) (by grind) trivial
 ·grind
 ·rintro k m ⟨o,f,nr⟩ hm _ ih;have he:=List.getElem_mem hm;have hr:=hp.a.ed0 _ he;have hsz:=hsm.2.2.2;dsimp only;rw [if_pos (by omega),List.drop_eq_getElem_cons hm];unfold letJ;rw [Q2 hm,Qce (by omega)];simp only [Option.bind_some];generalize p.zB.zQ[m]=y at hr;obtain ⟨r1,r2,r3,r4,_⟩:=hr;have hkl:(Qi4 p c).length=nS p:=Q5o;unfold kl;by_cases hf:y.From=x
  case neg =>
   grind
  rw [if_neg (by simpa using hf),if_neg (by simpa using hf),Qi3 (d:=0) r3 (by unfold nS at hkl;omega),Option.bind_some];rw [hasU hp,hasC hp];have hat:=Qxv (c:=c) hk r3 r4;by_cases hin:ati (Qi4 p c) y.To≥0
  ·have hmem:y.To∈c.Kept:=Decidable.byContradiction fun h=>by have:=hat.2 h;omega
   obtain ⟨q,hq,e1,e2⟩:=hat.1 hmem;have hin' : at0 0 (Qi4 p c) y.To≥0:=hin;have e2' : at0 0 (Qi4 p c) y.To=(q:Int):=e2;have hqd:q<c.zH.length:=by omega
   simp only [hin,hin',decide_true,if_true,Option.bind_some,Bool.false_eq_true,if_false,Bool.not_true,Bool.false_and,Bool.true_and,Bool.or_false];rw [e2,e2',Q2 hqd,Int.toNat_natCast,Qpd hqd]
   grind
  ·have hin' : ¬ at0 0 (Qi4 p c) y.To≥0:=hin;simp only [hin,hin',decide_false,if_false,Option.bind_some,Bool.false_eq_true,Bool.not_false,Bool.true_and,Bool.false_and,Bool.or_false]
   grind
 ·rintro k ⟨o,f,nr⟩ _;dsimp only;rw [if_neg (by omega),List.drop_length,hasF hp,Qbgu hp];unfold kl;by_cases h1:x∈p.zD
  ·simp [h1]
  ·by_cases h2:d<0
   ·grind
   ·by_cases h3:d=0
    ·by_cases h4:x∈p.zB.zP<;>cases o<;>cases f<;>simp [h1,h2,h3,h4]
    ·have h5:d>0:=by omega
     grind
end
end Go.Abs
end
section
namespace Go.Abs
open Go
section
variable {p:Qa} (hp:RightP p) {L:List Bool} (hL:L.length=nS p)
include hp hL
end
end Go.Abs
end
