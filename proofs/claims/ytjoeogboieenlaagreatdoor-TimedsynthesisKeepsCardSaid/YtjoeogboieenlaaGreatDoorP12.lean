/-
  Part 12 of the proof: see the last text.
-/
import Derived.Test.YtjoeogboieenlaaGreatDoorP11
set_option linter.unusedVariables false
set_option linter.unusedSimpArgs false
set_option linter.unusedSectionVars false
section
namespace Go.Abs
open Go
theorem Qy9 {β:Type} {z v:β} {k k' : Int}:∀ {m:List (Int×β)},getM (setM m k v) k' z=if k'=k then v else getM m k' z
 | []=>by simp [setM,getM]
 | (q,w)::m=>by
  by_cases h1:k=q
  ·subst h1;by_cases h2:k'=k<;>simp [setM,getM,h2]
  ·have h1' : (k==q)=false:=by simp [h1]
   simp only [setM,h1',Bool.false_eq_true,if_false,getM];rw [Qy9 (m:=m)];by_cases h2:k'=q
   ·subst h2;have:k' ≠ k:=fun e=>h1 e.symm;simp [this]
   ·simp [h2]
theorem Q1e {β:Type} {v:β} {k k' : Int}:∀ {m:List (Int×β)},hasM (setM m k v) k'=(decide (k'=k)||hasM m k')
 | []=>by
  simp only [setM,hasM,List.any_cons,List.any_nil,Bool.or_false];rw [Bool.eq_iff_iff];simp
 | (q,w)::m=>by
  by_cases h1:k=q
  ·subst h1;simp only [setM,beq_self_eq_true,if_true,Qng];rw [Bool.eq_iff_iff];simp
  ·have h1' : (k==q)=false:=by simp [h1]
   simp only [setM,h1',Bool.false_eq_true,if_false,Qng];rw [Q1e (m:=m)];cases (k'==q)<;>cases decide (k'=k)<;>simp
def MapOk (m:List (Int×Int)) (st:List Int):Prop:=∀ r,hasM m r=decide (r∈st)∧(r∈st→getM m r 0=(st.idxOf r:Int))
theorem MapOk.ins {m:List (Int×Int)} {st:List Int} (h:MapOk m st) {r:Int} (hr:r∉st):MapOk (setM m r (st.length:Int)) (st++[r]):=by
 intro x;obtain ⟨h1,h2⟩:=h x;refine ⟨?_,fun hx=>?_⟩
 ·rw [Q1e,h1,Bool.eq_iff_iff];simp;exact Or.comm
 ·rw [Qy9];by_cases hxr:x=r
  ·subst hxr;rw [if_pos rfl,List.idxOf_append];simp [hr]
  ·rw [if_neg hxr];have hx' : x∈st:=by
    rcases List.mem_append.1 hx with hx|hx
    ·exact hx
    ·simp at hx;exact absurd hx hxr
   rw [h2 hx',List.idxOf_append,if_pos hx']
def Qe1 (L:List Bool) (i:Nat) (s:List Int×List Qc) (x:Qc):List Int×List Qc :=
 if lf L x.To then (ins s.1 x.To,s.2++[⟨(i:Int),x.Event,((ins s.1 x.To).idxOf x.To:Int)⟩]) else s
def bldS (p:Qb) (L:List Bool):Nat→Nat→List Int→List Int→List Qc→List Int×List Int×List Qc
 | 0,_,st,ms,es=>(st,ms,es)
 | f+1,i,st,ms,es=>match st[i]? with
  | none=>(st,ms,es)
  | some s=>bldS p L f (i+1) ((outP p.zB s).foldl (Qe1 L i) (st,es)).1 (if s∈p.zB.zP then ms++[(i:Int)] else ms) ((outP p.zB s).foldl (Qe1 L i) (st,es)).2
def st0 (p:Qb) (L:List Bool):List Int:=if 0<p.zB.zS∧lf L 0=true then [0] else []
def supP (p:Qb) (L:List Bool):List Int×List Int×List Qc:=bldS p L (nS p+1) 0 (st0 p L) [] []
section
variable {p:Qb} (hp:RightP p) {L:List Bool}
include hp
theorem Q1f {i:Nat}:∀ {l:List Qc} {s:List Int×List Qc},(∀ x∈l,0≤x.To∧x.To<p.zB.zS)→Fnd p.zB s.1→Fnd p.zB (l.foldl (Qe1 L i) s).1∧s.1 <+: (l.foldl (Qe1 L i) s).1∧(l.foldl (Qe1 L i) s).2.length≤s.2.length+l.length
 | [],s,_,h=>⟨h,List.prefix_refl _,by simp⟩
 | x::l,s,hl,h=>by
  rw [List.foldl_cons];have hx:=hl x (by simp);unfold Qe1;cases hq:lf L x.To with
  | false =>
   rw [if_neg (by simp)];obtain ⟨h1,h2,h3⟩:=Q1f (i:=i) (l:=l) (s:=s) (fun y hy=>hl y (by simp [hy])) h;exact ⟨h1,h2,by simp only [List.length_cons];unfold Qe1 at h3;omega⟩
  | true =>
   rw [if_pos rfl];obtain ⟨h1,h2,h3⟩:=Q1f (i:=i) (l:=l) (s:=(ins s.1 x.To,s.2++[⟨(i:Int),x.Event,((ins s.1 x.To).idxOf x.To:Int)⟩])) (fun y hy=>hl y (by simp [hy])) (h.ins hx);refine ⟨h1,List.IsPrefix.trans (Qbet _ _) h2,?_⟩;simp only [List.length_append,List.length_cons,List.length_nil] at h3 ⊢;unfold Qe1 at h3;omega
theorem Qv9 (s:Int):(outP p.zB s).length≤131072:=Nat.le_trans (List.length_filter_le _ _) hp.a.small.2.2.2
theorem Qbfe:Fnd p.zB (st0 p L):=by
 unfold st0;split
 ·rename_i h;exact ⟨by simp,fun x hx=>by simp only [List.mem_singleton] at hx;subst hx;exact ⟨Int.le_refl _,h.1⟩⟩
 ·exact ⟨by simp,fun x hx=>by cases hx⟩
variable (hL:L.length=nS p)
include hL
theorem Qbjp {fuel:Nat} (hge:1099511627776≤fuel) {i:Nat} (hi:i≤4096) {s:Int} {st ms:List Int} {es:List Qc} {c:List (Int×Int)} (hf:Fnd p.zB st) (hc:MapOk c st) (he:es.length≤131072*4096) :
  ∃ c',MapOk c' ((outP p.zB s).foldl (Qe1 L i) (st,es)).1∧Qbi (fun (k49:List Int×Int×List Qc×List (Int×Int)→Option (List Int×List Int×List Qc×List (Int×Int))) ((origins45,x46,a47,c48):(List Int)×Int×(List Qc)×(List (Int×Int)))=>(if (x46<((outP p.zB s).length:Int)) then ((((getO (outP p.zB s) x46).bind fun x51=>((inO L.length x51.To).bind fun u53=>((getO L x51.To).bind fun x55=>(if x55 then (((if (hasM c48 x51.To) then some (origins45,c48) else ((appO origins45 [x51.To]).bind fun x59=>some (x59,(setM c48 x51.To (origins45.length:Int)))))).bind fun ((origins61,c62):(List Int)×(List (Int×Int)))=>((appO a47 [(Qc.mk (i:Int) x51.Event (getM c62 x51.To 0))]).bind fun x63=>some (origins61,x63,c62,x51.From,x51.Event,x51.To))) else some (origins45,a47,c48,x51.From,x51.Event,x51.To)))))).bind fun ((origins65,a66,c67,c68,c69,c70):(List Int)×(List Qc)×(List (Int×Int))×Int×Int×Int)=>k49 (origins65,(IntKind.wrap .i64 (x46+1)),a66,c67)) else some (origins45,ms,a47,c48))) fuel (st,0,es,c)=some (((outP p.zB s).foldl (Qe1 L i) (st,es)).1,ms,((outP p.zB s).foldl (Qe1 L i) (st,es)).2,c'):=by
 have hst:=hp.a.st;have hnS:nS p≤4096:=by unfold nS;omega
 have hol:=Qv9 hp s;let stp:(List Int×List Qc)×List (Int×Int)→Qc→(List Int×List Qc)×List (Int×Int):=fun s x=>(Qe1 L i s.1 x,if lf L x.To&&decide (x.To∉s.1.1) then setM s.2 x.To (s.1.1.length:Int) else s.2);have hproj:∀ (l:List Qc) (s:(List Int×List Qc)×List (Int×Int)),(l.foldl stp s).1=l.foldl (Qe1 L i) s.1:=by
  intro l
  induction l with
  | nil=>intro s;rfl
  | cons x l ih=>intro s;rw [List.foldl_cons,List.foldl_cons,ih]
 have hI:∀ (n:Nat) (q:(List Int×List Qc)×List (Int×Int)) (hn:n<(outP p.zB s).length),(Fnd p.zB q.1.1∧MapOk q.2 q.1.1∧q.1.2.length≤131072*4096+n)→(Fnd p.zB (stp q (outP p.zB s)[n]).1.1∧MapOk (stp q (outP p.zB s)[n]).2 (stp q (outP p.zB s)[n]).1.1∧(stp q (outP p.zB s)[n]).1.2.length≤131072*4096+(n+1)):=by
  rintro n q hn ⟨h1,h2,h3⟩;have hr:=(Qto hp _ (List.getElem_mem hn)).1;generalize (outP p.zB s)[n]=x at hr;simp only [stp,Qe1];cases hq:lf L x.To with
  | false=>simp only [Bool.false_eq_true,if_false,Bool.false_and];exact ⟨h1,h2,by omega⟩
  | true =>
   simp only [if_true,Bool.true_and];refine ⟨h1.ins hr,?_,by simp only [List.length_append,List.length_cons,List.length_nil];omega⟩;by_cases hm:x.To∈q.1.1
   ·have:ins q.1.1 x.To=q.1.1:=by unfold ins;rw [if_pos hm]
    rw [this,if_neg (by simpa using hm)];exact h2
   ·have:ins q.1.1 x.To=q.1.1++[x.To]:=by unfold ins;rw [if_neg hm]
    rw [this,if_pos (by simpa using hm)];exact h2.ins hm
 have h0:Fnd p.zB ((st,es),c).1.1∧MapOk ((st,es),c).2 ((st,es),c).1.1∧((st,es),c).1.2.length≤131072*4096+0:=⟨hf,hc,he⟩;have hend:=Q52 (l:=outP p.zB s) (stp:=stp) (I:=fun n q=>Fnd p.zB q.1.1∧MapOk q.2 q.1.1∧q.1.2.length≤131072*4096+n) hI h0;refine ⟨((outP p.zB s).foldl stp ((st,es),c)).2,?_,?_⟩
 ·have:=hend.2.1;rw [hproj] at this;exact this
 ·refine (Qc6 (l:=outP p.zB s) (fun j (q:(List Int×List Qc)×List (Int×Int))=>(q.1.1,j,q.1.2,q.2)) stp (fun n q=>Fnd p.zB q.1.1∧MapOk q.2 q.1.1∧q.1.2.length≤131072*4096+n) (fun q=>some (q.1.1,ms,q.1.2,q.2)) (Qy6 hp s) hge (fun k n q hn hq=>?_) hI (fun k q hq=>?_) (s0:=((st,es),c)) h0).trans ?_
  ·obtain ⟨h1,h2,h3⟩:=hq;have hr:=(Qto hp _ (List.getElem_mem hn)).1;have hfl:=h1.len;dsimp only;rw [if_pos (by omega),Qx hn];generalize (outP p.zB s)[n]=x at hr;simp only [Option.bind_some,Qhk hL hr,stp,Qe1];cases hq:lf L x.To with
   | false=>simp
   | true =>
    simp only [if_true,Bool.true_and];rw [(h2 x.To).1];by_cases hm:x.To∈q.1.1
    ·have hins:ins q.1.1 x.To=q.1.1:=by unfold ins;rw [if_pos hm]
     rw [hins];simp only [hm,decide_true,if_true,Option.bind_some,(h2 x.To).2 hm,not_true_eq_false,decide_false,Bool.false_eq_true,if_false];rw [Q3 (by simp only [List.length_cons,List.length_nil];unfold lim;omega)];rfl
    ·have hins:ins q.1.1 x.To=q.1.1++[x.To]:=by unfold ins;rw [if_neg hm]
     have hidx:(q.1.1++[x.To]).idxOf x.To=q.1.1.length:=by rw [List.idxOf_append,if_neg hm];simp
     rw [hins,hidx];simp only [hm,decide_false,Bool.false_eq_true,if_false,not_false_eq_true,decide_true,if_true];rw [Q3 (l:=q.1.1) (by simp only [List.length_cons,List.length_nil];unfold lim;omega)];simp only [Option.bind_some,Qy9,if_true];rw [Q3 (by simp only [List.length_cons,List.length_nil];unfold lim;omega)];rfl
  ·dsimp only;rw [if_neg (by omega)]
  ·rw [hproj]
theorem Qbk0:Qdp (tsk p L)=some (⟨p.zB.zO,((supP p L).1.length:Int),(supP p L).2.1,(supP p L).2.2⟩,(supP p L).1):=by
 unfold Qdp Qbe;obtain ⟨fuel,hfu,hge⟩ : ∃ f,Qbb=f∧1099511627776≤f:=⟨_,rfl,Nat.le_refl _⟩;rw [hfu];rw [show (tsk p L).left_=L from rfl,show (tsk p L).zT=p from rfl,show (tsk p L).from_=Qz9 p from rfl];have hst:=hp.a.st;have hnS:nS p≤4096:=by unfold nS;omega
 have hsm:=hp.a.small;rw [Q54 (by unfold lim;omega),Option.bind_some];obtain ⟨c0,hc0,hstart⟩ : ∃ c0,MapOk c0 (st0 p L)∧(((if ((L.length:Int)>0) then ((inO L.length 0).bind fun u11=>((getO L 0).bind fun x13=>some x13)) else some false)).bind fun (x15:Bool)=>(if x15 then ((appO [] [(0:Int)]).bind fun x17=>some (x17,(setM ([]:List (Int×Int)) 0 0))) else some ([],[])))=some (st0 p L,c0):=by
  unfold st0;by_cases h1:(L.length:Int)>0
  ·have hn0:0<p.zB.zS:=by unfold nS at hL;omega
   rw [if_pos h1];simp only [Qhk hL (p:=p) (x:=0) ⟨Int.le_refl _,hn0⟩,Option.bind_some,hn0,true_and];cases lf L 0 with
   | true =>
    refine ⟨setM [] 0 0,fun r=>⟨?_,fun hr=>?_⟩,rfl⟩
    ·rw [Q1e];simp [hasM]
    ·simp only [if_true,List.mem_singleton] at hr;subst hr;rfl
   | false=>exact ⟨[],fun r=>⟨by simp [hasM],fun hr=>by simp at hr⟩,rfl⟩
  ·have hn0:¬ (0<p.zB.zS):=by unfold nS at hL;omega
   rw [if_neg h1];simp only [hn0,false_and,if_false];exact ⟨[],fun r=>⟨by simp [hasM],fun hr=>by cases hr⟩,rfl⟩
 rw [hstart,Option.bind_some];dsimp only;generalize hA:supP p L=A;refine Q51 (P:=fun r=>∃ c' : List (Int×Int),r=(A.1,[],[],[],A.2.1,A.2.2,c')) ?_ ?_
 ·refine Qfj (fun x:List Int×Int×List Int×List Int×List Qc×List Int×List Qc×List (Int×Int)=>∃ (n f:Nat),x.2.1=n∧x.2.2.1=[]∧x.2.2.2.1=[]∧x.2.2.2.2.1=[]∧n+f=nS p+1∧n≤x.1.length∧Fnd p.zB x.1∧x.2.2.2.2.2.1.length≤n∧x.2.2.2.2.2.2.1.length≤131072*n∧MapOk x.2.2.2.2.2.2.2 x.1∧bldS p L f n x.1 x.2.2.2.2.2.1 x.2.2.2.2.2.2.1=A)
   (fun x=>5001-x.2.1.toNat) (fun _ r=>∃ v,r=some v∧∃ c' : List (Int×Int),v=(A.1,[],[],[],A.2.1,A.2.2,c')) ?_ fuel (st0 p L,0,[],[],[],[],[],c0) ⟨0,nS p+1,rfl,rfl,rfl,rfl,by omega,Nat.zero_le _,Qbfe hp,Nat.zero_le _,Nat.zero_le _,hc0,hA⟩ (by dsimp only;omega)
  rintro k ⟨st,x,c1,c2,c3,ms,es,c⟩ ⟨n,f,hx,h1,h2,h3,hf,hnl,hfd,hms,hes,hc,hB⟩ ih;dsimp only at hx h1 h2 h3 hnl hfd hms hes hc hB ih ⊢;subst hx h1 h2 h3;have hfl:=hfd.len;by_cases hlt:n<st.length
  ·obtain ⟨f,rfl⟩ : ∃ g,f=g+1:=⟨f-1,by unfold nS at *;omega⟩;have hi:st[n]? = some st[n]:=List.getElem?_eq_getElem hlt;have hr:=hfd.rg _ (List.getElem_mem hlt);rw [if_pos (by omega),Qx hlt,Option.bind_some,Qcn hp.a.ma hsm.1.2.1,Option.bind_some];have hmk:(if decide (st[n]∈p.zB.zP)=true then (appO ms [(n:Int)]).bind fun x36=>some x36 else some ms)=some (if st[n]∈p.zB.zP then ms++[(n:Int)] else ms):=by
    rw [Q3 (by simp only [List.length_cons,List.length_nil];unfold lim;unfold nS at *;omega)];by_cases hm:st[n]∈p.zB.zP<;>simp [hm]
   rw [hmk,Option.bind_some,Option.bind_some,(Q0a hr).1,Option.bind_some,(Q0a hr).2,Option.bind_some];rw [bldS,hi] at hB;dsimp only at hB;obtain ⟨k1,k2,k3⟩:=Q1f hp (i:=n) (L:=L) (l:=outP p.zB st[n]) (s:=(st,es)) (fun x hx=>(Qto hp x hx).1) hfd;have hol:=Qv9 hp st[n];have hn4:n≤4096:=by unfold nS at *;omega
   obtain ⟨c',hc',hrow⟩:=Qbjp hp hL hge (i:=n) hn4 (s:=st[n]) (ms:=if st[n]∈p.zB.zP then ms++[(n:Int)] else ms) (es:=es) hfd hc (by omega);rw [hrow,Option.bind_some,Qbq (by omega)];have hk2:=k2.length_le;refine ih _ ⟨n+1,f,rfl,rfl,rfl,rfl,by omega,by dsimp only at hk2 ⊢;omega,k1,?_,by dsimp only at k3 ⊢;omega,hc',hB⟩ (by simp only [Int.toNat_natCast];unfold nS at *;omega);dsimp only;split
   ·simp only [List.length_append,List.length_cons,List.length_nil];omega
   ·omega
  ·rw [if_neg (by omega)];have hB' : (st,ms,es)=A:=by
    cases f with
    | zero=>exact hB
    | succ f=>rw [bldS,List.getElem?_eq_none (by omega)] at hB;exact hB
   subst hB';exact ⟨_,rfl,c,rfl⟩
 ·rintro _ ⟨c',rfl⟩
  rfl
end
end Go.Abs
end
section
namespace Go.Abs
open Go
abbrev zR:Qd:=⟨0,0,0,0⟩
def remF (p:Qb) (T:List Qd) (i:Int):Option Qd:=if lf (Qbn p T) i then none else some (at0 zR (Qvv p T) i)
def resP (p:Qb) (T:List Qd) (r:Int):Qb5 :=
 ⟨⟨(upto p.zB.zS).filter (lf (Qbn p T)),((upto p.zB.zS).filter (lf (Qbn p T))).map (ati (Qqd p (Qbn p T))),(upto p.zB.zS).filterMap (remF p T)⟩,r,
  ⟨p.zB.zO,((supP p (Qbn p T)).1.length:Int),(supP p (Qbn p T)).2.1,(supP p (Qbn p T)).2.2⟩,(supP p (Qbn p T)).1,
  (upto p.zB.zS).filter fun i=>lf (Qbn p T) i&&Qop p (Qbn p T) i⟩
def Qtp (p:Qb) (T:List Qd) (s:List Int×List Int×List Qd×List Int) (i:Int):List Int×List Int×List Qd×List Int :=
 if lf (Qbn p T) i then (s.1++[i],s.2.1++[ati (Qqd p (Qbn p T)) i],s.2.2.1,if Qop p (Qbn p T) i then s.2.2.2++[i] else s.2.2.2) else (s.1,s.2.1,s.2.2.1++[at0 zR (Qvv p T) i],s.2.2.2)
theorem Qba8 {p:Qb} {T:List Qd}:∀ {l:List Int} {s:List Int×List Int×List Qd×List Int},l.foldl (Qtp p T) s =
  (s.1++l.filter (lf (Qbn p T)),s.2.1++(l.filter (lf (Qbn p T))).map (ati (Qqd p (Qbn p T))),s.2.2.1++l.filterMap (remF p T),s.2.2.2++l.filter fun i=>lf (Qbn p T) i&&Qop p (Qbn p T) i)
 | [],s=>by simp
 | x::l,s=>by
  rw [List.foldl_cons,Qba8 (l:=l)];unfold Qtp;cases h:lf (Qbn p T) x with
  | true =>
   cases h2:Qop p (Qbn p T) x<;>simp [List.filter_cons,List.filterMap_cons,h,h2,remF]
  | false=>simp [List.filter_cons,List.filterMap_cons,h,remF]
theorem Qbjq {p:Qb} {T:List Qd} {s:List Int×List Int×List Qd×List Int} {i:Int} {n:Nat} (h:s.1.length≤n∧s.2.1.length≤n∧s.2.2.1.length≤n∧s.2.2.2.length≤n) :
  (Qtp p T s i).1.length≤n+1∧(Qtp p T s i).2.1.length≤n+1∧(Qtp p T s i).2.2.1.length≤n+1∧(Qtp p T s i).2.2.2.length≤n+1:=by
 unfold Qtp;split
 ·refine ⟨?_,?_,?_,?_⟩
  ·simp;omega
  ·simp;omega
  ·simp;omega
  ·dsimp only;split
   ·simp;omega
   ·omega
 ·simp;omega
section
variable {p:Qb} (hp:RightP p)
include hp
theorem Q6b:Qdx p=some (resP p (solP p).1 (solP p).2,0):=by
 unfold Qdx Q0;obtain ⟨fuel,hfu,hge⟩ : ∃ f,Qbb=f∧1099511627776≤f:=⟨_,rfl,Nat.le_refl _⟩;rw [hfu];have hst:=hp.a.st;have hnS:nS p≤4096:=by unfold nS;omega
 have hpl:=hp.small;have hfl:=hp.fo.small hst.2;have hT0:=Qbfd hp;rw [Q57 hpl,Qbb7.2 hp,Option.bind_some,if_neg (by simp),Qbg5 hp,Option.bind_some];rw [show (tsk p (Qbn p (T0 p))).left_=Qbn p (T0 p) from rfl,show (tsk p (Qbn p (T0 p))).zT=p from rfl,show (tsk p (Qbn p (T0 p))).from_=Qz9 p from rfl,Qh5];rw [show mkO ((nS p:Nat):Int) (Qd.mk 0 0 0 0)=some (List.replicate (nS p) zR) from by unfold mkO lim;rw [if_pos (by omega),Int.toNat_natCast]];rw [Option.bind_some];refine Option.bind_eq_some_iff.2 ⟨(r0 p,Qvv p (T0 p)),?_,?_⟩
 ·refine (Qc6 (l:=p.zD) (fun i (s:Int×List Qd)=>(i,s.1,s.2)) (fun s x=>(1,s.2.set x.toNat ⟨x,1,1,-1⟩)) (fun _ s=>s.2.length=nS p) (fun s=>some s) hpl.2.1 hge (fun k n s hn hs=>?_) (fun n s hn hs=>by simp only [List.length_set];exact hs) (fun k s hs=>?_) (s0:=((0:Int),List.replicate (nS p) zR)) (by simp)).trans ?_
  ·have hr:=hp.fo.rg _ (List.getElem_mem hn);have hs:s.2.length=nS p:=hs;unfold nS at hs hnS ⊢;dsimp only;rw [if_pos (by omega),Qx hn,Option.bind_some,Int.toNat_natCast,Qkf hr.1 (by omega),Option.bind_some,Qkm hr.1 (by omega),Option.bind_some]
  ·dsimp only;rw [if_neg (by omega)]
  ·have e1:p.zD.foldl (fun (s:Int×List Qd) x=>((1:Int),s.2.set x.toNat (⟨x,1,1,-1⟩ : Qd))) (0,List.replicate (nS p) zR)=(p.zD.foldl (fun (_:Int) _=>(1:Int)) 0,p.zD.foldl (fun (c:List Qd) x=>c.set x.toNat ⟨x,1,1,-1⟩) (List.replicate (nS p) zR)):=Qvw (f:=fun _ _=>(1:Int)) (g:=fun (c:List Qd) (x:Int)=>c.set x.toNat ⟨x,1,1,-1⟩);rw [e1];congr 2
   ·unfold r0;cases p.zD with
    | nil=>rfl
    | cons x l =>
     rw [if_neg (by simp),List.foldl_cons];have:∀ l:List Int,l.foldl (fun (_:Int) _=>(1:Int)) 1=1:=fun l=>by induction l with|nil=>rfl|cons y l ih=>rw [List.foldl_cons,ih]
     exact this l
   ·unfold Qvv T0;rw [List.foldl_map]
 dsimp only;have hS:=Qbcb hp hge (S:=solP p) (f:=nS p+1) rfl (by omega);have hSok:Okt p (solP p).1:=by
  have:∀ (f:Nat) (rank:Int) (T:List Qd) (r:Int),1≤rank→Okt p T→Okt p (Qqe p f rank T r).1:=by
   intro f
   induction f with
   | zero=>intro rank T r _ h;exact h
   | succ f ih =>
    intro rank T r hr h;rw [Qqe];split
    ·exact h
    ·exact ih _ _ _ (by omega) (h.round hr)
  exact this _ _ _ _ (by omega) hT0
 generalize solP p=S at hS hSok ⊢;obtain ⟨T,r⟩:=S;dsimp only at hS hSok ⊢;refine Option.bind_eq_some_iff.2 ⟨_,hS,?_⟩;dsimp only;have hlL:=Qh5 p T;have hD:=(Qpa hp (Qbn p T)).ln;rw [Qof hlL];simp only [Option.bind_some];rw [show Qg.mk p (Qz9 p) (Qbn p T)=tsk p (Qbn p T) from rfl,Q0s hp hlL,Option.bind_some,Qbk0 hp hlL];refine Option.bind_eq_some_iff.2 ⟨([],[],[],[],[],[],[],[],(resP p T r).zG.Kept,(resP p T r).zG.zH,(resP p T r).zG.zJ,[],[],[],[],(resP p T r).zN),?_,rfl⟩;refine (Qc6 (l:=upto p.zB.zS) (fun i (s:List Int×List Int×List Qd×List Int)=>(i,[],[],[],[],[],[],[],[],s.1,s.2.1,s.2.2.1,[],[],[],[],s.2.2.2)) (Qtp p T) (fun n s=>s.1.length≤n∧s.2.1.length≤n∧s.2.2.1.length≤n∧s.2.2.2.length≤n) (fun s=>some ([],[],[],[],[],[],[],[],s.1,s.2.1,s.2.2.1,[],[],[],[],s.2.2.2)) (by rw [Qbm];unfold big;omega) hge (fun k n s hn hs=>?_) (fun n s hn hs=>Qbjq hs) (fun k s hs=>?_) (s0:=([],[],[],[])) (by simp)).trans ?_
 ·have hn':=Qiy hn;obtain ⟨a1,a2,a3,a4⟩:=hs;have hx:0≤(n:Int)∧(n:Int)<p.zB.zS:=⟨by omega,by omega⟩;have hlt:∀ {l:List Int} {x:Int},l.length≤n→appO l [x]=some (l++[x]):=fun h=>Q3 (by simp only [List.length_cons,List.length_nil];unfold lim;omega);have hlr:∀ {l:List Qd} {x:Qd},l.length≤n→appO l [x]=some (l++[x]):=fun h=>Q3 (by simp only [List.length_cons,List.length_nil];unfold lim;omega);dsimp only;rw [Qkb hn,if_pos (by omega),Ql3 (d:=0) (l:=Qqd p (Qbn p T)) hx.1 (by omega),Option.bind_some];have hla:=Qhk hlL hx;rw [hlL] at hla;simp only [hla,Option.bind_some];unfold Qtp;cases hq:lf (Qbn p T) (n:Int) with
  | true =>
   simp only [if_true];rw [hlt a1,Option.bind_some,hlt a2,Option.bind_some,(Q0a hx).1,Option.bind_some,(Q0a hx).2,Option.bind_some];rw [Qvu (p:=fun y=>(y.Event==p.Tick) && !lf (Qbn p T) y.To) (fun y hy=>by
    have h1:=Qhk hlL (Qto hp y hy).1;unfold Qf9 Qbp;rw [show (tsk p (Qbn p T)).left_=Qbn p T from rfl];simp only [h1,Option.bind_some];cases hq:y.Event==p.Tick<;>simp) (Qy6 hp _),Option.bind_some,hlt a4]
   show ((if Qop p (Qbn p T) (n:Int)=true then _ else _:Option _).bind _)=_;cases Qop p (Qbn p T) (n:Int)<;>rfl
  | false =>
   simp only [Bool.false_eq_true,if_false];rw [Int.toNat_natCast,Qkf hx.1 (by unfold nS;omega),Option.bind_some,Ql3 (d:=zR) (l:=Qvv p T) hx.1 (by rw [Q8f];unfold nS;omega),Option.bind_some,hlr a3]
   rfl
 ·dsimp only;rw [Qbm,if_neg (by omega)]
 ·rw [Qba8];simp only [List.nil_append]
  rfl
end
end Go.Abs
end
section
namespace Go.Abs
open Go
theorem Qx0 {α β:Type} {c:α→Bool} {g:α→β}:∀ {l:List α} {acc:List β},l.foldl (fun acc x=>if c x then acc++[g x] else acc) acc=acc++(l.filter c).map g
 | [],acc=>by simp
 | x::l,acc=>by
  rw [List.foldl_cons,Qx0 (l:=l)];cases h:c x<;>simp [List.filter_cons,h]
section
variable {p:Qb} (hp:RightP p) {T:List Qd} (hT:Okt p T) (r:Int)
include hp
include hT
end
end Go.Abs
end
section
namespace Go.Abs
open Go
structure Q6c (k:Qba):Prop where
 ev:0≤k.Part.Events∧k.Part.Events<256
 gr:Qbew k.Part.Graph
 fo:0≤k.zD∧k.zD<256
 un:0≤k.zC∧k.zC<256
 fc:0≤k.zF∧k.zF<256
def evB4 (s:Nat):Bool:=match Qb3 (andI .u8 (s:Int) 15) with
 | some l=>Qbev l&&l.all fun x=>decide (0≤x)&&decide (x<4)
 | none=>false
theorem Qbg6:(List.range 256).all evB4=true:=by kernel_rfl
theorem Q4r {s:Int} (h0:0≤s) (h1:s<256):∃ l,Qb3 (andI .u8 s 15)=some l∧SetP 32 l∧(4:Int)∉l∧l.length≤4∧∀ x∈l,x<4:=by
 have:=List.all_eq_true.1 Qbg6 s.toNat (List.mem_range.2 (by omega));unfold evB4 at this;rw [show ((s.toNat:Nat):Int)=s from by omega] at this;split at this
 ·rename_i l hl;simp only [Bool.and_eq_true,List.all_eq_true,decide_eq_true_eq] at this;have hso:=Q26 this.1;refine ⟨l,hl,⟨fun x hx=>?_,hso⟩,fun hx=>?_,?_,fun x hx=>(this.2 x hx).2⟩
  ·have:=this.2 x hx;omega
  ·have:=this.2 4 hx;omega
  ·have:=Qh4 hso this.2;omega
 ·cases this
def bitP (s i:Int):Bool:=andI .u8 (s.fdiv (2 ^ (min (Int.toNat i) (IntKind.bits .u8)))) 1==1
theorem Q9k {k:Qba} (hk:Q6c k):∃ p,Qgc k=some p∧RightP p∧p.Tick=4∧p.zB.zS≤5∧(∀ x∈p.zB.zO,x<5)∧(∀ x∈p.zC,x<4)∧∀ x∈p.zF,x<4:=by
 unfold Qgc Qcw;obtain ⟨fuel,hfu,hge⟩ : ∃ f,Qbb=f∧1099511627776≤f:=⟨_,rfl,Nat.le_refl _⟩;obtain ⟨ev,hE,hev⟩:=Q7y hk.ev.1 hk.ev.2;obtain ⟨m,hm,hmal,hM,hm5⟩:=Qbex hev hk.gr;obtain ⟨un,hU,hun,hu4,_,hulb⟩:=Q4r hk.un.1 hk.un.2;obtain ⟨fc,hF,hfc,hf4,_,hflb⟩:=Q4r hk.fc.1 hk.fc.2;have ha:=Q7u hm;have hal5:∀ x∈(Qt0 m).zO,x<5:=fun x hx=>by
  rw [show (Qt0 m).zO=m.zO from rfl,hmal] at hx;exact (hev.rg x hx).2
 have h5:(Qt0 m).zS≤5:=by
  have:=(Qz7 hm).1.len;show ((Qq2 m).length:Int)≤5;omega
 generalize Qt0 m=a at ha hM h5 hal5;have hst:=ha.st;rw [hfu];refine ⟨⟨a,(upto a.zS).filter (bitP k.zD),un,fc,4⟩,Option.bind_eq_some_iff.2 ⟨ev,hE,Option.bind_eq_some_iff.2 ⟨a,hM,Option.bind_eq_some_iff.2 ⟨un,hU,Option.bind_eq_some_iff.2 ⟨fc,hF,?_⟩⟩⟩⟩,⟨ha,⟨fun x hx=>?_,(Qn1 _).filter _⟩,hun,hfc,by simp only;omega,hu4,hf4⟩,rfl,h5,hal5,hulb,hflb⟩
 ·refine Option.bind_eq_some_iff.2 ⟨([],[],[],[],[],[],(upto a.zS).filter (bitP k.zD)),?_,rfl⟩;refine (Qc6 (l:=upto a.zS) (fun i (acc:List Int)=>(i,[],[],[],[],[],[],acc)) (fun acc i=>if bitP k.zD i then acc++[i] else acc) (fun n acc=>acc.length≤n) (fun acc=>some ([],[],[],[],[],[],acc)) (by rw [Qbm];unfold big;omega) hge (fun k' n acc hn ha'=>?_) (fun n acc hn ha'=>by split<;>first|(simp only [List.length_append,List.length_cons,List.length_nil];omega)|omega) (fun k' acc ha'=>?_) (s0:=[]) (by simp)).trans ?_
  ·have hn':=Qiy hn;dsimp only;rw [Qkb hn,if_pos (by omega)];rw [show shrO .u8 k.zD (n:Int)=some (k.zD.fdiv (2 ^ (min (Int.toNat (n:Int)) (IntKind.bits .u8)))) from by unfold shrO;rw [if_neg (by omega)]];rw [Option.bind_some,Q3 (by simp only [List.length_cons,List.length_nil];unfold lim;omega)];show ((if bitP k.zD (n:Int)=true then _ else _:Option _).bind _)=_;cases bitP k.zD (n:Int)<;>rfl
  ·dsimp only;rw [Qbm,if_neg (by omega)]
  ·have:=Qx0 (c:=bitP k.zD) (g:=id) (l:=upto a.zS) (acc:=([]:List Int));rw [List.map_id,List.nil_append] at this;exact congrArg (fun z=>some (([]:List Int),([]:List Int),([]:List Qc),([]:List Int),([]:List Int),([]:List Int),z)) this
 ·exact Qim.1 (List.mem_filter.1 hx).1
section
variable {p:Qb} (hp:RightP p)
include hp
end
end Go.Abs
end
section
namespace Go.Abs
open Go
theorem Qbg7 {l m:List Int} (hl:l.Pairwise (· < ·)) (hm:m.Pairwise (· < ·)) (h1:l.length<big) (h2:m.length<1000000):Qkv l m=some (l.filter fun x=>decide (x∉m)):=by
 unfold Qkv Qe3 Qga Qbf;obtain ⟨fuel,hfu,hge⟩ : ∃ f,Qbb=f∧1099511627776≤f:=⟨_,rfl,Nat.le_refl _⟩;rw [hfu];have hg:∀ (x:Int) (l:List Int),getO (x::l) 0=some x:=fun x l=>Qx (l:=x::l) (n:=0) (by simp);have hd:∀ (x:Int) (l:List Int),slcO (x::l) 1 ((x::l).length:Int)=some l:=fun x l=>by
  grind [Q5v,List.take_length]
 have hk:∀ p q,Qlz p q=some (p && !q):=fun p q=>by cases p<;>cases q<;>rfl
 rw [Qv7 (fun x:List Int×List Int×List Int=>x.1.Pairwise (· < ·)∧x.2.1.Pairwise (· < ·)∧x.2.2.length+x.1.length<big∧x.2.2++x.1.filter (fun z=>decide (z∉x.2.1))=l.filter fun z=>decide (z∉m)) (fun x=>x.1.length+x.2.1.length) (some (l.filter fun z=>decide (z∉m))) ⟨hl,hm,by simpa using h1,by simp⟩ (by grind) ?_]
 ·rfl
 rintro k ⟨a,b,out⟩ ⟨ha,hb,ho,he⟩ ih;dsimp only at ha hb ho he ih ⊢
 match a,b with
 | [],[]=>simpa using he
 | [],y::ys =>
  simp_all
 | x::xs,[] =>
  rw [show ((([]:List Int).length:Nat):Int)=0 from rfl];have hp:(((x::xs).length:Nat):Int)>0:=by grind
  rw [if_pos hp,Option.bind_some,if_pos rfl,if_pos hp,if_pos (by rfl),Option.bind_some,if_neg (by omega),Option.bind_some,if_pos rfl,hg,hd];simp only [Option.bind_some,hk,Bool.true_and,Bool.not_false,Bool.false_eq_true,if_false,if_true];simp only [List.length_cons] at ho;rw [Q3 (by simp only [List.length_cons,List.length_nil];unfold lim;unfold big at ho;omega),Option.bind_some]
  grind
 | x::xs,y::ys =>
  obtain ⟨ha1,ha2⟩:=List.pairwise_cons.1 ha;obtain ⟨hb1,hb2⟩:=List.pairwise_cons.1 hb;have hp:(((x::xs).length:Nat):Int)>0:=by grind
  have hq:(((y::ys).length:Nat):Int)>0:=by grind
  have hp0:((((x::xs).length:Nat):Int)==0)=false:=by grind
  have hq0:((((y::ys).length:Nat):Int)==0)=false:=by grind
  rw [if_pos hp,Option.bind_some,if_pos rfl,if_pos hp,if_neg (by rw [hq0];simp),hg,hg,Option.bind_some,Option.bind_some,Option.bind_some,if_pos hq,if_neg (by rw [hp0];simp),Option.bind_some,Option.bind_some,Option.bind_some,hd,hd];simp only [List.length_cons] at ho;rcases Int.lt_trichotomy x y with hxy|rfl|hxy
  ·have e1:decide (x≤y)=true:=decide_eq_true (by omega);have e2:decide (y≤x)=false:=decide_eq_false (by omega);simp only [e1,e2,Option.bind_some,hk,Bool.not_false,Bool.true_and,if_true,Bool.false_eq_true,if_false];rw [Q3 (by simp only [List.length_cons,List.length_nil];unfold lim;unfold big at ho;omega),Option.bind_some]
   grind
  ·have e1:decide (x≤x)=true:=decide_eq_true (by omega);simp only [e1,Option.bind_some,hk,Bool.not_true,Bool.and_false,if_true,Bool.false_eq_true,if_false]
   grind [List.filter_cons_of_neg,List.filter_congr]
  ·have e1:decide (x≤y)=false:=decide_eq_false (by omega);have e2:decide (y≤x)=true:=decide_eq_true (by omega);simp only [e1,e2,Option.bind_some,hk,Bool.false_and,if_true,Bool.false_eq_true,if_false];refine ih (x::xs,ys,out) ⟨ha,hb2,by grind,?_⟩ (by simp);rw [← he];congr 1;refine List.filter_congr fun z hz=>?_
   grind
theorem Qbff {l m:List Int} (hl:l.Pairwise (· < ·)) (hm:m.Pairwise (· < ·)) (h1:l.length<big) (h2:m.length<1000000):Qh2 l m=some (decide (∀ x∈l,x∈m)):=by
 unfold Qh2 Qek;rw [Qbg7 hl hm h1 h2,Option.bind_some];congr 1;rw [Bool.eq_iff_iff]
 simp_all
def okS (p:Qb) (L:List Bool) (i:Int):Bool:=((escP p L i).1==0)&&(!decide (i∈p.zD)&&decide (0≤ati (Qqd p L) i))
section
variable {p:Qb} (hp:RightP p)
include hp
theorem Q4s:∀ {f:Nat} {rank:Int} {T:List Qd} {r:Int},Okt p T→nS p+1≤f+T.length→1≤rank→Okt p (Qqe p f rank T r).1∧(∃ rk,Qic p (Qbn p (Qqe p f rank T r).1) rk=[])∧T <+: (Qqe p f rank T r).1
 | 0,rank,T,r,hT,hf,_=>absurd hT.len (by omega)
 | f+1,rank,T,r,hT,hf,hr=>by
  rw [Qqe];split
  ·rename_i he;exact ⟨hT,⟨rank,he⟩,List.prefix_refl _⟩
  ·rename_i he;have hpos:0<(Qic p (Qbn p T) rank).length:=List.length_pos_iff.2 he;obtain ⟨h1,h2,h3⟩:=Q4s (f:=f) (rank:=rank+1) (T:=T++Qic p (Qbn p T) rank) (r:=rank) (hT.round hr) (by rw [List.length_append];omega) (by omega);exact ⟨h1,h2,List.IsPrefix.trans (List.prefix_append _ _) h3⟩
theorem Q6d:Okt p (solP p).1∧(∃ rk,Qic p (Qbn p (solP p).1) rk=[])∧T0 p <+: (solP p).1:=Q4s hp (Qbfd hp) (by omega) (by omega)
theorem Qba9 {i:Int} (h0:0≤i) (h1:i<p.zB.zS) (hl:lf (Qbn p (solP p).1) i=true):okS p (Qbn p (solP p).1) i=true:=by
 obtain ⟨hT,⟨rk,hrk⟩,hpre⟩:=Q6d hp;generalize (solP p).1=T at hT hrk hpre hl ⊢;have hfor:i∉p.zD:=fun hm=>by
  have:(⟨i,1,1,-1⟩ : Qd)∈T:=hpre.subset (List.mem_map.2 ⟨i,hm,rfl⟩);rw [Q1d hT.rg h0 h1] at hl
  grind
 unfold Qic at hrk;split at hrk
 ·grind
 ·rename_i hE;have hE' : Qt1 p (Qbn p T) rk=[]:=List.eq_nil_of_length_eq_zero (by omega);have e1:=List.filterMap_eq_nil_iff.1 hE' i (Qim.2 ⟨h0,h1⟩);have e2:=List.filterMap_eq_nil_iff.1 hrk i (Qim.2 ⟨h0,h1⟩);unfold remE at e1;unfold remB at e2;rw [hl] at e1 e2;unfold okS
  grind
end
end Go.Abs
end
section
namespace Go.Abs
open Go
def evn (x:Int):Bool:=decide (0≤x)&&decide (x<32)
theorem Q1g (x:Int):Qdk x=some (evn x):=by
 unfold Qdk Qp evn;by_cases h:0≤x
 ·rw [if_pos (by omega)];simp [h]
 ·rw [if_neg (by omega)];simp [h]
def evs (F T K:Int):List Int:=(upto 32).filter fun v=>v==F||(v==T||v==K)
theorem Qza {α β:Type} {f:α→List β}:∀ {l:List α} {acc:List β},l.foldl (fun acc x=>acc++f x) acc=acc++l.flatMap f
 | [],acc=>by simp
 | x::l,acc=>by rw [List.foldl_cons,Qza,List.flatMap_cons,List.append_assoc]
section
variable {F T K:Int} (hF:evn F=true) (hT:evn T=true) (hK:evn K=true) (h1:F≠T) (h2:F≠K) (h3:T≠K)
include hF hT hK h1 h2 h3
theorem Qbba:Qbek [F,T,K]=some (evs F T K):=by
 unfold Qbek;rw [if_pos (by unfold lim;simp)];congr 1;have hp:=Qj1 Qhd [F,T,K];have hs:=Qly (lt:=Qhd) ⟨fun a=>by simp [Qhd],fun a b c h k=>by simp [Qhd] at *;omega,fun a b c h k=>by simp [Qhd] at *;omega⟩ [F,T,K];have hn:(Qla Qhd [F,T,K]).Nodup:=hp.nodup_iff.2 (by simp [h1,h2,h3]);refine Qz5 ?_ ((Qn1 _).filter _) fun x=>?_
 ·refine (hs.and hn).imp fun {a b} h=>?_;have h4:=h.1;have h5:=h.2;simp [Qhd] at h4;omega
 ·rw [hp.mem_iff];unfold evs;unfold evn at hF hT hK;simp only [Bool.and_eq_true,decide_eq_true_eq] at hF hT hK;simp only [List.mem_cons,List.not_mem_nil,or_false,List.mem_filter,Qim,Bool.or_eq_true,beq_iff_eq];constructor
  ·rintro (rfl|rfl|rfl)
   ·exact ⟨by omega,.inl rfl⟩
   ·exact ⟨by omega,.inr (.inl rfl)⟩
   ·exact ⟨by omega,.inr (.inr rfl)⟩
  ·exact fun h=>h.2
theorem Qbjr:(evs F T K).length=3:=by
 have:=Qbba hF hT hK h1 h2 h3;unfold Qbek at this;rw [if_pos (by unfold lim;simp)] at this;have h:=Qlx Qhd [F,T,K];rw [Option.some.inj this] at h;exact h
end
def Q8g (nx:Int→Int→Int) (s e:Int):Option Qc:=if nx s e ≠ -1 then some ⟨s,e,nx s e⟩ else none
def Qbbb (ev:List Int) (n:Int) (ms:List Int) (nx:Int→Int→Int):Qa:=⟨ev,n+2,ms,(upto (n+2)).flatMap fun s=>ev.filterMap (Q8g nx s)⟩
def nxt (F:Int) (lead:Int→Int→Int) (s e:Int):Int:=if s=0 then (if e=F then 1 else 0) else lead s e
theorem Qbfg {α β:Type} {fuel:Nat} (hge:1099511627776≤fuel) {l:List α} {f:α→Option β} (hl:l.length<big) {X R:Type} {G:(X→Option R)→X→Option R} (mk:Int→List β→X) (K:List β→Option R) (B:Nat) (hB:B≤1000000000)
  (step:∀ (k:X→Option R) (n:Nat) (acc:List β) (h:n<l.length),acc.length≤B+n→G k (mk n acc)=k (mk (IntKind.wrap .i64 ((n:Int)+1)) (acc++(f l[n]).toList)))
  (last:∀ (k:X→Option R) (acc:List β),G k (mk l.length acc)=K acc) {acc:List β} (ha:acc.length≤B):Qbi G fuel (mk 0 acc)=K (acc++l.filterMap f):=by
 refine (Qc6 (l:=l) mk (fun acc x=>acc++(f x).toList) (fun n acc=>acc.length≤B+n) K hl hge (fun k n s hn hs=>step k n s hn hs) (fun n s hn hs=>?_) (fun k s hs=>last k s) (s0:=acc) (by simpa using ha)).trans ?_
 ·rw [List.length_append];have:(f l[n]).toList.length≤1:=by cases f l[n]<;>simp
  omega
 ·congr 1;rw [Qza];congr 1;clear ha step last
  induction l with
  | nil=>rfl
  | cons x l ih =>
   rw [List.flatMap_cons,List.filterMap_cons];have hl' : l.length<big:=by simp only [List.length_cons] at hl;omega
   cases f x with
   | none=>simpa using ih hl'
   | some y=>simpa using ih hl'
section
variable {F T K n:Int} (hF:evn F=true) (hT:evn T=true) (hK:evn K=true) (h1:F≠T) (h2:F≠K) (h3:T≠K) (hn:0≤n∧n≤16)
include hF hT hK h1 h2 h3 hn
theorem Qbg8 {marked:Bool} {lead:Int→Int→Option Int} {leadP:Int→Int→Int} (hlead:∀ s e,0≤s→s<n+2→lead s e=some (leadP s e)) :
  Qg1 F T n K marked lead=some (Qbbb (evs F T K) n (if marked then upto (n+2) else [0]) (nxt F leadP),0):=by
 unfold Qg1 Qcs;obtain ⟨fuel,hfu,hge⟩ : ∃ f,Qbb=f∧1099511627776≤f:=⟨_,rfl,Nat.le_refl _⟩;have hlen:=Qbjr hF hT hK h1 h2 h3;rw [hfu,Q1g,Q1g,Q1g,hF,hT,hK,Qbba hF hT hK h1 h2 h3];have b1:(F==T)=false:=by simpa using h1
 have b2:(F==K)=false:=by simpa using h2
 have b3:(T==K)=false:=by simpa using h3
 simp only [Option.bind_some,if_true,Bool.not_true,Bool.false_eq_true,if_false,b1,b2,b3];rw [if_neg (show ¬ n<0 by omega),Option.bind_some,if_neg (show ¬ decide (n>16)=true by simp;omega),Qof hlen];have hw:IntKind.wrap .i64 (n+2)=n+2:=Qh3 (by omega) (by omega);rw [hw];generalize hev:evs F T K=ev at hlen;have hms:(upto (n+2)).filter (fun s=>s==0||marked)=if marked then upto (n+2) else [0]:=by
  cases marked with
  | true=>simp
  | false =>
   simp only [Bool.or_false,Bool.false_eq_true,if_false];refine Qz5 ((Qn1 _).filter _) (by simp) fun x=>?_;simp only [List.mem_filter,Qim,beq_iff_eq,List.mem_singleton];omega
 refine Option.bind_eq_some_iff.2 ⟨([],[],[],n+2,(upto (n+2)).filter (fun s=>s==0||marked),(upto (n+2)).flatMap fun s=>ev.filterMap (Q8g (nxt F leadP) s)),?_,by dsimp only;rw [Option.bind_some,hms];rfl⟩;have hul:(upto (n+2)).length=(n+2).toNat:=Qbm _;refine (Qc6 (l:=upto (n+2)) (fun i (s:List Int×List Qc)=>(n+2,i,[],[],[],n+2,s.1,s.2)) (fun s x=>((if x==0||marked then s.1++[x] else s.1),s.2++ev.filterMap (Q8g (nxt F leadP) x))) (fun m s=>s.1.length≤m∧s.2.length≤3*m) (fun s=>some ([],[],[],n+2,s.1,s.2)) (by unfold big;omega) hge (fun k m s hm hs=>?_) (fun m s hm hs=>?_) (fun k s hs=>?_) (s0:=([],[])) (by simp)).trans ?_
 ·have hm':=Qiy hm;obtain ⟨a1,a2⟩:=hs;dsimp only;rw [Qkb hm,if_pos (by omega)];have hmk:(((if ((m:Int)==0) then some true else some marked)).bind fun (x47:Bool)=>(if x47 then ((appO s.1 [(m:Int)]).bind fun x49=>some x49) else some s.1))=some (if (m:Int)==0||marked then s.1++[(m:Int)] else s.1):=by
   rw [Q3 (by simp only [List.length_cons,List.length_nil];unfold lim;omega)];cases (m:Int)==0<;>cases marked<;>rfl
  rw [hmk,Option.bind_some];generalize (if (m:Int)==0||marked then s.1++[(m:Int)] else s.1)=ms;refine Q51 (P:=fun v=>v=(ms,s.2++ev.filterMap (Q8g (nxt F leadP) (m:Int)))) ⟨_,?_,rfl⟩ (fun v hv=>by subst hv;rfl);refine Qbfg hge (l:=ev) (f:=Q8g (nxt F leadP) (m:Int)) (by unfold big;omega) (fun i acc=>(i,acc)) (fun acc=>some (ms,acc)) 200 (by omega) (fun k j acc hj ha=>?_) (fun k acc=>?_) (by omega)
  ·dsimp only;rw [if_pos (by omega),Qkf (by omega) (by omega),Qx hj];simp only [Option.bind_some,hlead (m:Int) ev[j] (by omega) (by omega)];have hnx:(if ((m:Int)==0) then (if (ev[j]==F) then some (1:Int) else some 0) else some (leadP (m:Int) ev[j]))=some (nxt F leadP (m:Int) ev[j]):=by
    unfold nxt;by_cases q1:(m:Int)=0
    ·by_cases q2:ev[j]=F<;>simp [q1,q2]
    ·have q1' : ¬ m=0:=by omega
     simp [q1']
   rw [hnx,Option.bind_some,Q3 (by simp only [List.length_cons,List.length_nil];unfold lim;omega)];unfold Q8g;by_cases q:nxt F leadP (m:Int) ev[j] = -1<;>simp [q]
  ·dsimp only;rw [hlen,if_neg (by omega)]
 ·obtain ⟨a1,a2⟩:=hs;have:=List.length_filterMap_le (Q8g (nxt F leadP) (upto (n+2))[m]) ev;refine ⟨?_,by dsimp only;rw [List.length_append];omega⟩;dsimp only;split<;>first|(simp only [List.length_append,List.length_cons,List.length_nil];omega)|omega
 ·dsimp only;rw [hul,if_neg (by omega)]
 ·have e1:=Qvw (f:=fun (c:List Int) (x:Int)=>if x==0||marked then c++[x] else c) (g:=fun (c:List Qc) (x:Int)=>c++ev.filterMap (Q8g (nxt F leadP) x)) (l:=upto (n+2)) (a:=[]) (b:=[]);rw [e1,Qza];have e2:=Qx0 (c:=fun x:Int=>x==0||marked) (g:=id) (l:=upto (n+2)) (acc:=[]);rw [List.map_id,List.nil_append] at e2;have e3:(upto (n+2)).foldl (fun (c:List Int) (x:Int)=>if x==0||marked then c++[x] else c) []=(upto (n+2)).filter (fun x=>x==0||marked):=e2;rw [e3];rfl
end
end Go.Abs
end
section
namespace Go.Abs
open Go
def Qbfh (F T n s e:Int):Int:=if e=F then s else if e=T then 0 else if s≤n then s+1 else -1
section
variable {F T K n:Int} (hF:evn F=true) (hT:evn T=true) (hK:evn K=true) (h1:F≠T) (h2:F≠K) (h3:T≠K) (hn:0≤n∧n≤16)
include hF hT hK h1 h2 h3 hn
theorem Q9l:Qeb F T n K=some (Qbbb (evs F T K) n [0] (nxt F (Qbfh F T n)),0):=by
 unfold Qeb Q4;rw [Qbg8 hF hT hK h1 h2 h3 hn (leadP:=Qbfh F T n) (fun s e hs0 hs1=>by
  unfold Qgu Qbz Qbfh;rw [Qh3 (by omega) (by omega)];have hTF:¬ T=F:=fun e=>h1 e.symm;by_cases q1:e=F<;>by_cases q2:e=T<;>by_cases q3:s≤n<;>simp [q1,q2,q3,hTF])]
 rfl
end
end Go.Abs
end
section
namespace Go.Abs
open Go
theorem Qbbc {a:Qa} (h:Right a):Qg3 a=some (edM a):=by
 unfold Qg3 Qce;obtain ⟨fuel,hfu,hge⟩ : ∃ f,Qbb=f∧1099511627776≤f:=⟨_,rfl,Nat.le_refl _⟩;rw [hfu];have ha:=h.small;have key:∀ (G:(Int×List ((Int×Int)×Int)→Option (List ((Int×Int)×Int)))→Int×List ((Int×Int)×Int)→Option (List ((Int×Int)×Int))),(∀ k n c,(hn:n<a.zQ.length)→G k ((n:Int),c)=k (IntKind.wrap .i64 ((n:Int)+1),setM c (a.zQ[n].From,a.zQ[n].Event) a.zQ[n].To))→(∀ k c,G k ((a.zQ.length:Int),c)=some c)→Qbi G fuel (0,[])=some (edM a):=by
  intro G h1 h2;exact Qc6 (l:=a.zQ) (fun i (s:List ((Int×Int)×Int))=>(i,s)) (fun c x=>setM c (x.From,x.Event) x.To) (fun _ _=>True) (fun s=>some s) ha.1.2.2 hge (fun k m s hm _=>h1 k m s hm) (fun _ _ _ _=>trivial) (fun k s _=>h2 k s) (s0:=[]) trivial
 first
  | exact key _ (fun k n c hn=>by dsimp only;rw [if_pos (by omega),Qx hn,Option.bind_some]) (fun k c=>by dsimp only;rw [if_neg (by omega)])
  | (rw [key _ (fun k n c hn=>by dsimp only;rw [if_pos (by omega),Qx hn,Option.bind_some]) (fun k c=>by dsimp only;rw [if_neg (by omega)])];rfl)
def Qrr (p:Qa) (r:Qa):Bool:=!decide (∀ x∈r.zO,x∈p.zO)
def errD (unc:List Int) (tick:Int):Int:=if Qde 32 none unc≠0 then Qde 32 none unc else if evn tick then 0 else 2
def errC (p:Qa) (rs:List Qa) (unc:List Int) (tick:Int):Int:=if rs.any (Qrr p) then 9 else errD unc tick
def at1 (T:List (List Int)) (i:Int):Int:=((T.getD i.toNat []).getD 0 0)
def Q8h (p:Qa) (A:Qa) (T:List (List Int)) (unc:List Int) (tick:Int) (i x:Int):Option Qc :=
 if 0≤Qdl A i x then some ⟨i,x,Qdl A i x⟩ else if 0≤Qdl p (at1 T i) x∧(x=tick∨x∈unc) then some ⟨i,x,A.zS⟩ else none
def Qzb (p:Qa) (A:Qa) (T:List (List Int)) (unc:List Int) (tick:Int):List Qc:=(upto A.zS).flatMap fun i=>A.zO.filterMap (Q8h p A T unc tick i)
section
variable {p:Qa} {rs:List Qa} (h:Parts (p::rs)) {A:Qa} {T:List (List Int)} (hP:Prd (p::rs) A T) {unc:List Int} {tick:Int} (hu:unc.length≤1000)
include hP in
theorem Qbk1 {n:Nat} (hn:n<T.length):∃ t,getO T (n:Int)=some t∧getO t 0=some (at1 T (n:Int))∧0≤at1 T (n:Int)∧at1 T (n:Int)<p.zS:=by
 have ht:=hP.t _ (List.getElem_mem hn);refine ⟨T[n],Qx hn,?_⟩;have e:at1 T (n:Int)=T[n].getD 0 0:=by
  unfold at1;rw [Int.toNat_natCast,show T.getD n []=T[n] from by rw [List.getD_eq_getElem?_getD,List.getElem?_eq_getElem hn];rfl]
 rw [e];cases hq:T[n] with
 | nil=>rw [hq] at ht;exact ht.elim
 | cons x t=>rw [hq] at ht;exact ⟨rfl,ht.1.1,ht.1.2⟩
include h hP hu
theorem Q9m (hs:Qc5 (p::rs)=some (A,T,0)) (hg:rs.length<big):Qfo p rs unc tick=some (if errC p rs unc tick≠0 then (⟨[],0,[],[]⟩,[],errC p rs unc tick) else (⟨A.zO,A.zS+1,A.zP,Qzb p A T unc tick⟩,[A.zS],0)):=by
 unfold Qfo Qb9;obtain ⟨fuel,hfu,hge⟩ : ∃ f,Qbb=f∧1099511627776≤f:=⟨_,rfl,Nat.le_refl _⟩;have hn:=h.n;simp only [List.length_cons] at hn;have hp:=h.r p (by simp);have hAS:=hP.st;have hTn:=hP.n;have hAl:=Q56 hP.ev.so (hP.ev.rg h);rw [hfu,Q3 (by simp only [List.length_cons,List.length_nil];unfold lim;omega),Option.bind_some,show [p]++rs=p::rs from rfl,Qqc h,Option.bind_some,if_neg (by simp)];have hstr:∀ (n:Nat) (hn:n<rs.length),Qh2 rs[n].zO p.zO=some (!Qrr p rs[n]):=fun n hn=>by
  have hr:=h.r rs[n] (List.mem_cons_of_mem _ (List.getElem_mem hn));rw [Qbff hr.al hp.al hr.small.1.1 (by have:=hp.small.2.1;omega)];unfold Qrr;simp
 rw [Qsm (l:=rs) (fun i=>i) (Qrr p) (fun _=>some ((Qa.mk [] 0 [] []),[],9)) (some (if errD unc tick≠0 then (⟨[],0,[],[]⟩,[],errD unc tick) else (⟨A.zO,A.zS+1,A.zP,Qzb p A T unc tick⟩,[A.zS],0))) hg hge (fun k n hn'=>?_) (fun k=>?_)]
 ·unfold errC;cases hf:rs.find? (Qrr p) with
  | some x =>
   have:rs.any (Qrr p)=true:=List.any_eq_true.2 ⟨x,List.mem_of_find?_eq_some hf,List.find?_some hf⟩;rw [this];rfl
  | none =>
   have:rs.any (Qrr p)=false:=by
    rw [List.find?_eq_none] at hf;rw [List.any_eq_false];exact hf
   rw [this];rfl
 ·rw [if_pos (by omega),Qx hn',Option.bind_some,hstr n hn',Option.bind_some];cases Qrr p rs[n]<;>rfl
 ·rw [if_neg (by omega),Qm6 (by unfold big;omega),Option.bind_some];by_cases hle:Qde 32 none unc=0
  case neg =>
   have hD:errD unc tick=Qde 32 none unc:=by unfold errD;rw [if_pos hle]
   rw [if_pos (by simpa using hle),hD,if_pos hle]
  have hset:=Qky.1 hle;have hD:errD unc tick=if evn tick then 0 else 2:=by unfold errD;rw [if_neg (by simpa using hle)]
  rw [if_neg (by simpa using hle),hD,Q1g,Option.bind_some];cases hev:evn tick with
  | false=>rfl
  | true =>
   rw [if_pos rfl,if_pos rfl,if_neg (show ¬ ((0:Int)≠0) from by simp),hs,Option.bind_some];dsimp only;rw [if_neg (by simp),Option.bind_some,if_neg (by simp only [beq_iff_eq];omega),Qbbc hp,Option.bind_some,Qbbc hP.r,Option.bind_some,Qh3 (by omega) (by omega)];have hrow:∀ (n:Nat) (hn:n<T.length) (acc:List Qc),acc.length≤1000000→∀ t,getO T (n:Int)=some t→getO t 0=some (at1 T (n:Int)) →
     Qbi (fun k44 ((x42,a43):Int×(List Qc))=>(if (x42<(A.zO.length:Int)) then ((((getO A.zO x42).bind fun x46=>(if (hasM (edM A) ((n:Int),x46)) then ((appO a43 [(Qc.mk (n:Int) x46 (getM (edM A) ((n:Int),x46) 0))]).bind fun x49=>some x49) else ((getO t 0).bind fun x51=>(((if (hasM (edM p) (x51,x46)) then (if (x46==tick) then some true else ((Qbw unc x46).bind fun x56=>some x56)) else some false)).bind fun (x57:Bool)=>(if x57 then ((appO a43 [(Qc.mk (n:Int) x46 A.zS)]).bind fun x59=>some x59) else some a43)))))).bind fun (a61:List Qc)=>k44 ((IntKind.wrap .i64 (x42+1)),a61)) else some a43)) fuel (0,acc)=some (acc++A.zO.filterMap (Q8h p A T unc tick (n:Int))):=by
    intro n hn acc hacc t ht1 ht2;refine Qbfg hge (l:=A.zO) (f:=Q8h p A T unc tick (n:Int)) (by unfold big;omega) (fun i acc=>(i,acc)) (fun acc=>some acc) 1000000 (by omega) (fun k m acc hm hacc=>?_) (fun k acc=>?_) hacc
    ·dsimp only;rw [if_pos (by omega),Qx hm,Option.bind_some,Q9h hP.r];unfold Q8h;by_cases h0:0≤Qdl A (n:Int) A.zO[m]
     ·rw [decide_eq_true h0,if_pos rfl,if_pos h0,Qbe3 hP.r h0,Q3 (by simp only [List.length_cons,List.length_nil];unfold lim;omega)]
      rfl
     ·rw [decide_eq_false h0,if_neg (by simp),if_neg h0,ht2,Option.bind_some,Q9h hp];by_cases h1:0≤Qdl p (at1 T (n:Int)) A.zO[m]
      ·rw [decide_eq_true h1,if_pos rfl];by_cases h2:A.zO[m]=tick
       ·rw [if_pos (by simpa using h2),Option.bind_some,if_pos rfl,if_pos ⟨h1,.inl h2⟩,Q3 (by simp only [List.length_cons,List.length_nil];unfold lim;omega)]
        rfl
       ·rw [if_neg (by simpa using h2),Qcn hset.so (by unfold big;omega)];by_cases h3:A.zO[m]∈unc
        ·rw [decide_eq_true h3,if_pos ⟨h1,.inr h3⟩];show ((appO acc _).bind _).bind _=_;rw [Q3 (by simp only [List.length_cons,List.length_nil];unfold lim;omega)]
         rfl
        ·rw [decide_eq_false h3,if_neg (by simp [h2,h3])];simp
      ·rw [decide_eq_false h1,if_neg (by simp),if_neg (fun hc=>h1 hc.1)];simp
    ·dsimp only;rw [if_neg (by omega)]
   refine Option.bind_eq_some_iff.2 ⟨(A.zS+1,Qzb p A T unc tick),?_,rfl⟩;refine (Qc6 (l:=upto A.zS) (fun i (s:List Qc)=>(i,A.zS+1,s)) (fun s i=>s++A.zO.filterMap (Q8h p A T unc tick i)) (fun n s=>s.length≤32*n) (fun s=>some (A.zS+1,s)) (by rw [Qbm];unfold big;omega) hge (fun k n s hn hs=>?_) (fun n s hn hs=>?_) (fun k s hs=>?_) (s0:=[]) (by simp)).trans ?_
   ·have hn':=Qiy hn;have hnT:n<T.length:=by omega
    obtain ⟨t,ht1,ht2,ht3,ht4⟩:=Qbk1 hP hnT;dsimp only;rw [Qkb hn,if_pos (by omega),ht1,Option.bind_some,hrow n hnT s (by omega) t ht1 ht2,Option.bind_some]
   ·have:=List.length_filterMap_le (Q8h p A T unc tick (upto A.zS)[n]) A.zO;rw [List.length_append];omega
   ·dsimp only;rw [Qbm,if_neg (by omega)]
   ·rw [Qza,List.nil_append];rfl
end
end Go.Abs
end
section
namespace Go.Abs
open Go
def dkA (n:Int):Qa:=Qbbb (evs 0 1 4) n [0] (nxt 0 (Qbfh 0 1 n))
def updC (c e:Int):Int:=if e=0∧c<0 then 0 else if e=1 then -1 else if e=4∧c≥0 then c+1 else c
def dkB (n:Int):Bool:=decide (Qo7 (dkA n)=0)&&(decide ((dkA n).zO=[0,1,4])&&((upto (n+2)).all fun s=>[0,1,4].all fun e=>!decide (0≤Qdl (dkA n) s e)||decide (Qdl (dkA n) s e=updC (s-1) e+1)))
theorem Qbjs:(dkB 0&&(dkB 1&&dkB 2))=true:=by kernel_rfl
structure Dk (n:Int) (d:Qa):Prop where
 r:Right d
 st:d.zS=n+2
 al:d.zO=[0,1,4]
 up:∀ s e,0≤s→s<n+2→(e=0∨e=1∨e=4)→0≤Qdl d s e→Qdl d s e=updC (s-1) e+1
theorem Qblf {n:Int} (h:0≤n∧n<3):Dk n (dkA n):=by
 have hB:dkB n=true:=by
  have hb:=Qbjs;simp only [Bool.and_eq_true] at hb;have:n=0∨n=1∨n=2:=by omega
  rcases this with rfl|rfl|rfl
  ·exact hb.1
  ·exact hb.2.1
  ·exact hb.2.2
 unfold dkB at hB;simp only [Bool.and_eq_true,decide_eq_true_eq,List.all_eq_true] at hB;refine ⟨Qvq.1 hB.1,rfl,hB.2.1,fun s e h0 h1 he hs=>?_⟩;have:=hB.2.2 s (Qim.2 ⟨h0,h1⟩) e (by simp;omega);simpa [hs] using this
def cplA (p A:Qa) (T:List (List Int)) (unc:List Int) (tick:Int):Qa:=⟨A.zO,A.zS+1,A.zP,Qzb p A T unc tick⟩
section
variable {p A:Qa} {T:List (List Int)} {unc:List Int} {tick:Int}
theorem Qso {i e:Int} {x:Qc} (h:Q8h p A T unc tick i e=some x):x.From=i∧x.Event=e∧(x.To=A.zS∨(0≤Qdl A i e∧x.To=Qdl A i e)):=by
 unfold Q8h at h;split at h
 ·rename_i h0;cases h;exact ⟨rfl,rfl,.inr ⟨h0,rfl⟩⟩
 ·split at h
  ·cases h;exact ⟨rfl,rfl,.inl rfl⟩
  ·cases h
theorem Q4t {x:Qc} (h:x∈Qzb p A T unc tick):(0≤x.From∧x.From<A.zS)∧x.Event∈A.zO∧(x.To=A.zS∨(0≤Qdl A x.From x.Event∧x.To=Qdl A x.From x.Event)):=by
 unfold Qzb at h;obtain ⟨i,hi,h⟩:=List.mem_flatMap.1 h;obtain ⟨e,he,h⟩:=List.mem_filterMap.1 h;obtain ⟨rfl,rfl,h3⟩:=Qso h;exact ⟨Qim.1 hi,he,h3⟩
theorem Qbfi (hA:Right A) (hn:A.zS≤4000):Right (cplA p A T unc tick) where
 al0:=hA.al0
 al:=hA.al
 st:=⟨by have:=hA.st;unfold cplA;dsimp only;omega,by unfold cplA;dsimp only;omega⟩
 ma0:=fun x hx=>by have:=hA.ma0 x hx;unfold cplA;dsimp only;omega
 ma:=hA.ma
 ed0:=fun x hx=>by
  obtain ⟨h1,h2,h3⟩:=Q4t hx;have:=Qqa hA x.From x.Event;unfold cplA;refine ⟨h1.1,?_,?_,?_,h2⟩<;>(try dsimp only)<;>omega
 ed:=by
  show (Qzb p A T unc tick).Pairwise Qjb;unfold Qzb;refine List.pairwise_flatMap.2 ⟨fun i hi=>List.pairwise_filterMap.2 (hA.al.imp fun {a b} hab x hx y hy=>?_),(Qn1 A.zS).imp fun {a b} hab x hx y hy=>?_⟩
  ·obtain ⟨h1,h2,_⟩:=Qso hx;obtain ⟨h3,h4,_⟩:=Qso hy;exact .inr ⟨by omega,by omega⟩
  ·obtain ⟨e,_,hx⟩:=List.mem_filterMap.1 hx;obtain ⟨e',_,hy⟩:=List.mem_filterMap.1 hy;obtain ⟨h1,_⟩:=Qso hx;obtain ⟨h3,_⟩:=Qso hy;exact .inl (by omega)
end
end Go.Abs
end
section
namespace Go.Abs
open Go
def Q8i (p:Qb):List (Int×List Int):=p.zB.zQ.foldl (fun m x=>setM m x.To (getM m x.To []++[x.From])) []
def spr (p:Qb) (L:List Bool):Qu:=⟨p.zB,p.zC,Q8i p,L⟩
theorem Q8j {y:Int}:∀ {l:List Qc} {m:List (Int×List Int)},getM (l.foldl (fun m x=>setM m x.To (getM m x.To []++[x.From])) m) y []=getM m y []++(l.filter fun x=>x.To==y).map (·.From)
 | [],m=>by simp
 | x::l,m=>by
  rw [List.foldl_cons,Q8j (l:=l),Qy9];by_cases h:y=x.To
  ·subst h;simp
  ·rw [if_neg h];have:(x.To==y)=false:=by rw [beq_eq_false_iff_ne];exact fun e=>h e.symm
   simp [this]
theorem Qbjt (p:Qb) (y:Int):getM (Q8i p) y []=(p.zB.zQ.filter fun x=>x.To==y).map (·.From):=by
 unfold Q8i;rw [Q8j];simp [getM]
theorem Q4u {k:Int}:∀ {l:List Qc},l.Pairwise (fun a b=>a.From≤b.From)→l.filter (fun x=>decide (x.From<k+1))=l.filter (fun x=>decide (x.From<k))++l.filter fun x=>x.From==k
 | [],_=>rfl
 | x::l,h=>by
  obtain ⟨h1,h2⟩:=List.pairwise_cons.1 h;have ih:=Q4u (k:=k) h2;simp only [List.filter_cons];by_cases c1:x.From<k
  ·have c2:x.From<k+1:=by omega
   have c3:(x.From==k)=false:=by rw [beq_eq_false_iff_ne];omega
   simp [c1,c2,c3,ih]
  ·have e1:l.filter (fun x=>decide (x.From<k))=[]:=List.filter_eq_nil_iff.2 fun y hy=>by have:=h1 y hy;simp;omega
   rw [e1,List.nil_append] at ih;by_cases c2:x.From=k
   ·have c3:x.From<k+1:=by omega
    simp [c1,c2,e1,ih];omega
   ·have c3:¬ x.From<k+1:=by omega
    have c4:(x.From==k)=false:=by rw [beq_eq_false_iff_ne];exact c2
    simp [c1,c3,c4,e1,ih]
theorem Qbcc {a:Qa} (h:Right a):a.zQ=(upto a.zS).flatMap (outP a):=by
 have hs:a.zQ.Pairwise (fun a b=>a.From≤b.From):=h.ed.imp fun h=>by unfold Qjb at h;omega
 have key:∀ k:Nat,a.zQ.filter (fun x=>decide (x.From<(k:Int)))=((List.range k).map fun (i:Nat)=>(i:Int)).flatMap (outP a):=by
  intro k
  induction k with
  | zero =>
   refine List.filter_eq_nil_iff.2 fun y hy=>?_;have:=(h.ed0 y hy).1;simp;omega
  | succ k ih =>
   rw [show ((k+1:Nat):Int)=(k:Int)+1 from by omega,Q4u hs,ih,List.range_succ,List.map_append,List.flatMap_append];simp [outP]
 have:=key a.zS.toNat;unfold upto;rw [← this];refine (List.filter_eq_self.2 fun y hy=>?_).symm;have:=h.ed0 y hy;have:=h.st;simp;omega
def Qin (p:Qb) (L:List Bool) (rank:Int) (acc:List Qd) (x:Qc):List Qd :=
 if (lf L x.From&&(!lf L x.To&&decide (x.Event∈p.zC))) && !(acc.getLast?.any fun r=>r.State==x.From) then acc++[⟨x.From,rank,2,x.Event⟩] else acc
section
variable {p:Qb} {L:List Bool} {rank:Int}
theorem Q8k {i:Int}:∀ {l:List Qc} {acc:List Qd},(∀ x∈l,x.From=i)→(acc.getLast?.any fun r=>r.State==i)=true→l.foldl (Qin p L rank) acc=acc
 | [],_,_,_=>rfl
 | x::l,acc,h,h1=>by
  have hx:=h x (by simp);have e:Qin p L rank acc x=acc:=by unfold Qin;rw [hx,h1];simp
  rw [List.foldl_cons,e];exact Q8k (fun y hy=>h y (by simp [hy])) h1
theorem Q6e {i:Int}:∀ {l:List Qc} {acc:List Qd},(∀ x∈l,x.From=i)→(acc.getLast?.any fun r=>r.State==i)=false →
  l.foldl (Qin p L rank) acc=acc++(if lf L i then (match l.find? (fun y=>!lf L y.To&&decide (y.Event∈p.zC)) with|some y=>[⟨i,rank,2,y.Event⟩]|none=>[]) else [])
 | [],acc,_,_=>by simp
 | x::l,acc,h,h1=>by
  have hx:=h x (by simp);have hl:∀ y∈l,y.From=i:=fun y hy=>h y (by simp [hy]);rw [List.foldl_cons,List.find?_cons];by_cases hi:lf L i=true
  ·by_cases hb:(!lf L x.To&&decide (x.Event∈p.zC))=true
   ·have e:Qin p L rank acc x=acc++[⟨i,rank,2,x.Event⟩]:=by unfold Qin;rw [hx,h1,hi,hb];rfl
    rw [e,Q8k hl (by simp),if_pos hi,hb]
   ·have hb':=Bool.eq_false_iff.2 hb;have e:Qin p L rank acc x=acc:=by unfold Qin;rw [hb'];simp
    rw [e,Q6e hl h1,if_pos hi,if_pos hi,hb']
  ·have hi':=Bool.eq_false_iff.2 hi;have e:Qin p L rank acc x=acc:=by unfold Qin;rw [hx,hi'];simp
   rw [e,Q6e hl h1,if_neg hi,if_neg hi]
theorem Qbju (hnt:∀ e∈p.zB.zQ,e.Event≠p.Tick) (i:Int) :
  (remE p L rank i).toList=if lf L i then (match (outP p.zB i).find? (fun y=>!lf L y.To&&decide (y.Event∈p.zC)) with|some y=>[⟨i,rank,2,y.Event⟩]|none=>[]) else []:=by
 have ht:Qop p L i=false:=by
  unfold Qop;rw [List.any_eq_false];intro y hy;have:=hnt y (List.mem_filter.1 hy).1;simp [this]
 unfold remE escP;rw [ht];cases lf L i with
 | false=>rfl
 | true=>cases (outP p.zB i).find? (fun y=>!lf L y.To&&decide (y.Event∈p.zC))<;>rfl
theorem Qbcd {i:Int} {r:Qd} (h:r∈(remE p L rank i).toList):r.State=i:=by
 unfold remE at h;split at h
 ·simp at h;subst h;rfl
 ·cases h
theorem Q8l (hnt:∀ e∈p.zB.zQ,e.Event≠p.Tick):∀ {l:List Int} {acc:List Qd},l.Pairwise (· < ·)→(∀ r∈acc,∀ i∈l,r.State<i) →
  l.foldl (fun acc i=>(outP p.zB i).foldl (Qin p L rank) acc) acc=acc++l.filterMap (remE p L rank)
 | [],acc,_,_=>by simp
 | i::l,acc,hl,ha=>by
  obtain ⟨h1,h2⟩:=List.pairwise_cons.1 hl;have hlast:(acc.getLast?.any fun r=>r.State==i)=false:=by
   cases hq:acc.getLast? with
   | none=>rfl
   | some r =>
    have:=ha r (List.mem_of_getLast? hq) i (by simp);simp;omega
  rw [List.foldl_cons,Q6e (fun x hx=>by simpa using (List.mem_filter.1 hx).2) hlast,← Qbju hnt,Q8l hnt h2 (fun r hr j hj=>?_),List.filterMap_cons]
  ·cases remE p L rank i<;>simp
  ·rcases List.mem_append.1 hr with hr|hr
   ·exact ha r hr j (by simp [hj])
   ·rw [Qbcd hr];exact h1 j hj
theorem Qbg9 (hp:RightP p) (hnt:∀ e∈p.zB.zQ,e.Event≠p.Tick):p.zB.zQ.foldl (Qin p L rank) []=Qt1 p L rank:=by
 conv=>lhs;rw [Qbcc hp.a]
 rw [List.foldl_flatMap,Q8l hnt (Qn1 _) (fun r hr=>by cases hr)]
 rfl
end
section
variable {p:Qb} (hp:RightP p)
include hp
theorem Qbha:Qj8 p.zB p.zD p.zC=some (spr p (Qbn p (T0 p))):=by
 unfold Qj8 Qem;obtain ⟨fuel,hfu,hge⟩ : ∃ f,Qbb=f∧1099511627776≤f:=⟨_,rfl,Nat.le_refl _⟩;rw [hfu];have hst:=hp.a.st;have hsm:=hp.a.small;have hpl:=hp.small;have hnS:nS p≤4096:=by unfold nS;omega
 rw [show mkO p.zB.zS false=some (List.replicate (nS p) false) from by unfold mkO lim;rw [if_pos (by omega)],Option.bind_some];refine Option.bind_eq_some_iff.2 ⟨List.replicate (nS p) true,?_,?_⟩
 ·refine (Qc6 (l:=upto p.zB.zS) (fun i (c:List Bool)=>(i,c)) (fun c i=>c.set i.toNat true) (fun _ c=>c.length=nS p) (fun c=>some c) (by rw [Qbm];unfold big;omega) hge (fun k n s hn hs=>?_) (fun n s hn hs=>by rw [List.length_set];exact hs) (fun k s hs=>?_) (s0:=List.replicate (nS p) false) (by simp)).trans ?_
  ·have hn':=Qiy hn;dsimp only;rw [Qkb hn,if_pos (by omega),Qkf (by omega) (by omega),Option.bind_some,Qkm (by omega) (by unfold nS at hs;omega),Option.bind_some]
  ·dsimp only;rw [Qbm,if_neg (by omega)]
  ·rw [Qy5 (f:=fun _=>true) (by simp),List.map_const',Qbm]
 refine Option.bind_eq_some_iff.2 ⟨Qbn p (T0 p),?_,?_⟩
 ·refine (Qc6 (l:=p.zD) (fun i (c:List Bool)=>(i,c)) (fun c x=>c.set x.toNat false) (fun _ c=>c.length=nS p) (fun c=>some c) hpl.2.1 hge (fun k n s hn hs=>?_) (fun n s hn hs=>by rw [List.length_set];exact hs) (fun k s hs=>?_) (s0:=List.replicate (nS p) true) (by simp)).trans ?_
  ·have hr:=hp.fo.rg _ (List.getElem_mem hn);dsimp only;rw [if_pos (by omega),Qx hn,Option.bind_some,Qkf hr.1 (by omega),Option.bind_some,Qkm hr.1 (by unfold nS at hs;omega),Option.bind_some]
  ·dsimp only;rw [if_neg (by omega)]
  ·unfold Qbn T0;rw [List.foldl_map]
 refine Option.bind_eq_some_iff.2 ⟨Q8i p,?_,?_⟩
 ·refine (Qc6 (l:=p.zB.zQ) (fun i (c:List (Int×List Int))=>(i,c)) (fun m x=>setM m x.To (getM m x.To []++[x.From])) (fun n c=>∀ y,(getM c y []).length≤n) (fun c=>some c) hsm.1.2.2 hge (fun k n s hn hs=>?_) (fun n s hn hs y=>?_) (fun k s hs=>?_) (s0:=[]) (fun y=>by simp [getM])).trans rfl
  ·have h1:=hs p.zB.zQ[n].To;have h2:=hsm.2.2.2;dsimp only;rw [if_pos (by omega),Qx hn,Option.bind_some,Q3 (by simp only [List.length_cons,List.length_nil];unfold lim;omega),Option.bind_some]
  ·rw [Qy9];split
   ·have:=hs p.zB.zQ[n].To;simp only [List.length_append,List.length_cons,List.length_nil];omega
   ·have:=hs y;omega
  ·dsimp only;rw [if_neg (by omega)]
 rw [Qof (by rw [Qh5]),Option.bind_some]
 rfl
theorem Qbjv {L:List Bool} (hL:L.length=nS p) (hnt:∀ e∈p.zB.zQ,e.Event≠p.Tick) (rank:Int):Qf4 (spr p L) rank=some (Qt1 p L rank):=by
 unfold Qf4 Qch;obtain ⟨fuel,hfu,hge⟩ : ∃ f,Qbb=f∧1099511627776≤f:=⟨_,rfl,Nat.le_refl _⟩;rw [hfu,show (spr p L).left_=L from rfl,show (spr p L).zB=p.zB from rfl,show (spr p L).uncontrollable_=p.zC from rfl];have hsm:=hp.a.small;have hpl:=hp.small;refine Option.bind_eq_some_iff.2 ⟨Qt1 p L rank,?_,rfl⟩;rw [← Qbg9 hp hnt];refine Qc6 (l:=p.zB.zQ) (fun i (acc:List Qd)=>(acc,i)) (Qin p L rank) (fun n acc=>acc.length≤n) (fun acc=>some acc) hsm.1.2.2 hge (fun k n s hn hs=>?_) (fun n s hn hs=>?_) (fun k s hs=>?_) (s0:=[]) (Nat.le_refl _)
 ·have hr:=hp.a.ed0 _ (List.getElem_mem hn);have h2:=hsm.2.2.2;dsimp only;rw [if_pos (by omega),Qx hn];generalize p.zB.zQ[n]=x at hr;obtain ⟨r1,r2,r3,r4,r5⟩:=hr;simp only [Option.bind_some,Qhk hL (p:=p) ⟨r1,r2⟩,Qhk hL (p:=p) ⟨r3,r4⟩];have happ:appO s [(⟨x.From,rank,2,x.Event⟩ : Qd)]=some (s++[⟨x.From,rank,2,x.Event⟩]):=Q3 (by simp only [List.length_cons,List.length_nil];unfold lim;omega);have hlast:(if ((s.length:Int)>0) then ((getO s (IntKind.wrap .i64 ((s.length:Int)-1))).bind fun x30=>some (x30.State==x.From)) else some false)=some (s.getLast?.any fun r=>r.State==x.From):=by
   by_cases hz:s.length=0
   ·have:s=[]:=List.eq_nil_of_length_eq_zero hz;subst this;rfl
   ·rw [if_pos (by omega),Qh3 (by omega) (by omega),show (s.length:Int)-1=((s.length-1:Nat):Int) from by omega,Qx (by omega),Option.bind_some,List.getLast?_eq_getElem?,List.getElem?_eq_getElem (by omega)]
    rfl
  rw [happ,hlast];have hcon:Qb1 p.zC x.Event=some (decide (x.Event∈p.zC)):=Qp9 hpl.2.2.1;rw [hcon];unfold Qin;cases lf L x.From<;>cases lf L x.To<;>cases decide (x.Event∈p.zC)<;>cases (s.getLast?.any fun r=>r.State==x.From)<;>rfl
 ·unfold Qin;split
  ·simp only [List.length_append,List.length_cons,List.length_nil];omega
  ·omega
 ·dsimp only;rw [if_neg (by omega)]
end
end Go.Abs
end
section
namespace Go.Abs
open Go
inductive CoR (p:Qb) (L:List Bool):Int→Prop where
 | mk (y:Int) (h1:lf L y=true) (h2:y∈p.zB.zP):CoR p L y
 | step (e:Qc) (h1:e∈p.zB.zQ) (h2:lf L e.From=true) (h3:CoR p L e.To):CoR p L e.From
section
variable {p:Qb} (hp:RightP p) {L:List Bool}
include hp
theorem CoR.rg {y:Int} (h:CoR p L y):0≤y∧y<p.zB.zS:=by
 cases h with
 | mk _ h1 h2=>exact hp.a.ma0 _ h2
 | step e h1 h2 h3=>have:=hp.a.ed0 e h1;exact ⟨this.1,this.2.1⟩
theorem Qbbd {y:Int} (h:CoR p L y):0≤ati (Qqd p L) y:=by
 induction h with
 | mk y h1 h2 =>
  have hr:=hp.a.ma0 _ h2;have:=((Qpa hp L).z y hr.1 hr.2).2 ⟨h1,h2⟩;omega
 | step e h1 h2 h3 ih =>
  have hr:=hp.a.ed0 e h1;exact (Qpa hp L).cl e h1 h2 ih ((Qpa hp L).bound hp L hr.2.2.1 hr.2.2.2.1)
theorem Qbbe:∀ (n:Nat) {y:Int},0≤y→y<p.zB.zS→ati (Qqd p L) y=(n:Int)→CoR p L y
 | 0,y,h0,h1,hd=>by
  obtain ⟨k1,k2⟩:=((Qpa hp L).z y h0 h1).1 (by simpa using hd);exact .mk y k1 k2
 | n+1,y,h0,h1,hd=>by
  obtain ⟨e,k1,k2,k3,k4⟩:=(Qpa hp L).ps y h0 h1 (by omega);have hr:=hp.a.ed0 e k1;have hl:=(Qpa hp L).lv y h0 h1 (by omega);subst k2;exact .step e k1 hl (Qbbe n hr.2.2.1 hr.2.2.2.1 (by omega))
theorem Qbfj {y:Int} (h0:0≤y) (h1:y<p.zB.zS):CoR p L y↔0≤ati (Qqd p L) y :=
 ⟨Qbbd hp,fun h=>Qbbe hp (ati (Qqd p L) y).toNat h0 h1 (by omega)⟩
end
theorem Qbjw {α β:Type} {o:Option α} {K:α→Option β} {P:α→Prop} {Q:β→Prop} (h:∃ v,o=some v∧P v) (k:∀ v,P v→∃ D,K v=some D∧Q D):∃ D,o.bind K=some D∧Q D:=by
 obtain ⟨v,rfl,hv⟩:=h;exact k v hv
theorem Qwa {α β:Type} {o:Option α} {K:α→Option β} {v:α} {Q:β→Prop} (h:o=some v) (k:∃ D,K v=some D∧Q D):∃ D,o.bind K=some D∧Q D:=by
 rw [h];exact k
structure BI (p:Qb) (L:List Bool) (l out:List Int):Prop where
 ln:out.length=nS p
 nd:l.Nodup
 rg:∀ y∈l,CoR p L y
 mem:∀ y,0≤y→y<p.zB.zS→(0≤ati out y↔y∈l)
 bd:∀ y∈l,ati out y<l.length
section
variable {p:Qb} (hp:RightP p) {L:List Bool}
include hp
theorem BI.len {l out:List Int} (h:BI p L l out):l.length≤nS p:=Fnd.len (a:=p.zB) ⟨h.nd,fun y hy=>(h.rg y hy).rg hp⟩
theorem BI.add {l out:List Int} (h:BI p L l out) {x v:Int} (hc:CoR p L x) (hx:x∉l) (h0:0≤v) (h1:v≤l.length):BI p L (l++[x]) (out.set x.toNat v):=by
 have hr:=hc.rg hp;have hln:=h.ln;refine ⟨by rw [List.length_set];exact hln,?_,fun y hy=>?_,fun y k0 k1=>?_,fun y hy=>?_⟩
 ·rw [List.nodup_append];exact ⟨h.nd,by simp,fun a ha b hb=>by simp at hb;subst hb;rintro rfl;exact hx ha⟩
 ·rcases List.mem_append.1 hy with hy|hy
  ·exact h.rg y hy
  ·simp at hy;subst hy;exact hc
 ·rw [Qz8 ⟨hr.1,by rw [hln];unfold nS;omega⟩ k0,List.mem_append];by_cases e:y=x
  ·subst e;simp [h0]
  ·rw [if_neg e,h.mem y k0 k1];simp [e]
 ·rw [List.length_append,List.length_singleton];rcases List.mem_append.1 hy with hy|hy
  ·have k:=(h.rg y hy).rg hp;rw [Qz8 ⟨hr.1,by rw [hln];unfold nS;omega⟩ k.1];split
   ·omega
   ·have:=h.bd y hy;omega
  ·simp at hy;subst hy;rw [Qz8 ⟨hr.1,by rw [hln];unfold nS;omega⟩ hr.1,if_pos rfl];omega
def Qio (L:List Bool) (i:Nat) (s:List Int×List Int) (x:Int):List Int×List Int :=
 if lf L x&&decide (ati s.2 x<0) then (s.1++[x],s.2.set x.toNat (ati s.2 (s.1.getD i 0)+1)) else s
theorem Q8m {s:List Int×List Int} {i:Nat} (h:BI p L s.1 s.2) (hi:i<s.1.length) {e:Qc} (he:e∈p.zB.zQ) (ht:e.To=s.1[i]) :
  BI p L (Qio L i s e.From).1 (Qio L i s e.From).2∧s.1 <+: (Qio L i s e.From).1∧(lf L e.From=true→e.From∈(Qio L i s e.From).1):=by
 have hr:=hp.a.ed0 e he;have hmem:s.1[i]∈s.1:=List.getElem_mem hi;unfold Qio;by_cases hc:(lf L e.From&&decide (ati s.2 e.From<0))=true
 ·rw [if_pos hc];simp only [Bool.and_eq_true,decide_eq_true_eq] at hc;have hx:e.From∉s.1:=fun hh=>by have:=(h.mem _ hr.1 hr.2.1).2 hh;omega
  have hco:CoR p L e.From:=.step e he hc.1 (by rw [ht];exact h.rg _ hmem);have hgd:s.1.getD i 0=s.1[i]:=by rw [List.getD_eq_getElem?_getD,List.getElem?_eq_getElem hi];rfl
  have hrg:=(h.rg _ hmem).rg hp;have h1:=(h.mem _ hrg.1 hrg.2).2 hmem;have h2:=h.bd _ hmem;refine ⟨h.add hp hco hx (by rw [hgd];omega) (by rw [hgd];omega),List.prefix_append _ _,fun _=>by simp⟩
 ·rw [if_neg hc];refine ⟨h,List.prefix_refl _,fun hl=>?_⟩;simp only [hl,Bool.true_and,decide_eq_true_eq] at hc;exact (h.mem _ hr.1 hr.2.1).1 (by omega)
theorem Q4v {i:Nat}:∀ {es:List Qc} {s:List Int×List Int},BI p L s.1 s.2→(hi:i<s.1.length)→(∀ e∈es,e∈p.zB.zQ∧e.To=s.1[i]) →
  BI p L ((es.map (·.From)).foldl (Qio L i) s).1 ((es.map (·.From)).foldl (Qio L i) s).2∧s.1 <+: ((es.map (·.From)).foldl (Qio L i) s).1∧∀ e∈es,lf L e.From=true→e.From∈((es.map (·.From)).foldl (Qio L i) s).1
 | [],s,h,hi,_=>⟨h,List.prefix_refl _,fun e he=>by cases he⟩
 | e::es,s,h,hi,hes=>by
  obtain ⟨he1,he2⟩:=hes e (by simp);obtain ⟨k1,k2,k3⟩:=Q8m hp h hi he1 he2;have hi' : i<(Qio L i s e.From).1.length:=Nat.lt_of_lt_of_le hi k2.length_le;obtain ⟨q1,q2,q3⟩:=Q4v (i:=i) (es:=es) (s:=Qio L i s e.From) k1 hi' (fun e' he'=>by
   obtain ⟨a1,a2⟩:=hes e' (by simp [he']);exact ⟨a1,by rw [a2];exact (k2.getElem hi).trans rfl⟩)
  rw [List.map_cons,List.foldl_cons];refine ⟨q1,k2.trans q2,fun e' he' hl=>?_⟩;rcases List.mem_cons.1 he' with rfl|he'
  ·exact q2.subset (k3 hl)
  ·exact q3 e' he' hl
theorem Qsp (hL:L.length=nS p):∃ D,Qdd (spr p L)=some D∧D.length=nS p∧∀ y,0≤y→y<p.zB.zS→(ati D y<0↔ati (Qqd p L) y<0):=by
 unfold Qdd Qz;obtain ⟨fuel,hfu,hge⟩ : ∃ f,Qbb=f∧1099511627776≤f:=⟨_,rfl,Nat.le_refl _⟩;rw [hfu,show (spr p L).left_=L from rfl,show (spr p L).zB=p.zB from rfl,show (spr p L).back_=Q8i p from rfl];have hst:=hp.a.st;have hsm:=hp.a.small;have hnS:nS p≤4096:=by unfold nS;omega
 have hnT:Int.toNat p.zB.zS=nS p:=rfl;rw [show mkO p.zB.zS (0:Int)=some (List.replicate (nS p) 0) from by unfold mkO lim;rw [if_pos (by omega)],Option.bind_some];refine Qwa (v:=List.replicate (nS p) (-1)) ?_ ?_
 ·refine (Qc6 (l:=upto p.zB.zS) (fun i (c:List Int)=>(i,c)) (fun c i=>c.set i.toNat (-1)) (fun _ c=>c.length=nS p) (fun c=>some c) (by rw [Qbm];unfold big;omega) hge (fun k n s hn hs=>?_) (fun n s hn hs=>by rw [List.length_set];exact hs) (fun k s hs=>?_) (s0:=List.replicate (nS p) 0) (by simp)).trans ?_
  ·have hn':=Qiy hn;dsimp only;rw [Qkb hn,if_pos (by omega),Qkf (by omega) (by omega),Option.bind_some,Qkm (by omega) (by unfold nS at hs;omega),Option.bind_some]
  ·dsimp only;rw [Qbm,if_neg (by omega)]
  ·rw [Qy5 (f:=fun _=>-1) (by simp),List.map_const',Qbm]
 obtain ⟨l1,o1,hm1,hB1,hM1⟩ : ∃ l1 o1,Qbi (fun (k22:List Int×Int×List Int→Option (List Int×List Int)) ((l19,x20,c21):(List Int)×Int×(List Int))=>(if (x20<(p.zB.zP.length:Int)) then ((((getO p.zB.zP x20).bind fun x24=>((inO L.length x24).bind fun u26=>((getO L x24).bind fun x28=>(if x28 then ((inO (Int.toNat p.zB.zS) x24).bind fun u31=>((setO c21 x24 0).bind fun x33=>((appO l19 [x24]).bind fun x35=>some (x35,x33)))) else some (l19,c21)))))).bind fun ((l37,c38):(List Int)×(List Int))=>k22 (l37,(IntKind.wrap .i64 (x20+1)),c38)) else some (l19,c21))) fuel ([],0,List.replicate (nS p) (-1))=some (l1,o1)∧BI p L l1 o1∧∀ y∈p.zB.zP,lf L y=true→y∈l1:=by
  let stp:List Int×List Int→Int→List Int×List Int:=fun s x=>if lf L x then (s.1++[x],s.2.set x.toNat 0) else s;have hI:∀ (n:Nat) (s:List Int×List Int) (hn:n<p.zB.zP.length),(BI p L s.1 s.2∧s.1=(p.zB.zP.take n).filter (lf L))→BI p L (stp s p.zB.zP[n]).1 (stp s p.zB.zP[n]).2∧(stp s p.zB.zP[n]).1=(p.zB.zP.take (n+1)).filter (lf L):=by
   rintro n s hn ⟨h1,h2⟩;have hmm:=List.getElem_mem hn;simp only [stp];rw [List.take_succ_eq_append_getElem hn,List.filter_append];cases hq:lf L p.zB.zP[n] with
   | false=>simp only [Bool.false_eq_true,if_false];refine ⟨h1,?_⟩;simp [h2,hq]
   | true =>
    simp only [if_true];refine ⟨h1.add hp (.mk _ hq hmm) (fun hx=>?_) (Int.le_refl _) (by omega),by simp [h2,hq]⟩;rw [h2] at hx;have hx:=(List.mem_filter.1 hx).1;obtain ⟨j,hj,e⟩:=List.getElem_of_mem hx;rw [List.getElem_take] at e;rw [List.length_take] at hj;have:=List.pairwise_iff_getElem.1 hp.a.ma j n (by omega) hn (by omega);omega
  have h0:BI p L [] (List.replicate (nS p) (-1))∧([]:List Int)=(p.zB.zP.take 0).filter (lf L):=by
   refine ⟨⟨by simp,by simp,fun y hy=>absurd hy (by simp),fun y k0 k1=>?_,fun y hy=>absurd hy (by simp)⟩,rfl⟩;rw [show ati (List.replicate (nS p) (-1)) y = -1 from Q7z k0 (by unfold nS;omega)];simp
  have hend:=Q52 (l:=p.zB.zP) (stp:=stp) (I:=fun n s=>BI p L s.1 s.2∧s.1=(p.zB.zP.take n).filter (lf L)) hI (s0:=([],List.replicate (nS p) (-1))) h0;refine ⟨(p.zB.zP.foldl stp ([],List.replicate (nS p) (-1))).1,(p.zB.zP.foldl stp ([],List.replicate (nS p) (-1))).2,?_,hend.1,fun y hy hl=>by rw [hend.2,List.take_length];exact List.mem_filter.2 ⟨hy,hl⟩⟩;refine Qc6 (l:=p.zB.zP) (fun i (s:List Int×List Int)=>(s.1,i,s.2)) stp (fun n s=>BI p L s.1 s.2∧s.1=(p.zB.zP.take n).filter (lf L)) (fun s=>some (s.1,s.2)) hsm.1.2.1 hge (fun k n s hn hs=>?_) hI (fun k s hs=>?_) (s0:=([],List.replicate (nS p) (-1))) h0
  ·have hr:=hp.a.ma0 _ (List.getElem_mem hn);have hsl:=hs.1.len hp;have hso:=hs.1.ln;dsimp only;rw [if_pos (by omega),Qx hn];generalize p.zB.zP[n]=x at hr;simp only [Option.bind_some,Qhk hL (p:=p) hr,stp];cases lf L x with
   | false=>rfl
   | true =>
    simp only [if_true];rw [Qkf hr.1 (by unfold nS at hnT;omega),Option.bind_some,Qkm hr.1 (by unfold nS at hso;omega),Option.bind_some,Q3 (by simp only [List.length_cons,List.length_nil];unfold lim;omega),Option.bind_some,Option.bind_some]
  ·dsimp only;rw [if_neg (by omega)]
 refine Qwa hm1 ?_;dsimp only;refine Qbjw (P:=fun c=>c.length=nS p∧∀ y,0≤y→y<p.zB.zS→(ati c y<0↔ati (Qqd p L) y<0)) ?_ ?_
 ·refine Qfj (fun x:List Int×Int×List Int=>∃ n:Nat,x.2.1=n∧n≤x.1.length∧BI p L x.1 x.2.2∧(∀ y∈p.zB.zP,lf L y=true→y∈x.1)∧∀ j s,j<n→x.1[j]? = some s→∀ e∈p.zB.zQ,e.To=s→lf L e.From=true→e.From∈x.1)
   (fun x=>5001-x.2.1.toNat) (fun _ r=>∃ v,r=some v∧v.length=nS p∧∀ y,0≤y→y<p.zB.zS→(ati v y<0↔ati (Qqd p L) y<0)) ?_ fuel (l1,0,o1) ⟨0,rfl,Nat.zero_le _,hB1,hM1,fun j s hj=>absurd hj (Nat.not_lt_zero _)⟩ (by dsimp only;omega)
  rintro k ⟨l,x,c⟩ ⟨n,hx,hnl,hB,hM,hD⟩ ih;dsimp only at hx hnl hB hM hD ih ⊢;subst hx;have hll:=hB.len hp;by_cases hlt:n<l.length
  ·rw [if_pos (by omega),Qx hlt,Option.bind_some];have hE:getM (Q8i p) l[n] []=(p.zB.zQ.filter fun x=>x.To==l[n]).map (·.From):=Qbjt p _;have hes:∀ e∈p.zB.zQ.filter (fun x=>x.To==l[n]),e∈p.zB.zQ∧e.To=l[n]:=fun e he=>by
    obtain ⟨a,b⟩:=List.mem_filter.1 he;exact ⟨a,by simpa using b⟩
   have hsz:(p.zB.zQ.filter fun x=>x.To==l[n]).length≤131072:=Nat.le_trans (List.length_filter_le _ _) hsm.2.2.2;rw [hE];have hin:∀ e∈p.zB.zQ,e.To=l[n]→e∈p.zB.zQ.filter (fun x=>x.To==l[n]):=fun e he ht=>List.mem_filter.2 ⟨he,by simpa using ht⟩;generalize p.zB.zQ.filter (fun x=>x.To==l[n])=es at hes hsz hin;obtain ⟨q1,q2,q3⟩:=Q4v hp (i:=n) (es:=es) (s:=(l,c)) hB hlt hes;refine Qwa (v:=(es.map (·.From)).foldl (Qio L n) (l,c)) ?_ ?_
   ·refine Qc6 (l:=es.map (·.From)) (fun j (s:List Int×List Int)=>(s.1,j,s.2)) (Qio L n) (fun _ s=>BI p L s.1 s.2∧l <+: s.1) (fun s=>some (s.1,s.2)) (by rw [List.length_map];unfold big;omega) hge (fun k m s hm hs=>?_) (fun m s hm hs=>?_) (fun k s hs=>?_) (s0:=(l,c)) ⟨hB,List.prefix_refl _⟩
    ·obtain ⟨h1,h2⟩:=hs;have hm' : m<es.length:=by rw [List.length_map] at hm;exact hm
     have he:=hes _ (List.getElem_mem hm');have hr:=hp.a.ed0 _ he.1;have hsl:=h1.len hp;have hso:=h1.ln;have hni:n<s.1.length:=Nat.lt_of_lt_of_le hlt h2.length_le;have hrg:=(h1.rg _ (List.getElem_mem hni)).rg hp;have hgd:s.1.getD n 0=s.1[n]:=by rw [List.getD_eq_getElem?_getD,List.getElem?_eq_getElem hni];rfl
     have b1:=(h1.mem _ hrg.1 hrg.2).2 (List.getElem_mem hni);have b2:=h1.bd _ (List.getElem_mem hni);dsimp only;rw [if_pos (by omega),Qx hm,List.getElem_map];generalize es[m].From=y at hr;unfold nS at hso;simp only [Option.bind_some,Qhk hL (p:=p) ⟨hr.1,hr.2.1⟩,Qkf (n:=Int.toNat p.zB.zS) hr.1 (by omega),Ql3 (d:=0) (l:=s.2) hr.1 (by omega),Qx hni,Qkf (n:=Int.toNat p.zB.zS) hrg.1 (by omega),Ql3 (d:=0) (l:=s.2) hrg.1 (by omega)];rw [Qkm hr.1 (by omega),Qh3 (by unfold ati at b1;omega) (by unfold ati at b1 b2;omega)];unfold Qio;rw [hgd];simp only [Option.bind_some,Q3 (show s.1.length+[y].length≤lim from by simp only [List.length_cons,List.length_nil];unfold lim;omega)];cases lf L y with
     | false=>rfl
     | true =>
      simp only [if_true,Option.bind_some,Bool.true_and];by_cases hq:ati s.2 y<0
      ·simp [hq]
      ·simp [hq]
    ·obtain ⟨h1,h2⟩:=hs;have hm' : m<es.length:=by rw [List.length_map] at hm;exact hm
     have he:=hes _ (List.getElem_mem hm');have hni:n<s.1.length:=Nat.lt_of_lt_of_le hlt h2.length_le;rw [List.getElem_map];obtain ⟨k1,k2,_⟩:=Q8m hp h1 hni he.1 (by rw [he.2];exact h2.getElem hlt);exact ⟨k1,h2.trans k2⟩
    ·dsimp only;rw [List.length_map,if_neg (by omega)]
   generalize (es.map (·.From)).foldl (Qio L n) (l,c)=s at q1 q2 q3;dsimp only at q1 q2 q3 ⊢;rw [Qbq (by omega)];have hql:=q2.length_le;refine ih _ ⟨n+1,rfl,by dsimp only;omega,q1,fun y hy hl=>q2.subset (hM y hy hl),fun j t hj ht e he hto hl=>?_⟩ (by dsimp only;omega);dsimp only at ht ⊢;have hj' : j<l.length:=by omega
   have hq:l[j]? = some t:=by
    obtain ⟨tl,e2⟩:=q2;rw [← e2,List.getElem?_append_left hj'] at ht;exact ht
   by_cases hjn:j=n
   ·subst hjn;rw [List.getElem?_eq_getElem hlt] at hq;exact q3 e (hin e he (by rw [hto];exact (Option.some.inj hq).symm)) hl
   ·exact q2.subset (hD j t (by omega) hq e he hto hl)
  ·rw [if_neg (by omega)];refine ⟨c,rfl,hB.ln,fun y h0 h1=>?_⟩;have hcor:∀ y,CoR p L y→y∈l:=by
    intro y hy
    induction hy with
    | mk y h1 h2=>exact hM y h2 h1
    | step e h1 h2 h3 ih =>
     obtain ⟨j,hj,e2⟩:=List.getElem_of_mem ih;exact hD j e.To (by omega) (by rw [List.getElem?_eq_getElem hj,e2]) e h1 rfl h2
   have k1:CoR p L y↔y∈l:=⟨hcor y,fun h=>hB.rg y h⟩;have k2:=hB.mem y h0 h1;have k3:=Qbfj hp (L:=L) h0 h1;constructor
   ·intro h;have:¬ 0≤ati (Qqd p L) y:=fun hh=>by have:=k2.2 (k1.1 (k3.2 hh));omega
    omega
   ·intro h;have:¬ 0≤ati c y:=fun hh=>by have:=k3.1 (k1.2 (k2.1 hh));omega
    omega
 ·rintro c ⟨hc1,hc2⟩;rw [Qof (show c.length=Int.toNat p.zB.zS from hc1),Option.bind_some];exact ⟨c,rfl,hc1,hc2⟩
end
end Go.Abs
end
section
namespace Go.Abs
open Go
theorem Qw1 {L:List Bool} {i:Nat} {l:List Qc} {s:List Int×List Qc} :
  (l.filter fun x=>lf L x.To).foldl (fun s x=>(ins s.1 x.To,s.2++[⟨(i:Int),x.Event,((ins s.1 x.To).idxOf x.To:Int)⟩])) s=l.foldl (Qe1 L i) s:=by
 rw [List.foldl_filter];rfl
section
variable {p:Qb} (hp:RightP p) {L:List Bool} (hL:L.length=nS p)
include hp hL
theorem Qbce (rank:Int):Qe0 (spr p L) rank=some (Q8e p L rank):=by
 unfold Qe0 Qb0;obtain ⟨fuel,hfu,hge⟩ : ∃ f,Qbb=f∧1099511627776≤f:=⟨_,rfl,Nat.le_refl _⟩;obtain ⟨D,hD,hDl,hDs⟩:=Qsp hp hL;rw [hfu,hD,Option.bind_some,show (spr p L).left_=L from rfl];have hst:=hp.a.st;have hul:(upto p.zB.zS).length<big:=by rw [Qbm];unfold big;omega
 have huf:(upto p.zB.zS).length<fuel:=by rw [Qbm];omega
 rw [Qy1 (l:=upto p.zB.zS) (f:=remB p L rank) hul huf (fun k acc n hn ha=>by
  have hn':=Qiy hn;have h2:(n:Int)<p.zB.zS:=by omega
  have hds:=hDs (n:Int) (by omega) h2;unfold nS at hDl;dsimp only;rw [Qkb hn,if_pos (by omega),Ql3 (d:=0) (l:=D) (by omega) (by omega),Option.bind_some];simp only [Qhk hL (p:=p) (x:=(n:Int)) ⟨by omega,h2⟩,Option.bind_some];rw [Q3 (by simp only [List.length_cons,List.length_nil];unfold lim;omega)];unfold remB;cases hq:lf L (n:Int) with
  | false=>simp
  | true =>
   by_cases h3:ati D (n:Int)<0
   ·have h4:=hds.1 h3;unfold ati at h3;simp [h3,h4]
   ·have h4:¬ ati (Qqd p L) (n:Int)<0:=fun h=>h3 (hds.2 h);unfold ati at h3;simp [h3,h4]) (fun k acc=>by
  unfold nS at hDl;dsimp only;rw [Qbm,if_neg (by omega)]),Option.bind_some]
 rfl
theorem Qbhb (hnt:∀ e∈p.zB.zQ,e.Event≠p.Tick) (rank:Int):Qeq (spr p L) rank true=some (Qic p L rank):=by
 unfold Qeq Qci;rw [Qbjv hp hL hnt,Qbce hp hL];unfold Qic;simp only [Option.bind_some,Bool.not_true];by_cases h:((Qt1 p L rank).length:Int)>0
 ·rw [if_pos h,if_pos h];rfl
 ·rw [if_neg h,if_neg h];rfl
theorem Qbhc {fuel:Nat} (hge:1099511627776≤fuel) {i:Nat} (hi:i≤4096) {s:Int} {st:List Int} {es:List Qc} {c:List (Int×Int)} (hf:Fnd p.zB st) (hc:MapOk c st) (he:es.length≤131072*4096) {row:List Qc} (hrow:row=(outP p.zB s).filter fun x=>lf L x.To) :
  ∃ c',MapOk c' ((outP p.zB s).foldl (Qe1 L i) (st,es)).1∧Qbi (fun (k65:List Int×Int×List Qc×List (Int×Int)→Option (List Int×List Qc×List (Int×Int))) ((order61,x62,a63,c64):(List Int)×Int×(List Qc)×(List (Int×Int)))=>(if (x62<(row.length:Int)) then ((getO row x62).bind fun x67=>(((if (hasM c64 x67.To) then some (order61,(getM c64 x67.To 0),c64) else ((appO order61 [x67.To]).bind fun x70=>some (x70,(order61.length:Int),(setM c64 x67.To (order61.length:Int)))))).bind fun ((order72,to73,c74):(List Int)×Int×(List (Int×Int)))=>((appO a63 [(Qc.mk (i:Int) x67.Event to73)]).bind fun x75=>k65 (order72,(IntKind.wrap .i64 (x62+1)),x75,c74)))) else some (order61,a63,c64))) fuel (st,0,es,c)=some (((outP p.zB s).foldl (Qe1 L i) (st,es)).1,((outP p.zB s).foldl (Qe1 L i) (st,es)).2,c'):=by
 have hst:=hp.a.st;have hnS:nS p≤4096:=by unfold nS;omega
 have hol:=Qv9 hp s;have hrl:row.length≤(outP p.zB s).length:=by rw [hrow];exact List.length_filter_le _ _
 have hrt:∀ x∈row,0≤x.To∧x.To<p.zB.zS:=fun x hx=>by
  rw [hrow] at hx;exact (Qto hp _ (List.mem_filter.1 hx).1).1
 let add:List Int×List Qc→Qc→List Int×List Qc:=fun s x=>(ins s.1 x.To,s.2++[⟨(i:Int),x.Event,((ins s.1 x.To).idxOf x.To:Int)⟩]);have hfold:row.foldl add (st,es)=(outP p.zB s).foldl (Qe1 L i) (st,es):=by rw [hrow];exact Qw1
 let stp:(List Int×List Qc)×List (Int×Int)→Qc→(List Int×List Qc)×List (Int×Int):=fun s x=>(add s.1 x,if x.To∈s.1.1 then s.2 else setM s.2 x.To (s.1.1.length:Int));have hproj:∀ (l:List Qc) (s:(List Int×List Qc)×List (Int×Int)),(l.foldl stp s).1=l.foldl add s.1:=by
  intro l
  induction l with
  | nil=>intro s;rfl
  | cons x l ih=>intro s;rw [List.foldl_cons,List.foldl_cons,ih]
 have hI:∀ (n:Nat) (q:(List Int×List Qc)×List (Int×Int)) (hn:n<row.length),(Fnd p.zB q.1.1∧MapOk q.2 q.1.1∧q.1.2.length≤131072*4096+n)→(Fnd p.zB (stp q row[n]).1.1∧MapOk (stp q row[n]).2 (stp q row[n]).1.1∧(stp q row[n]).1.2.length≤131072*4096+(n+1)):=by
  rintro n q hn ⟨h1,h2,h3⟩;have hr:=hrt _ (List.getElem_mem hn);generalize row[n]=x at hr;simp only [stp,add];refine ⟨h1.ins hr,?_,by simp only [List.length_append,List.length_cons,List.length_nil];omega⟩;by_cases hm:x.To∈q.1.1
  ·have:ins q.1.1 x.To=q.1.1:=by unfold ins;rw [if_pos hm]
   rw [this,if_pos hm];exact h2
  ·have:ins q.1.1 x.To=q.1.1++[x.To]:=by unfold ins;rw [if_neg hm]
   rw [this,if_neg hm];exact h2.ins hm
 have h0:Fnd p.zB ((st,es),c).1.1∧MapOk ((st,es),c).2 ((st,es),c).1.1∧((st,es),c).1.2.length≤131072*4096+0:=⟨hf,hc,he⟩;have hend:=Q52 (l:=row) (stp:=stp) (I:=fun n q=>Fnd p.zB q.1.1∧MapOk q.2 q.1.1∧q.1.2.length≤131072*4096+n) hI h0;refine ⟨(row.foldl stp ((st,es),c)).2,?_,?_⟩
 ·have:=hend.2.1;rw [hproj,hfold] at this;exact this
 ·refine (Qc6 (l:=row) (fun j (q:(List Int×List Qc)×List (Int×Int))=>(q.1.1,j,q.1.2,q.2)) stp (fun n q=>Fnd p.zB q.1.1∧MapOk q.2 q.1.1∧q.1.2.length≤131072*4096+n) (fun q=>some (q.1.1,q.1.2,q.2)) (by unfold big;omega) hge (fun k n q hn hq=>?_) hI (fun k q hq=>?_) (s0:=((st,es),c)) h0).trans ?_
  ·obtain ⟨h1,h2,h3⟩:=hq;have hr:=hrt _ (List.getElem_mem hn);have hfl:=h1.len;dsimp only;rw [if_pos (by omega),Qx hn];generalize row[n]=x at hr;simp only [Option.bind_some,stp,add];rw [(h2 x.To).1];by_cases hm:x.To∈q.1.1
   ·have hins:ins q.1.1 x.To=q.1.1:=by unfold ins;rw [if_pos hm]
    rw [hins];simp only [hm,decide_true,if_true,Option.bind_some,(h2 x.To).2 hm];rw [Q3 (by simp only [List.length_cons,List.length_nil];unfold lim;omega)];rfl
   ·have hins:ins q.1.1 x.To=q.1.1++[x.To]:=by unfold ins;rw [if_neg hm]
    have hidx:(q.1.1++[x.To]).idxOf x.To=q.1.1.length:=by rw [List.idxOf_append,if_neg hm];simp
    rw [hins,hidx];simp only [hm,decide_false,Bool.false_eq_true,if_false];rw [Q3 (l:=q.1.1) (by simp only [List.length_cons,List.length_nil];unfold lim;omega)];simp only [Option.bind_some];rw [Q3 (by simp only [List.length_cons,List.length_nil];unfold lim;omega)];rfl
  ·dsimp only;rw [if_neg (by omega)]
  ·rw [hproj,hfold]
theorem Qbjx:Qd9 (spr p L)=some (⟨p.zB.zO,((supP p L).1.length:Int),(supP p L).2.1,(supP p L).2.2⟩,(supP p L).1):=by
 unfold Qd9 Qbl;obtain ⟨fuel,hfu,hge⟩ : ∃ f,Qbb=f∧1099511627776≤f:=⟨_,rfl,Nat.le_refl _⟩;rw [hfu];rw [show (spr p L).left_=L from rfl,show (spr p L).zB=p.zB from rfl];have hst:=hp.a.st;have hnS:nS p≤4096:=by unfold nS;omega
 have hsm:=hp.a.small;rw [Q54 (by unfold lim;omega),Option.bind_some];by_cases hz:0<p.zB.zS∧lf L 0=true
 ·have hb:(if (p.zB.zS==0)=true then some true else ((inO L.length 0).bind fun u11=>((getO L 0).bind fun x13=>some (!x13))))=some false:=by
   rw [if_neg (by simp;omega)];simp only [Qhk hL (p:=p) (x:=0) ⟨Int.le_refl _,hz.1⟩,Option.bind_some,hz.2];rfl
  rw [hb,Option.bind_some,if_neg (by simp)];rw [show mkO p.zB.zS ([]:List Qc)=some (List.replicate (nS p) []) from by unfold mkO lim;rw [if_pos (by omega)],Option.bind_some];refine Option.bind_eq_some_iff.2 ⟨(upto p.zB.zS).map fun i=>(outP p.zB i).filter fun x=>lf L x.To,?_,?_⟩
  ·refine (Qix (len:=p.zB.zQ.length) (fun n (c:List (List Qc))=>((n:Int),c)) (fun n c=>c=(upto p.zB.zS).map fun i=>((p.zB.zQ.take n).filter fun x=>x.From==i).filter fun x=>lf L x.To) (fun n c=>some ((upto p.zB.zS).map fun i=>(outP p.zB i).filter fun x=>lf L x.To)) ?_ ?_ fuel 0 (List.replicate (nS p) []) (Nat.zero_le _) (by have:=hsm.1.2.2;unfold big at this;omega) ?_)
   ·rintro k n c hn hc ih;have hr:=hp.a.ed0 _ (List.getElem_mem hn);have hcl:c.length=nS p:=by rw [hc,List.length_map,Qbm]
    have hb:=hsm.2.2.2;have hlen:(((p.zB.zQ.take n).filter fun x=>x.From==p.zB.zQ[n].From).filter fun x=>lf L x.To).length≤n:=Nat.le_trans (List.length_filter_le _ _) (Nat.le_trans (List.length_filter_le _ _) (by rw [List.length_take];omega));dsimp only;rw [if_pos (by omega),Qx hn,Option.bind_some];simp only [Qhk hL (p:=p) ⟨hr.2.2.1,hr.2.2.2.1⟩,Option.bind_some];have hat:at0 [] c p.zB.zQ[n].From=((p.zB.zQ.take n).filter fun x=>x.From==p.zB.zQ[n].From).filter fun x=>lf L x.To:=by rw [hc,Qog hr.1 hr.2.1]
    unfold nS at hcl;cases hq:lf L p.zB.zQ[n].To with
    | true =>
     simp only [if_true];rw [Qkf hr.1 (by omega),Option.bind_some,Ql3 (d:=[]) hr.1 (by omega),Option.bind_some,hat,Q3 (by simp only [List.length_cons,List.length_nil];unfold lim;omega),Option.bind_some,Option.bind_some,Qkm hr.1 (by omega),Option.bind_some,Option.bind_some,Qbq (by omega)];refine ih _ ?_;refine Q70 (d:=[]) (by rw [List.length_set,hcl,List.length_map,Qbm]) fun y h0 h1=>?_;rw [List.length_set,hcl] at h1;have h2:y<p.zB.zS:=by omega
     rw [Qbaz ⟨hr.1,by omega⟩ h0,Qog h0 h2,List.take_succ_eq_append_getElem hn,List.filter_append,List.filter_append];by_cases he:y=p.zB.zQ[n].From
     ·rw [if_pos he,← he];simp [he,hq]
     ·rw [if_neg he,hc,Qog h0 h2];have:(p.zB.zQ[n].From==y)=false:=by rw [beq_eq_false_iff_ne];exact fun e=>he e.symm
      simp [this]
    | false =>
     simp only [Bool.false_eq_true,if_false,Option.bind_some];rw [Qbq (by omega)];refine ih _ ?_;rw [hc];refine List.map_congr_left fun i _=>?_;rw [List.take_succ_eq_append_getElem hn,List.filter_append,List.filter_append];have:(([p.zB.zQ[n]]:List Qc).filter fun x=>x.From==i).filter (fun x=>lf L x.To)=[]:=by
      rw [List.filter_eq_nil_iff];intro y hy;have:=(List.mem_filter.1 hy).1;simp at this;subst this;simp [hq]
     rw [this,List.append_nil]
   ·rintro k c hc;dsimp only;rw [if_neg (by omega),hc,List.take_length]
    rfl
   ·refine Q70 (d:=[]) (by rw [List.length_replicate,List.length_map,Qbm]) fun y h0 h1=>?_;rw [List.length_replicate] at h1;have h2:y<p.zB.zS:=by unfold nS at h1;omega
    rw [Q7z h0 (by unfold nS at h1 ⊢;omega),Qog h0 h2];simp
  generalize hR:((upto p.zB.zS).map fun i=>(outP p.zB i).filter fun x=>lf L x.To)=R;have hRl:R.length=nS p:=by rw [← hR,List.length_map,Qbm]
  have hRat:∀ {y:Int},0≤y→y<p.zB.zS→at0 [] R y=(outP p.zB y).filter fun x=>lf L x.To:=fun h0 h1=>by rw [← hR,Qog h0 h1]
  have hs0:st0 p L=[0]:=by unfold st0;rw [if_pos hz]
  have hc0:MapOk (setM ([]:List (Int×Int)) 0 0) [0]:=fun r=>⟨by rw [Q1e];simp [hasM],fun hr=>by simp only [List.mem_singleton] at hr;subst hr;rfl⟩;generalize hA:supP p L=A;have hf0:Fnd p.zB [0]:=hs0 ▸ Qbfe hp (L:=L);have hA' : bldS p L (nS p+1) 0 [0] [] []=A:=by rw [← hA];unfold supP;rw [hs0]
  refine Q51 (P:=fun r=>∃ c' : List (Int×Int),r=(A.1,[],[],[],A.2.1,A.2.2,c')) ?_ ?_
  ·refine Qfj (fun x:List Int×Int×List Int×List Int×List Qc×List Int×List Qc×List (Int×Int)=>∃ (n f:Nat),x.2.1=n∧x.2.2.1=[]∧x.2.2.2.1=[]∧x.2.2.2.2.1=[]∧n+f=nS p+1∧n≤x.1.length∧Fnd p.zB x.1∧x.2.2.2.2.2.1.length≤n∧x.2.2.2.2.2.2.1.length≤131072*n∧MapOk x.2.2.2.2.2.2.2 x.1∧bldS p L f n x.1 x.2.2.2.2.2.1 x.2.2.2.2.2.2.1=A)
    (fun x=>5001-x.2.1.toNat) (fun _ r=>∃ v,r=some v∧∃ c' : List (Int×Int),v=(A.1,[],[],[],A.2.1,A.2.2,c')) ?_ fuel ([0],0,[],[],[],[],[],setM [] 0 0) ⟨0,nS p+1,rfl,rfl,rfl,rfl,by omega,Nat.zero_le _,hf0,Nat.zero_le _,Nat.zero_le _,hc0,hA'⟩ (by dsimp only;omega)
   rintro k ⟨st,x,c1,c2,c3,ms,es,c⟩ ⟨n,f,hx,h1,h2,h3,hf,hnl,hfd,hms,hes,hc,hB⟩ ih;dsimp only at hx h1 h2 h3 hnl hfd hms hes hc hB ih ⊢;subst hx h1 h2 h3;have hfl:=hfd.len;by_cases hlt:n<st.length
   ·obtain ⟨f,rfl⟩ : ∃ g,f=g+1:=⟨f-1,by unfold nS at *;omega⟩;have hi:st[n]? = some st[n]:=List.getElem?_eq_getElem hlt;have hr:=hfd.rg _ (List.getElem_mem hlt);unfold nS at hRl;rw [if_pos (by omega),Qx hlt,Option.bind_some,Qkf hr.1 (by omega),Option.bind_some,Ql3 (d:=[]) hr.1 (by omega),Option.bind_some];rw [bldS,hi] at hB;dsimp only at hB;obtain ⟨k1,k2,k3⟩:=Q1f hp (i:=n) (L:=L) (l:=outP p.zB st[n]) (s:=(st,es)) (fun x hx=>(Qto hp x hx).1) hfd;have hol:=Qv9 hp st[n];have hn4:n≤4096:=by unfold nS at *;omega
    obtain ⟨c',hc',hrow⟩:=Qbhc hp hL hge (i:=n) hn4 (s:=st[n]) (es:=es) hfd hc (by omega) (row:=at0 [] R st[n]) (hRat hr.1 hr.2);rw [hrow,Option.bind_some];have hk2:=k2.length_le;dsimp only at hk2;have hlt2:n<((outP p.zB st[n]).foldl (Qe1 L n) (st,es)).1.length:=by omega
    have hsame:((outP p.zB st[n]).foldl (Qe1 L n) (st,es)).1[n]=st[n]:=(k2.getElem hlt).symm;dsimp only;rw [Qx hlt2,Option.bind_some,hsame,Qp9 hsm.1.2.1,Option.bind_some];have hmk:(if decide (st[n]∈p.zB.zP)=true then (appO ms [(n:Int)]).bind fun x85=>some (((outP p.zB st[n]).foldl (Qe1 L n) (st,es)).1,x85,((outP p.zB st[n]).foldl (Qe1 L n) (st,es)).2,c') else some (((outP p.zB st[n]).foldl (Qe1 L n) (st,es)).1,ms,((outP p.zB st[n]).foldl (Qe1 L n) (st,es)).2,c'))=some (((outP p.zB st[n]).foldl (Qe1 L n) (st,es)).1,(if st[n]∈p.zB.zP then ms++[(n:Int)] else ms),((outP p.zB st[n]).foldl (Qe1 L n) (st,es)).2,c'):=by
     rw [Q3 (by simp only [List.length_cons,List.length_nil];unfold lim;unfold nS at *;omega)];by_cases hm:st[n]∈p.zB.zP<;>simp [hm]
    rw [hmk,Option.bind_some,Qbq (by omega)];refine ih _ ⟨n+1,f,rfl,rfl,rfl,rfl,by omega,by dsimp only;omega,k1,?_,by dsimp only at k3 ⊢;omega,hc',hB⟩ (by simp only [Int.toNat_natCast];unfold nS at *;omega);dsimp only;split
    ·simp only [List.length_append,List.length_cons,List.length_nil];omega
    ·omega
   ·rw [if_neg (by omega)];have hB' : (st,ms,es)=A:=by
     cases f with
     | zero=>exact hB
     | succ f=>rw [bldS,List.getElem?_eq_none (by omega)] at hB;exact hB
    subst hB';exact ⟨_,rfl,c,rfl⟩
  ·rintro _ ⟨c',rfl⟩
   rfl
 ·have hb:(if (p.zB.zS==0)=true then some true else ((inO L.length 0).bind fun u11=>((getO L 0).bind fun x13=>some (!x13))))=some true:=by
   by_cases h1:p.zB.zS=0
   ·rw [if_pos (by simp [h1])]
   ·have h2:0<p.zB.zS:=by omega
    have h3:lf L 0=false:=Bool.eq_false_iff.2 fun h=>hz ⟨h2,h⟩;rw [if_neg (by simp [h1])];simp only [Qhk hL (p:=p) (x:=0) ⟨Int.le_refl _,h2⟩,Option.bind_some,h3];rfl
  rw [hb,Option.bind_some,if_pos rfl];have hs0:st0 p L=[]:=by unfold st0;rw [if_neg hz]
  have:supP p L=([],[],[]):=by unfold supP;rw [hs0];rfl
  rw [this];rfl
end
end Go.Abs
end
section
namespace Go.Abs
open Go
theorem Qbib:∀ {l:List Qd},(l.map (·.State)).Nodup→Q00 ltRm l=true
 | [],_=>rfl
 | x::xs,h=>by
  rw [List.map_cons,List.nodup_cons] at h;simp only [Q00,Bool.and_eq_true,List.all_eq_true];refine ⟨fun y hy=>?_,Qbib h.2⟩;have:x.State≠y.State:=fun e=>h.1 (List.mem_map.2 ⟨y,hy,e.symm⟩);simp only [ltRm,Bool.or_eq_true,decide_eq_true_eq];omega
theorem Qbhd {p:Qb} (hp:RightP p) {T:List Qd} (h:Okt p T):∃ T',Qbgr T=some T'∧T'.Perm T:=by
 have hst:=hp.a.st;have hl:=h.len;unfold Qbgr Qbgq;rw [if_pos (by unfold nS at hl;omega),if_pos ?_]
 ·exact ⟨_,rfl,Qj1 _ _⟩
 ·simp only [Bool.and_eq_true,List.all_eq_true];refine ⟨fun x hx=>?_,Qbib h.nd⟩;have:=h.rg x hx;simp only [okRm,decide_eq_true_eq];omega
section
variable {p:Qb} (hp:RightP p) (hnt:∀ e∈p.zB.zQ,e.Event≠p.Tick)
include hp hnt
theorem Q9n {fuel:Nat} (hge:1099511627776≤fuel) {S:List Qd×Int} {f:Nat} (hS:Qqe p f 2 (T0 p) (r0 p)=S) (hf:nS p+1≤f+(T0 p).length) :
  Qbi (fun (k48:Int×List Qd×Int×List Bool→Option (List Qd×Int×List Bool)) ((rank44,r45,r46,c47):Int×(List Qd)×Int×(List Bool))=>((lenO c47 (nS p)).bind fun _=>((Qeq (spr p c47) rank44 true).bind fun x51=>(if ((x51.length:Int)==0) then some (r45,r46,c47) else ((Qbi (fun k55 ((x53,c54):Int×(List Bool))=>(if (x53<(x51.length:Int)) then ((getO x51 x53).bind fun x57=>((inO (nS p) x57.State).bind fun u59=>((setO c54 x57.State false).bind fun x61=>k55 ((IntKind.wrap .i64 (x53+1)),x61)))) else some c54)) fuel (0,c47)).bind fun (c63:List Bool)=>((appO r45 x51).bind fun x64=>k48 ((IntKind.wrap .i64 (rank44+1)),x64,rank44,c63))))))) fuel (2,T0 p,r0 p,Qbn p (T0 p))=some (S.1,S.2,Qbn p S.1):=by
 have hst:=hp.a.st;have hnS:nS p≤4096:=by unfold nS;omega
 refine Qv7 (fun x:Int×List Qd×Int×List Bool=>∃ (f:Nat) (T:List Qd),x.2.1=T∧x.2.2.2=Qbn p T∧Okt p T∧Qqe p f x.1 T x.2.2.1=S∧nS p+1≤f+T.length∧2≤x.1∧x.1≤T.length+2) (fun x=>(6000-x.1).toNat) (some (S.1,S.2,Qbn p S.1)) ⟨f,T0 p,rfl,rfl,Qbfd hp,hS,hf,by dsimp only;omega,by dsimp only;omega⟩ (by dsimp only;omega) ?_;rintro k ⟨rank,T',r,L⟩ ⟨f,T,hc,hL,hT,hS,hf,h2,hrk⟩ ih;dsimp only at hc hL hS hf h2 hrk ih ⊢;subst hc hL;have hTl:=hT.len;rw [Qof (Qh5 p _),Option.bind_some,Qbhb hp (Qh5 p _) hnt,Option.bind_some];obtain ⟨f,rfl⟩ : ∃ g,f=g+1:=⟨f-1,by omega⟩;rw [Qqe] at hS;by_cases he:Qic p (Qbn p T') rank=[]
 ·rw [if_pos he] at hS;rw [if_pos (by rw [he];rfl)];subst hS;rfl
 ·rw [if_neg he] at hS;have hpos:0<(Qic p (Qbn p T') rank).length:=List.length_pos_iff.2 he;rw [if_neg (by simp only [beq_iff_eq];omega)];have hok:=hT.round (rank:=rank) (by omega);have hmem:∀ x∈Qic p (Qbn p T') rank,0≤x.State∧x.State<p.zB.zS:=fun x hx=>(Qsn hx).1;have hol:=hok.len;rw [List.length_append] at hol;generalize Qic p (Qbn p T') rank=l at *
  have hin:Qbi (fun (k55:Int×List Bool→Option (List Bool)) ((x53,c54):Int×(List Bool))=>(if (x53<(l.length:Int)) then ((getO l x53).bind fun x57=>((inO (nS p) x57.State).bind fun u59=>((setO c54 x57.State false).bind fun x61=>k55 ((IntKind.wrap .i64 (x53+1)),x61)))) else some c54)) fuel (0,Qbn p T')=some (Qbn p (T'++l)):=by
   refine (Qc6 (l:=l) (fun i (s:List Bool)=>(i,s)) (fun s x=>s.set x.State.toNat false) (fun _ s=>s.length=nS p) (fun s=>some s) (by unfold big;omega) hge (fun k n s hn hs=>?_) (fun n s hn hs=>by simp only [List.length_set];exact hs) (fun k s hs=>?_) (s0:=Qbn p T') (Qh5 p T')).trans ?_
   ·have hr:=hmem _ (List.getElem_mem hn);unfold nS at hs ⊢;dsimp only;rw [if_pos (by omega),Qx hn,Option.bind_some,Qkf hr.1 (by omega),Option.bind_some,Qkm hr.1 (by omega),Option.bind_some]
   ·dsimp only;rw [if_neg (by omega)]
   ·rw [Q4q]
  rw [hin,Option.bind_some,Q3 (by unfold lim;omega),Option.bind_some,Qh3 (by omega) (by omega)];refine ih _ ⟨f,T'++l,rfl,rfl,hok,hS,by rw [List.length_append];omega,by dsimp only;omega,by dsimp only;rw [List.length_append];omega⟩ (by dsimp only;omega)
theorem Qbcf:∃ r,Qji p.zB p.zD p.zC true=some r∧r.zG.Kept=(upto p.zB.zS).filter (lf (Qbn p (solP p).1)) ∧
  r.zM=⟨p.zB.zO,((supP p (Qbn p (solP p).1)).1.length:Int),(supP p (Qbn p (solP p).1)).2.1,(supP p (Qbn p (solP p).1)).2.2⟩∧r.zU=(supP p (Qbn p (solP p).1)).1:=by
 unfold Qji Qd7;obtain ⟨fuel,hfu,hge⟩ : ∃ f,Qbb=f∧1099511627776≤f:=⟨_,rfl,Nat.le_refl _⟩;rw [hfu,Qbha hp,Option.bind_some];have hst:=hp.a.st;have hnS:nS p≤4096:=by unfold nS;omega
 have hpl:=hp.small;have hfl:=hp.fo.small hst.2;rw [show (spr p (Qbn p (T0 p))).left_=Qbn p (T0 p) from rfl,show (spr p (Qbn p (T0 p))).zB=p.zB from rfl,show (spr p (Qbn p (T0 p))).uncontrollable_=p.zC from rfl,show (spr p (Qbn p (T0 p))).back_=Q8i p from rfl,Qh5];refine Qwa (v:=([],[],[],[],[],[],[],[],[],T0 p,r0 p,[],[],[],[])) ?_ ?_
 ·refine (Qc6 (l:=p.zD) (fun i (s:List Qd×Int)=>(i,[],[],[],[],[],[],[],[],[],s.1,s.2,[],[],[],[])) (fun s x=>(s.1++[⟨x,1,1,-1⟩],1)) (fun n s=>s.1.length≤n) (fun s=>some ([],[],[],[],[],[],[],[],[],s.1,s.2,[],[],[],[])) hpl.2.1 hge (fun k n s hn hs=>?_) (fun n s hn hs=>by simp only [List.length_append,List.length_cons,List.length_nil];omega) (fun k s hs=>?_) (s0:=(([]:List Qd),(0:Int))) (by simp)).trans ?_
  ·dsimp only;rw [if_pos (by omega),Qx hn,Option.bind_some,Q3 (by simp only [List.length_cons,List.length_nil];unfold lim;omega),Option.bind_some]
  ·dsimp only;rw [if_neg (by omega)]
  ·have e1:p.zD.foldl (fun (s:List Qd×Int) x=>(s.1++[(⟨x,1,1,-1⟩ : Qd)],(1:Int))) ([],0)=(p.zD.foldl (fun (c:List Qd) x=>c++[⟨x,1,1,-1⟩]) [],p.zD.foldl (fun (_:Int) _=>(1:Int)) 0):=Qvw (f:=fun (c:List Qd) (x:Int)=>c++[⟨x,1,1,-1⟩]) (g:=fun _ _=>(1:Int));have e2:p.zD.foldl (fun (c:List Qd) x=>c++[⟨x,1,1,-1⟩]) []=T0 p:=by
    have:∀ (l:List Int) (acc:List Qd),l.foldl (fun (c:List Qd) x=>c++[⟨x,1,1,-1⟩]) acc=acc++l.map fun x=>⟨x,1,1,-1⟩:=by
     intro l
     induction l with
     | nil=>intro acc;simp
     | cons x l ih=>intro acc;rw [List.foldl_cons,ih];simp
    rw [this];rfl
   have e3:p.zD.foldl (fun (_:Int) _=>(1:Int)) 0=r0 p:=by
    unfold r0;cases p.zD with
    | nil=>rfl
    | cons x l =>
     rw [if_neg (by simp),List.foldl_cons];have:∀ l:List Int,l.foldl (fun (_:Int) _=>(1:Int)) 1=1:=fun l=>by induction l with|nil=>rfl|cons y l ih=>rw [List.foldl_cons,ih]
     exact this l
   rw [e1,e2,e3]
 dsimp only;have hS:=Q9n hp hnt hge (S:=solP p) (f:=nS p+1) rfl (by omega);have hSok:=(Q6d hp).1;generalize solP p=S at hS hSok ⊢;obtain ⟨T,r⟩:=S;dsimp only at hS hSok ⊢;refine Qwa hS ?_;dsimp only;obtain ⟨T',hT',_⟩:=Qbhd hp hSok;rw [hT',Option.bind_some];have hlL:=Qh5 p T;obtain ⟨D,hD,hDl,_⟩:=Qsp hp hlL;rw [Qof hlL];simp only [Option.bind_some];rw [show Qu.mk p.zB p.zC (Q8i p) (Qbn p T)=spr p (Qbn p T) from rfl,hD,Option.bind_some,Qbjx hp hlL];refine Qwa (v:=((upto p.zB.zS).filter (lf (Qbn p T)),((upto p.zB.zS).filter (lf (Qbn p T))).map (ati D))) ?_ ?_
 ·refine (Qc6 (l:=upto p.zB.zS) (fun i (s:List Int×List Int)=>(i,s.1,s.2)) (fun s i=>if lf (Qbn p T) i then (s.1++[i],s.2++[ati D i]) else s) (fun n s=>s.1.length≤n∧s.2.length≤n) (fun s=>some (s.1,s.2)) (by rw [Qbm];unfold big;omega) hge (fun k n s hn hs=>?_) (fun n s hn hs=>?_) (fun k s hs=>?_) (s0:=([],[])) (by simp)).trans ?_
  ·have hn':=Qiy hn;obtain ⟨a1,a2⟩:=hs;have hx:0≤(n:Int)∧(n:Int)<p.zB.zS:=⟨by omega,by omega⟩;unfold nS at hDl;dsimp only;rw [Qkb hn,if_pos (by omega),Ql3 (d:=0) (l:=D) hx.1 (by omega),Option.bind_some];have hla:=Qhk hlL hx;rw [hlL] at hla;simp only [hla,Option.bind_some];rw [Q3 (l:=s.1) (by simp only [List.length_cons,List.length_nil];unfold lim;omega),Q3 (l:=s.2) (by simp only [List.length_cons,List.length_nil];unfold lim;omega)];cases lf (Qbn p T) (n:Int)<;>rfl
  ·obtain ⟨a1,a2⟩:=hs;split
   ·simp only [List.length_append,List.length_cons,List.length_nil];omega
   ·omega
  ·unfold nS at hDl;rw [Qbm,if_neg (by omega)]
  ·have:∀ (l:List Int) (s:List Int×List Int),l.foldl (fun s i=>if lf (Qbn p T) i then (s.1++[i],s.2++[ati D i]) else s) s=(s.1++l.filter (lf (Qbn p T)),s.2++(l.filter (lf (Qbn p T))).map (ati D)):=by
    intro l
    induction l with
    | nil=>intro s;simp
    | cons x l ih =>
     intro s;rw [List.foldl_cons,ih];cases hq:lf (Qbn p T) x<;>simp [hq]
   rw [this];rfl
 exact ⟨_,rfl,rfl,rfl,rfl⟩
end
end Go.Abs
end
section
namespace Go.Abs
open Go
theorem Qbbf {p:Qb} {L:List Bool} {i:Int}:(escP p L i).1=0↔(∀ y∈outP p.zB i,lf L y.To=false→y.Event∉p.zC)∧(Qop p L i=true→Qxz p L i=true):=by
 unfold escP;cases hf:(outP p.zB i).find? (fun y=>!lf L y.To&&decide (y.Event∈p.zC)) with
 | some y =>
  have h1:=List.find?_some hf;have h2:=List.mem_of_find?_eq_some hf;simp only [Bool.and_eq_true,Bool.not_eq_true',decide_eq_true_eq] at h1;constructor
  ·intro h;simp at h
  ·intro h;exact absurd h1.2 (h.1 y h2 h1.1)
 | none =>
  rw [List.find?_eq_none] at hf;constructor
  ·intro h;refine ⟨fun y hy h1 h2=>hf y hy (by simp [h1,h2]),fun h1=>?_⟩;cases h2:Qxz p L i with
   | true=>rfl
   | false=>rw [h1,h2] at h;simp at h
  ·rintro ⟨_,h⟩;cases h1:Qop p L i with
   | false=>simp
   | true=>rw [h h1];simp
end Go.Abs
end
section
namespace Go.Abs
open Go
theorem Q8n {a:Qa} (h:Right a) (s:Int):(outP a s).Pairwise fun p q=>p.Event<q.Event:=by
 have:=Qqb h s;have h2:((outP a s).map (·.Event)).Pairwise (· < ·):=by rw [this];exact h.al.filter _
 exact List.pairwise_map.1 h2
def rowS (p:Qb) (L:List Bool) (s:Int):List (Int×Int):=((outP p.zB s).filter fun x=>lf L x.To).map fun x=>(x.Event,x.To)
theorem Qzc {p:Qb} {L:List Bool} {s:Int} {y:Int×Int}:y∈rowS p L s↔lf L y.2=true∧∃ x∈outP p.zB s,x.Event=y.1∧x.To=y.2:=by
 unfold rowS;rw [List.mem_map];constructor
 ·rintro ⟨x,hx,rfl⟩;obtain ⟨h1,h2⟩:=List.mem_filter.1 hx;exact ⟨h2,x,h1,rfl,rfl⟩
 ·rintro ⟨h1,x,h2,h3,h4⟩;exact ⟨x,List.mem_filter.2 ⟨h2,by rw [h4];exact h1⟩,by rw [h3,h4]⟩
theorem Qbfk {p:Qb} {L:List Bool} {i:Nat} {s:Int} (c:List Int×List Qc):(rowS p L s).foldl (stG i) c=(outP p.zB s).foldl (Qe1 L i) c:=by
 unfold rowS;rw [List.foldl_map,← Qw1]
 rfl
abbrev mkS (p:Qb) (s:Int):Bool:=decide (s∈p.zB.zP)
theorem Qbfl {p:Qb} {L:List Bool}:∀ (f i:Nat) (st ms:List Int) (es:List Qc),bldS p L f i st ms es=bsG (rowS p L) (mkS p) f i st ms es
 | 0,_,_,_,_=>rfl
 | f+1,i,st,ms,es=>by
  rw [bldS,bsG];cases st[i]? with
  | none=>rfl
  | some s =>
   dsimp only;rw [Qbfl f,Qbfk];by_cases h:s∈p.zB.zP
   ·rw [if_pos h,if_pos (by unfold mkS;exact decide_eq_true h)]
   ·rw [if_neg h,if_neg (by unfold mkS;simp [h])]
def supA (p:Qb) (L:List Bool):Qa:=⟨p.zB.zO,((supP p L).1.length:Int),(supP p L).2.1,(supP p L).2.2⟩
section
variable {p:Qb} (hp:RightP p) {L:List Bool}
include hp
theorem Qpb:InG (rowS p L) (mkS p) (supP p L).1.length (supP p L).1 (supP p L).2.1 (supP p L).2.2∧(∀ x∈(supP p L).1,(0≤x∧x<p.zB.zS)∧lf L x=true)∧((supP p L).1=[]∨(supP p L).1[0]? = some 0):=by
 have e:supP p L=bsG (rowS p L) (mkS p) (nS p+1) 0 (st0 p L) [] []:=Qbfl _ _ _ _ _;rw [e];have key:=Qbeu (row:=rowS p L) (mk:=mkS p) (P:=fun x=>(0≤x∧x<p.zB.zS)∧lf L x=true) (N:=nS p)
  (fun s _=>by
   unfold rowS;exact List.pairwise_map.2 ((Q8n hp.a s).filter _))
  (fun s _ y hy=>by
   obtain ⟨h1,x,h2,h3,h4⟩:=Qzc.1 hy;have:=hp.a.ed0 x (List.mem_filter.1 h2).1;exact ⟨by omega,h1⟩)
  (fun l hn hl=>Fnd.len (a:=p.zB) ⟨hn,fun x hx=>(hl x hx).1⟩)
  (f:=nS p+1) (i:=0) (st:=st0 p L) (ms:=[]) (es:=[])
 have hst:InG (rowS p L) (mkS p) 0 (st0 p L) [] []∧(∀ x∈st0 p L,(0≤x∧x<p.zB.zS)∧lf L x=true):=by
  unfold st0;split
  ·rename_i h;exact ⟨.one 0,fun x hx=>by rw [List.mem_singleton.1 hx];exact ⟨⟨Int.le_refl 0,h.1⟩,h.2⟩⟩
  ·exact ⟨.nil,fun x hx=>by cases hx⟩
 obtain ⟨k1,k2,k3⟩:=key hst.1 hst.2 (Nat.zero_le _) (by omega);refine ⟨k1,k2,?_⟩;by_cases h:0<p.zB.zS∧lf L 0=true
 ·right;exact Qy4 k3 (by unfold st0;rw [if_pos h];rfl)
 ·left;have:st0 p L=[]:=by unfold st0;rw [if_neg h]
  rw [this]
  rfl
theorem Qbfm:(supP p L).1.length≤nS p:=Fnd.len (a:=p.zB) ⟨(Qpb hp).1.nd,fun x hx=>((Qpb hp).2.1 x hx).1⟩
theorem Q27:Right (supA p L):=by
 have hst:=hp.a.st;have hl:=Qbfm hp (L:=L);unfold nS at hl;refine (Qpb hp).1.right hp.a.al0 hp.a.al (by omega) fun s hs y hy=>?_;obtain ⟨h1,x,h2,h3,h4⟩:=Qzc.1 hy;rw [← h3];exact (hp.a.ed0 x (List.mem_filter.1 h2).1).2.2.2.2
omit hp in
theorem CoR.lf {y:Int} (h:CoR p L y):lf L y=true:=by cases h<;>assumption
theorem Qbjy {q:Qb} (hq:q.zB=supA p L) {L' : List Bool} (hL' : ∀ k:Nat,k<(supP p L).1.length→Go.Abs.lf L' (k:Int)=true) {y:Int} (h:CoR p L y) :
  ∀ k:Nat,(supP p L).1[k]? = some y→CoR q L' (k:Int):=by
 obtain ⟨hs,_,_⟩:=Qpb hp (L:=L)
 induction h with
 | mk y h1 h2 =>
  intro k hk;have hlt:=(List.getElem?_eq_some_iff.1 hk).1;refine .mk _ (hL' k hlt) ?_;rw [hq];exact (hs.mm (k:Int)).2 ⟨k,y,hlt,rfl,hk,by simp [h2]⟩
 | step e h1 h2 h3 ih =>
  intro k hk;have hlt:=(List.getElem?_eq_some_iff.1 hk).1;have hy:(e.Event,e.To)∈rowS p L e.From:=Qzc.2 ⟨h3.lf,e,List.mem_filter.2 ⟨h1,by simp⟩,rfl,rfl⟩;have he:=(hs.em ⟨(k:Int),e.Event,((supP p L).1.idxOf e.To:Int)⟩).2 ⟨k,e.From,_,hlt,hk,hy,rfl⟩;exact CoR.step (p:=q) (L:=L') (⟨(k:Int),e.Event,((supP p L).1.idxOf e.To:Int)⟩ : Qc) (by rw [hq];exact he) (hL' k hlt) (ih _ (hs.at hk hy))
end
theorem Qbfn {q:Qb} (hq:RightP q) (hf:q.zD=[]) (hu:q.zC=[]) (hnt:∀ e∈q.zB.zQ,e.Event≠q.Tick)
  (hc:∀ i,0≤i→i<q.zB.zS→CoR q (Qbn q []) i):(solP q).1=[]:=by
 have hT:T0 q=[]:=by unfold T0;rw [hf];rfl
 have hr:Qic q (Qbn q []) 2=[]:=by
  have hE:Qt1 q (Qbn q []) 2=[]:=by
   unfold Qt1;refine List.filterMap_eq_nil_iff.2 fun i hi=>?_;have h0:(escP q (Qbn q []) i).1=0:=by
    refine Qbbf.2 ⟨fun y _ _=>by rw [hu];simp,fun ht=>?_⟩;unfold Qop at ht;obtain ⟨y,hy,h1⟩:=List.any_eq_true.1 ht;simp only [Bool.and_eq_true,beq_iff_eq] at h1;exact absurd h1.1 (hnt y (List.mem_filter.1 hy).1)
   unfold remE;rw [h0];simp
  have hB:Q8e q (Qbn q []) 2=[]:=by
   unfold Q8e;refine List.filterMap_eq_nil_iff.2 fun i hi=>?_;have hi:=Qim.1 hi;have:=Qbbd hq (hc i hi.1 hi.2);unfold remB;rw [decide_eq_false (by omega)];simp
  unfold Qic;rw [hE,hB];rfl
 unfold solP;rw [Qqe,hT,if_pos hr]
theorem Qbbg {q:Qb} {i:Int} (h0:0≤i) (h1:i<q.zB.zS):lf (Qbn q []) i=true:=by
 unfold Qbn;exact Q7z h0 (by unfold nS;omega)
theorem Qbfo {p:Qb} (hp:RightP p) (hnt:∀ e∈p.zB.zQ,e.Event≠p.Tick):∃ r,Qfb p.zB p.zD p.zC=some (r,0)∧r.zG.Kept=(upto p.zB.zS).filter (lf (Qbn p (solP p).1)):=by
 have hpl:=hp.small;obtain ⟨r,hr,hk,_⟩:=Qbcf hp hnt;have hcheck:Qj7 p.zB p.zD p.zC=some 0:=by
  unfold Qj7 Qel;rw [Q5y hpl.1,Qvq.2 hp.a,Option.bind_some,if_neg (by simp),Qm6 hpl.2.1,Qky.2 hp.fo,Option.bind_some,if_neg (by simp),Qm6 hpl.2.2.1,Qky.2 hp.un]
  rfl
 refine ⟨r,?_,hk⟩;unfold Qfb Qcu;rw [hcheck,Option.bind_some,if_neg (by simp),hr]
 rfl
theorem Qbhe {p:Qb} (hp:RightP p) (h5:∀ x∈p.zB.zO,x<31):∃ r,Qfb (supA p (Qbn p (solP p).1)) [] []=some (r,0)∧(r.zG.Kept.length:Int)=(supA p (Qbn p (solP p).1)).zS:=by
 have hR:=Q27 hp (L:=Qbn p (solP p).1);obtain ⟨hs,hst,_⟩:=Qpb hp (L:=Qbn p (solP p).1);generalize hL:Qbn p (solP p).1=L at hR hs hst ⊢;have hq:RightP ⟨supA p L,[],[],[],31⟩:=⟨hR,⟨fun x hx=>absurd hx (by simp),List.Pairwise.nil⟩,⟨fun x hx=>absurd hx (by simp),List.Pairwise.nil⟩,⟨fun x hx=>absurd hx (by simp),List.Pairwise.nil⟩,by simp,by simp,by simp⟩;have hnt:∀ e∈(supA p L).zQ,e.Event≠31:=fun e he=>by
  have h1:e.Event∈p.zB.zO:=(hR.ed0 e he).2.2.2.2;have:=h5 _ h1;omega
 have hcor:∀ i,0≤i→i<(supA p L).zS→CoR ⟨supA p L,[],[],[],31⟩ (Qbn ⟨supA p L,[],[],[],31⟩ []) i:=fun i h0 h1=>by
  have h1' : i<((supP p L).1.length:Int):=h1;obtain ⟨k,rfl⟩ : ∃ k:Nat,i=(k:Int):=⟨i.toNat,by omega⟩;have hlt:k<(supP p L).1.length:=by omega
  obtain ⟨o,ho⟩ : ∃ o,(supP p L).1[k]? = some o:=⟨_,List.getElem?_eq_getElem hlt⟩;obtain ⟨a1,a2⟩:=hst o (List.mem_of_getElem? ho);have hok:=Qba9 hp a1.1 a1.2 (by rw [hL];exact a2);unfold okS at hok;simp only [Bool.and_eq_true,decide_eq_true_eq] at hok;refine Qbjy hp (q:=⟨supA p L,[],[],[],31⟩) rfl (fun k hk=>Qbbg (by omega) (by show (k:Int)<((supP p L).1.length:Int);omega)) ?_ k ho;rw [← hL];exact (Qbfj hp a1.1 a1.2).2 hok.2.2
 obtain ⟨r,hr,hk⟩:=Qbfo hq hnt;refine ⟨r,hr,?_⟩;rw [hk,Qbfn hq rfl rfl hnt hcor];have:(upto (supA p L).zS).filter (lf (Qbn ⟨supA p L,[],[],[],31⟩ []))=upto (supA p L).zS:=List.filter_eq_self.2 fun i hi=>by
  have:=Qim.1 hi;exact Qbbg this.1 this.2
 show ((((upto (supA p L).zS).filter (lf (Qbn ⟨supA p L,[],[],[],31⟩ []))).length:Nat):Int)=_;rw [this,Qbm];have:=hR.st.1;omega
end Go.Abs
end
section
namespace Go.Abs
open Go
def kids (a:Qa) (x:Qj):List Qj:=(outP a x.state_).map fun e=>⟨x.word_++[e.Event],e.To⟩
def wq (a:Qa) (most:Int):Nat→Nat→List Qj→Option (List Qj)
 | 0,_,all=>some all
 | fuel+1,i,all=>match all[i]? with
  | none=>some all
  | some x=>if (x.word_.length:Int)=most then some all else if (all++kids a x).length>1024 then none else wq a most fuel (i+1) (all++kids a x)
theorem Qbfp {a:Qa} (h:Right a) (s:Int):(outP a s).length≤a.zO.length:=by
 have:=congrArg List.length (Qqb h s);rw [List.length_map] at this;rw [this];exact List.length_filter_le _ _
section
variable {a:Qa} (h:Right a)
include h
theorem Qbfq (fuel:Nat) (hfu:1099511627776≤fuel) {all:List Qj} {i:Nat} {x:Qj} (hx:all[i]? = some x) (hall:all.length≤2000) (hw:x.word_.length≤2000) :
  Qbi (fun k24 ((all22,x23):(List Qj)×Int)=>(if (x23<((outP a x.state_).length:Int)) then ((getO (outP a x.state_) x23).bind fun x26=>((getO all22 (i:Int)).bind fun x28=>((Qcb x28.word_).bind fun x31=>((appO x31 [x26.Event]).bind fun x32=>((appO all22 [(Qj.mk x32 x26.To)]).bind fun x34=>k24 (x34,(IntKind.wrap .i64 (x23+1)))))))) else some all22)) fuel (all,0)=some (all++kids a x):=by
 have hl:=Qbfp h x.state_;have hsm:=h.small.2.1;refine (Qix (len:=(outP a x.state_).length) (fun n (acc:List Qj)=>(acc,(n:Int))) (fun n acc=>acc=all++((outP a x.state_).take n).map fun e=>⟨x.word_++[e.Event],e.To⟩) (fun n acc=>some (all++kids a x)) ?_ ?_ fuel 0 all (Nat.zero_le _) (by omega) (by simp))
 ·intro k n acc hn hi ih;subst hi;dsimp only;have hg:getO (all++((outP a x.state_).take n).map fun e=>(⟨x.word_++[e.Event],e.To⟩ : Qj)) (i:Int)=some x:=by
   rw [Q2y];refine ⟨by omega,?_⟩;have:=(List.getElem?_eq_some_iff.1 hx).1;rw [Int.toNat_natCast,List.getElem?_append_left this];exact hx
  rw [if_pos (by omega),Qx hn];simp only [Option.bind_some];rw [hg];simp only [Option.bind_some];rw [Q54 (by unfold lim;omega)];simp only [Option.bind_some];rw [Q3 (by simp only [List.length_cons,List.length_nil];unfold lim;omega)];simp only [Option.bind_some];rw [Q3 (by simp only [List.length_cons,List.length_nil,List.length_append,List.length_map,List.length_take];unfold lim;omega)];simp only [Option.bind_some];rw [Qbq (by omega)];refine ih _ ?_;rw [List.take_succ_eq_append_getElem hn,List.map_append,List.append_assoc];rfl
 ·intro k acc hi;subst hi;dsimp only;rw [if_neg (by omega),List.take_length];rfl
theorem Qbfr {x y:Qj} (hy:y∈kids a x):y.word_.length=x.word_.length+1:=by
 obtain ⟨e,_,rfl⟩:=List.mem_map.1 hy;simp
theorem Qbcg {x y:Qj} (hy:y∈kids a x):0≤y.state_∧y.state_<a.zS:=by
 obtain ⟨e,he,rfl⟩:=List.mem_map.1 hy;unfold outP at he;have:=h.ed0 e (List.mem_filter.1 he).1;simp only;omega
structure QOk (a:Qa) (i:Nat) (all:List Qj):Prop where
 le:i≤all.length
 ln:all.length≤1024
 wl:∀ x∈all,x.word_.length≤i
 sr:∀ x∈all,0≤x.state_∧x.state_<a.zS
theorem QOk.next {i:Nat} {all:List Qj} (q:QOk a i all) {x:Qj} (hx:all[i]? = some x) (hl:(all++kids a x).length≤1024):QOk a (i+1) (all++kids a x):=by
 have hi:=(List.getElem?_eq_some_iff.1 hx).1;have hm:=List.mem_of_getElem? hx;refine ⟨by simp only [List.length_append];omega,hl,fun y hy=>?_,fun y hy=>?_⟩
 ·rcases List.mem_append.1 hy with hy|hy
  ·have:=q.wl y hy;omega
  ·have:=Qbfr h hy;have:=q.wl x hm;omega
 ·rcases List.mem_append.1 hy with hy|hy
  ·exact q.sr y hy
  ·exact Qbcg h hy
def Qw2 (a:Qa) (marked:Bool) (all:List Qj):List (List Int):=(all.filter fun x=>!marked||decide (x.state_∈a.zP)).map (·.word_)
theorem Q9o (fuel:Nat) (hfu:1099511627776≤fuel) (marked:Bool) {all:List Qj} (hall:all.length≤2000) (hw:∀ x∈all,x.word_.length≤2000) :
  ((Qbi (fun k41 ((l39,x40):(List (List Int))×Int)=>(if (x40<(all.length:Int)) then ((((getO all x40).bind fun x43=>(((if marked then ((Qb1 a.zP x43.state_).bind fun x47=>some x47) else some true)).bind fun (x48:Bool)=>(if x48 then ((appO [] x43.word_).bind fun x50=>((appO l39 [x50]).bind fun x52=>some (x52,x43.word_,x43.state_))) else some (l39,x43.word_,x43.state_))))).bind fun ((l54,c55,c56):(List (List Int))×(List Int)×Int)=>k41 (l54,(IntKind.wrap .i64 (x40+1)))) else some l39)) fuel ([],0)).bind fun (l57:List (List Int))=>some (l57,(0:Int)))=some (Qw2 a marked all,0):=by
 have hsm:=h.small.1;have:=Qy1 (l:=all) (f:=fun x=>if (!marked||decide (x.state_∈a.zP))=true then some x.word_ else none) (fuel:=fuel) (F:=fun k41 ((l39,x40):(List (List Int))×Int)=>(if (x40<(all.length:Int)) then ((((getO all x40).bind fun x43=>(((if marked then ((Qb1 a.zP x43.state_).bind fun x47=>some x47) else some true)).bind fun (x48:Bool)=>(if x48 then ((appO [] x43.word_).bind fun x50=>((appO l39 [x50]).bind fun x52=>some (x52,x43.word_,x43.state_))) else some (l39,x43.word_,x43.state_))))).bind fun ((l54,c55,c56):(List (List Int))×(List Int)×Int)=>k41 (l54,(IntKind.wrap .i64 (x40+1)))) else some l39)) (by unfold big;omega) (by omega) (by
  intro k acc n hn hacc;dsimp only;have hwl:=hw _ (List.getElem_mem hn);rw [if_pos (by omega),Qx hn];simp only [Option.bind_some];rw [Qp9 hsm.2.1];have hb:(if marked=true then (some (decide (all[n].state_∈a.zP))).bind (fun x47=>some x47) else some true)=some (!marked||decide (all[n].state_∈a.zP)):=by cases marked<;>rfl
  rw [hb];simp only [Option.bind_some];by_cases hc:(!marked||decide (all[n].state_∈a.zP))=true
  ·rw [if_pos hc,if_pos hc,Q3 (by simp only [List.length_nil];unfold lim;omega)];simp only [Option.bind_some,List.nil_append];rw [Q3 (by simp only [List.length_cons,List.length_nil];unfold lim;omega)];rfl
  ·rw [if_neg hc,if_neg hc];simp) (by
  intro k acc;dsimp only;rw [if_neg (by omega)])
 refine (congrArg (fun w=>Option.bind w _) this).trans ?_;rw [Option.bind_some];congr 2;unfold Qw2;generalize all=l
 induction l with
 | nil=>rfl
 | cons x l ih =>
  by_cases hc:(!marked||decide (x.state_∈a.zP))=true
  ·rw [List.filterMap_cons,List.filter_cons,if_pos hc,if_pos hc,ih];rfl
  ·rw [List.filterMap_cons,List.filter_cons,if_neg hc,if_neg hc,ih]
theorem Qbch (marked:Bool) (most:Int) (fuel:Nat) (hfu:1099511627776≤fuel) (i:Nat) (all:List Qj) (q:QOk a i all) (J:List Qj→Option (List (List Int)×Int)) (hJ:∀ all:List Qj,all.length≤2000→(∀ x∈all,x.word_.length≤2000)→J all=some (Qw2 a marked all,0)) :
  Qbi (fun k13 ((all11,i12):(List Qj)×Int)=>(if (i12<(all11.length:Int)) then ((getO all11 i12).bind fun x15=>(if ((x15.word_.length:Int)==most) then J all11 else ((((getO all11 i12).bind fun x18=>((Qfz a x18.state_).bind fun x21=>Qbi (fun k24 ((all22,x23):(List Qj)×Int)=>(if (x23<(x21.length:Int)) then ((getO x21 x23).bind fun x26=>((getO all22 i12).bind fun x28=>((Qcb x28.word_).bind fun x31=>((appO x31 [x26.Event]).bind fun x32=>((appO all22 [(Qj.mk x32 x26.To)]).bind fun x34=>k24 (x34,(IntKind.wrap .i64 (x23+1)))))))) else some all22)) fuel (all11,0)))).bind fun (all36:List Qj)=>(if ((all36.length:Int)>1024) then some ([],3) else k13 (all36,(IntKind.wrap .i64 (i12+1))))))) else J all11)) fuel (all,(i:Int)) =
  some (match wq a most (1025-i) i all with|none=>([],3)|some all=>(Qw2 a marked all,0)):=by
 have hsm:=h.small.1;have hst:=h.st;have key:=Qfj (F:=(fun (k13:List Qj×Int→Option (List (List Int)×Int)) ((all11,i12):(List Qj)×Int)=>(if (i12<(all11.length:Int)) then ((getO all11 i12).bind fun x15=>(if ((x15.word_.length:Int)==most) then J all11 else ((((getO all11 i12).bind fun x18=>((Qfz a x18.state_).bind fun x21=>Qbi (fun k24 ((all22,x23):(List Qj)×Int)=>(if (x23<(x21.length:Int)) then ((getO x21 x23).bind fun x26=>((getO all22 i12).bind fun x28=>((Qcb x28.word_).bind fun x31=>((appO x31 [x26.Event]).bind fun x32=>((appO all22 [(Qj.mk x32 x26.To)]).bind fun x34=>k24 (x34,(IntKind.wrap .i64 (x23+1)))))))) else some all22)) fuel (all11,0)))).bind fun (all36:List Qj)=>(if ((all36.length:Int)>1024) then some ([],3) else k13 (all36,(IntKind.wrap .i64 (i12+1))))))) else J all11)))
  (fun x=>∃ i:Nat,x.2=(i:Int)∧QOk a i x.1) (fun x=>1025-x.2.toNat) (fun x r=>∀ i:Nat,x.2=(i:Int)→r=some (match wq a most (1025-i) i x.1 with|none=>([],3)|some all=>(Qw2 a marked all,0))) (by
   rintro k ⟨all,_⟩ ⟨i,rfl,q⟩ ih j hj;replace q:QOk a i all:=q;obtain rfl:i=j:=by have:(i:Int)=j:=hj;omega
   have hfin:J all=some (Qw2 a marked all,0):=hJ all (by have:=q.ln;omega) fun x hx=>by have:=q.wl x hx;have:=q.le;have:=q.ln;omega
   have hle:=q.le;have hln:=q.ln;dsimp only;rw [show 1025-i=(1024-i)+1 from by omega];by_cases hlt:i<all.length
   ·have hg:=List.getElem?_eq_getElem hlt;have hsr:=q.sr _ (List.getElem_mem hlt);have hwl:=q.wl _ (List.getElem_mem hlt);simp only [wq,hg];rw [if_pos (by omega),Qx hlt];simp only [Option.bind_some];by_cases hm:(all[i].word_.length:Int)=most
    ·rw [if_pos (by simpa using hm),if_pos hm,hfin]
    ·rw [if_neg (by simpa using hm),if_neg hm,Qbes h hsm (by omega) (by omega)];simp only [Option.bind_some];rw [Qbfq h fuel hfu hg (by omega) (by omega)];simp only [Option.bind_some];by_cases hb:(all++kids a all[i]).length>1024
     ·rw [if_pos (by omega),if_pos hb]
     ·rw [if_neg (by omega),if_neg hb,Qbq (by omega)];have:=ih (all++kids a all[i],((i+1:Nat):Int)) ⟨i+1,rfl,q.next h hg (by omega)⟩ (by simp only;omega) (i+1) rfl;rw [this,show 1025-(i+1)=1024-i from by omega]
   ·rw [if_neg (by omega),hfin];have:all[i]? = none:=List.getElem?_eq_none_iff.2 (by omega);simp only [wq,this]) fuel (all,(i:Int)) ⟨i,rfl,q⟩ (by simp only;omega)
 exact key i rfl
theorem Qbhf (most:Int) (marked:Bool):Qgn a most marked=some (if most<0∨most>4096 then ([],(2:Int)) else if a.zS=0 then ([],0) else match wq a most 1025 0 [⟨[],0⟩] with|none=>([],3)|some all=>(Qw2 a marked all,0)):=by
 have hst:=h.st;unfold Qgn Qep;obtain ⟨fuel,hfu,hge⟩ : ∃ f,Qbb=f∧1099511627776≤f:=⟨_,rfl,Nat.le_refl _⟩;rw [hfu,Qxx h,Option.bind_some,if_neg (by simp)];by_cases h1:most<0∨most>4096
 ·rw [if_pos h1];rcases h1 with h1|h1
  ·simp [h1]
  ·rw [if_neg (by omega)];simp [h1]
 ·rw [if_neg h1,if_neg (by omega)];simp only [Option.bind_some,show decide (most>4096)=false from by simp;omega,Bool.false_eq_true,if_false];by_cases h0:a.zS=0
  ·simp [h0]
  ·rw [if_neg (by simpa using h0),if_neg h0];unfold letJ;exact Qbch h marked most fuel hge 0 [⟨[],0⟩] ⟨by simp,by simp,by simp,by simp;omega⟩ _ fun all h1 h2=>Q9o h fuel hge marked h1 h2
end
end Go.Abs
end
section
namespace Go.Abs
open Go
def Qbfs (n:Int):Int→List Int→Bool
 | _,[]=>false
 | c,e::w=>decide (updC c e>n)||Qbfs n (updC c e) w
theorem Qbhg {n:Int} {d:Qa} (h:Dk n d) {s s' e:Int} (h0:0≤s) (h1:s<n+2) (hs:Q3e d s e=some s'):s'-1=updC (s-1) e:=by
 unfold Q3e at hs;by_cases he:e∈d.zO
 ·rw [if_pos he] at hs;split at hs
  ·rename_i hp;cases hs;rw [h.al] at he;have:=h.up s e h0 h1 (by simpa using he) hp;omega
  ·cases hs
 ·rw [if_neg he] at hs;cases hs;rw [h.al] at he;simp only [List.mem_cons,List.not_mem_nil,or_false,not_or] at he;unfold updC;rw [if_neg (by omega),if_neg he.2.1,if_neg (by omega)]
section
variable {p d A:Qa} {T:List (List Int)} {n:Int} (hd:Dk n d) (hP:Prd [p,d] A T) (hI:InG (rowT (Qo8 [p,d]) A.zO) (mkT [p,d]) T.length T A.zP A.zQ) (hT0:T=[]∨T[0]? = some [0,0])
 {P:Qb} (hp:RightP P) {unc:List Int} (hA:P.zB=cplA p A T unc 4) (hF:P.zD=[A.zS]) (hK:P.Tick=4) {L:List Bool} (hL:L=Qbn P (solP P).1)
def AtC (P:Qb) (L:List Bool) (T:List (List Int)) (k c:Int):Prop:=∃ (m o:Nat) (x s:Int),k=(m:Int)∧(supP P L).1[m]? = some (o:Int)∧T[o]? = some [x,s]∧s-1=c
include hd hP in
theorem Qbft {o:Nat} {t:List Int} (ht:T[o]? = some t):∃ x s,t=[x,s]∧(0≤s∧s<n+2):=by
 have h:=hP.t t (List.mem_of_getElem? ht)
 match t,h with
 | [x,s],h=>exact ⟨x,s,rfl,by have:=h.2.1;rw [hd.st] at this;exact this⟩
include hp hF hL in
theorem Qbbh:lf L A.zS=false:=by
 obtain ⟨h1,_,h3⟩:=Q6d hp;have hm:(⟨A.zS,1,1,-1⟩ : Qd)∈(solP P).1:=h3.subset (List.mem_map.2 ⟨A.zS,by rw [hF];simp,rfl⟩);have hr:=h1.rg _ hm;rw [hL,Q1d h1.rg hr.1 hr.2];simp only [Bool.not_eq_false',List.any_eq_true];exact ⟨_,hm,by simp⟩
include hd hP in
theorem AtC.le {k c:Int} (h:AtC P L T k c):c≤n:=by
 obtain ⟨m,o,x,s,h1,h2,h3,h4⟩:=h;obtain ⟨x',s',e,h5⟩:=Qbft hd hP h3;injection e with e1 e2
 injection e2 with e2 e3
 omega
include hP hT0 hp hF hL in
theorem AtC.zero (h:0<(supA P L).zS):AtC P L T 0 (-1):=by
 obtain ⟨_,hst,h0⟩:=Qpb hp (L:=L);rcases h0 with h0|h0
 ·exfalso;have:(0:Int)<((supP P L).1.length:Int):=h;rw [h0] at this;simp at this
 ·rcases hT0 with hT|hT
  ·exfalso;have hz:=(hst 0 (List.mem_of_getElem? h0)).2;have hd0:=Qbbh (A:=A) hp hF hL;have h1:=hP.st;rw [hT] at h1;rw [show A.zS=0 from h1,hz] at hd0;cases hd0
  ·exact ⟨0,0,0,0,rfl,h0,hT,rfl⟩
include hd hP hI hp hA hF hL in
theorem AtC.step {k c e:Int} (h:AtC P L T k c) (h0:0≤Qdl (supA P L) k e):AtC P L T (Qdl (supA P L) k e) (updC c e):=by
 obtain ⟨hs,hst,_⟩:=Qpb hp (L:=L);obtain ⟨m,o,x,s,rfl,h2,h3,h4⟩:=h;obtain ⟨m',o',y,h5,h6,h7,rfl,h8,h9⟩:=hs.from (a:=supA P L) (Q27 hp) rfl rfl h0;have:m'=m:=by omega
 subst this;rw [h2] at h6;cases h6;obtain ⟨k1,z,k2,k3,k4⟩:=Qzc.1 h7;rw [hA] at k2;obtain ⟨q1,q2⟩:=List.mem_filter.1 k2;have q2' : z.From=(o:Int):=by simpa using q2
 obtain ⟨_,_,q3⟩:=Q4t q1;rw [q2',k3] at q3;rcases q3 with q3|⟨q3,q4⟩
 ·rw [← k4,q3,Qbbh (A:=A) hp hF hL] at k1;cases k1
 ·obtain ⟨o1,t,w,r1,r2,r3,r4,r5,r6⟩:=hI.from hP.r rfl hP.st q3;have:o1=o:=by omega
  subst this;rw [h3] at r2;cases r2;obtain ⟨r7,r8⟩:=Q6a.1 r3;rw [r4] at r8;obtain ⟨x0,s0,e0,hsr⟩:=Qbft hd hP h3;injection e0 with e1 e2
  injection e2 with e2 e3
  subst e1 e2;rw [h8];rw [← k4,q4,r5] at h9 ⊢;unfold Qo8 at r8;cases hx:Q3e p x y.1 with
  | none=>rw [hx] at r8;cases r8
  | some x1 =>
   rw [hx] at r8;dsimp only at r8;unfold Qo8 at r8;cases hy:Q3e d s y.1 with
   | none=>rw [hy] at r8;cases r8
   | some s1 =>
    rw [hy] at r8;dsimp only at r8;have hw:w.2=[x1,s1]:=by
     unfold Qo8 at r8;simp at r8;exact r8.symm
    rw [hw] at r6;refine ⟨_,_,x1,s1,rfl,h9,?_,?_⟩
    ·rw [hw];exact r6
    ·rw [Qbhg hd hsr.1 hsr.2 hy,h4]
include hd hP hI hp hA hF hL in
theorem Q4w:∀ (w:List Int) (k c t:Int) (m:Nat),AtC P L T k c→runP (supA P L) k m w=(t,((m+w.length:Nat):Int))→Qbfs n c w=false
 | [],_,_,_,_,_,_=>rfl
 | e::w,k,c,t,m,h,hr=>by
  rw [runP] at hr;by_cases h0:0≤Qdl (supA P L) k e
  ·rw [if_pos h0] at hr;have h1:=h.step hd hP hI hp hA hF hL h0;rw [Qbfs,decide_eq_false (by have:=h1.le hd hP;omega),Bool.false_or];exact Q4w w _ _ t (m+1) h1 (by rw [hr];simp only [List.length_cons];congr 2;omega)
  ·rw [if_neg h0] at hr;have:=(Prod.mk.inj hr).2;simp only [List.length_cons] at this;omega
include hp hK hL in
theorem Q9p {k:Nat} {o:Int} (ho:(supP P L).1[k]? = some o) (h4:0≤Qdl P.zB o 4):(4:Int)∈(outP (supA P L) (k:Int)).map (·.Event)∨∃ e∈(outP (supA P L) (k:Int)).map (·.Event),e∈P.zF:=by
 obtain ⟨hs,hst,_⟩:=Qpb hp (L:=L);have hin:∀ x∈outP P.zB o,lf L x.To=true→x.Event∈(outP (supA P L) (k:Int)).map (·.Event):=fun x hx hl =>
  List.mem_map.2 ⟨_,(hs.out (a:=supA P L) rfl ho _).2 ⟨(x.Event,x.To),Qzc.2 ⟨hl,x,hx,rfl,rfl⟩,rfl⟩,rfl⟩
 obtain ⟨x,hx,h5⟩:=(Qvr hp.a).1 h4;cases hl:lf L x.To with
 | true=>exact .inl (h5 ▸ hin x hx hl)
 | false =>
  right;obtain ⟨a1,a2⟩:=hst o (List.mem_of_getElem? ho);have hok:=Qba9 hp a1.1 a1.2 (by rw [← hL];exact a2);rw [← hL] at hok;unfold okS at hok;simp only [Bool.and_eq_true,beq_iff_eq] at hok;have hf:=(Qbbf.1 hok.1).2 (by
   unfold Qop;exact List.any_eq_true.2 ⟨x,hx,by rw [hl,h5,hK];rfl⟩)
  unfold Qxz at hf;obtain ⟨y,hy,h6⟩:=List.any_eq_true.1 hf;simp only [Bool.and_eq_true,decide_eq_true_eq] at h6;exact ⟨y.Event,hin y hy h6.1,h6.2⟩
end
theorem Q4x {a:Qa} {e:Int}:∀ (w:List Int) (s t:Int) (n:Nat),runP a s n w=(t,((n+w.length:Nat):Int))→runP a s n (w++[e])=if 0≤Qdl a t e then (Qdl a t e,((n+w.length+1:Nat):Int)) else (t,((n+w.length:Nat):Int))
 | [],s,t,n,h=>by
  simp only [runP,Prod.mk.injEq] at h;obtain ⟨rfl,_⟩:=h;simp [runP]
 | x::w,s,t,n,h=>by
  simp only [List.cons_append,runP] at h ⊢;by_cases h0:0≤Qdl a s x
  ·rw [if_pos h0] at h ⊢;have:=Q4x (e:=e) w (Qdl a s x) t (n+1) (by rw [h];simp only [List.length_cons];congr 2;omega);rw [this];simp only [List.length_cons];rw [show n+1+w.length=n+(w.length+1) from by omega]
  ·rw [if_neg h0] at h;have:=(Prod.mk.inj h).2;simp only [List.length_cons] at this;omega
structure WK (a:Qa) (i:Nat) (all:List Qj):Prop where
 q:QOk a i all
 rn:∀ x∈all,runP a 0 0 x.word_=(x.state_,(x.word_.length:Int))
theorem Qbk2 {a:Qa} (h:Right a) {most:Int}:∀ (f i:Nat) (all fin:List Qj),WK a i all→wq a most f i all=some fin→∃ j,WK a j fin
 | 0,i,all,fin,k,e=>by
  unfold wq at e;cases e;exact ⟨i,k⟩
 | f+1,i,all,fin,k,e=>by
  unfold wq at e;cases hg:all[i]? with
  | none=>rw [hg] at e;cases e;exact ⟨i,k⟩
  | some x =>
   rw [hg] at e;dsimp only at e;split at e
   ·cases e;exact ⟨i,k⟩
   ·split at e
    ·cases e
    ·rename_i hl;refine Qbk2 h f (i+1) _ fin ⟨k.q.next h hg (by omega),fun y hy=>?_⟩ e;rcases List.mem_append.1 hy with hy|hy
     ·exact k.rn y hy
     ·obtain ⟨z,hz,rfl⟩:=List.mem_map.1 hy;have h1:=k.rn x (List.mem_of_getElem? hg);have h2:=Qyz h hz;have h3:=(h.ed0 z (List.mem_filter.1 hz).1).2.2.1;have:=Q4x (a:=a) (e:=z.Event) x.word_ 0 x.state_ 0 (by rw [h1,Nat.zero_add]);rw [h2,if_pos h3] at this;dsimp only;rw [this,List.length_append];simp
theorem Qbfu {a:Qa} (h:Right a):Qgn a 6 false=some ([],3)∨∃ l,Qgn a 6 false=some (l,0)∧l.length≤1024∧∀ w∈l,w.length≤2000∧0<a.zS∧∃ t,runP a 0 0 w=(t,((0+w.length:Nat):Int)):=by
 rw [Qbhf h,if_neg (by omega)];by_cases h0:a.zS=0
 ·rw [if_pos h0];exact .inr ⟨[],rfl,by simp,by simp⟩
 ·have hst:=h.st;rw [if_neg h0];cases hw:wq a 6 1025 0 [⟨[],0⟩] with
  | none=>exact .inl rfl
  | some fin =>
   right;obtain ⟨j,k⟩:=Qbk2 h 1025 0 [⟨[],0⟩] fin ⟨⟨by simp,by simp,by simp,by simp;omega⟩,by simp [runP]⟩ hw;refine ⟨Qw2 a false fin,rfl,?_,fun w hw=>?_⟩
   ·simp only [Qw2,List.length_map];exact Nat.le_trans (List.length_filter_le _ _) k.q.ln
   ·simp only [Qw2,List.mem_map,List.mem_filter] at hw;obtain ⟨x,⟨hx,_⟩,rfl⟩:=hw;have h1:=k.q.wl x hx;have h2:=k.q.le;have h3:=k.q.ln;exact ⟨by omega,by omega,x.state_,by rw [k.rn x hx,Nat.zero_add]⟩
theorem Qbfv {a:Qa} (h:Right a) {s e:Int} (h0:0≤s) (h1:s<a.zS):∃ t c,Qiw a s e=some (t,decide (0≤Qdl a s e),c)∧(0≤Qdl a s e→t=Qdl a s e):=by
 rw [Qbjh h,if_pos ⟨h0,h1⟩];by_cases hs:0≤Qdl a s e
 ·have he:e∈a.zO:=by
   rcases Qqa h s e with h2|h2
   ·omega
   ·exact h2.2.2.2.2
  exact ⟨_,_,by rw [if_pos he,if_pos hs,decide_eq_true hs],fun _=>rfl⟩
 ·by_cases he:e∈a.zO
  ·exact ⟨0,0,by rw [if_pos he,if_neg hs,decide_eq_false hs],fun hc=>absurd hc hs⟩
  ·exact ⟨0,9,by rw [if_neg he,decide_eq_false hs],fun hc=>absurd hc hs⟩
end Go.Abs
end
