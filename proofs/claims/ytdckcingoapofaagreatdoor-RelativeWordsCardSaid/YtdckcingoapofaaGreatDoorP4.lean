/-
  Part 4 of the proof: see the last text.
-/
import Derived.Test.YtdckcingoapofaaGreatDoorP3
import Derived.Sort.Grow
set_option linter.unusedVariables false
set_option linter.unusedSimpArgs false
set_option linter.unusedSectionVars false
section
namespace Go.Abs
open Go
theorem Qbih(P:Nat->Bool)(vs:List V):Qd2.go P vs=vs.map (Qd2 P):=by
 induction vs with
 |nil=>rfl
 |cons v vs a=>simp[Qd2.go,a]
mutual
theorem Qbii{g:G}{w:World}(P:Nat->Bool):∀(v:V)(ℓ:Owner)(u:Value),RV g w v ℓ u->RV g w (Qd2 P v) ℓ u
 |.und,_,_,h=>by simp[Qd2,RV]
 |.d x,_,_,h=>by simpa[Qd2] using h
 |.agg cs,ℓ,u,h=>by
  simp only[Qd2,RV] at h |-;obtain⟨vs,rfl,h,a⟩:=h;exact⟨vs,rfl,RVs_kill P cs ℓ 0 vs h,a⟩
 |.tup cs,ℓ,u,h=>by
  simp only[Qd2,RV] at h |-;obtain⟨vs,rfl,h⟩:=h;exact⟨vs,rfl,RVs_kill P cs ℓ 0 vs h⟩
 |.own ..,_,_,h=>by simpa[Qd2] using h
 |.ownT ..,_,_,h=>by simpa[Qd2] using h
 |.ptr k o,_,_,h=>by
  simp only[Qd2];split
  ·simp[RV]
  ·exact h
 |.nilp,_,_,h=>by simpa[Qd2] using h
 |.f _,_,_,h=>by simpa[Qd2] using h
 |.nils _,_,_,h=>by simpa[Qd2] using h
 |.cref _,_,_,h=>by simpa[Qd2] using h
 |.sl ..,_,_,h=>by
  simp only[Qd2];split
  ·simp[RV]
  ·exact h
 |.clo f cs,_,u,h=>by
  simp only[Qd2,RV] at h |-;obtain⟨vs,rfl,h⟩:=h;exact⟨vs,rfl,RVs_kill P cs .ext 0 vs h⟩
 |.mp k,_,_,h=>by
  simp only[Qd2];split
  ·simp[RV]
  ·exact h
theorem RVs_kill{g:G}{w:World}(P:Nat->Bool):∀(cs:List V)(ℓ:Owner)(i:Nat)(us:List Value),RVs g w cs ℓ i us->RVs g w (Qd2.go P cs) ℓ i us
 |[],_,_,_,h=>by simpa[Qd2.go,RVs] using h
 |c::cs,ℓ,i,us,h=>by
  simp only[Qd2.go,RVs] at h |-;obtain⟨u,us,rfl,d,a⟩:=h;exact⟨u,us,rfl,Qbii P c _ u d,RVs_kill P cs ℓ (i+1) us a⟩
end
mutual
theorem Qbij{p:Nat->Prop}(P:Nat->Bool):∀v:V,v.on p->(Qd2 P v).on fun k=>p k/\P k=false
 |.ptr k o,h=>by simp only[Qd2];split<;>simp_all[V.on]
 |.sl ..,h=>by simp only[Qd2];split<;>simp_all[V.on]
 |.mp k,h=>by simp only[Qd2];split<;>simp_all[V.on]
 |.agg cs,h=>by simp only[Qd2,V.on];exact ons_kill P cs h
 |.tup cs,h=>by simp only[Qd2,V.on];exact ons_kill P cs h
 |.clo _ cs,h=>by simp only[Qd2,V.on];exact ons_kill P cs h
 |.und,_=>trivial
 |.d _,_=>trivial
 |.own ..,_=>trivial
 |.ownT ..,_=>trivial
 |.nilp,_=>trivial
 |.f _,_=>trivial
 |.nils _,_=>trivial
 |.cref _,_=>trivial
theorem ons_kill{p:Nat->Prop}(P:Nat->Bool):∀vs:List V,V.ons p vs->V.ons (fun k=>p k/\P k=false) (Qd2.go P vs)
 |[],_=>trivial
 |v::vs,h=>⟨Qbij P v h.1,ons_kill P vs h.2⟩
end
mutual
theorem Qbmh{p q:Nat->Prop}:∀(v:V),v.on p->v.on q->v.on fun k=>p k/\q k
 |.ptr _ _,h1,a=>⟨h1,a⟩
 |.sl ..,h1,a=>⟨h1,a⟩
 |.mp _,h1,a=>⟨h1,a⟩
 |.agg cs,h1,a=>ons_and cs h1 a
 |.tup cs,h1,a=>ons_and cs h1 a
 |.clo _ cs,h1,a=>ons_and cs h1 a
 |.und,_,_=>trivial
 |.d _,_,_=>trivial
 |.own ..,_,_=>trivial
 |.ownT ..,_,_=>trivial
 |.nilp,_,_=>trivial
 |.f _,_,_=>trivial
 |.nils _,_,_=>trivial
 |.cref _,_,_=>trivial
theorem ons_and{p q:Nat->Prop}:∀(vs:List V),V.ons p vs->V.ons q vs->V.ons (fun k=>p k/\q k) vs
 |[],_,_=>trivial
 |v::vs,h1,a=>⟨Qbmh v h1.1 a.1,ons_and vs h1.2 a.2⟩
end
section
variable{P:Program}{C:Ctx}{n0 nt:Nat}{g0:G}{w0:World}
theorem Qbik{n0:Nat}{sites:List Nat}{k:Nat}(h:Qjx n0 sites k=true):n0<=k:=by
 simp only[Qjx,List.any_eq_true,beq_iff_eq] at h
 grind
theorem Q4k{σ:St}{a:Act}{w:World}{g:G}(h:SR n0 nt g0 w0 σ a w g)(sites:List Nat):SR n0 nt g0 w0 (Qmc n0 sites σ) a w g:=by
 have c:∀k,(There σ.M k/\Qjx n0 sites k=false)->There (Qmc n0 sites σ).M k:=by
  rintro k ⟨l,j⟩;simp only[There,Qmc,j,Zg,if_false] at l |-
  grind
 refine⟨⟨fun k b d=>?_,h.mem.imm⟩,fun t=>Qbii _ _ _ _ (h.slots t),h.size,h.defers,fun t=>Qf8 c _ (Qbij _ _ (h.onS t)),fun k cs d=>?_,h.top,h.fr⟩
 ·simp only[Qmc] at d;split at d
  ·cases d
  ·split at d
   ·exact h.mem.box k b d
   ·split at d
    ·rename_i cs i;cases d;obtain⟨l,j,m,e,r,hr,ho⟩:=h.mem.box k _ i;refine⟨l,j,m,e,r,?_,ho⟩;rw[<-Qbih];exact RVs_kill _ _ _ _ _ hr
    ·exact h.mem.box k b d
 ·simp only[Qmc] at d;split at d
  ·cases d
  ·rename_i q;split at d
   ·rename_i f;have j:=(h.onM k cs d).2 f;have l:=(h.onM k cs d).1;refine⟨?_,fun _=>j⟩;rw[Qiq] at l j |-;intro v p;have hb:v.on fun k=>There σ.M k/\k<n0:=Qbmh v (l v p) (j v p);refine Qf8 (fun k d=>c k ⟨d.1,?_⟩) v hb
    grind [Qjx,Qbik]
   ·split at d
    ·rename_i n _ cs' i;cases d;refine⟨?_,fun f=>absurd f n⟩;rw[<-Qbih];exact ons_mono c _ (ons_kill _ _ (h.onM k cs' i).1)
    grind
theorem Qba0{p:Nat->Prop}(h:∃n,p n):∃n,p n/\∀m,p m->n<=m:=by
 obtain⟨n,c⟩:=h
 induction n using Nat.strongRecOn with
 |_ n a =>
  grind
open Classical in
noncomputable def least(p:Nat->Prop):Nat:=if h:∃n,p n then Classical.choose (Qba0 h) else 0
theorem Qbgf{p:Nat->Prop}(h:∃n,p n):p (least p):=by
 unfold least;grind
theorem Qbli{p:Nat->Prop}{n:Nat}(h:p n):least p<=n:=by
 have a:∃n,p n:=⟨n,h⟩;unfold least;grind
def Ex.to:Ex->Exit
 |.norm=>.normal
 |.exit id=>.exit id
 |.ret=>.ret
def lift(n0 nt:Nat)(g0:G)(w0:World)(Q:Ex->St->Prop):Exit->Act->World->Prop :=
 fun e a w=>∃x σ g,e=x.to/\Q x σ/\SR n0 nt g0 w0 σ a w g
structure Env where
 P:Program
 n0:Nat
 nt:Nat
 g0:G
 w0:World
 T:Tk
 tab:Tab P g0 w0
def Tr(Γ:Env)(d:CC)(σ:St)(Q:Ex->St->Prop):Prop :=
 ∀c,Qwt Γ.P Γ.T Γ.nt c=some d->∀a w g,SR Γ.n0 Γ.nt Γ.g0 Γ.w0 σ a w g->c.wp Γ.P (lift Γ.n0 Γ.nt Γ.g0 Γ.w0 Q) a w
def Wk(v v' : V):Prop:=∀g w ℓ u,RV g w v ℓ u->RV g w v' ℓ u
def pos:List Res->Nat->Option Nat
 |[],_=>none
 |.t i::rs,t=>if i=t then some 0 else (pos rs t).map (· + 1)
 |.cell .. :: rs,t=>(pos rs t).map (· + 1)
def Q2r(ts:List Res)(a:Bool):Owner->Owner
 |.slot t q=>if a then (if pos ts t=some 0 then .res q else .slot t q) else
   match pos ts t with
   |some j=>.res (q++[j])
   |none=>.slot t q
 |o=>o
theorem Qw2(ts:List Res)(s:Bool)(o:Owner)(i:Nat):Q2r ts s (o.sub i)=(Q2r ts s o).sub i:=by
 cases o<;>try rfl
 rename_i t q;cases s with
 |true =>
  simp only[Q2r,Owner.sub,if_true];split<;>rfl
 |false =>
  simp only[Q2r,Owner.sub,Zg,if_false];split<;>rfl
theorem Qba1{ts:List Res}{s:Bool}{o:Owner}{k:Nat}:Q2r ts s o = .box k↔o = .box k:=by
 cases o<;>try rfl
 cases s with
 |true=>simp only[Q2r,if_true];split<;>simp
 |false=>simp only[Q2r,Zg,if_false];split<;>simp
theorem Q73{ts:List Res}{s:Bool}{o:Owner}(h:Prot o):Q2r ts s o=o:=by
 cases o<;>first|exact h.elim|rfl
theorem Qbil{m κ:Nat}{e:Bool}{n:Nat}{p v:V}{M M' : Mem}(h:Ql m κ (.load e n) [p] M=some (v,M')):Flat v:=by
 cases p<;>try (simp[Ql] at h;done)
 ·rename_i k off;simp only[Ql] at h;split at h<;>try (cases h;done)
  rename_i cs f;split at h<;>try (cases h;done)
  split at h
  ·cases h;simp[Flat,V.dem,dems_dems]
  ·simp only[Zd,Zf] at h;obtain⟨x,_,rfl,_⟩:=h;exact Qd4 x
 ·rename_i cs;simp only[Ql] at h;split at h<;>try (cases h;done)
  split at h
  ·cases h;have:∀l:List D,V.dems (l.map V.d)=l.map V.d:=by
    intro l;induction l with
    |nil=>rfl
    |cons a l c=>simp[V.dems,V.dem,c]
   simp only[Flat,V.dem,this]
  ·simp only[Zd,Zf] at h;obtain⟨x,_,rfl,_⟩:=h
   rfl
theorem Qbow{σ:St}{a:Act}{w:World}{g:G}(h:SR n0 nt g0 w0 σ a w g){j:ResultVar}{i:Res}(hc:Q4u P nt j=some i){r:V}(hr:i.val σ=some r):
  (∃v,((match j with | .tmp t=>pure (a.tmps.getD t undef) | .cell p t=>do loadVar t (<-asAddr (a.tmps.getD p undef)):Sem Value)).run P w = .ok v w/\r.on (There σ.M) /\
   ((∃t,i = .t t/\r=σ.s t/\RV g w r (.slot t []) v)\/((∃p A n,i = .cell p A n)/\Flat r/\RF g w r v))):=by
 cases j with
 |tmp t =>
  simp only[Q4u] at hc;split at hc<;>cases hc;simp only[Res.val,Zh] at hr;subst hr;exact⟨_,rfl,h.onS t,.inl ⟨t,rfl,rfl,h.slots t⟩⟩
 |cell p t =>
  simp only[Q4u] at hc;split at hc<;>cases hc;rename_i hp;obtain⟨d,z⟩:=Zab.1 hp.2;simp only[Res.val,Zd] at hr;obtain⟨⟨B,M'⟩,c,rfl⟩:=hr;have m:(∃k o,σ.s p = .ptr k o)\/∃cs,σ.s p = .cref cs:=by
   cases hv:σ.s p<;>rw[hv] at c<;>try (simp[Ql] at c;done)
   all_goals grind
  have y:Flat (σ.s p):=by rcases m with⟨k,o,e⟩|⟨cs,e⟩<;>rw[e]<;>rfl
  have l:RF g w (σ.s p) (a.tmps.getD p undef):=fun ℓ=>Qmf y (h.slots p);have q:∃x,a.tmps.getD p undef = .pointer (some x):=by
   grind [Qry,Qur]
  obtain⟨x,q⟩:=q;obtain⟨_,val,u,f⟩:=Qbhf P h.mem t z l c;refine⟨val,?_,?_,.inr ⟨⟨_,_,_,rfl⟩,Qbil c,f⟩⟩
  ·grind [Go.Instr.loadAt,Go.Instr.sureAddr,Go.Sem.run_bind,Go.Sem.run_pure,Go.Result.andThen_ok,Go.asAddr]
  ·obtain⟨E,_,_⟩:=Q89 (k:=.load (Qic P t) (P.cellsOf t)) trivial c ⟨h.onS p,trivial⟩ h.mOn
   grind
def Qben(a:Array Value)(c:ResultVar):Sem Value :=
 match c with
 |.tmp t=>pure (a.getD t undef)
 |.cell p t=>do loadVar t (<-asAddr (a.getD p undef))
theorem Qbim{σ:St}{a:Act}{w:World}{g:G}(h:SR n0 nt g0 w0 σ a w g):∀(d:List ResultVar)(c:List Res)(e:List V),d.mapM (Q4u P nt)=some c->c.mapM (Res.val σ)=some e ->
  ∃vs:List Value,(d.mapM (Qben a.tmps)).run P w = .ok vs w/\vs.length=e.length/\e.length=c.length/\V.ons (There σ.M) e /\
   ∀(j:Nat)r v s,e[j]? = some r->vs[j]? = some v->c[j]? = some s->(∃t,s = .t t/\r=σ.s t/\RV g w r (.slot t []) v)\/((∃p J n,s = .cell p J n)/\Flat r/\RF g w r v)
 |[],c,e,hc,hr=>by
  simp at hc;subst hc;simp at hr;subst hr;exact⟨[],by simp,rfl,rfl,trivial,by simp⟩
 |q::d,c,e,hc,hr=>by
  simp only[List.mapM_cons,Zbv,Zas,Option.pure_def,Zh] at hc;obtain⟨s,z,f,k,rfl⟩:=hc;simp only[List.mapM_cons,Zbv,Zas,Option.pure_def,Zh] at hr;obtain⟨r,m,i,l,rfl⟩:=hr;obtain⟨v,I,F,R⟩:=Qbow h z m;obtain⟨vs,Q,y,x,u,O⟩:=Qbim h d f i k l;have H : (Qben a.tmps q).run P w = .ok v w:=I;refine⟨v::vs,by simp_all,by simp[y],by simp[x],⟨F,u⟩,fun j N v' L E B A=>?_⟩;cases j with
  |zero=>grind
  |succ j=>grind
theorem Qbc9:∀(a:List Res)(j t:Nat),(Qph a).Nodup->a[j]? = some (.t t)->pos a t=some j
 |[],j,t,_,h=>by simp at h
 |s::a,j,t,f,h=>by
  cases j with
  |zero =>
   grind [pos]
  |succ j =>
   have e : a[j]? = some (.t t):=by simpa using h
   have k:t∈Qph a:=by
    simp only[Qph,List.mem_filterMap];exact⟨.t t,Zn e,rfl⟩
   cases s with
   |t i =>
    have c : i∉Qph a/\(Qph a).Nodup:=by simpa[Qph] using f
    have d:i≠t:=by grind
    simp[pos,d,Qbc9 a j t c.2 e]
   |cell p l n =>
    have c : (Qph a).Nodup:=by simpa[Qph] using f
    simp[pos,Qbc9 a j t c e]
def Fin(d:List Res)(r:V)(M' : Mem)(a : Nat):Ex->St->Prop:=fun e σ =>
 (e = .norm\/e = .ret)/\∃c,Qo6 σ d=some c/\Wk c r/\(∀k b,M' k=some b->σ.M k=some b)/\r.on (There M')/\MOn (There M') M'/\∀k,There M' k->k<a
def Fin2(n0:Nat)(d:List Res)(r:V)(M' : Mem)(c : Nat):Ex->St->Prop:=fun e σ =>
 (e = .norm\/e = .ret)/\∃a,Qo6 σ d=some a/\Wk a r/\(∀k b,M' k=some b->σ.M k=some b) /\
  (a.on (There σ.M)->(∀k cs,σ.M k=some (.cells cs)->V.ons (There σ.M) cs/\(k<n0->V.ons (· < n0) cs))->(∀k,There σ.M k->k<σ.nb)->r.on (There M')/\MOn (There M') M'/\∀k,There M' k->k<c)
theorem Qbin{f:FuncId}{cf:CFn}(d:Qo P f=some cf){args:List V}{M:Mem}{nb q : Nat}{r:V}{M' : Mem}(hM0:∀k,nb<=k->M k=none)(W:args.length=cf.np)(hnb:nb<=q){w:World}{g:G}{us:List Value}(htab:Tab P g w)(hm:MR g w M nb)(H:MOn (There M) M)(hus:RAs g w 0 args us)(hons:V.ons (There M) args)(E:∀Γ:Env,Γ.P=P->Γ.n0=nb->Γ.nt=cf.nt->Γ.g0=g->Γ.w0=w->Tr Γ cf.body ⟨Qp5 args,M,nb+cf.nt⟩ (Fin2 nb cf.res r M' q)):
  Qh0 P f=true/\Calls P f us.toArray w fun e w'=>∃v g',e = .returned v/\MR g' w' M' q/\RV g' w' r (.res []) v/\r.on (There M')/\MOn (There M') M'/\Fr nb g w g' w':=by
 unfold Qo at d;split at d<;>try (cases d;done)
 rename_i fn hfn;split at d<;>try (cases d;done)
 rename_i J U;split at d<;>try (cases d;done)
 rename_i b a hb hrss;split at d<;>try (cases d;done)
 rename_i Q;obtain⟨Q,hnp,hname⟩:=Q;cases d;simp only at W E;refine⟨by grind [Qh0,Q4v],?_⟩;have hlen:us.length=args.length:=hus.length;let a0:Act:={ tmps:=us.toArray++Array.replicate (fn.ntmps-us.toArray.size) undef,defers:=[] };have hsz:a0.tmps.size=fn.ntmps:=by simp[a0];omega
 have R:∀t,RV g w (Qp5 args t) (.slot t []) (a0.tmps.getD t undef):=by
  intro t;rcases Zak t args.length with p|hge
  ·have I:Qp5 args t=args[t]:=by simp[Qp5,p]
   have h2:a0.tmps.getD t undef=us[t]'(by omega):=by
    simp only[a0,Array.getD_eq_getD_getElem?]
    grind
   rw[I,h2];have:=hus.get t _ _ (Zj p) (Zj (by omega));rwa [Zz] at this
  grind [Qp5,RV]
 have hSR:SR nb fn.ntmps g w ⟨Qp5 args,M,nb+fn.ntmps⟩ a0 w g:=by
  refine⟨⟨fun k b A=>?_,hm.imm⟩,R,hsz,rfl,fun t=>?_,fun k cs A=>⟨H k cs A,fun p=>?_⟩,Ze _,Fr.refl _ _ _⟩
  ·obtain⟨I,h2⟩:=hm.box k b A
   grind
  ·rcases Zak t args.length with p|hge
   ·have I:Qp5 args t=args[t]:=by simp[Qp5,p]
    show (Qp5 args t).on _;rw[I];exact Qft hons (Zj p)
   ·have I:Qp5 args t = .und:=by simp[Qp5,hge]
    show (Qp5 args t).on _;rw[I];trivial
  ·refine ons_mono (fun j hj=>?_) cs (H k cs A)
   grind [Nat.lt_or_ge,There]
 let Γ:Env:={ P,n0:=nb,nt:=fn.ntmps,g0:=g,w0:=w,T:=Qbmb P J,tab:=htab };refine calls_of_wp hfn U (wp_mono (E Γ rfl rfl rfl rfl rfl J hb a0 w g hSR) ?_);rintro e a' w' ⟨x,σ,g',rfl,⟨hx,r',l,hwk,hM1,hfacts⟩,B⟩;have B:SR nb fn.ntmps g w σ a' w' g':=B;have fin:∀(fr:Owner->Owner)(v:Value),(∀o i,fr (o.sub i)=(fr o).sub i)->fr .ext = .ext->(∀o k,fr o = .box k↔o = .box k)->(∀o,Prot o->fr o=o)->r'.on (There σ.M)->RV (g'.re fr) w' r' (.res []) v ->
   ∃v' n,Ending.returned v = .returned v'/\MR n w' M' q/\RV n w' r (.res []) v'/\r.on (There M')/\MOn (There M') M'/\Fr nb g w n w':=by
  intro fr v I h2 h3 h4 h6 h5;obtain⟨hron,X,hM2⟩:=hfacts h6 (fun k cs A=>B.onM k cs A) (fun k A=>by obtain⟨b,hb⟩:=Zab.1 A;exact (B.mem.box k b hb).1);have hmr:=B.mem.re I h2 h3;refine⟨v,g'.re fr,rfl,⟨fun k b A=>?_,hmr.imm⟩,hwk _ _ _ _ h5,hron,X,?_⟩
  ·obtain⟨_,k2⟩:=hmr.box k b (hM1 k b A)
   simp_all[There]
  ·have S:=B.fr;exact⟨S.os,S.tape,S.output,S.size,S.imm,S.box,fun b hb ho=>by
    obtain⟨q1,q2,q3⟩:=S.old b hb ho;refine⟨?_,q2,q3⟩;show fr (g'.own b)=_;rw[q1];exact h4 _ ho⟩
 have hend:∃v,(results fn a'.tmps).run P w' = .ok v w'/\∃v' n,Ending.returned v = .returned v'/\MR n w' M' q/\RV n w' r (.res []) v'/\r.on (There M')/\MOn (There M') M'/\Fr nb g w n w':=by
  have y:∀vs:List Value,(fn.results.toList.mapM (Qben a'.tmps)).run P w' = .ok vs w'->(results fn a'.tmps).run P w' = .ok (if h:vs.length=1 then vs[0] else .tuple vs.toArray) w':=by
   intro vs hvs;show ((do let vs <-fn.results.mapM (Qben a'.tmps);pure (if h:vs.size=1 then vs[0] else .tuple vs)):Sem Value).run P w'=_;rw[Array.mapM_eq_mapM_toList];simp[hvs]
  cases m:a.mapM (Res.val σ) with
  |none =>
   exfalso;cases a with
   |nil=>simp at m
   |cons s a =>
    cases a with
    |nil=>grind [Qo6]
    |cons s' a=>grind [Qo6]
  |some rs =>
   obtain⟨vs,k1,k2,k3,k4,k5⟩:=Qbim B _ _ _ hrss m;refine⟨_,y vs k1,?_⟩;by_cases F:a.length=1
   ·match a,F with
    |[s],_ =>
     simp only[Qo6] at l;simp only[List.mapM_cons,List.mapM_nil,l,Zbv,Za,Option.pure_def,Zh] at m;subst m
     match vs,k2 with
     |[v],_ =>
      simp only[List.length_singleton,dite_true,List.getElem_cons_zero];have hk5:=k5 0 r' v s rfl rfl rfl;rcases hk5 with⟨t,rfl,rfl,L⟩|⟨_,_,N⟩
      ·refine fin (Q2r [.t t] true) v (Qw2 _ _) rfl (fun o k=>Qba1) (fun o ho=>Q73 ho) k4.1 ?_;have:=Qrj (Qw2 [.t t] true) rfl _ _ _ L;simpa[Q2r,pos] using this
      ·exact fin id v (fun _ _=>rfl) rfl (fun _ _=>Zk) (fun _ _=>rfl) k4.1 (N _)
   ·have hvl:¬vs.length=1:=by omega
    rw[dif_neg hvl];have O : r' = .tup rs:=by
     match a,F,l,m with
     |[],_,l,m=>grind [Qo6,Option.some.injEq]
     |s::s'::a,_,l,m=>grind [Qo6,Option.some.injEq]
    subst O;refine fin (Q2r a false) _ (Qw2 _ _) rfl (fun o k=>Qba1) (fun o ho=>Q73 ho) k4 ?_;simp only[RV];refine⟨vs,rfl,(Qc8 _ _ _ _).2 ⟨k2,fun j c u hc hu=>?_⟩⟩;have hjl:=(Zm.1 hc).1;have hsj:=Zj (show j<a.length by omega);simp only[Zz,Owner.sub];rcases k5 j c u _ hc hu hsj with⟨t,hst,hct,L⟩|⟨_,hfl,N⟩
    ·have:=Qrj (Qw2 a false) rfl _ _ _ L;have hp:=Qbc9 a j t Q (by rw[hsj,hst]);simpa[Q2r,hp] using this
    ·exact Qmf hfl (Qrj (f:=Q2r a false) (Qw2 _ _) rfl _ _ _ (N .ext))
 have hd:a'.defers=[]:=B.defers;obtain⟨v,hv,z⟩:=hend;rcases hx with rfl|rfl
 ·exact⟨hd,v,hv,z⟩
 ·exact⟨hd,v,hv,z⟩
theorem Qbmi{f:FuncId}{d:CFn}(m:Qo P f=some d){args:List V}{M:Mem}{nb a : Nat}{r:V}{M' : Mem}(n:∀k,nb<=k->M k=none)(c:args.length=d.np)(i:nb<=a)(e:∀Γ:Env,Γ.P=P->Γ.n0=nb->Γ.nt=d.nt->Tr Γ d.body ⟨Qp5 args,M,nb+d.nt⟩ (Fin2 nb d.res r M' a)):ACalls P f args M nb r M' a:=by
 refine⟨?_,i,fun w g us p q j l h=>(Qbin m n c i p q j l h fun Γ u t s _ _=>e Γ u t s).2⟩
 grind [Inhabited.default,Qo,Qh0,Q4v]
def away:Owner->Owner:=fun _=>.ext
theorem Qblj(o:Owner)(i:Nat):away (o.sub i)=(away o).sub i:=rfl
def Q06:V->Bool
 |.d _ | .own _ _ | .nils _ | .nilp | .und=>true
 |.agg cs=>go cs
 |.tup vs=>go vs
 |_=>false
where go:List V->Bool
 |[]=>true
 |v::vs=>Q06 v&&go vs
section
variable{g g' : G}{w:World}(hi:∀b o,g.imm b o↔g'.imm b o)(ho:∀b,g.own b ≠ .ext->g.own b ≠ .free->g'.own b=g.own b)
include hi ho
mutual
theorem Qbeo:∀(v:V)(ℓ:Owner)(u:Value),Q06 v=true->(ℓ ≠ .ext/\ℓ ≠ .free)->RV g w v ℓ u->RV g' w v ℓ u
 |.und,_,_,_,_,_=>by simp[RV]
 |.d x,_,u,_,_,h=>by
  simp only[RV] at h |-;exact Qgk ⟨fun b o h=>(hi b o).1 h,fun _ _ _=>rfl⟩ x u h
 |.agg cs,ℓ,u,hr,a,h=>by
  simp only[RV,Q06] at h hr |-;obtain⟨vs,rfl,h,c⟩:=h;exact⟨vs,rfl,RVs_resOK cs ℓ 0 vs hr a h,c⟩
 |.tup cs,ℓ,u,hr,a,h=>by
  simp only[RV,Q06] at h hr |-;obtain⟨vs,rfl,h⟩:=h;exact⟨vs,rfl,RVs_resOK cs ℓ 0 vs hr a h⟩
 |.own sz l,ℓ,u,_,a,h=>by
  simp only[RV] at h |-;rcases h with h|⟨b,cap,vals,e,c,h2,h3,h4,h5,h6,h7,h8⟩
  ·exact .inl h
  ·exact .inr ⟨b,cap,vals,e,c,(ho b (by rw[h2];exact a.1) (by rw[h2];exact a.2)).trans h2,h3,h4,h5,h6,fun o=>((hi b o).symm).trans (h7 o),RDL_mono ⟨fun b o h=>(hi b o).1 h,fun _ _ _=>rfl⟩ sz b l 0 h8⟩
 |.ownT sz l,ℓ,u,_,a,h=>by
  simp only[RV] at h |-;rcases h with h|⟨b,o0,cap,vals,e,c,h2,h3,h4,h5,h6,h7,h8⟩
  ·exact .inl h
  ·exact .inr ⟨b,o0,cap,vals,e,c,(ho b (by rw[h2];exact a.1) (by rw[h2];exact a.2)).trans h2,h3,h4,h5,h6,fun o=>((hi b o).symm).trans (h7 o),RDL_mono ⟨fun b o h=>(hi b o).1 h,fun _ _ _=>rfl⟩ sz b l o0 h8⟩
 |.nilp,_,_,_,_,h=>by simpa[RV] using h
 |.nils _,_,_,_,_,h=>by simpa[RV] using h
 |.f _,_,_,hr,_,_=>by simp[Q06] at hr
 |.ptr ..,_,_,hr,_,_=>by simp[Q06] at hr
 |.cref _,_,_,hr,_,_=>by simp[Q06] at hr
 |.sl ..,_,_,hr,_,_=>by simp[Q06] at hr
 |.clo ..,_,_,hr,_,_=>by simp[Q06] at hr
 |.mp _,_,_,hr,_,_=>by simp[Q06] at hr
theorem RVs_resOK:∀(cs:List V)(ℓ:Owner)(i:Nat)(us:List Value),Q06.go cs=true->(ℓ ≠ .ext/\ℓ ≠ .free)->RVs g w cs ℓ i us->RVs g' w cs ℓ i us
 |[],_,_,_,_,_,h=>by simpa[RVs] using h
 |c::cs,ℓ,i,us,hr,e,h=>by
  simp only[Q06.go,Zc] at hr;simp only[RVs] at h |-;obtain⟨u,a,rfl,j,f⟩:=h;have d:ℓ.sub i ≠ .ext:=by cases ℓ<;>simp_all[Owner.sub]
  exact⟨u,a,rfl,Qbeo c (ℓ.sub i) u hr.1 ⟨d,by cases ℓ<;>simp_all[Owner.sub]⟩ j,RVs_resOK cs ℓ (i+1) a hr.2 e f⟩
end
end
mutual
def V.toF:V->V
 |.d (.lst sz l)=>.f (.lst sz l)
 |.agg cs=>.agg (V.toFs cs)
 |v=>v
def V.toFs:List V->List V
 |[]=>[]
 |v::vs=>v.toF::V.toFs vs
end
theorem Qbox{imm a : Nat->Nat->Prop}{w:World}(h:∀b o,imm b o->Qwu w b o->a b o):∀(x:D)(u:Value),RD imm w x u->RD a w x u:=by
 have:=@Qgk imm (fun b o=>imm b o/\Qwu w b o);have key:(∀(x:D)(u:Value),RD imm w x u->RD (fun b o=>imm b o/\Qwu w b o) w x u):=by
  intro x;exact Qbac x
 intro x u c;exact Qgk ⟨fun b o hb=>h b o hb.1 hb.2,fun _ _ _=>rfl⟩ x u (key x u c)
theorem Qboy{f:FuncId}{q:CFn}(L:Qo P f=some q){args:List V}{nb:Nat}{r:V}(H:r.lt 0=true)(F:Q06 r=true)(n:V.dems args=args)(t:∀(g0:G)(w0:World)(us:List Value),(∀b,g0.own b = .ext)->(∀b o,g0.imm b o->b<w0.heap.size)->RFs g0 w0 args us ->
   ∃args',RFs g0 w0 args' us/\(∀x∈args',Flat x)/\V.lt.go 0 args'=true/\args'.length=q.np /\
    ∀Γ:Env,Γ.P=P->Γ.n0=nb->Γ.nt=q.nt->Γ.g0=g0->Γ.w0=w0->Tr Γ q.body ⟨Qp5 args',fun _=>none,nb+q.nt⟩ (Fin2 nb q.res r (fun _=>none) nb))(M:Mem):ACalls P f args M nb r M nb:=by
 refine ACalls.mkT' ?_ (Ze _) n fun w g us Q J l E n O=>?_
 ·grind [Qo,Qh0,Q4v]
 have hp:∀b,(g.re away).own b = .ext:=fun b=>rfl;have j:∀b o,(g.re away).imm b o->b<w.heap.size:=fun b o h=>(J.imm b o h).1;obtain⟨args',U,W,T,S,R⟩:=t (g.re away) w us hp j (Q4g Qblj rfl n E);have I:MR (g.re away) w (fun _=>none) nb:=⟨fun k b h=>(by cases h),fun b o h=>⟨j b o h,fun k e=>by
  grind⟩⟩
 refine Calls.mono (Qbin L (fun _ _=>rfl) S (Ze _) (Q.re rfl) I (fun k cs h=>by cases h) (RAs.of_flat U) (ons_mono (fun k p=>absurd p (Nat.not_lt_zero k)) _ (ons_lt args' T)) R).2 ?_;rintro e w' ⟨v,g',rfl,hmr,hrv,_,_,hf⟩;have d:∀b,b<w.heap.size->g'.own b=away (g.own b)/\w'.heap[b]? = w.heap[b]? /\ ∀o,g'.imm b o↔g.imm b o:=fun b hb=>hf.old b hb (by rw[hp b];trivial);let g2:G:=⟨g.box,g'.imm,fun b=>if b<w.heap.size then g.own b else g'.own b⟩;have i:∀b,b<w.heap.size->g2.own b=g.own b:=fun b hb=>by simp[g2,hb]
 have m : ∀b,¬b<w.heap.size->g2.own b=g'.own b:=fun b hb=>by simp[g2,hb]
 have u:Kept g w g2 w' (There M) (fun _=>True):=by
  refine⟨⟨fun b o h=>hf.imm.mono b o h,fun b o h=>hf.imm.look b o h⟩,fun k _=>rfl,fun b _ a=>⟨i b a,(d b a).2.1,(d b a).2.2⟩⟩
 refine⟨v,g2,rfl,⟨fun k b p=>?_,fun b o hb=>?_⟩,?_,Qf8 (fun k p=>absurd p (Nat.not_lt_zero k)) _ (Qbkz r H),l,?_⟩
 ·obtain⟨A,B,N⟩:=J.box k b p;cases b with
  |mp es c =>
   obtain⟨z,y,hr⟩:=N;have a:g.box k<w.heap.size:=(Zaf.1 y).1;exact⟨A,(i _ a).trans B,z,(d _ a).2.1.trans y,Qll (g:=g) (g':=g2) u (fun _=>trivial) hr⟩
  |cells cs =>
   obtain⟨s,e,y,hr,ho⟩:=N;have a:g.box k<w.heap.size:=(Zaf.1 y).1;refine⟨A,(i _ a).trans B,s,e,(d _ a).2.1.trans y,RVs_mono u (fun _ _ _=>trivial) trivial _ _ _ _ trivial (l k cs p) hr,ho⟩
 ·obtain⟨A,B⟩:=hmr.imm b o hb;refine⟨A,fun k=>?_⟩;by_cases a:b<w.heap.size
  ·rw[i b a];exact (J.imm b o (((d b a).2.2 o).1 hb)).2 k
  grind
 ·refine Qbeo (g:=g') (g':=g2) (fun b o=>Zk) (fun b hb _=>?_) r _ v F (by simp) hrv;by_cases a:b<w.heap.size
  ·exact absurd (d b a).1 hb
  ·exact m b a
 ·exact⟨hf.os,hf.tape,hf.output,hf.size,⟨fun b o h=>hf.imm.mono b o h,fun b o h=>hf.imm.look b o h⟩,fun _ _=>rfl,fun b a _=>⟨i b a,(d b a).2.1,(d b a).2.2⟩⟩
theorem Qboz{f:FuncId}{h:CFn}(l:Qo P f=some h){args:List V}{M:Mem}{nb d : Nat}{r:V}{M' : Mem}(m:∀k,nb<=k->M k=none)(e:args.length=h.np)(j:nb<=d)(i:∀Γ:Env,Γ.P=P->Γ.n0=nb->Γ.nt=h.nt->Tr Γ h.body ⟨Qp5 args,M,nb+h.nt⟩ (Fin h.res r M' d)):ACalls P f args M nb r M' d :=
 Qbmi l m e j fun Γ s q p c hc a w g n=>wp_mono (i Γ s q p c hc a w g n) fun _ _ _ ⟨x,σ',g',he,⟨k1,r',k2,k3,k4,k5,k6,k7⟩,hs'⟩=>⟨x,σ',g',he,⟨k1,r',k2,k3,k4,fun _ _ _=>⟨k5,k6,k7⟩⟩,hs'⟩
end
end Go.Abs
end
section
namespace Go.Abs
open Go
def WeakSt(Γ:Env)(σ b : St):Prop:=∀a w g,SR Γ.n0 Γ.nt Γ.g0 Γ.w0 σ a w g->∃g',SR Γ.n0 Γ.nt Γ.g0 Γ.w0 b a w g'
theorem WeakSt.refl{Γ:Env}(σ:St):WeakSt Γ σ σ:=fun _ _ g h=>⟨g,h⟩
theorem WeakSt.trans{Γ:Env}{σ c b : St}(h:WeakSt Γ σ c)(k:WeakSt Γ c b):WeakSt Γ σ b:=fun a w g d=>let ⟨g',h'⟩:=h a w g d;k a w g' h'
variable{Γ:Env}{σ:St}{Q:Ex->St->Prop}
theorem Tr.weak{d:CC}{b : St}(h:WeakSt Γ σ b)(k:Tr Γ d b Q):Tr Γ d σ Q:=fun c hc a w g e=>let ⟨g',h'⟩:=h a w g e;k c hc a w g' h'
theorem Tr.mono{d:CC}{Q' : Ex->St->Prop}(h:Tr Γ d σ Q)(k:∀e b,Q e b->Q' e b):Tr Γ d σ Q':=fun c hc a w g f =>
 wp_mono (h c hc a w g f) fun _ _ _ ⟨x,b,g',he,hq,hs'⟩=>⟨x,b,g',he,k _ _ hq,hs'⟩
theorem Q9j{P:Program}{T:Tk}{nt:Nat}{ops:Array Oper}{a:Bool}{b:CC}(h:Qnm P T nt ops a=some b):∃cs pc c,b = .region cs pc c:=by
 unfold Qnm at h
 grind
theorem Qqe{P:Program}{T:Tk}{nt:Nat}{ops:Array Oper}{a:Bool}{b:CC}(h:Qbha (Qnm P T nt ops a)=some b):(∃cs pc d,b = .region cs pc d)\/b = .dead:=by
 cases hr:Qnm P T nt ops a with
 |none=>rw[hr] at h;cases h;exact .inr rfl
 |some c=>rw[hr] at h;cases h;exact .inl (Q9j hr)
theorem Q74{o:Option CC}{cs:List COp}{pc:Nat}{a:List Pair}(h:Qbha o=some (.region cs pc a)):o=some (.region cs pc a):=by
 cases o with
 |none=>cases h
 |some c=>exact h
theorem Tr.skip(h:Q .norm σ):Tr Γ .skip σ Q:=by
 intro c hc a w g b;cases c<;>simp only[Qwt] at hc<;>try (cases hc;done)
 ·exact wp_skip ⟨.norm,σ,g,rfl,h,b⟩
 ·grind [Qqe]
 ·split at hc<;>cases hc
 ·split at hc<;>cases hc
 ·simp at hc
 ·simp at hc
theorem Tr.exit{b:Nat}(h:Q (.exit b) σ):Tr Γ (.exit b) σ Q:=by
 intro c hc a w g d;cases c<;>simp only[Qwt] at hc<;>try (cases hc;done)
 ·grind [Qqe]
 ·split at hc<;>cases hc
 ·split at hc<;>cases hc
 ·simp at hc
 ·simp at hc
 ·cases hc;exact wp_exit ⟨.exit b,σ,g,rfl,h,d⟩
theorem Tr.ret(h:Q .ret σ):Tr Γ .ret σ Q:=by
 intro c hc a w g b;cases c<;>simp only[Qwt] at hc<;>try (cases hc;done)
 ·grind [Qqe]
 ·split at hc<;>cases hc
 ·split at hc<;>cases hc
 ·simp at hc
 ·simp at hc
 ·exact wp_ret ⟨.ret,σ,g,rfl,h,b⟩
def Qbio(Γ:Env)(b:CC)(Q:Ex->St->Prop):Ex->St->Prop
 |.norm,a=>Tr Γ b a Q
 |.exit i,a=>Q (.exit i) a
 |.ret,a=>Q .ret a
theorem Tr.seq{x y:CC}(h:Tr Γ x σ (Qbio Γ y Q)):Tr Γ (.seq x y) σ Q:=by
 intro c hc a w g f;cases c<;>simp only[Qwt] at hc<;>try (cases hc;done)
 ·grind [Qqe]
 ·split at hc<;>cases hc;rename_i d b;refine wp_seq (wp_mono (h _ d a w g f) ?_);rintro e i w' ⟨e',σ',g',rfl,hq,hs'⟩;cases e' with
  |norm=>exact hq _ b i w' g' hs'
  |exit id=>exact⟨.exit id,σ',g',rfl,hq,hs'⟩
  |ret=>exact⟨.ret,σ',g',rfl,hq,hs'⟩
 ·split at hc<;>cases hc
 ·simp at hc
 ·simp at hc
theorem Tr.cond{q:Arg}{x y:CC}{b:Bool}(hb:q.val σ.s = .d (.bool b))(k:b=true->Tr Γ x σ Q)(j:b=false->Tr Γ y σ Q):Tr Γ (.cond q x y) σ Q:=by
 intro c hc a w g e;cases c<;>simp only[Qwt] at hc<;>try (cases hc;done)
 ·grind [Qqe]
 ·split at hc<;>cases hc
 ·split at hc<;>cases hc;rename_i ha h f;obtain⟨i,_⟩:=Qhg Γ.P e ha;rw[hb] at i;refine wp_cond (Q41 (by simpa[V.dem] using i)) ?_;cases b with
  |true=>exact k rfl _ h a w g e
  |false=>exact j rfl _ f a w g e
 ·simp at hc
 ·simp at hc
def inB(b:Nat)(Q:Ex->St->Prop):Ex->St->Prop
 |.exit i,a=>bif Nat.beq i b then Q .norm a else Q (.exit i) a
 |.norm,a=>Q .norm a
 |.ret,a=>Q .ret a
theorem Tr.block{f:Nat}{x:CC}(h:Tr Γ x σ (inB f Q)):Tr Γ (.block f x) σ Q:=by
 intro c hc a w g k;cases c<;>simp only[Qwt] at hc<;>try (cases hc;done)
 ·grind [Qqe]
 ·split at hc<;>cases hc
 ·split at hc<;>cases hc
 ·rename_i d m;simp only[Zd,CC.block.injEq] at hc;obtain⟨l,j,rfl,rfl⟩:=hc;refine wp_block (wp_mono (h _ j a w g k) ?_);rintro e n w' ⟨e',σ',g',rfl,hq,hs'⟩;cases e' with
  |norm=>exact⟨.norm,σ',g',rfl,hq,hs'⟩
  |exit b =>
   simp only[Ex.to,Exit.inBlock];simp only[inB] at hq;split
   ·rename_i i;subst i;rw[show Nat.beq b b=true from by simp] at hq;exact⟨.norm,σ',g',rfl,hq,hs'⟩
   ·rename_i i;have:Nat.beq b d=false:=by
     grind [Nat.beq,absurd,Nat.eq_of_beq_eq_true]
    rw[this] at hq;exact⟨.exit b,σ',g',rfl,hq,hs'⟩
  |ret=>exact⟨.ret,σ',g',rfl,hq,hs'⟩
 ·simp at hc
def Qbp{X R:Type}(F:(X->Option R)->X->Option R):Nat->X->Option R
 |0,_=>none
 |n+1,x=>F (Qbp F n) x
def Qbnp{X R:Type}(Γ:Env)(sites:List Nat)(d:X->St)(b : X->Option R)(r:R)(Q:Ex->St->Prop):Ex->St->Prop
 |.norm,a=>∃c,b c=some r/\WeakSt Γ (Qmc Γ.n0 sites a) (d c)
 |.exit i,a=>Q (.exit i) a
 |.ret,a=>Q .ret a
theorem Tr.loop{X R:Type}{F:(X->Option R)->X->Option R}{d:X->St}{n:Nat}{j:X}{r:R}{sites:List Nat}{x:CC}(h:Qbp F n j=some r)(A:WeakSt Γ (Qmc Γ.n0 sites σ) (d j))(body:∀(b : X->Option R)y,F b y=some r->Tr Γ x (d y) (Qbnp Γ sites d b r Q)):Tr Γ (.loop sites x) σ Q:=by
 intro c hc a w g v;cases c<;>simp only[Qwt] at hc<;>try (cases hc;done)
 ·grind [Qqe]
 ·split at hc<;>cases hc
 ·split at hc<;>cases hc
 ·simp at hc
 rename_i C;simp only[Zd,CC.loop.injEq] at hc;obtain⟨E,t,rfl,rfl⟩:=hc;let S:Nat->Act->World->Prop:=fun n a w=>∃y g,Qbp F n y=some r/\SR Γ.n0 Γ.nt Γ.g0 Γ.w0 (d y) a w g;let i:Act->World->Nat:=fun a w=>least fun n=>S n a w;obtain⟨g',B⟩:=A a w g (Q4k v _);refine wp_loop (fun a w=>∃n,S n a w) i ⟨n,j,g',h,B⟩ ?_;intro a w z;obtain⟨y,g,f,s⟩:=Qbgf z;change Qbp F (i a w) y=some r at f;generalize i a w=m at f;cases m with
 |zero=>cases f
 |succ m =>
  refine wp_mono (body (Qbp F m) y f C t a w g s) ?_;rintro e l w' ⟨e',σ',g',rfl,hq,hs'⟩;cases e' with
  |norm =>
   obtain⟨o,hr,u⟩:=hq;obtain⟨g2,q⟩:=u l w' g' (Q4k hs' _);have k : ∃n,S n l w':=⟨m,o,g2,hr,q⟩;exact⟨k,Nat.lt_succ_of_le (Qbli (p:=fun n=>S n l w') ⟨o,g2,hr,q⟩)⟩
  |exit id=>exact⟨.exit id,σ',g',rfl,hq,hs'⟩
  |ret=>exact⟨.ret,σ',g',rfl,hq,hs'⟩
def Qbo0{X R:Type}(Γ:Env)(c:X->St)(J:X->Option R)(r:R)(Q:Ex->St->Prop):Ex->St->Prop
 |.norm,a=>∃b,J b=some r/\WeakSt Γ a (c b)
 |.exit i,a=>Q (.exit i) a
 |.ret,a=>Q .ret a
theorem Tr.cut{X R:Type}{x y:CC}(b:X->St)(J:X->Option R)(r:R)(d:∀z,J z=some r->Tr Γ y (b z) Q)(f:Tr Γ x σ (Qbo0 Γ b J r Q)):Tr Γ (.seq x y) σ Q:=by
 refine Tr.seq (f.mono ?_);intro e c a;cases e with
 |norm=>obtain⟨z,h,g⟩:=a;exact (d z h).weak g
 |exit id=>exact a
 |ret=>exact a
theorem Q75(Γ:Env):Qbh3 Γ.P Γ.g0 Γ.w0 (ACalls Γ.P):=⟨Γ.tab,fun _ _ _ _ _ _ _ h=>h⟩
def Q2s(Γ:Env):List COp->St->(St->Prop)->Prop
 |[],σ,Q=>∃a,WeakSt Γ σ a/\Q a
 |o::os,σ,Q=>∃a,WeakSt Γ σ a/\o.run (ACalls Γ.P) Γ.n0 0 a fun b=>Q2s Γ os b Q
theorem Qba2{os:List COp}{σ b : St}{Q:St->Prop}(h:WeakSt Γ σ b)(k:Q2s Γ os b Q):Q2s Γ os σ Q:=by
 cases os with
 |nil=>obtain⟨a,c,k⟩:=k;exact⟨a,h.trans c,k⟩
 |cons o os=>obtain⟨a,c,k⟩:=k;exact⟨a,h.trans c,k⟩
theorem Q9k{ops:Array Oper}{cs:List COp}(n:ops.toList.mapM (Qjy Γ.P Γ.T Γ.nt ops)=some cs){Q:St->Prop}{QQ:Exit->Act->World->Prop}(t:∀b f w' g',Q b->SR Γ.n0 Γ.nt Γ.g0 Γ.w0 b f w' g'->QQ .normal f w'):∀(m j:Nat)(σ:St)(a:Act)(w:World)(g:G),j+m=ops.size->SR Γ.n0 Γ.nt Γ.g0 Γ.w0 σ a w g ->
  Q2s Γ (cs.drop j) σ Q->wpOps Γ.P ops QQ (List.range' j m) a w:=by
 obtain⟨c,e⟩:=Qpk n;intro m
 induction m with
 |zero =>
  intro j σ a w g s h hr;have:cs.drop j=[]:=List.drop_eq_nil_of_le (by rw[c];simp;omega);rw[this] at hr;obtain⟨b,q,k⟩:=hr;obtain⟨g2,u⟩:=q a w g h;exact t _ _ _ g2 k u
 |succ m p =>
  intro j σ a w g s h hr;have d:j<cs.length:=by rw[c];simp;omega
  have l:j<ops.size:=by omega
  rw[Zai d] at hr;obtain⟨o,i,hr⟩:=hr;obtain⟨g1,h⟩:=i a w g h;have hc:Qjy Γ.P Γ.T Γ.nt ops ops[j]=some cs[j]:=e j ops[j] cs[j] (by simp[l]) (Zj d);have:=Q9e (QQ:=QQ) (Q75 Γ) hc h hr (KK:=wpOps Γ.P ops QQ (List.range' (j+1) m)) fun b f w' g' k r=>p (j+1) b f w' g' (by omega) r k
  grind [List.range'_succ,Go.wpOps,Array.getElem?_eq_getElem]
theorem Tr.region{cs:List COp}(h:Q2s Γ cs σ (Q .norm)):Tr Γ (.region cs 9 []) σ Q:=by
 intro c hc a w g f;cases c<;>simp only[Qwt] at hc<;>try (cases hc;done)
 case region id ops draw =>
  have hc:=Q74 hc;unfold Qnm at hc;split at hc<;>try (cases hc;done)
  rename_i cs' e;cases draw with
  |true =>
   grind
  |false =>
   simp only[Zg,if_false,Zh,CC.region.injEq,true_and,and_true] at hc;subst hc;refine wp_region ?_;rw[List.range_eq_range'];exact Q9k (Γ:=Γ) e (Q:=Q .norm) (fun b j w' g' i d=>⟨.norm,b,g',rfl,i,d⟩) ops.size 0 σ a w g (by omega) f (by simpa using h)
 ·split at hc<;>cases hc
 ·split at hc<;>cases hc
 ·simp at hc
 ·simp at hc
def Qym(c:List Pair)(σ:St):Bool:=c.all fun p=>Qme (σ.s p.a) p.n (σ.s p.b) p.m
theorem Tr.regionD{cs:List COp}{pc:Nat}{f:List Pair}(n:pc≠9)(h:Qbab (ACalls Γ.P) Γ.n0 pc cs σ fun b=>Qym f b=true/\Q .norm b):Tr Γ (.region cs pc f) σ Q:=by
 intro c hc a w g j;cases c<;>simp only[Qwt] at hc<;>try (cases hc;done)
 case region id ops draw =>
  have hc:=Q74 hc;unfold Qnm at hc;split at hc<;>try (cases hc;done)
  rename_i cs' l;cases draw with
  |false=>grind
  |true =>
   simp only[if_true] at hc;split at hc<;>try (cases hc;done)
   rename_i d;simp only[Zat,Bool.not_eq_true',not_or,Bool.not_eq_false,Bool.not_eq_true] at d;obtain⟨⟨i,o⟩,r⟩:=d;have e:∀c∈cs',c.kind.isNil=false:=by
    grind
   have q:Quq pc (ancs ops.toList) cs'=some f->cs'=cs->(Code.region id ops true).wp Γ.P (lift Γ.n0 Γ.nt Γ.g0 Γ.w0 Q) a w:=by
    intro k p;subst p;exact Qbge (Q75 Γ) l i o e k (Q:=fun b=>Q .norm b) (fun b s w' g' m j=>⟨.norm,b,g',rfl,m,j⟩) j h
   grind
 ·split at hc<;>cases hc
 ·split at hc<;>cases hc
 ·simp at hc
 ·simp at hc
structure WkV(v v' : V):Prop where
 rd:Wk v v'
 on:∀p,v.on p->v'.on p
theorem WkV.refl(v:V):WkV v v:=⟨fun _ _ _ _ h=>h,fun _ h=>h⟩
theorem WkV.same{v v' : V}(h:v=v'):WkV v v':=h ▸ .refl v
theorem sm{v v' : V}(h:v=v'):WkV v v':=h ▸ .refl v
theorem WkV.und(v:V):WkV v .und:=⟨fun _ _ _ _ _=>by simp[RV],fun _ _=>trivial⟩
theorem WkV.dem(v:V):WkV v v.dem:=⟨fun _ _ ℓ _ h=>Qie v ℓ ℓ _ h,fun _ h=>(Qd3 v).2 h⟩
theorem WkV.dem'{v v' : V}(h:v.dem=v'):WkV v v':=h ▸ .dem v
theorem WkV.ownT(sz:Nat)(l:List (List D)):WkV (.own sz l) (.ownT sz l):=⟨fun _ _ _ _ h=>Qbct h,fun _ _=>trivial⟩
theorem WkV.trans{a b c:V}(h:WkV a b)(k:WkV b c):WkV a c:=⟨fun g w ℓ u d=>k.rd g w ℓ u (h.rd g w ℓ u d),fun p hp=>k.on p (h.on p hp)⟩
inductive WkVs:List V->List V->Prop where
 |nil:WkVs [] []
 |cons {v v' : V} {vs vs' : List V} (h:WkV v v') (t:WkVs vs vs'):WkVs (v::vs) (v'::vs')
theorem WkVs.rd{vs a : List V}(h:WkVs vs a):∀g w ℓ i us,RVs g w vs ℓ i us->RVs g w a ℓ i us:=by
 induction h with
 |nil=>grind
 |cons h t d =>
  intro g w ℓ i us c;simp only[RVs] at c |-;obtain⟨u,b,rfl,f,e⟩:=c;exact⟨u,b,rfl,h.rd _ _ _ _ f,d _ _ _ _ _ e⟩
theorem WkVs.on{vs a : List V}(h:WkVs vs a):∀p,V.ons p vs->V.ons p a:=by
 induction h with
 |nil=>exact fun _ h=>h
 |cons h t c=>exact fun p b=>⟨h.on p b.1,c p b.2⟩
theorem WkVs.refl:∀vs:List V,WkVs vs vs
 |[]=>.nil
 |v::vs=>.cons (.refl v) (WkVs.refl vs)
theorem WkV.tup{vs b : List V}(h:WkVs vs b):WkV (.tup vs) (.tup b):=by
 refine⟨fun g w ℓ u a=>?_,fun p a=>h.on p a⟩;simp only[RV] at a |-;obtain⟨us,rfl,a⟩:=a;exact⟨us,rfl,h.rd _ _ _ _ _ a⟩
theorem WkV.agg{vs b : List V}(h:WkVs vs b):WkV (.agg vs) (.agg b):=by
 refine⟨fun g w ℓ u a=>?_,fun p a=>h.on p a⟩;simp only[RV] at a |-;obtain⟨us,rfl,a,c⟩:=a;exact⟨us,rfl,h.rd _ _ _ _ _ a,c⟩
def look:List (Nat×V)->Sl
 |[],_=>.und
 |(t,v)::E,i=>bif Nat.beq i t then v else look E i
def WkL(s:Sl):List (Nat×V)->Prop
 |[]=>True
 |(t,v)::E=>WkV (s t) v/\WkL s E
theorem WkL.at{s:Sl}:∀{E:List (Nat×V)},WkL s E->∀t,WkV (s t) (look E t)
 |[],_,t=>.und _
 |(u,v)::E,h,t=>by
  simp only[look];cases hb:Nat.beq t u with
  |true=>have:=Zaa hb;subst this;exact h.1
  |false=>exact WkL.at h.2 t
theorem Qdd(E:List (Nat×V))(t:Nat)(v:V):(look E).put t v=look ((t,v)::E):=by
 funext i
 simp_all[Sl.put,look,Nat.beq,Zaa]
def Qcf:List (Nat×Bx)->Nat->Option Bx
 |[],_=>none
 |(t,b)::L,i=>bif Nat.beq i t then some b else Qcf L i
def Qn(n0:Nat)(L:List (Nat×Bx))(M0:Mem):Mem:=fun k=>if k<n0 then M0 k else Qcf L (k-n0)
theorem Qdt{n0:Nat}{L:List (Nat×Bx)}{M0:Mem}{t:Nat}:Qn n0 L M0 (n0+t)=Qcf L t:=by
 simp_all[Qn,Nat.add_sub_cancel_left,if_neg]
theorem Qe2{n0:Nat}{L:List (Nat×Bx)}{M0:Mem}{k:Nat}(h:k<n0):Qn n0 L M0 k=M0 k:=by
 simp[Qn,h]
theorem Q07{n0:Nat}{M0:Mem}(h:∀k,n0<=k->M0 k=none):Qn n0 [] M0=M0:=by
 funext k;simp only[Qn];split
 ·rfl
 ·exact (h k (by omega)).symm
theorem Qef{n0:Nat}{L:List (Nat×Bx)}{M0:Mem}{t:Nat}{b:Bx}:(Qn n0 L M0).put (n0+t) b=Qn n0 ((t,b)::L) M0:=by
 funext k;simp only[Mem.put,Qn,Qcf];by_cases h:k=n0+t
 ·subst h;rw[if_pos rfl,if_neg (by omega)];simp
 ·rw[if_neg h];by_cases a:k<n0
  ·simp[a]
  ·simp only[a,if_false]
   grind [Nat.beq,Nat.eq_of_beq_eq_true]
theorem Qu2{n0:Nat}{L:List (Nat×Bx)}{M0:Mem}{k:Nat}{b:Bx}(h:k<n0):(Qn n0 L M0).put k b=Qn n0 L (M0.put k b):=by
 grind [Mem.put,Qn]
def KL(n0:Nat)(sites:List Nat)(s:Sl):List (Nat×V)->Prop
 |[]=>True
 |(t,v)::E=>WkV (Qd2 (Qjx n0 sites) (s t)) v/\KL n0 sites s E
theorem KL.at{n0:Nat}{sites:List Nat}{s:Sl}:∀{E:List (Nat×V)},KL n0 sites s E->∀t,WkV (Qd2 (Qjx n0 sites) (s t)) (look E t)
 |[],_,t=>.und _
 |(u,v)::E,h,t=>by
  simp only[look];cases hb:Nat.beq t u with
  |true=>have:=Zaa hb;subst this;exact h.1
  |false=>exact KL.at h.2 t
def KB(n0:Nat)(sites:List Nat)(L:List (Nat×Bx)):List (Nat×Bx)->Prop
 |[]=>True
 |(t,.cells cs')::a=>(∃cs,Qcf L t=some (.cells cs)/\sites.all (fun u=>!Nat.beq t u)=true/\WkVs (cs.map (Qd2 (Qjx n0 sites))) cs')/\KB n0 sites L a
 |(t,.mp es c)::a=>(Qcf L t=some (.mp es c)/\sites.all (fun u=>!Nat.beq t u)=true)/\KB n0 sites L a
abbrev bxs(L:List (Nat×Bx)):List (Nat×Bx):=L
theorem KB.at{n0:Nat}{sites:List Nat}{L:List (Nat×Bx)}:∀{a : List (Nat×Bx)},KB n0 sites L a->∀t b,Qcf a t=some b->sites.all (fun u=>!Nat.beq t u)=true /\
  ((∃cs' cs,b = .cells cs'/\Qcf L t=some (.cells cs)/\WkVs (cs.map (Qd2 (Qjx n0 sites))) cs')\/∃es c,b = .mp es c/\Qcf L t=some (.mp es c))
 |[],_,t,b,hb=>by simp[Qcf] at hb
 |(u,.cells cs')::a,h,t,b,hb=>by
  simp only[Qcf] at hb;cases hbe:Nat.beq t u with
  |true =>
   have:=Zaa hbe;subst this;rw[hbe] at hb;simp only[cond_true,Zh] at hb;obtain⟨cs,f,e,d⟩:=h.1
   grind
  |false =>
   rw[hbe] at hb;exact KB.at h.2 t b hb
 |(u,.mp es c)::a,h,t,b,hb=>by
  simp only[Qcf] at hb;cases hbe:Nat.beq t u with
  |true =>
   have:=Zaa hbe;subst this;rw[hbe] at hb;simp only[cond_true,Zh] at hb;exact⟨h.1.2,.inr ⟨es,c,hb.symm,h.1.1⟩⟩
  |false =>
   rw[hbe] at hb;exact KB.at h.2 t b hb
theorem Q08:∀{L:List (Nat×Bx)}{t:Nat}{b:Bx},Qcf L t=some b->∃p∈L,p.1=t
 |[],_,_,h=>by simp[Qcf] at h
 |(u,c)::L,t,b,h=>by
  simp only[Qcf] at h;cases hbe:Nat.beq t u with
  |true=>exact⟨(u,c),by simp,(Zaa hbe).symm⟩
  |false =>
   rw[hbe] at h;obtain⟨p,hp,e⟩:=Q08 h;exact⟨p,by simp[hp],e⟩
theorem Q2t:∀{L:List (Nat×Bx)}{p:Nat×Bx},p∈L->(Qcf L p.1).isSome=true
 |(u,c)::L,p,h=>by
  simp only[Qcf];cases hbe:Nat.beq p.1 u with
  |true=>rfl
  |false =>
   rcases Zah.1 h with rfl|h
   ·simp at hbe
   ·exact Q2t h
theorem Qqf{n0 t:Nat}{sites:List Nat}:Qjx n0 sites (n0+t)=sites.any fun u=>Nat.beq t u:=by
 unfold Qjx;congr 1;funext u;cases hb:Nat.beq t u with
 |true=>simp_all
 |false =>
  have:t≠u:=fun e=>by subst e;simp at hb
  simp[this]
theorem Qp2{n0 k:Nat}{sites:List Nat}(h:k<n0):Qjx n0 sites k=false:=by
 grind [Qjx,Qbik]
theorem Qbep{sites:List Nat}{s1 N : Sl}{E:List (Nat×V)}{L:List (Nat×Bx)}{s : List (Nat×Bx)}{M0:Mem}{nb:Nat}(P:∀t,WkV (s1 t) (N t))(O:KB Γ.n0 sites L s)(U:(L.all fun p=>sites.any (Nat.beq p.1)||s.any fun q=>Nat.beq p.1 q.1)=true):
  WeakSt Γ ⟨s1,(Qmc Γ.n0 sites ⟨look E,Qn Γ.n0 L M0,nb⟩).M,nb⟩ ⟨N,Qn Γ.n0 (bxs s) M0,nb⟩:=by
 intro a w g j;have H:∀k,k<Γ.n0->(Qmc Γ.n0 sites ⟨look E,Qn Γ.n0 L M0,nb⟩).M k=M0 k:=by
  simp_all[Qmc,Qp2,Zg,if_false,if_true,Qe2]
 have l:∀t cs,sites.all (fun u=>!Nat.beq t u)=true->Qcf L t=some (.cells cs)->(Qmc Γ.n0 sites ⟨look E,Qn Γ.n0 L M0,nb⟩).M (Γ.n0+t)=some (.cells (cs.map (Qd2 (Qjx Γ.n0 sites)))):=by
  intro t cs n m;have r:Qjx Γ.n0 sites (Γ.n0+t)=false:=by
   simp_all[Qqf,List.any_eq_false,Zt,Bool.not_eq_true']
  have A:¬Γ.n0+t<Γ.n0:=by omega
  have z:Qn Γ.n0 L M0 (Γ.n0+t)=some (.cells cs):=by rw[Qdt];exact m
  simp only[Qmc,r,Zg,if_false,A,z]
 have o:∀t es c,sites.all (fun u=>!Nat.beq t u)=true->Qcf L t=some (.mp es c)->(Qmc Γ.n0 sites ⟨look E,Qn Γ.n0 L M0,nb⟩).M (Γ.n0+t)=some (.mp es c):=by
  intro t es c n m;have r:Qjx Γ.n0 sites (Γ.n0+t)=false:=by
   simp_all[Qqf,List.any_eq_false,Zt,Bool.not_eq_true']
  have A:¬Γ.n0+t<Γ.n0:=by omega
  have z:Qn Γ.n0 L M0 (Γ.n0+t)=some (.mp es c):=by rw[Qdt];exact m
  simp only[Qmc,r,Zg,if_false,A,z]
 have f:∀k,k<Γ.n0\/∃t,k=Γ.n0+t:=fun k=>by
  rcases Zak k Γ.n0 with h|h
  ·exact .inl h
  ·exact .inr ⟨k-Γ.n0,by omega⟩
 have d:∀k,There (Qmc Γ.n0 sites ⟨look E,Qn Γ.n0 L M0,nb⟩).M k->There (Qn Γ.n0 (bxs s) M0) k:=by
  intro k y;rcases f k with h|⟨t,rfl⟩
  ·grind [There,Qe2]
  ·simp only[There,Qdt];have A:¬Γ.n0+t<Γ.n0:=by omega
   have I:Qjx Γ.n0 sites (Γ.n0+t)=false:=by
    grind [Qjx,There,Qmc]
   have W:∃b,Qcf L t=some b:=by
    cases hb:Qcf L t with
    |some b=>exact⟨b,rfl⟩
    |none =>
     have z:Qn Γ.n0 L M0 (Γ.n0+t)=none:=by rw[Qdt];exact hb
     simp only[There,Qmc,I,Zg,if_false,A,z] at y;cases y
   obtain⟨b,hb⟩:=W;obtain⟨p,hp,rfl⟩:=Q08 hb;have:=Zt.1 U p hp;rw[Qqf] at I;rw[Zat] at this;rcases this with h8|h8
   ·rw[I] at h8;cases h8
   ·obtain⟨q,X,F⟩:=List.any_eq_true.1 h8
    grind [Nat.eq_of_beq_eq_true,Q2t]
 refine⟨g,⟨⟨fun k b hb=>?_,j.mem.imm⟩,fun t=>(P t).rd _ _ _ _ (j.slots t),j.size,j.defers,fun t=>Qf8 d _ ((P t).on _ (j.onS t)),fun k cs hb=>?_,j.top,j.fr⟩⟩
 ·rcases f k with h|⟨t,rfl⟩
  ·have i : (Qmc Γ.n0 sites ⟨look E,Qn Γ.n0 L M0,nb⟩).M k=some b:=by grind [Qe2]
   exact j.mem.box k b i
  ·have i : Qcf (bxs s) t=some b:=by rw[<-hb];exact Qdt.symm
   obtain⟨m,⟨cs',cs,rfl,n,r⟩|⟨es,c,rfl,n⟩⟩:=O.at t b i
   ·obtain⟨x,B,v,e,T,S,R⟩:=j.mem.box _ _ (l t cs m n);exact⟨x,B,v,e,T,r.rd _ _ _ _ _ S,R⟩
   ·exact j.mem.box _ _ (o t es c m n)
 ·rcases f k with h|⟨t,rfl⟩
  ·have i : (Qmc Γ.n0 sites ⟨look E,Qn Γ.n0 L M0,nb⟩).M k=some (.cells cs):=by grind [Qe2]
   obtain⟨x,B⟩:=j.onM k cs i;exact⟨ons_mono d _ x,B⟩
  ·have i : Qcf (bxs s) t=some (.cells cs):=by rw[<-hb];exact Qdt.symm
   obtain⟨m,⟨cs',J,F,n,r⟩|⟨es,c,F,n⟩⟩:=O.at t _ i<;>cases F;obtain⟨x,B⟩:=j.onM _ _ (l t J m n);exact⟨ons_mono d _ (r.on _ x),fun C=>absurd C (by omega)⟩
theorem Q76{sites:List Nat}{E b : List (Nat×V)}{L:List (Nat×Bx)}{a : List (Nat×Bx)}{M0:Mem}{nb:Nat}(e:KL Γ.n0 sites (look E) b)(d:KB Γ.n0 sites L a)(c:(L.all fun p=>sites.any (Nat.beq p.1)||a.any fun q=>Nat.beq p.1 q.1)=true):
  WeakSt Γ (Qmc Γ.n0 sites ⟨look E,Qn Γ.n0 L M0,nb⟩) ⟨look b,Qn Γ.n0 (bxs a) M0,nb⟩:=Qbep (E:=E) (s1:=(Qmc Γ.n0 sites ⟨look E,Qn Γ.n0 L M0,nb⟩).s) e.at d c
theorem Qfo(sites:List Nat){E c : List (Nat×V)}{L:List (Nat×Bx)}{b : List (Nat×Bx)}{M0:Mem}{nb:Nat}(h:KL Γ.n0 sites (look E) c)(f:KB Γ.n0 sites L b)(e:(L.all fun p=>sites.any (Nat.beq p.1)||b.any fun q=>Nat.beq p.1 q.1)=true):
  WeakSt Γ ⟨look E,Qn Γ.n0 L M0,nb⟩ ⟨look c,Qn Γ.n0 (bxs b) M0,nb⟩ :=
 WeakSt.trans (fun a w g d=>⟨g,Q4k d sites⟩) (Q76 h f e)
theorem kPtr{n0 t o:Nat}{sites:List Nat}(h:sites.any (fun u=>Nat.beq t u)=false):WkV (Qd2 (Qjx n0 sites) (.ptr (n0+t) o)) (.ptr (n0+t) o):=by
 refine .same ?_;simp[Qd2,Qqf,h]
theorem Qbpn{n0 k o:Nat}{sites:List Nat}(h:k<n0):WkV (Qd2 (Qjx n0 sites) (.ptr k o)) (.ptr k o):=by
 refine .same ?_;simp[Qd2,Qp2 h]
theorem kSl{n0 t sz o n c:Nat}{sites:List Nat}(h:sites.any (fun u=>Nat.beq t u)=false):WkV (Qd2 (Qjx n0 sites) (.sl sz (n0+t) o n c)) (.sl sz (n0+t) o n c):=by
 refine .same ?_;simp[Qd2,Qqf,h]
theorem WkVs.same{vs a : List V}(h:vs=a):WkVs vs a:=h ▸ .refl vs
end Go.Abs
end
section
namespace Go.Abs
open Go
variable{Γ:Env}{pc d nb:Nat}{os:List COp}{E:List (Nat×V)}{M M' M0:Mem}{L:List (Nat×Bx)}{Q:St->Prop}{σ:St}
def RnP(Γ:Env)(pc:Nat)(os:List COp)(σ:St)(Q:St->Prop):Prop :=
 bif Nat.beq pc 9 then Q2s Γ os σ Q else Qbab (ACalls Γ.P) Γ.n0 pc os σ Q
structure Rn(Γ:Env)(pc:Nat)(os:List COp)(σ:St)(Q:St->Prop):Prop where
 run:RnP Γ pc os σ Q
theorem Tr.rgn{cs:List COp}{Q:Ex->St->Prop}(h:Rn Γ 9 cs σ (Q .norm)):Tr Γ (.region cs 9 []) σ Q:=Tr.region h.run
theorem Tr.rgnD{cs:List COp}{Q:Ex->St->Prop}{pc:Nat}{i:List Pair}(g:pc≠9)(h:Rn Γ pc cs σ fun f=>Qym i f=true/\Q .norm f):Tr Γ (.region cs pc i) σ Q:=by
 refine Tr.regionD g ?_;have h:=h.run;unfold RnP at h;have:Nat.beq pc 9=false:=by
  cases hb:Nat.beq pc 9 with
  |false=>rfl
  |true=>exact absurd (Zaa hb) g
 rw[this] at h;exact h
theorem Rn.weak{f : St}(h:WeakSt Γ σ f)(k:Rn Γ 9 os f Q):Rn Γ 9 os σ Q:=⟨Qba2 h k.run⟩
theorem Rn.nil(h:Q σ):Rn Γ pc [] σ Q:=by
 refine⟨?_⟩;unfold RnP;cases Nat.beq pc 9 with
 |true=>exact⟨σ,.refl _,h⟩
 |false=>exact h
theorem COp.run_mono{C:Ctx}{n0 pc:Nat}{o:COp}{σ:St}{Q Q' : St->Prop}(h:o.run C n0 pc σ Q)(k:∀i,Q i->Q' i):o.run C n0 pc σ Q':=by
 unfold COp.run at *
 cases hw:o.wanted σ.s with
 |none=>rw[hw] at h;exact h.elim
 |some b =>
  rw[hw] at h;cases b with
  |false=>exact k _ h
  |true =>
   simp only at h |-;cases hc:o.kind.isCall with
   |true =>
    rw[hc] at h;simp only[if_true] at h |-;cases hcal:o.callee σ.s with
    |none=>rw[hcal] at h;exact h.elim
    |some t =>
     rw[hcal] at h;simp only at h |-
     match pc,h with
     |0,⟨r,M,nb,g,m,l,f⟩=>exact⟨r,M,nb,g,m,l,k _ f⟩
     |1,⟨r,p,nb,g,f⟩=>exact⟨r,p,nb,g,k _ f⟩
     |n+2,h =>
      have h:(if n<8 then _ else _):=h;show (if n<8 then _ else _);by_cases j:n<8
      ·rw[if_pos j] at h |-;obtain⟨r,g,f⟩:=h;exact⟨r,g,k _ f⟩
      ·rw[if_neg j] at h |-;obtain⟨r,W,p,nb,g,m,l,q,f⟩:=h;exact⟨r,W,p,nb,g,m,l,q,k _ f⟩
   |false =>
    rw[hc] at h;simp only[Zg,if_false] at h |-;cases hn:o.kind.isNil with
    |true =>
     rw[hn] at h;simp only[if_true] at h |-;unfold COp.runN at h |-;split at h
     ·obtain⟨hp,r,M,nb,g,m,l,f⟩:=h;exact⟨hp,r,M,nb,g,m,l,k _ f⟩
     cases hl:Q4t (o.xs σ.s) with
     |none=>rw[hl] at h;exact h.elim
     |some n=>rw[hl] at h;exact fun b hb=>k _ (h b hb)
    |false =>
     rw[hn] at h;simp only[Zg,if_false] at h |-;cases hs:o.step n0 σ with
     |none=>rw[hs] at h;exact h.elim
     |some i=>rw[hs] at h;exact k _ h
def pcOf(pc:Nat):Nat:=bif Nat.beq pc 9 then 0 else pc
def one(n:Nat):Bool:=Nat.beq n 1||Nat.ble 10 n
theorem Rn.cons{o:COp}(h:o.run (ACalls Γ.P) Γ.n0 (pcOf pc) σ fun f=>Rn Γ pc os f Q):Rn Γ pc (o::os) σ Q:=by
 have h:=COp.run_mono h (Q':=fun f=>RnP Γ pc os f Q) fun _ h=>h.run;refine⟨?_⟩;unfold RnP pcOf at *
 cases hb:Nat.beq pc 9 with
 |true=>rw[hb] at h;exact⟨σ,.refl _,h⟩
 |false=>rw[hb] at h;exact h
def Wn(E:List (Nat×V)):Option (Nat×Bool)->Prop
 |none=>True
 |some (g,w)=>look E g = .d (.bool w)
theorem gw{g:Nat}{b w:Bool}(h:look E g = .d (.bool b))(hb:b=w):Wn E (some (g,w)):=hb ▸ h
theorem Wn.wanted{gd:Option (Nat×Bool)}(h:Wn E gd)(dst:Option Nat)(k:K)(f:List Arg)(tk:Bool):COp.wanted ⟨dst,k,f,tk,gd⟩ (look E)=some true:=by
 unfold COp.wanted;cases gd with
 |none=>rfl
 |some p =>
  obtain⟨g,w⟩:=p;have h:look E g = .d (.bool w):=h;simp[h]
def Nw(E:List (Nat×V))(g:Nat)(f:Bool):Prop:=look E g = .d (.bool (!f))\/look E g = .tup []
theorem nw{g:Nat}{b w:Bool}(h:look E g = .d (.bool b))(hb:b = !w):Nw E g w:=.inl (hb ▸ h)
theorem nu{g:Nat}{w:Bool}(h:look E g = .tup []):Nw E g w:=.inr h
theorem Rn.gF{dst:Option Nat}{k:K}{j:List Arg}{tk:Bool}{g:Nat}{f:Bool}(i:Nw E g f)(h:Rn Γ pc os ⟨Qbe (look E) dst (.tup []),M,nb⟩ Q):Rn Γ pc (⟨dst,k,j,tk,some (g,f)⟩::os) ⟨look E,M,nb⟩ Q:=by
 refine Rn.cons ?_;have l:COp.wanted ⟨dst,k,j,tk,some (g,f)⟩ (look E)=some false:=by
  rcases i with i|i<;>simp[COp.wanted,i]
 unfold COp.run;rw[l];exact h
theorem Rn.sk{t:Nat}{k:K}{j:List Arg}{tk:Bool}{g:Nat}{f:Bool}(i:Nw E g f)(h:Rn Γ pc os ⟨look ((t,.tup [])::E),M,nb⟩ Q):Rn Γ pc (⟨some t,k,j,tk,some (g,f)⟩::os) ⟨look E,M,nb⟩ Q:=by
 refine Rn.gF i ?_;rw[show Qbe (look E) (some t) (.tup [])=look ((t,.tup [])::E) from Qdd E t _];exact h
variable{gd:Option (Nat×Bool)}
theorem Rn.k{k:K}{f:List Arg}{v:V}(g:Wn E gd)(hc:k.isCall=false)(i:k.isNil=false)(j:Ql Γ.n0 (Γ.n0+d) k (V.dems (f.map (·.val (look E)))) M=some (v,M'))(h:Rn Γ pc os ⟨look ((d,v)::E),M',nb⟩ Q):Rn Γ pc (⟨some d,k,f,false,gd⟩::os) ⟨look E,M,nb⟩ Q:=by
 refine Rn.cons ?_;unfold COp.run;rw[g.wanted];simp only[hc,i,Zg,if_false,COp.step,COp.xs,Option.getD_some,j,Qbe];rw[Qdd];exact h
theorem Rn.kT{k:K}{f:List Arg}{v:V}{g : List (Nat×V)}(j:Wn E gd)(hc:k.isCall=false)(l:k.isNil=false)(m:Ql Γ.n0 (Γ.n0+d) k (f.map (·.val (look E))) M=some (v,M'))(hp:∀i,(Q5 (look E) f (Qb2 k (f.map (·.val (look E))))).put d v i=look g i)(h:Rn Γ pc os ⟨look g,M',nb⟩ Q):Rn Γ pc (⟨some d,k,f,true,gd⟩::os) ⟨look E,M,nb⟩ Q:=by
 refine Rn.cons ?_;unfold COp.run;rw[j.wanted];simp only[hc,l,Zg,if_false,COp.step,COp.xs,Option.getD_some,m,Qbe,if_true];have:(Q5 (look E) f (Qb2 k (f.map (·.val (look E))))).put d v=look g:=funext hp;rw[this];exact h
theorem Rn.kS{n:Nat}{f:List Arg}{tk:Bool}{v:V}{k : List (Nat×V)}(l:Wn E gd)(m:Ql Γ.n0 (Γ.n0+0) (.store n) (if tk then f.map (·.val (look E)) else V.dems (f.map (·.val (look E)))) M=some (v,M'))(hp:∀i,(if tk then Q5 (look E) f (Qb2 (.store n) (f.map (·.val (look E)))) else look E) i=look k i)(h:Rn Γ pc os ⟨look k,M',nb⟩ Q):Rn Γ pc (⟨none,.store n,f,tk,gd⟩::os) ⟨look E,M,nb⟩ Q:=by
 refine Rn.cons ?_;unfold COp.run;rw[l.wanted];have j : Ql Γ.n0 (Γ.n0+(none:Option Nat).getD 0) (.store n) (COp.xs ⟨none,.store n,f,tk,gd⟩ (look E)) M=some (v,M'):=m;simp only[show (K.store n).isCall=false from rfl,show (K.store n).isNil=false from rfl,Zg,if_false,COp.step,j,Qbe];have g : (if tk=true then Q5 (look E) f (Qb2 (.store n) (COp.xs ⟨none,.store n,f,tk,gd⟩ (look E))) else look E)=look k:=by
  funext i;rw[<-hp i];cases tk<;>simp[COp.xs]
 rw[g];exact h
variable{a b c:Arg}{x y:D}
theorem Rn.mov{v:V}(f:Wn E gd)(ha:(a.val (look E)).dem=v)(h:Rn Γ pc os ⟨look ((d,v)::E),M,nb⟩ Q):Rn Γ pc (⟨some d,.mov,[a],false,gd⟩::os) ⟨look E,M,nb⟩ Q:=by
 refine Rn.k f rfl rfl ?_ h;simp[V.dems,Ql,ha]
theorem Rn.movD(f:Wn E gd)(ha:a.val (look E) = .d x)(h:Rn Γ pc os ⟨look ((d,.d x)::E),M,nb⟩ Q):Rn Γ pc (⟨some d,.mov,[a],false,gd⟩::os) ⟨look E,M,nb⟩ Q :=
 Rn.mov f (by rw[ha];rfl) h
theorem Rn.movTF{t:Nat}{v:V}(f:Wn E gd)(ha:look E t=v)(g:v.dem=v)(h:Rn Γ pc os ⟨look ((d,v)::E),M,nb⟩ Q):Rn Γ pc (⟨some d,.mov,[.t t],true,gd⟩::os) ⟨look E,M,nb⟩ Q:=by
 refine Rn.kT f rfl rfl (v:=v) (by simp[Arg.val,ha,Ql]) (fun i=>?_) h;simp only[Zb,Zi,Arg.val,ha,Qb2,g,Q5,Arg.putTo];rw[<-Qdd];have:(look E).put t v=look E:=by
  funext i;simp only[Sl.put];split
  ·rename_i e;subst e;exact ha.symm
  ·rfl
 rw[this]
theorem Rn.movTC{v:V}(f:Wn E gd)(h:Rn Γ pc os ⟨look ((d,v)::E),M,nb⟩ Q):Rn Γ pc (⟨some d,.mov,[.c v],true,gd⟩::os) ⟨look E,M,nb⟩ Q:=by
 refine Rn.kT f rfl rfl (v:=v) (by simp[Arg.val,Ql]) (fun i=>?_) h;simp only[Zb,Zi,Arg.val,Qb2,Q5,Arg.putTo];rw[<-Qdd]
theorem Rn.movTO{t sz:Nat}{l:List (List D)}(f:Wn E gd)(ha:look E t = .own sz l)(h:Rn Γ pc os ⟨look ((d,.own sz l)::(t,.d (.lst sz l))::E),M,nb⟩ Q):Rn Γ pc (⟨some d,.mov,[.t t],true,gd⟩::os) ⟨look E,M,nb⟩ Q:=by
 refine Rn.kT f rfl rfl (v:=.own sz l) (by simp[Arg.val,ha,Ql]) (fun i=>?_) h;simp only[Zb,Zi,Arg.val,ha,Qb2,V.dem,Q5,Arg.putTo];rw[<-Qdd,<-Qdd]
theorem Rn.bin{op:BinOp}{f:Bool}{z:D}(i:Wn E gd)(ha:a.val (look E) = .d x)(hb:b.val (look E) = .d y)(g:binD op f x y=some z)(h:Rn Γ pc os ⟨look ((d,.d z)::E),M,nb⟩ Q):Rn Γ pc (⟨some d,.bin op f,[a,b],false,gd⟩::os) ⟨look E,M,nb⟩ Q:=by
 refine Rn.k i rfl rfl ?_ h;simp[ha,hb,V.dems,V.dem,Ql,g]
theorem Rn.un{op:UnOp}{z:D}(g:Wn E gd)(ha:a.val (look E) = .d x)(f:unD op x=some z)(h:Rn Γ pc os ⟨look ((d,.d z)::E),M,nb⟩ Q):Rn Γ pc (⟨some d,.un op,[a],false,gd⟩::os) ⟨look E,M,nb⟩ Q:=by
 refine Rn.k g rfl rfl ?_ h;simp[ha,V.dems,V.dem,Ql,f]
theorem Rn.conv{k k' : IntKind}{n:Int}(f:Wn E gd)(ha:a.val (look E) = .d (.int k' n))(h:Rn Γ pc os ⟨look ((d,.d (.int k (k.wrap n)))::E),M,nb⟩ Q):Rn Γ pc (⟨some d,.conv k,[a],false,gd⟩::os) ⟨look E,M,nb⟩ Q:=by
 refine Rn.k f rfl rfl ?_ h;simp[ha,V.dems,V.dem,Ql]
theorem Rn.eqa{neg r:Bool}{f:List Nat}{xs ys:List V}(i:Wn E gd)(ha:(a.val (look E)).dem = .agg xs)(hb:(b.val (look E)).dem = .agg ys)(g:Qec f xs ys=some r)(h:Rn Γ pc os ⟨look ((d,.d (.bool (bif neg then !r else r)))::E),M,nb⟩ Q):Rn Γ pc (⟨some d,.eqa neg f,[a,b],false,gd⟩::os) ⟨look E,M,nb⟩ Q:=by
 refine Rn.k i rfl rfl ?_ h;cases neg<;>simp[ha,hb,V.dems,Ql,g]
theorem Rn.pickT{v:V}{q:Bool}(f:Wn E gd)(g:c.val (look E) = .d (.bool q))(hb:q=true)(ha:(a.val (look E)).dem=v)(h:Rn Γ pc os ⟨look ((d,v)::E),M,nb⟩ Q):Rn Γ pc (⟨some d,.pick,[c,a,b],false,gd⟩::os) ⟨look E,M,nb⟩ Q:=by
 subst hb;refine Rn.k f rfl rfl ?_ h;simp[g,V.dems,V.dem,Ql,ha]
theorem Rn.pickF{v:V}{q:Bool}(f:Wn E gd)(g:c.val (look E) = .d (.bool q))(hb:q=false)(ha:(b.val (look E)).dem=v)(h:Rn Γ pc os ⟨look ((d,v)::E),M,nb⟩ Q):Rn Γ pc (⟨some d,.pick,[c,a,b],false,gd⟩::os) ⟨look E,M,nb⟩ Q:=by
 subst hb;refine Rn.k f rfl rfl ?_ h;simp[g,V.dems,V.dem,Ql,ha]
theorem Rn.max2{k:IntKind}{m n:Int}(f:Wn E gd)(ha:a.val (look E) = .d (.int k m))(hb:b.val (look E) = .d (.int k n))(h:Rn Γ pc os ⟨look ((d,.d (.int k (if n>m then n else m)))::E),M,nb⟩ Q):Rn Γ pc (⟨some d,.max2,[a,b],false,gd⟩::os) ⟨look E,M,nb⟩ Q:=by
 refine Rn.k f rfl rfl ?_ h;simp[ha,hb,V.dems,V.dem,Ql]
theorem Rn.min2{k:IntKind}{m n:Int}(f:Wn E gd)(ha:a.val (look E) = .d (.int k m))(hb:b.val (look E) = .d (.int k n))(h:Rn Γ pc os ⟨look ((d,.d (.int k (if n<m then n else m)))::E),M,nb⟩ Q):Rn Γ pc (⟨some d,.min2,[a,b],false,gd⟩::os) ⟨look E,M,nb⟩ Q:=by
 refine Rn.k f rfl rfl ?_ h;simp[ha,hb,V.dems,V.dem,Ql]
variable{α:Type}{e:α->List D}{xs:List α}{sz:Nat}
theorem Rn.lenD(f:Wn E gd)(ha:(a.val (look E)).dem = .d (.lst sz (xs.map e)))(h:Rn Γ pc os ⟨look ((d,.d (.int .i64 xs.length))::E),M,nb⟩ Q):Rn Γ pc (⟨some d,.len,[a],false,gd⟩::os) ⟨look E,M,nb⟩ Q:=by
 refine Rn.k f rfl rfl ?_ h;simp[ha,V.dems,Ql]
def getO(l:List α)(i:Int):Option α:=if 0<=i then l[i.toNat]? else none
def slcO(l:List α)(lo f:Int):Option (List α):=if 0<=lo/\lo<=f/\f<=l.length then some ((l.take f.toNat).drop lo.toNat) else none
def appO(l m:List α):Option (List α):=if l.length+m.length<=lim then some (l++m) else none
theorem Rn.idxD{k:IntKind}{i:Int}{x:α}(g:Wn E gd)(ha:(a.val (look E)).dem = .d (.lst sz (xs.map e)))(hb:b.val (look E) = .d (.int k i))(f:getO xs i=some x)(h:Rn Γ pc os ⟨look ((d,.cref (e x))::E),M,nb⟩ Q):Rn Γ pc (⟨some d,.idx sz,[a,b],false,gd⟩::os) ⟨look E,M,nb⟩ Q:=by
 refine Rn.k g rfl rfl ?_ h;unfold getO at f;split at f<;>try (cases f;done)
 rename_i j;simp[ha,hb,V.dems,V.dem,Ql,j,f]
theorem Rn.loadC{cs:List D}(f:Wn E gd)(ha:a.val (look E) = .cref (x::cs))(h:Rn Γ pc os ⟨look ((d,.d x)::E),M,nb⟩ Q):Rn Γ pc (⟨some d,.load false 1,[a],false,gd⟩::os) ⟨look E,M,nb⟩ Q:=by
 refine Rn.k f rfl rfl ?_ h;simp[ha,V.dems,V.dem,Ql]
theorem Rn.loadCA{cs:List D}{vs:List V}{n:Nat}(f:Wn E gd)(ha:a.val (look E) = .cref cs)(i:Nat.ble n cs.length=true)(g:(cs.take n).map .d=vs)(h:Rn Γ pc os ⟨look ((d,.agg vs)::E),M,nb⟩ Q):Rn Γ pc (⟨some d,.load true n,[a],false,gd⟩::os) ⟨look E,M,nb⟩ Q:=by
 refine Rn.k f rfl rfl ?_ h;have:=Zy i;simp[ha,V.dems,V.dem,Ql,this,g]
theorem Rn.fldC{cs:List D}{off:Nat}(f:Wn E gd)(ha:a.val (look E) = .cref cs)(h:Rn Γ pc os ⟨look ((d,.cref (cs.drop off))::E),M,nb⟩ Q):Rn Γ pc (⟨some d,.fld off,[a],false,gd⟩::os) ⟨look E,M,nb⟩ Q:=by
 refine Rn.k f rfl rfl ?_ h;simp[ha,V.dems,V.dem,Ql]
theorem Rn.fldP{k o off o' : Nat}(f:Wn E gd)(ha:a.val (look E) = .ptr k o)(ho:o+off=o')(h:Rn Γ pc os ⟨look ((d,.ptr k o')::E),M,nb⟩ Q):Rn Γ pc (⟨some d,.fld off,[a],false,gd⟩::os) ⟨look E,M,nb⟩ Q:=by
 refine Rn.k f rfl rfl ?_ h;subst ho;simp[ha,V.dems,V.dem,Ql]
theorem Rn.nilchkP{k o:Nat}(f:Wn E gd)(ha:a.val (look E) = .ptr k o)(h:Rn Γ pc os ⟨look ((d,.ptr k o)::E),M,nb⟩ Q):Rn Γ pc (⟨some d,.nilchk,[a],false,gd⟩::os) ⟨look E,M,nb⟩ Q:=by
 refine Rn.k f rfl rfl ?_ h;simp[ha,V.dems,V.dem,Ql]
theorem Rn.build{g:List Arg}{z:List V}{f:List (Nat×Nat)}{v:V}(i:Wn E gd)(j:Ql Γ.n0 (Γ.n0+d) (.build z f) (V.dems (g.map (·.val (look E)))) M=some (v,M))(h:Rn Γ pc os ⟨look ((d,v)::E),M,nb⟩ Q):Rn Γ pc (⟨some d,.build z f,g,false,gd⟩::os) ⟨look E,M,nb⟩ Q :=
 Rn.k i rfl rfl j h
theorem Rn.ext{i:Nat}{vs:List V}{v:V}(f:Wn E gd)(ha:(a.val (look E)).dem = .tup vs)(g:vs[i]? = some v)(j:v.top=v)(h:Rn Γ pc os ⟨look ((d,v)::E),M,nb⟩ Q):Rn Γ pc (⟨some d,.extract i,[a],false,gd⟩::os) ⟨look E,M,nb⟩ Q:=by
 refine Rn.k f rfl rfl ?_ h;simp[ha,V.dems,Ql,g,j]
theorem Rn.extTD{t i:Nat}{vs:List V}{x:D}(g:Wn E gd)(ha:look E t = .tup vs)(f:vs[i]? = some (.d x))(k:vs.set i (.d x)=vs)(h:Rn Γ pc os ⟨look ((d,.d x)::E),M,nb⟩ Q):Rn Γ pc (⟨some d,.extract i,[.t t],true,gd⟩::os) ⟨look E,M,nb⟩ Q:=by
 refine Rn.kT g rfl rfl (v:=.d x) (by simp[Arg.val,ha,Ql,f,V.top,V.dem]) (fun j=>?_) h;simp only[Zb,Zi,Arg.val,ha,Qb2,f,V.dem,k,Q5,Arg.putTo];rw[<-Qdd];have:(look E).put t (.tup vs)=look E:=by
  funext i;simp only[Sl.put];split
  ·rename_i e;subst e;exact ha.symm
  ·rfl
 rw[this]
theorem Q4l{l:List α}{lo f:Int}{ys:List α}(h:slcO l lo f=some ys):0<=lo/\lo<=f/\f<=l.length/\(((l.map e).take f.toNat).drop lo.toNat)=ys.map e:=by
 unfold slcO at h;split at h<;>cases h;rename_i hc;refine⟨hc.1,hc.2.1,hc.2.2,by simp[List.map_drop,List.map_take]⟩
theorem Rn.slc2{k k' : IntKind}{lo f:Int}{ys:List α}(i:Wn E gd)(ha:(a.val (look E)).dem = .d (.lst sz (xs.map e)))(hb:b.val (look E) = .d (.int k lo))(hc:c.val (look E) = .d (.int k' f))(g:slcO xs lo f=some ys)(h:Rn Γ pc os ⟨look ((d,.d (.lst sz (ys.map e)))::E),M,nb⟩ Q):
  Rn Γ pc (⟨some d,.slice sz true true,[a,b,c],false,gd⟩::os) ⟨look E,M,nb⟩ Q:=by
 refine Rn.k i rfl rfl ?_ h;obtain⟨n,m,l,j⟩:=Q4l (e:=e) g;simp[ha,hb,hc,V.dems,V.dem,Ql,n,m,l,j]
theorem Rn.slcH{k:IntKind}{f:Int}{ys:List α}(j:Wn E gd)(ha:(a.val (look E)).dem = .d (.lst sz (xs.map e)))(hb:b.val (look E) = .d (.int k f))(i:slcO xs 0 f=some ys)(h:Rn Γ pc os ⟨look ((d,.d (.lst sz (ys.map e)))::E),M,nb⟩ Q):
  Rn Γ pc (⟨some d,.slice sz false true,[a,b],false,gd⟩::os) ⟨look E,M,nb⟩ Q:=by
 refine Rn.k j rfl rfl ?_ h;obtain⟨n,m,l,g⟩:=Q4l (e:=e) i;simp only[Int.toNat_zero,List.drop_zero] at g;simp[ha,hb,V.dems,V.dem,Ql,m,l,g]
theorem Rn.app{t bytes:Nat}{ys l:List α}{f:V}(p:Wn E gd)(ha:look E t = .own sz (xs.map e))(hb:b.val (look E)=f)(n:f.dem=f)(j:Qgy M sz f=some (ys.map e))(k:appO xs ys=some l)(g:(Nat.ble bytes 128&&Nat.ble 1 sz)=true)(h:Rn Γ pc os ⟨look ((d,.own sz (l.map e))::(t,.d (.lst sz (xs.map e)))::E),M,nb⟩ Q):Rn Γ pc (⟨some d,.append sz bytes,[.t t,b],true,gd⟩::os) ⟨look E,M,nb⟩ Q:=by
 unfold appO at k;split at k<;>cases k;rename_i q;simp only[Zc] at g;have w:=Zy g.1;have r:0<sz:=Zy g.2;have m:[Arg.t t,b].map (fun x=>x.val (look E))=[V.own sz (xs.map e),f]:=by
  simp only[Zb,Zi,hb];rw[show (Arg.t t).val (look E)=_ from ha]
 refine Rn.kT p rfl rfl (v:=.own sz ((xs++ys).map e)) ?_ (fun i=>?_) h
 ·rw[m];simp[Ql,j,w,r,q]
 ·rw[m];simp only[Qb2,n,show (V.own sz (xs.map e)).dem = .d (.lst sz (xs.map e)) from rfl,Q5,show ∀s v,(Arg.t t).putTo s v=s.put t v from fun _ _=>rfl];have o:∀s:Sl,b.val s=f->b.putTo s f=s:=by
   intro s j;cases b with
   |c v=>rfl
   |t u =>
    simp only[Arg.val] at j;funext i;simp only[Arg.putTo,Sl.put];split
    ·rename_i e;subst e;exact j.symm
    ·rfl
  rw[o]
  ·rw[Qdd,Qdd]
  ·cases b with
   |c v=>exact hb
   |t u =>
    have:u≠t:=by
     rintro rfl;simp only[Arg.val] at hb;rw[ha] at hb;subst hb;simp[V.dem] at n
    simp only[Arg.val,Sl.put,this,if_false];exact hb
theorem Rn.appT{t bytes:Nat}{ys l:List α}{f:V}(p:Wn E gd)(ha:look E t = .ownT sz (xs.map e))(hb:b.val (look E)=f)(n:f.dem=f)(j:Qgy M sz f=some (ys.map e))(k:appO xs ys=some l)(g:(Nat.ble bytes 128&&Nat.ble 1 sz)=true)(h:Rn Γ pc os ⟨look ((d,.ownT sz (l.map e))::(t,.d (.lst sz (xs.map e)))::E),M,nb⟩ Q):Rn Γ pc (⟨some d,.append sz bytes,[.t t,b],true,gd⟩::os) ⟨look E,M,nb⟩ Q:=by
 unfold appO at k;split at k<;>cases k;rename_i q;simp only[Zc] at g;have w:=Zy g.1;have r:0<sz:=Zy g.2;have m:[Arg.t t,b].map (fun x=>x.val (look E))=[V.ownT sz (xs.map e),f]:=by
  simp only[Zb,Zi,hb];rw[show (Arg.t t).val (look E)=_ from ha]
 refine Rn.kT p rfl rfl (v:=.ownT sz ((xs++ys).map e)) ?_ (fun i=>?_) h
 ·rw[m];simp[Ql,j,w,r,q]
 ·rw[m];simp only[Qb2,n,show (V.ownT sz (xs.map e)).dem = .d (.lst sz (xs.map e)) from rfl,Q5,show ∀s v,(Arg.t t).putTo s v=s.put t v from fun _ _=>rfl];have o:∀s:Sl,b.val s=f->b.putTo s f=s:=by
   intro s j;cases b with
   |c v=>rfl
   |t u =>
    simp only[Arg.val] at j;funext i;simp only[Arg.putTo,Sl.put];split
    ·rename_i e;subst e;exact j.symm
    ·rfl
  rw[o]
  ·rw[Qdd,Qdd]
  ·cases b with
   |c v=>exact hb
   |t u =>
    have:u≠t:=by
     rintro rfl;simp only[Arg.val] at hb;rw[ha] at hb;subst hb;simp[V.dem] at n
    simp only[Arg.val,Sl.put,this,if_false];exact hb
theorem Rn.slcT{t:Nat}{k:IntKind}{lo:Int}{ys:List α}(p:Wn E gd)(ha:look E t = .own sz (xs.map e)\/look E t = .ownT sz (xs.map e))(hb:b.val (look E) = .d (.int k lo))(o:slcO xs lo xs.length=some ys)(h:Rn Γ pc os ⟨look ((d,.ownT sz (ys.map e))::(t,.d (.lst sz (xs.map e)))::E),M,nb⟩ Q):Rn Γ pc (⟨some d,.slcT sz,[.t t,b],true,gd⟩::os) ⟨look E,M,nb⟩ Q:=by
 obtain⟨z,w,A,m⟩:=Q4l (e:=e) o;have r:(xs.map e).take xs.length=xs.map e:=by rw[List.take_of_length_le (by simp)]
 simp only[Zaw,r] at m;have l:∀v,look E t=v->[Arg.t t,b].map (fun x=>x.val (look E))=[v,V.d (.int k lo)]:=by
  intro v q;simp only[Zb,Zi,hb];rw[show (Arg.t t).val (look E)=_ from q]
 have g:(look E t).dem = .d (.lst sz (xs.map e)):=by rcases ha with ha|ha<;>rw[ha]<;>rfl
 have f:∀u,b = .t u->u≠t:=by
  rintro u rfl rfl;simp only[Arg.val] at hb;rw[hb] at g;cases g
 refine Rn.kT p rfl rfl (v:=.ownT sz (ys.map e)) ?_ (fun i=>?_) h
 ·rcases ha with ha|ha<;>rw[l _ ha]<;>simp[Ql,z,w,m]
 ·rw[l _ rfl];simp only[Qb2,g,Q5,show ∀s v,(Arg.t t).putTo s v=s.put t v from fun _ _=>rfl];have n:∀s:Sl,b.val s = .d (.int k lo)->b.putTo s (.d (.int k lo))=s:=by
   intro s j;cases b with
   |c v=>rfl
   |t u =>
    simp only[Arg.val] at j;funext i;simp only[Arg.putTo,Sl.put];split
    ·rename_i e;subst e;exact j.symm
    ·rfl
  rw[n]
  ·rw[Qdd,Qdd]
  ·cases b with
   |c v=>exact hb
   |t u=>simp only[Arg.val,Sl.put,f u rfl,if_false];exact hb
theorem Rn.slcTD{t:Nat}{k:IntKind}{lo:Int}{ys:List α}(n:Wn E gd)(ha:look E t = .d (.lst sz (xs.map e)))(hb:b.val (look E) = .d (.int k lo))(m:slcO xs lo xs.length=some ys)(h:Rn Γ pc os ⟨look ((d,.d (.lst sz (ys.map e)))::E),M,nb⟩ Q):Rn Γ pc (⟨some d,.slcT sz,[.t t,b],true,gd⟩::os) ⟨look E,M,nb⟩ Q:=by
 obtain⟨q,p,r,l⟩:=Q4l (e:=e) m;have o:(xs.map e).take xs.length=xs.map e:=by rw[List.take_of_length_le (by simp)]
 simp only[Zaw,o] at l;have j:[Arg.t t,b].map (fun x=>x.val (look E))=[V.d (.lst sz (xs.map e)),V.d (.int k lo)]:=by
  simp only[Zb,Zi,hb];rw[show (Arg.t t).val (look E)=_ from ha]
 have f:∀(b:Arg)(v:V)(s:Sl),b.val s=v->b.putTo s v=s:=by
  intro b v s g;cases b with
  |c v=>rfl
  |t u =>
   simp only[Arg.val] at g;funext i;simp only[Arg.putTo,Sl.put];split
   ·rename_i e;subst e;exact g.symm
   ·rfl
 refine Rn.kT n rfl rfl (v:=.d (.lst sz (ys.map e))) ?_ (fun i=>?_) h
 ·rw[j];simp[Ql,q,p,l]
 ·rw[j];simp only[Qb2,V.dem,Q5];rw[f (.t t) _ _ ha,f b _ _ hb,Qdd]
theorem Rn.movTOT{t sz:Nat}{l:List (List D)}(f:Wn E gd)(ha:look E t = .ownT sz l)(h:Rn Γ pc os ⟨look ((d,.ownT sz l)::(t,.d (.lst sz l))::E),M,nb⟩ Q):Rn Γ pc (⟨some d,.mov,[.t t],true,gd⟩::os) ⟨look E,M,nb⟩ Q:=by
 refine Rn.kT f rfl rfl (v:=.ownT sz l) (by simp[Arg.val,ha,Ql]) (fun i=>?_) h;simp only[Zb,Zi,Arg.val,ha,Qb2,V.dem,Q5,Arg.putTo];rw[<-Qdd,<-Qdd]
end Go.Abs
end
section
namespace Go.Abs
open Go
variable{Γ : Env}{pc d nb : Nat}{os : List COp}{E : List (Nat × V)}{M M' M0 : Mem}{L : List (Nat × Bx)}{Q : St -> Prop}{σ : St}{gd : Option (Nat × Bool)}{a b c : Arg}
theorem Qnq(h : (Qcf L d).isNone = true): (Qn Γ.n0 L M0 (Γ.n0 + d)).isNone = true := by rw[Qdt]; exact h
theorem Rn.box{n : Nat}{v : V}{cs : List V}(g : Wn E gd)(ha : (a.val (look E)).dem = v)(i : Qei v = true)(hc : v.cells = cs)(j : Nat.beq cs.length n = true)(l : (Qcf L d).isNone = true)(h : Rn Γ pc os ⟨look ((d, .ptr (Γ.n0 + d) 0) :: E), Qn Γ.n0 ((d, .cells cs) :: L) M0, nb⟩ Q): Rn Γ pc (⟨some d, .box n, [a], false, gd⟩ :: os) ⟨look E, Qn Γ.n0 L M0, nb⟩ Q := by
 refine Rn.k g rfl rfl ?_ h
 have f := Qnq (Γ := Γ) (M0 := M0) l
 have e : v.cells.length = n := by rw[hc]; exact Zaa j
 simp only[Zb, Zi, V.dems, ha, Ql]
 cases v <;> first | (simp[Qei] at i; done) | (simp only[e, f, decide_true, Zav, if_true, Qef]; rw[<-hc])
theorem Rn.alloc{z : List V}(e : Wn E gd)(f : (Qcf L d).isNone = true)(h : Rn Γ pc os ⟨look ((d, .ptr (Γ.n0 + d) 0) :: E), Qn Γ.n0 ((d, .cells z) :: L) M0, nb⟩ Q): Rn Γ pc (⟨some d, .alloc z, [], false, gd⟩ :: os) ⟨look E, Qn Γ.n0 L M0, nb⟩ Q := by
 refine Rn.k e rfl rfl ?_ h
 simp only[Zi, V.dems, Ql, Qnq (Γ := Γ) (M0 := M0) f, if_true, Qef]
theorem Rn.bslice{sz n : Nat}{z : List V}{e : List Nat}{g : List Arg}{xs cs : List V}(j : Wn E gd)(ha : V.dems (g.map (·.val (look E))) = xs)(m : (Qcf L d).isNone = true)(hc : (Nat.beq e.length xs.length && decide (0 < sz) && z.length == sz && (e.zip xs).all (fun(i, x)=> Qei x && x.cells.length == sz && decide (i < n))) = true)(f : Qi4 (rep n z) ((e.zip xs).map fun(i, x)=> (i * sz, x.cells)) = cs)(h : Rn Γ pc os ⟨look ((d, .sl sz (Γ.n0 + d) 0 n n) :: E), Qn Γ.n0 ((d, .cells cs) :: L) M0, nb⟩ Q): Rn Γ pc (⟨some d, .bslice sz n z e, g, false, gd⟩ :: os) ⟨look E, Qn Γ.n0 L M0, nb⟩ Q := by
 refine Rn.k j rfl rfl ?_ h
 rw[ha]
 simp only[Zc] at hc
 have o : e.length = xs.length := Zaa hc.1.1.1
 have l : Ql Γ.n0 (Γ.n0 + d) (.bslice sz n z e) xs (Qn Γ.n0 L M0) = (if e.length = xs.length && decide (0 < sz) && z.length == sz && (e.zip xs).all (fun(i, x)=> Qei x && x.cells.length == sz && decide (i < n)) && (Qn Γ.n0 L M0 (Γ.n0 + d)).isNone
  then some (.sl sz (Γ.n0 + d) 0 n n, (Qn Γ.n0 L M0).put (Γ.n0 + d) (.cells (Qi4 (rep n z) ((e.zip xs).map fun(i, x)=> (i * sz, x.cells))))) else none):= by cases xs <;> rfl
 rw[l, if_pos, Qef, f]
 simp only[Zc, Qnq (Γ := Γ) (M0 := M0) m, and_true]
 exact⟨⟨⟨by simpa using o, hc.1.1.2⟩, hc.1.2⟩, hc.2⟩
theorem Qev{t : Nat}{e : Bx}(h : Qcf L t = some e): Qn Γ.n0 L M0 (Γ.n0 + t) = some e := by rw[Qdt]; exact h
theorem Rn.load{k off n : Nat}{f : Bool}{cs : List V}{v : V}(i : Wn E gd)(ha : a.val (look E) = .ptr k off)(l : M k = some (.cells cs))(j : Nat.ble (off + n) cs.length = true)(e : (if f then some (.agg (V.dems ((cs.drop off).take n))) else (cs[off]?).map (·.dem)) = some v)(h : Rn Γ pc os ⟨look ((d, v) :: E), M, nb⟩ Q): Rn Γ pc (⟨some d, .load f n, [a], false, gd⟩ :: os) ⟨look E, M, nb⟩ Q := by
 refine Rn.k i rfl rfl ?_ h
 have := Zy j
 simp only[Zb, Zi, V.dems, ha, V.dem, Ql, l, this, if_true]
 cases f with
 |true => simp only[if_true, Zh] at e |-; rw[e]
 |false =>
  simp only[Zg, if_false, Zd] at e |-
  obtain⟨x, g, rfl⟩ := e
  exact⟨x, g, rfl⟩
theorem Q5p{k : Nat}{e : Bx}(f : k < Γ.n0)(h : M0 k = some e): Qn Γ.n0 L M0 k = some e := by rw[Qe2 f]; exact h
theorem Rn.loadT{t off sz : Nat}{l : List (List D)}{cs cs' : List V}(g : Wn E gd)(ha : a.val (look E) = .ptr (Γ.n0 + t) off)(i : Qcf L t = some (.cells cs))(f : cs[off]? = some (.own sz l))(e : cs.set off (.d (.lst sz l)) = cs')(h : Rn Γ pc os ⟨look ((d, .own sz l) :: E), Qn Γ.n0 ((t, .cells cs') :: L) M0, nb⟩ Q): Rn Γ pc (⟨some d, .loadT, [a], false, gd⟩ :: os) ⟨look E, Qn Γ.n0 L M0, nb⟩ Q := by
 refine Rn.k g rfl rfl ?_ h
 simp only[Zb, Zi, V.dems, ha, V.dem, Ql, Qev i, f, Zad, V.top]
 rw[<-e, Qef]
theorem Rn.store{t off n : Nat}{v : V}{cs cs' : List V}(g : Wn E gd)(ha : a.val (look E) = .ptr (Γ.n0 + t) off)(hb : (b.val (look E)).dem = v)(i : Qei v = true)(l : Qcf L t = some (.cells cs))(e : (Nat.beq v.cells.length n && Nat.ble (off + n) cs.length) = true)(f : cs.take off ++ v.cells ++ cs.drop (off + n) = cs')(h : Rn Γ pc os ⟨look E, Qn Γ.n0 ((t, .cells cs') :: L) M0, nb⟩ Q): Rn Γ pc (⟨none, .store n, [a, b], false, gd⟩ :: os) ⟨look E, Qn Γ.n0 L M0, nb⟩ Q := by
 simp only[Zc] at e
 have o : v.cells.length = n := Zaa e.1
 have m := Zy e.2
 have k : v.dem = v := by rw[<-hb]; exact Qd4 _
 have j : v.topS = v := Qbad k
 refine Rn.kS (v := .und) g ?_ (fun _ => rfl) h
 simp only[Zg, if_false, Zb, Zi, V.dems, ha, V.dem, hb]
 simp only[Ql]
 cases v <;> first
  |(simp[Qei] at i; done)
  |(simp only[Qev l, j, o, m, decide_true, Zbe, Nat.le_add_right, Bool.true_or, if_true]; rw[<-f, Qef])
theorem Rn.storeO{t u off sz : Nat}{l : List (List D)}{cs cs' : List V}(k : Wn E gd)(ha : a.val (look E) = .ptr (Γ.n0 + t) off)(hb : look E u = .own sz l)(n : Qcf L t = some (.cells cs))(m : Nat.ble (off + 1) cs.length = true)(f : cs.take off ++ [.own sz l] ++ cs.drop (off + 1) = cs')(h : Rn Γ pc os ⟨look ((u, .d (.lst sz l)) :: E), Qn Γ.n0 ((t, .cells cs') :: L) M0, nb⟩ Q): Rn Γ pc (⟨none, .store 1, [a, .t u], true, gd⟩ :: os) ⟨look E, Qn Γ.n0 L M0, nb⟩ Q := by
 have o := Zy m
 have g : [a, Arg.t u].map (fun x => x.val (look E)) = [V.ptr (Γ.n0 + t) off, .own sz l] := by simp only[Zb, Zi, ha]; rw[show (Arg.t u).val (look E) = _ from hb]
 refine Rn.kS (v := .und) k ?_ (fun i => ?_) h
 ·simp only[if_true, g]
  simp only[Ql, Qev n, V.topS, V.cells, Zs, Zaj, o, decide_true, Zbe, Nat.le_add_right, Bool.true_or, if_true]
  rw[<-f, Qef]
 ·simp only[if_true, g, Qb2, Q5, V.dem]
  have : a.putTo (look E) (.ptr (Γ.n0 + t) off) = look E := by
   cases a with
   |c v => rfl
   |t j =>
    simp only[Arg.val] at ha
    funext i; simp only[Arg.putTo, Sl.put]; split
    ·rename_i e; subst e; exact ha.symm
    ·rfl
  rw[this, show (Arg.t u).putTo (look E) (.d (.lst sz l)) = (look E).put u (.d (.lst sz l)) from rfl, Qdd]
theorem Rn.storeD{t u off : Nat}{x : D}{cs cs' : List V}(k : Wn E gd)(ha : a.val (look E) = .ptr (Γ.n0 + t) off)(hb : look E u = .d x)(m : Qcf L t = some (.cells cs))(l : Nat.ble (off + 1) cs.length = true)(f : cs.take off ++ [.d x] ++ cs.drop (off + 1) = cs')(h : Rn Γ pc os ⟨look E, Qn Γ.n0 ((t, .cells cs') :: L) M0, nb⟩ Q): Rn Γ pc (⟨none, .store 1, [a, .t u], true, gd⟩ :: os) ⟨look E, Qn Γ.n0 L M0, nb⟩ Q := by
 have o := Zy l
 have g : [a, Arg.t u].map (fun x => x.val (look E)) = [V.ptr (Γ.n0 + t) off, .d x] := by simp only[Zb, Zi, ha]; rw[show (Arg.t u).val (look E) = _ from hb]
 refine Rn.kS (v := .und) k ?_ (fun i => ?_) h
 ·simp only[if_true, g]
  simp only[Ql, Qev m, V.topS, V.dem, V.cells, Zs, Zaj, o, decide_true, Zbe, Nat.le_add_right, Bool.true_or, if_true]
  rw[<-f, Qef]
 ·simp only[if_true, g, Qb2, Q5, V.dem]
  have : a.putTo (look E) (.ptr (Γ.n0 + t) off) = look E := by
   cases a with
   |c v => rfl
   |t j =>
    simp only[Arg.val] at ha
    funext i; simp only[Arg.putTo, Sl.put]; split
    ·rename_i e; subst e; exact ha.symm
    ·rfl
  have n : (look E).put u (.d x) = look E := by
   funext i; simp only[Sl.put]; split
   ·rename_i e; subst e; exact hb.symm
   ·rfl
  rw[this, show (Arg.t u).putTo (look E) (.d x) = (look E).put u (.d x) from rfl, n]
theorem Qba3{sz : Nat}{l : List (List D)} : Qgy M sz (.d (.lst sz l)) = some l := by simp[Qgy]
theorem Q5q{sz t off len f : Nat}{cs : List V}{l : List (List D)}(h : Qcf L t = some (.cells cs))(e : Nat.ble (off + len * sz) cs.length = true)(g : (toDs ((cs.drop off).take (len * sz))).map (Qi3 sz len) = some l):
  Qgy (Qn Γ.n0 L M0) sz (.sl sz (Γ.n0 + t) off len f) = some l := by
 have := Zy e
 simp[Qgy, Qev h, this, g]
theorem Rn.call{f : FuncId}{o : List Arg}{args : List V}{r : V}(p : Wn E gd)(ha : V.dems (o.map (·.val (look E))) = args)(j : ∀M nb, ACalls Γ.P f args M nb r M nb)(e : one (pcOf pc) = true -> ∀k, nb <= k -> M k = none)(h : Rn Γ pc os ⟨look ((d, r) :: E), M, nb⟩ Q): Rn Γ pc (⟨some d, .call f, o, false, gd⟩ :: os) ⟨look E, M, nb⟩ Q := by
 refine Rn.cons ?_
 unfold COp.run
 rw[p.wanted]
 simp only[show (K.call f).isCall = true from rfl, if_true, COp.callee, ha]
 have l : Rn Γ pc os ⟨Qbe (look E) (some d) r, M, nb⟩ Q := by
  rw[show Qbe (look E) (some d) r = look ((d, r) :: E) from Qdd E d r]; exact h
 match hp : pcOf pc with
 |0 => exact⟨r, M, nb, j _ _, fun _ h => h, fun _ _ _ _ => .inl rfl, l⟩
 |1 =>
  refine⟨r, fun _ => none, nb, fun i _ m => ?_, ?_⟩
  ·have : i.over nb (fun _ => none) = i := by
    funext k; simp only[Mem.over]; split
    ·rfl
    ·exact (m k (by omega)).symm
   rw[this]; exact j _ _
  ·have : M.over nb (fun _ => none) = M := by
    funext k; simp only[Mem.over]; split
    ·rfl
    ·exact (e (by rw[hp]; rfl) k (by omega)).symm
   rw[this]; exact l
 |n + 2 =>
  show (if n < 8 then _ else _)
  by_cases g : n < 8
  ·rw[if_pos g]; exact⟨r, j, l⟩
  ·rw[if_neg g]
   have q : one (pcOf pc) = true := by rw[hp]; unfold one; rw[show Nat.ble 10 (n + 2) = true from Nat.ble_eq_true_of_le (by omega), Bool.or_true]
   refine⟨r, fun _ => none, fun _ => none, nb, .inr fun _ => rfl, fun _ h => (by cases h), fun _ _ _ h => (by cases h), fun i _ m => ?_, ?_⟩
   ·rw[Qhl fun _ => rfl]
    have : i.over nb (fun _ => none) = i := by
     funext k; simp only[Mem.over]; split
     ·rfl
     ·exact (m k (by omega)).symm
    rw[this]; exact j _ _
   ·rw[Qhl fun _ => rfl]
    have : M.over nb (fun _ => none) = M := by
     funext k; simp only[Mem.over]; split
     ·rfl
     ·exact (e q k (by omega)).symm
    rw[this]; exact l
def FinP(g : List Res)(r : V)(n0 : Nat)(M0 : Mem): Ex -> St -> Prop := fun e σ =>
 (e = .norm \/ e = .ret) /\ ∃f, Qo6 σ g = some f /\ Wk f r /\ r.on (There M0) /\ ∀k, k < n0 -> σ.M k = M0 k
theorem Q2u{P : Program}{f : FuncId}{args : List V}{M M' : Mem}{nb e : Nat}{r : V}(hb : Qh0 P f = true)(i : nb <= e)(h : ¬(∀k, nb <= k -> M k = none)): ACalls P f args M nb r M' e := by
 refine⟨hb, i, fun w g us _ j => ?_⟩
 refine absurd (fun k l => ?_) h
 cases hM : M k with
 |none => rfl
 |some b => have := (j.box k b hM).1; omega
theorem Qqg{P : Program}{f : FuncId}{m : CFn}(e : Qo P f = some m): Qh0 P f = true := by
 unfold Qo at e
 split at e <;> try (cases e; done)
 rename_i fn j
 split at e <;> try (cases e; done)
 rename_i k h
 split at e <;> try (cases e; done)
 split at e <;> try (cases e; done)
 rename_i i
 obtain⟨i, l, g⟩ := i
 simp[Qh0, j, h, Q4v] at g |-; exact g
theorem Qbu{P : Program}{f : FuncId}{l : CFn}(i : Qo P f = some l){args : List V}{r : V}(j : Nat.beq args.length l.np = true)(m : ∀(Γ : Env)(M : Mem), Γ.P = P -> Γ.nt = l.nt -> (∀k, Γ.n0 <= k -> M k = none) -> Tr Γ l.body ⟨Qp5 args, Qn Γ.n0 [] M, Γ.n0 + l.nt⟩ (FinP l.res r Γ.n0 M)): ∀M nb, ACalls P f args M nb r M nb := by
 intro M nb
 by_cases p : ∀k, nb <= k -> M k = none
 case neg => exact Q2u (Qqg i) (Ze _) p
 by_cases n : MOn (There M) M
 case neg => exact⟨Qqg i, Ze _, fun w g us _ x h => absurd h n⟩
 refine Qboz i p (Zaa j) (Ze _) fun Γ v s u => ?_
 have h := m Γ M v u (by rw[s]; exact p)
 rw[Q07 (by rw[s]; exact p), s] at h
 refine h.mono ?_
 rintro e t ⟨he, r', h1, h2, h3, h4⟩
 have o : ∀k, There M k -> k < nb := fun k q => by
  rcases Zak k nb with h | h
  ·exact h
  ·simp[There, p k h] at q
 refine⟨he, r', h1, h2, fun k b q => ?_, h3, n, o⟩
 rw[h4 k (o k (by simp[There, q]))]; exact q
theorem Qba4 : ∀(args : List V)(i : Nat), look ((List.range' i args.length).zip args) = fun t => if t < i then .und else args.getD (t - i) .und
 |[], i => by funext t; simp[look]
 |v :: vs, i => by
  funext t
  simp only[Zs, List.range'_succ, List.zip_cons_cons, look, Qba4 vs (i + 1)]
  cases hb : Nat.beq t i with
  |true => have := Zaa hb; subst this; simp
  |false =>
   have : t ≠ i := fun e => by subst e; simp at hb
   by_cases f : t < i
   ·have : t < i + 1 := by omega
    simp[f, this]
   ·have h : ¬t < i + 1 := by omega
    have g : t - i = (t - (i + 1)) + 1 := by omega
    simp[f, h, g]
theorem Qbip{args : List V}{E : List (Nat × V)}(h : (List.range' 0 args.length).zip args = E): Qp5 args = look E := by
 rw[<-h, Qba4]
 funext t
 simp[Qp5]
theorem Tr.init{e : CC}{args : List V}{Q : Ex -> St -> Prop}(E : List (Nat × V))(h : (List.range' 0 args.length).zip args = E)(k : Tr Γ e ⟨look E, M, nb⟩ Q): Tr Γ e ⟨Qp5 args, M, nb⟩ Q := by
 rw[Qbip h]; exact k
theorem ifT{R : Type}{p : Prop}[Decidable p]{A B : Option R}{r : R}(hb : decide p = true)(h : (if p then A else B) = some r): A = some r := by rwa [if_pos (of_decide_eq_true hb)] at h
theorem ifF{R : Type}{p : Prop}[Decidable p]{A B : Option R}{r : R}(hb : decide p = false)(h : (if p then A else B) = some r): B = some r := by rwa [if_neg (of_decide_eq_false hb)] at h
theorem bT{R : Type}{b : Bool}{A B : Option R}{r : R}(hb : b = true)(h : (if b then A else B) = some r): A = some r := by subst hb; simpa using h
theorem bF{R : Type}{b : Bool}{A B : Option R}{r : R}(hb : b = false)(h : (if b then A else B) = some r): B = some r := by subst hb; simpa using h
theorem bnd{X R : Type}{A : Option X}{g : X -> Option R}{r : R}(h : A.bind g = some r): ∃x, A = some x /\ g x = some r := Zas.1 h
theorem nT{b : Bool}(h : b = true): (!b) = false := by subst h; rfl
theorem nF{b : Bool}(h : b = false): (!b) = true := by subst h; rfl
theorem nT'{b : Bool}(h : (!b) = true): b = false := by cases b <;> simp_all
theorem nF'{b : Bool}(h : (!b) = false): b = true := by cases b <;> simp_all
def Qbnq{X : Type}(Γ : Env)(f : X -> St)(z : X)(Q : Ex -> St -> Prop): Ex -> St -> Prop
 |.norm, e => WeakSt Γ e (f z)
 |.exit i, e => Q (.exit i) e
 |.ret, e => Q .ret e
theorem Tr.cutB{X R : Type}{x y : CC}{Q : Ex -> St -> Prop}(i : X -> St){A : Option X}{g : X -> Option R}{r : R}(h : A.bind g = some r)(l : ∀z, A = some z -> Tr Γ x σ (Qbnq Γ i z Q))(k : ∀z, g z = some r -> Tr Γ y (i z) Q): Tr Γ (.seq x y) σ Q := by
 obtain⟨z, n, m⟩ := bnd h
 refine Tr.seq ((l z n).mono ?_)
 intro e j f
 cases e with
 |norm => exact (k z m).weak f
 |exit id => exact f
 |ret => exact f
def letJ{X R : Type}(J : X -> Option R)(body : (X -> Option R) -> Option R): Option R := body J
theorem Tr.cutJ{X R : Type}{x y : CC}{Q : Ex -> St -> Prop}(e : X -> St){J : X -> Option R}{body : (X -> Option R) -> Option R}{r : R}(h : letJ J body = some r)(i : ∀f, body f = some r -> Tr Γ x σ (Qbo0 Γ e f r Q))(g : ∀z, J z = some r -> Tr Γ y (e z) Q): Tr Γ (.seq x y) σ Q := Tr.cut e J r g (i J h)
def eI(k : IntKind)(n : Int): List D := [.int k n]
abbrev i_(n : Int): V := .d (.int .i64 n)
abbrev b_(b : Bool): V := .d (.bool b)
abbrev l_(l : List Int): V := .d (.lst 1 (List.map (eI .i64) l))
def eB(b : Bool): List D := [.bool b]
def eL{α : Type}(sz : Nat)(e : α -> List D)(l : List α): List D := [.lst sz (List.map e l)]
theorem toN{y : CC}{Q : Ex -> St -> Prop}(h : Tr Γ y σ Q): Qbio Γ y Q .norm σ := h
theorem Q3s{G : Prop}(b : Bool)(f : b = true -> G)(e : b = false -> G): G := by cases b; exact e rfl; exact f rfl
theorem pc9{p : Prop} : one (pcOf 9) = true -> p := by intro h; cases h
theorem pc0{p : Prop} : one (pcOf 0) = true -> p := by intro h; cases h
theorem pc2{p : Prop} : one (pcOf 2) = true -> p := by intro h; cases h
theorem Qbo1{n0 nt : Nat}{L : List (Nat × Bx)}{M0 : Mem}(h : ∀k, n0 <= k -> M0 k = none)(e : (L.all fun p => Nat.blt p.1 nt) = true): ∀k, n0 + nt <= k -> Qn n0 L M0 k = none := by
 intro k f
 simp only[Qn]
 rw[if_neg (by omega)]
 cases hb : Qcf L (k - n0) with
 |none => rfl
 |some b =>
  obtain⟨p, hp, g⟩ := Q08 hb
  have := Zt.1 e p hp
  have := Zy this
  omega
theorem Qbda{E : List (Nat × V)}{n0 p t off n nb : Nat}{f : Bool}{cs : List V}{v : V}(hp : look E p = .ptr (n0 + t) off)(h : Qcf L t = some (.cells cs))(g : Nat.ble (off + n) cs.length = true)(e : (if f then some (.agg (V.dems ((cs.drop off).take n))) else (cs[off]?).map (·.dem)) = some v):
  Res.val ⟨look E, Qn n0 L M0, nb⟩ (.cell p f n) = some v := by
 have := Zy g
 have hb : Qn n0 L M0 (n0 + t) = some (.cells cs):= by rw[Qdt]; exact h
 simp only[Res.val, hp, Ql, hb, this, if_true]
 cases f with
 |true => simp only[if_true, Zh] at e |-; rw[e]; rfl
 |false =>
  simp only[Zg, if_false] at e |-
  rw[Option.map_map]
  rw[<-e]; congr 1
theorem res2{x y : Res}{v w : V}(f : x.val σ = some v)(e : y.val σ = some w): Qo6 σ [x, y] = some (.tup [v, w]):= by simp[Qo6, f, e]
theorem res3{x y z : Res}{v w u : V}(g : x.val σ = some v)(f : y.val σ = some w)(e : z.val σ = some u): Qo6 σ [x, y, z] = some (.tup [v, w, u]):= by simp[Qo6, g, f, e]
def remO(k : IntKind)(a b : Int): Option Int := if b = 0 then none else some (a.tmod b)
def shrO(k : IntKind)(a b : Int): Option Int := if b < 0 then none else some (a.fdiv (2 ^ (min b.toNat k.bits)))
def andI(k : IntKind)(a b : Int): Int := k.wrap ((BitVec.ofInt k.bits a) &&& (BitVec.ofInt k.bits b)).toNat
theorem Q9l{k : IntKind}{e : Bool}{x y z : Int}(h : remO k x y = some z): binD .rem e (.int k x) (.int k y) = some (.int k z):= by
 unfold remO at h; split at h <;> cases h
 simp[binD, Q99, *]
theorem Qbiq{k k' : IntKind}{e : Bool}{x y z : Int}(h : shrO k x y = some z): binD .shr e (.int k x) (.int k' y) = some (.int k z):= by
 unfold shrO at h; split at h <;> cases h
 simp[binD, *]
end Go.Abs
end
section
namespace Go.Abs
open Go
variable{Γ:Env}{pc d nb:Nat}{os:List COp}{E:List (Nat×V)}{M M' M0:Mem}{L:List (Nat×Bx)}{Q:St->Prop}{σ:St}{gd:Option (Nat×Bool)}{a b c:Arg}
def Ext(M e:Mem):Prop:=∀k b,M k=some b->e k=some b
theorem Ext.refl(M:Mem):Ext M M:=fun _ _ h=>h
theorem Ext.trans{A B C:Mem}(h:Ext A B)(k:Ext B C):Ext A C:=fun i b e=>k i b (h i b e)
theorem ltB{n0:Nat}(e:∀k,n0<=k->M0 k=none){k:Nat}{b:Bx}(h:M0 k=some b):k<n0:=by
 rcases Zak k n0 with hk|hk
 ·exact hk
 ·rw[e k hk] at h;cases h
theorem Qw3{n0:Nat}(e:∀k,n0<=k->M0 k=none):Ext M0 (Qn n0 L M0):=fun k b h=>by rw[Qe2 (ltB e h)];exact h
theorem Qbdb{n0:Nat}(e:∀k,n0<=k->M0 k=none){k:Nat}{b:Bx}(h:M0 k=some b):Qn n0 L M0 k=some b:=Qw3 e k b h
theorem Rn.callM{f:FuncId}{t:List Arg}{args:List V}{r:V}(u:Wn E gd)(ha:V.dems (t.map (·.val (look E)))=args)(o:∀e g,nb<=g->Ext M e->ACalls Γ.P f args e g r e g)(j:(Nat.ble (pcOf pc) 1||Nat.ble 10 (pcOf pc))=true)(i:one (pcOf pc)=true->∀k,nb<=k->M k=none)(h:Rn Γ pc os ⟨look ((d,r)::E),M,nb⟩ Q):Rn Γ pc (⟨some d,.call f,t,false,gd⟩::os) ⟨look E,M,nb⟩ Q:=by
 refine Rn.cons ?_;unfold COp.run;rw[u.wanted];simp only[show (K.call f).isCall=true from rfl,if_true,COp.callee,ha];have s : Rn Γ pc os ⟨Qbe (look E) (some d) r,M,nb⟩ Q:=by
  rw[show Qbe (look E) (some d) r=look ((d,r)::E) from Qdd E d r];exact h
 match hp:pcOf pc with
 |0=>exact⟨r,M,nb,o _ _ (Ze _) (Ext.refl _),fun _ h=>h,fun _ _ _ _=>.inl rfl,s⟩
 |1 =>
  refine⟨r,fun _=>none,nb,fun e q p=>?_,?_⟩
  ·have:e.over nb (fun _=>none)=e:=by
    funext k;simp only[Mem.over];split
    ·rfl
    ·exact (p k (by omega)).symm
   rw[this];exact o _ _ (Ze _) fun k b l=>by rw[q k (by simp[l])];exact l
  ·have:M.over nb (fun _=>none)=M:=by
    funext k;simp only[Mem.over];split
    ·rfl
    ·exact (i (by rw[hp];rfl) k (by omega)).symm
   rw[this];exact s
 |n+2 =>
  have m:¬n<8:=by
   intro w;rw[hp] at j;simp only[Zat,Nat.ble_eq] at j;omega
  have q:one (pcOf pc)=true:=by rw[hp];unfold one;rw[show Nat.ble 10 (n+2)=true from Nat.ble_eq_true_of_le (by omega),Bool.or_true]
  show (if n<8 then _ else _);rw[if_neg m];refine⟨r,fun _=>none,fun _=>none,nb,.inr fun _=>rfl,fun _ h=>(by cases h),fun _ _ _ h=>(by cases h),fun e v p=>?_,?_⟩
  ·rw[Qhl fun _=>rfl];have:e.over nb (fun _=>none)=e:=by
    funext k;simp only[Mem.over];split
    ·rfl
    ·exact (p k (by omega)).symm
   rw[this];exact o _ _ (Ze _) fun k b l=>by rw[v k (by simp[l])];exact l
  ·rw[Qhl fun _=>rfl];have:M.over nb (fun _=>none)=M:=by
    funext k;simp only[Mem.over];split
    ·rfl
    ·exact (i q k (by omega)).symm
   rw[this];exact s
theorem Rn.callvM{t:Nat}{f:FuncId}{e:List V}{v:List Arg}{args:List V}{r:V}(w:Wn E gd)(x:look E t = .clo f e)(ha:V.dems (v.map (·.val (look E)))++V.dems e=args)(p:∀g i,nb<=i->Ext M g->ACalls Γ.P f args g i r g i)(l:(Nat.ble (pcOf pc) 1||Nat.ble 10 (pcOf pc))=true)(j:one (pcOf pc)=true->∀k,nb<=k->M k=none)(h:Rn Γ pc os ⟨look ((d,r)::E),M,nb⟩ Q):Rn Γ pc (⟨some d,.callv,.t t::v,false,gd⟩::os) ⟨look E,M,nb⟩ Q:=by
 refine Rn.cons ?_;unfold COp.run;rw[w.wanted];simp only[show K.callv.isCall=true from rfl,if_true,COp.callee,Zb,show (Arg.t t).val (look E) = .clo f e from x,ha];have u : Rn Γ pc os ⟨Qbe (look E) (some d) r,M,nb⟩ Q:=by
  rw[show Qbe (look E) (some d) r=look ((d,r)::E) from Qdd E d r];exact h
 match hp:pcOf pc with
 |0=>exact⟨r,M,nb,p _ _ (Ze _) (Ext.refl _),fun _ h=>h,fun _ _ _ _=>.inl rfl,u⟩
 |1 =>
  refine⟨r,fun _=>none,nb,fun g s q=>?_,?_⟩
  ·have:g.over nb (fun _=>none)=g:=by
    funext k;simp only[Mem.over];split
    ·rfl
    ·exact (q k (by omega)).symm
   rw[this];exact p _ _ (Ze _) fun k b m=>by rw[s k (by simp[m])];exact m
  ·have:M.over nb (fun _=>none)=M:=by
    funext k;simp only[Mem.over];split
    ·rfl
    ·exact (j (by rw[hp];rfl) k (by omega)).symm
   rw[this];exact u
 |n+2 =>
  have o:¬n<8:=by
   intro z;rw[hp] at l;simp only[Zat,Nat.ble_eq] at l;omega
  have s:one (pcOf pc)=true:=by rw[hp];unfold one;rw[show Nat.ble 10 (n+2)=true from Nat.ble_eq_true_of_le (by omega),Bool.or_true]
  show (if n<8 then _ else _);rw[if_neg o];refine⟨r,fun _=>none,fun _=>none,nb,.inr fun _=>rfl,fun _ h=>(by cases h),fun _ _ _ h=>(by cases h),fun g y q=>?_,?_⟩
  ·rw[Qhl fun _=>rfl];have:g.over nb (fun _=>none)=g:=by
    funext k;simp only[Mem.over];split
    ·rfl
    ·exact (q k (by omega)).symm
   rw[this];exact p _ _ (Ze _) fun k b m=>by rw[y k (by simp[m])];exact m
  ·rw[Qhl fun _=>rfl];have:M.over nb (fun _=>none)=M:=by
    funext k;simp only[Mem.over];split
    ·rfl
    ·exact (j s k (by omega)).symm
   rw[this];exact u
theorem Qw4{P:Program}{f:FuncId}{l:CFn}(i:Qo P f=some l){args:List V}{r:V}(j:Nat.beq args.length l.np=true)(M:Mem)(nb:Nat)(m:∀(Γ:Env),Γ.P=P->Γ.nt=l.nt->Γ.n0=nb->(∀k,Γ.n0<=k->M k=none)->Tr Γ l.body ⟨Qp5 args,Qn Γ.n0 [] M,Γ.n0+l.nt⟩ (FinP l.res r Γ.n0 M)):ACalls P f args M nb r M nb:=by
 by_cases p:∀k,nb<=k->M k=none
 case neg=>exact Q2u (Qqg i) (Ze _) p
 by_cases n:MOn (There M) M
 case neg=>exact⟨Qqg i,Ze _,fun w g us _ x h=>absurd h n⟩
 refine Qboz i p (Zaa j) (Ze _) fun Γ v q u=>?_;have h:=m Γ v u q (by rw[q];exact p);rw[Q07 (by rw[q];exact p),q] at h;refine h.mono ?_;rintro e t ⟨he,r',h1,h2,h3,h4⟩;have o:∀k,There M k->k<nb:=fun k s=>by
  rcases Zak k nb with h|h
  ·exact h
  ·simp[There,p k h] at s
 refine⟨he,r',h1,h2,fun k b s=>?_,h3,n,o⟩;rw[h4 k (o k (by simp[There,s]))];exact s
mutual
theorem Qba5{n0:Nat}{sites:List Nat}:∀v:V,v.on (· < n0)->Qd2 (Qjx n0 sites) v=v
 |.und,_=>rfl
 |.d _,_=>rfl
 |.agg cs,h=>by simp only[Qd2];rw[kills_base cs h]
 |.tup cs,h=>by simp only[Qd2];rw[kills_base cs h]
 |.own ..,_=>rfl
 |.ownT ..,_=>rfl
 |.ptr k o,h=>by simp only[Qd2];rw[Qp2 h];rfl
 |.nilp,_=>rfl
 |.f _,_=>rfl
 |.nils _,_=>rfl
 |.cref _,_=>rfl
 |.sl sz k o n c,h=>by simp only[Qd2];rw[Qp2 h];rfl
 |.clo _ cs,h=>by simp only[Qd2];rw[kills_base cs h]
 |.mp k,h=>by simp only[Qd2];rw[Qp2 h];rfl
theorem kills_base{n0:Nat}{sites:List Nat}:∀vs:List V,V.ons (· < n0) vs->Qd2.go (Qjx n0 sites) vs=vs
 |[],_=>rfl
 |v::vs,h=>by simp only[Qd2.go];rw[Qba5 v h.1,kills_base vs h.2]
end
theorem kFun{n0:Nat}{sites:List Nat}{g:FuncId}{e:List V}(i:∀k,n0<=k->M0 k=none)(h:V.ons (There M0) e):WkV (Qd2 (Qjx n0 sites) (.clo g e)) (.clo g e):=by
 refine .same (Qba5 _ (ons_mono (fun k f=>?_) _ h));obtain⟨b,hb⟩:=Zab.1 f;exact ltB i hb
theorem Qw5{k:Nat}{b:Bx}(h:M k=some b):There M k:=by simp[There,h]
theorem Qbmj{e:List V}(f:Ext M M')(h:V.ons (There M) e):V.ons (There M') e:=ons_mono (fun k g=>by
 obtain⟨b,hb⟩:=Zab.1 g;exact Qw5 (f k b hb)) _ h
end Go.Abs
end
section
namespace Go.Abs
open Go
def pl0:D->Bool
 |.int .. | .bool _ | .str _=>true
 |_=>false
def frzL(sz:Nat)(l:List (List D)):V:=if l.all fun x=>x.all pl0 then .f (.lst sz l) else .d (.lst sz l)
theorem Qbo2{imm b : Nat->Nat->Prop}{w:World}:∀{x:D}{u:Value},pl0 x=true->RD imm w x u->RD b w x u
 |.int ..,_,_,h=>by simpa[RD] using h
 |.bool _,_,_,h=>by simpa[RD] using h
 |.str _,_,_,h=>by simpa[RD] using h
 |.lst ..,_,h,_=>by cases h
 |.mp ..,_,h,_=>by cases h
theorem Qbnr{p:Nat->Prop}{sz:Nat}{l:List (List D)}:(frzL sz l).on p:=by unfold frzL;split<;>trivial
theorem Qbir{sz:Nat}{l:List (List D)}:WkV (frzL sz l) (.d (.lst sz l)):=by
 unfold frzL;split
 ·exact⟨fun g w ℓ u h=>by
   simp only[RV] at h |-;exact Qgk ⟨fun b o h=>h.1,fun _ _ _=>rfl⟩ _ u h,fun _ _=>trivial⟩
 ·exact .same rfl
mutual
def frzV(k:Nat)(ds:List D):V->V
 |.und=>.und
 |.d x=>.d x
 |.agg cs=>.agg (frzVs k ds cs)
 |.tup cs=>.tup (frzVs k ds cs)
 |.own sz l=>.own sz l
 |.ownT sz l=>.ownT sz l
 |.ptr k' o=>if k'=k then .cref (ds.drop o) else .ptr k' o
 |.nilp=>.nilp
 |.f x=>.f x
 |.nils sz=>.nils sz
 |.cref cs=>.cref cs
 |.sl sz k' o n c=>if k'=k then (if o+n*sz<=ds.length/\n<=c then frzL sz (Qi3 sz n ((ds.drop o).take (n*sz))) else .und) else .sl sz k' o n c
 |.clo f cs=>.clo f (frzVs k ds cs)
 |.mp k'=>if k'=k then .und else .mp k'
def frzVs(k:Nat)(ds:List D):List V->List V
 |[]=>[]
 |v::vs=>frzV k ds v::frzVs k ds vs
end
theorem Q5r(k:Nat)(ds:List D):∀vs,frzVs k ds vs=vs.map (frzV k ds)
 |[]=>rfl
 |v::vs=>by simp[frzVs,Q5r k ds vs]
mutual
theorem Qbmk{p:Nat->Prop}(k:Nat)(ds:List D):∀v:V,v.on p->(frzV k ds v).on fun j=>p j/\j≠k
 |.und,_=>trivial
 |.d _,_=>trivial
 |.agg cs,h=>ons_frz k ds cs h
 |.tup cs,h=>ons_frz k ds cs h
 |.own ..,_=>trivial
 |.ownT ..,_=>trivial
 |.ptr k' o,h=>by
  simp only[frzV];split
  ·trivial
  ·rename_i b;exact⟨h,b⟩
 |.nilp,_=>trivial
 |.f _,_=>trivial
 |.nils _,_=>trivial
 |.cref _,_=>trivial
 |.sl sz k' o n c,h=>by
  simp only[frzV];split
  ·split
   ·exact Qbnr
   ·trivial
  ·rename_i b;exact⟨h,b⟩
 |.clo _ cs,h=>ons_frz k ds cs h
 |.mp k',h=>by
  simp only[frzV];split
  ·trivial
  ·rename_i b;exact⟨h,b⟩
theorem ons_frz{p:Nat->Prop}(k:Nat)(ds:List D):∀vs:List V,V.ons p vs->V.ons (fun j=>p j/\j≠k) (frzVs k ds vs)
 |[],_=>trivial
 |v::vs,h=>⟨Qbmk k ds v h.1,ons_frz k ds vs h.2⟩
end
theorem Qbeq{imm:Nat->Nat->Prop}{w:World}{b:Nat}:∀(j:Nat){ds:List D}{o:Nat},RDc imm w b ds o->RDc imm w b (ds.drop j) (o+j)
 |0,_,_,h=>h
 |j+1,[],o,h=>by simp[RDc]
 |j+1,d::ds,o,h=>by
  simp only[RDc] at h;have:=Qbeq j h.2.2
  grind
def G.frz(g:G)(k n:Nat)[DecidablePred fun b=>b=g.box k]:G:=⟨g.box,fun b o=>g.imm b o\/(b=g.box k/\o<n),fun b=>if b=g.box k then .ext else g.own b⟩
section
variable{g:G}{w:World}{k:Nat}{ds:List D}(hB:g.own (g.box k) = .box k)(hD:RDc (g.frz k ds.length).imm w (g.box k) ds 0)
include hB hD
theorem Q9m:Imm g.imm (g.frz k ds.length).imm w w:=⟨fun _ _ h=>.inl h,fun _ _ _=>rfl⟩
mutual
theorem Qbml:∀(v:V)(ℓ:Owner)(u:Value),ℓ ≠ .box k->RV g w v ℓ u->RV (g.frz k ds.length) w (frzV k ds v) ℓ u
 |.und,_,_,_,_=>by simp[frzV,RV]
 |.d x,_,_,_,h=>by
  simp only[frzV,RV] at h |-;exact Qgk (Q9m hB hD) x _ h
 |.agg cs,ℓ,u,s,h=>by
  simp only[frzV,RV] at h |-;obtain⟨vs,rfl,h,p⟩:=h;exact⟨vs,rfl,RVs_frz cs ℓ 0 vs h,p⟩
 |.tup cs,ℓ,u,s,h=>by
  simp only[frzV,RV] at h |-;obtain⟨vs,rfl,h⟩:=h;exact⟨vs,rfl,RVs_frz cs ℓ 0 vs h⟩
 |.own sz l,ℓ,u,s,h=>by
  simp only[frzV,RV] at h |-;rcases h with h|⟨b,cap,vals,e,p,m,C,t,h5,h6,h7,h8⟩
  ·exact .inl h
  ·have r:b≠g.box k:=by rintro rfl;rw[hB] at m;exact s m.symm
   refine .inr ⟨b,cap,vals,e,p,by simp[G.frz,r,m],C,t,h5,h6,fun o=>?_,RDL_mono (Q9m hB hD) sz b l 0 h8⟩;rw[<-h7 o];simp[G.frz,r]
 |.ownT sz l,ℓ,u,s,h=>by
  simp only[frzV,RV] at h |-;rcases h with h|⟨b,o0,cap,vals,e,p,m,C,t,h5,h6,h7,h8⟩
  ·exact .inl h
  ·have r:b≠g.box k:=by rintro rfl;rw[hB] at m;exact s m.symm
   refine .inr ⟨b,o0,cap,vals,e,p,by simp[G.frz,r,m],C,t,h5,h6,fun o=>?_,RDL_mono (Q9m hB hD) sz b l o0 h8⟩;rw[<-h7 o];simp[G.frz,r]
 |.ptr k' o,ℓ,u,s,h=>by
  simp only[frzV];split
  ·rename_i F;subst F;simp only[RV] at h |-;have:=Qbeq o hD;rw[Zz] at this;exact⟨_,_,h,this⟩
  ·simpa[RV,G.frz] using h
 |.nilp,_,_,_,h=>by simpa[frzV,RV] using h
 |.f x,_,u,_,h=>by
  simp only[frzV,RV] at h |-;exact Qgk (Qbd2 (g:=g) (g':=g.frz k ds.length) fun b o p m=>⟨.inl p,by simp only[G.frz];split<;>first|rfl|exact m⟩) x u h
 |.nils _,_,_,_,h=>by simpa[frzV,RV] using h
 |.cref cs,ℓ,u,s,h=>by
  simp only[frzV,RV] at h |-;obtain⟨b,o,rfl,h⟩:=h;exact⟨b,o,rfl,Q0y (Q9m hB hD) b cs o h⟩
 |.sl sz k' o n c,ℓ,u,s,h=>by
  simp only[frzV];split
  ·rename_i F;subst F;split
   ·rename_i hc;have B:((ds.drop o).take (n*sz)).length=n*sz:=by simp;omega
    obtain⟨p,m,C⟩:=Qtd n sz _ B;simp only[RV] at h;have key:∀i x j y,(Qi3 sz n ((ds.drop o).take (n*sz)))[i]? = some x->x[j]? = some y->(g.frz k' ds.length).imm (g.box k') (o+i*sz+j)/\∃u,w.cell? ⟨g.box k',o+i*sz+j,none⟩=some u/\RD (g.frz k' ds.length).imm w y u:=by
     intro i x j y z A;have t:=C i x j y z A;rw[List.getElem?_take] at t;split at t
     ·rw[Zbs] at t;have:=Qut hD _ y t;rw[show 0+(o+(i*sz+j))=o+i*sz+j from by omega] at this;exact this
     ·cases t
    unfold frzL;split
    ·rename_i hp;simp only[RV,RD];refine⟨_,c,by rw[p];exact h,by rw[p];exact hc.2,.inr ⟨_,o,rfl,Q3l fun i x z=>⟨m x (Zn z),Qzi fun j y A=>?_⟩⟩⟩;obtain⟨J,q,H,I⟩:=key i x j y z A;refine⟨⟨J,by simp[G.frz],.inl (by rw[H];rfl)⟩,q,H,Qbo2 ?_ I⟩;exact Zt.1 (Zt.1 hp x (Zn z)) y (Zn A)
    ·simp only[RV,RD];refine⟨_,c,by rw[p];exact h,by rw[p];exact hc.2,.inr ⟨_,o,rfl,Q3l fun i x z=>⟨m x (Zn z),Qzi fun j y A=>key i x j y z A⟩⟩⟩
   ·simp[RV]
  ·simpa[RV,G.frz] using h
 |.clo f cs,ℓ,u,s,h=>by
  simp only[frzV,RV] at h |-;obtain⟨vs,rfl,h⟩:=h;exact⟨vs,rfl,RVs_frz cs .ext 0 vs h⟩
 |.mp k',ℓ,u,s,h=>by
  simp only[frzV];split
  ·simp[RV]
  ·simpa[RV,G.frz] using h
theorem RVs_frz:∀(cs:List V)(ℓ:Owner)(i:Nat)(us:List Value),RVs g w cs ℓ i us->RVs (g.frz k ds.length) w (frzVs k ds cs) ℓ i us
 |[],_,_,_,h=>by simpa[frzVs,RVs] using h
 |c::cs,ℓ,i,us,h=>by
  simp only[frzVs,RVs] at h |-;obtain⟨u,b,rfl,j,f⟩:=h;have e:ℓ.sub i ≠ .box k:=by cases ℓ<;>simp[Owner.sub]
  exact⟨u,b,rfl,Qbml c (ℓ.sub i) u e j,RVs_frz cs ℓ (i+1) b f⟩
end
end
def PreD(cs:List V)(ds:List D):Prop:=ds.length<=cs.length/\∀(j:Nat)v d,cs[j]? = some v->ds[j]? = some d->v.toD=some d
theorem PreD.of{cs:List V}{ds:List D}(h:toDs cs=some ds):PreD cs ds:=⟨Nat.le_of_eq (Qux h).1,(Qux h).2⟩
theorem PreD.app{cs b:List V}{ds:List D}(h:toDs cs=some ds):PreD (cs++b) ds:=by
 obtain⟨i,f⟩:=Qux h;refine⟨by simp;omega,fun j v d c e=>?_⟩
 grind
theorem Qbis{g:G}{w:World}{M:Mem}{nb k:Nat}{cs:List V}{ds:List D}[DecidablePred fun b=>b=g.box k](e:MR g w M nb)(m:M k=some (.cells cs))(l:PreD cs ds):RDc (g.frz k ds.length).imm w (g.box k) ds 0:=by
 obtain⟨p,i⟩:=l;refine Qzi fun j y c=>?_;have f:=(Zm.1 c).1;have hc:cs[j]? = some (cs[j]'(by omega)):=Zj _;obtain⟨u,o,n,q⟩:=Qyh e m hc;refine⟨.inr ⟨rfl,by omega⟩,u,by simpa using o,?_⟩;exact Qgk ⟨fun _ _ h=>.inl h,fun _ _ _=>rfl⟩ y u (Qwz (i j _ y hc c) n)
def Qsl(n0 k:Nat)(f:V->V)(σ:St):St :=
 {
  s:=fun t=>f (σ.s t)
  M:=fun j=>if j=k then none else if j<n0 then σ.M j else
   match σ.M j with
   |some (.cells cs)=>some (.cells (cs.map f))
   |b=>b
  nb:=σ.nb }
abbrev Qbo3(n0 k:Nat)(ds:List D)(σ:St):St:=Qsl n0 k (frzV k ds) σ
variable{Γ:Env}{σ:St}
open Classical in
theorem Qblk{k:Nat}{cs:List V}{ds:List D}(S:Γ.n0<=k)(P:σ.M k=some (.cells cs))(R:PreD cs ds):WeakSt Γ σ (Qbo3 Γ.n0 k ds σ):=by
 intro a w g n;have hB:g.own (g.box k) = .box k:=(n.mem.box k _ P).2.1;have hD:=Qbis n.mem P R;have I:∀ℓ i,ℓ≠Owner.box k->ℓ.sub i ≠ .box k:=by intro ℓ i _;cases ℓ<;>simp[Owner.sub]
 have q:Kept g w (g.frz k ds.length) w (fun j=>j≠k) (fun o=>o ≠ .box k):=by
  refine⟨⟨fun _ _ h=>.inl h,fun _ _ _=>rfl⟩,fun _ _=>rfl,fun b hb _=>?_⟩;have f:b≠g.box k:=by rintro rfl;exact hb hB
  exact⟨by simp[G.frz,f],rfl,fun o=>by simp[G.frz,f]⟩
 have l:∀j,(There σ.M j/\j≠k)->There (Qbo3 Γ.n0 k ds σ).M j:=by
  rintro j ⟨m,s⟩;simp only[There,Qsl,s,if_false] at m |-;split
  ·exact m
  ·cases N:σ.M j with
   |none=>simp[N] at m
   |some b=>cases b<;>rfl
 have v:∀j,j≠k->g.own (g.box j) = .box j->(g.frz k ds.length).own (g.box j) = .box j:=by
  intro j N ho;have f:g.box j≠g.box k:=by
   intro e;rw[e,hB] at ho;cases ho;exact N rfl
  simp[G.frz,f,ho]
 refine⟨g.frz k ds.length,⟨⟨fun j b hb=>?_,fun b o F=>?_⟩,fun t=>Qbml hB hD _ _ _ (by simp) (n.slots t),n.size,n.defers,fun t=>Qf8 l _ (Qbmk k ds _ (n.onS t)),fun j cs' hb=>?_,n.top,?_⟩⟩
 ·simp only[Qsl] at hb;split at hb
  ·cases hb
  ·rename_i x;split at hb
   ·rename_i p;obtain⟨m,s,H⟩:=n.mem.box j b hb;refine⟨m,v j x s,?_⟩;cases b with
    |mp es c =>
     obtain⟨y,z,B⟩:=H;exact⟨y,z,Qll (g:=g) (g':=g.frz k ds.length) q (fun _=>by simp) B⟩
    |cells u =>
     obtain⟨r,e,z,B,J⟩:=H;have L:=(n.onM j u hb).2 p;exact⟨r,e,z,RVs_mono q I (by simp) _ _ _ _ (by intro e;cases e;exact x rfl) (ons_mono (fun i O=>by omega) _ L) B,J⟩
   ·split at hb
    ·rename_i p _ u C;cases hb;obtain⟨m,s,r,e,z,B,J⟩:=n.mem.box j _ C;refine⟨m,v j x s,r,e,z,?_,J⟩;rw[<-Q5r];exact RVs_frz hB hD _ _ _ _ B
    ·rename_i f;obtain⟨m,s,H⟩:=n.mem.box j b hb;cases b with
     |mp es c =>
      obtain⟨y,z,B⟩:=H;exact⟨m,v j x s,y,z,Qll (g:=g) (g':=g.frz k ds.length) q (fun _=>by simp) B⟩
     |cells u=>exact absurd hb (f u)
 ·rcases F with F|⟨rfl,p⟩
  ·obtain⟨m,s⟩:=n.mem.imm b o F;refine⟨m,fun j=>?_⟩;simp only[G.frz];split
   ·simp
   ·exact s j
  ·refine⟨?_,fun j=>by simp[G.frz]⟩;obtain⟨_,_,r,e,z,_,_⟩:=n.mem.box k _ P;exact (Zaf.1 z).1
 ·simp only[Qsl] at hb;split at hb
  ·cases hb
  ·rename_i x;split at hb
   ·rename_i p;obtain⟨m,s⟩:=n.onM j cs' hb;refine⟨ons_mono (fun i O=>l i ⟨O.1,?_⟩) _ (ons_and cs' m (s p)),s⟩;have:=O.2;omega
   ·split at hb
    ·rename_i p _ u C;cases hb;refine⟨?_,fun h=>absurd h p⟩;rw[<-Q5r];exact ons_mono l _ (ons_frz k ds _ (n.onM j u C).1)
    ·rename_i f;exact absurd hb (f cs')
 ·have A:=n.fr;refine⟨A.os,A.tape,A.output,A.size,⟨fun b o h=>.inl (A.imm.mono b o h),A.imm.look⟩,A.box,fun b hb ho=>?_⟩;obtain⟨m,s,H⟩:=A.old b hb ho;have f:b≠g.box k:=by
   rintro rfl;rw[hB] at m;rw[<-m] at ho;exact ho
  exact⟨by simp[G.frz,f,m],s,fun o=>by simp[G.frz,f,H]⟩
def FE(f:V->V)(s:Sl):List (Nat×V)->Prop
 |[]=>True
 |(t,v)::E=>WkV (f (s t)) v/\FE f s E
theorem FE.at{f:V->V}{s:Sl}:∀{E:List (Nat×V)},FE f s E->∀t,WkV (f (s t)) (look E t)
 |[],_,t=>.und _
 |(u,v)::E,h,t=>by
  simp only[look];cases hb:Nat.beq t u with
  |true=>have:=Zaa hb;subst this;exact h.1
  |false=>exact FE.at h.2 t
def FB(f:V->V)(t0:Nat)(L:List (Nat×Bx)):List (Nat×Bx)->Prop
 |[]=>True
 |(t,.cells cs')::b=>(∃cs,Qcf L t=some (.cells cs)/\Nat.beq t t0=false/\WkVs (cs.map f) cs')/\FB f t0 L b
 |(t,.mp es c)::b=>(Qcf L t=some (.mp es c)/\Nat.beq t t0=false)/\FB f t0 L b
theorem FB.at{f:V->V}{t0:Nat}{L:List (Nat×Bx)}:∀{e : List (Nat×Bx)},FB f t0 L e->∀t b,Qcf e t=some b->Nat.beq t t0=false /\
  ((∃cs' cs,b = .cells cs'/\Qcf L t=some (.cells cs)/\WkVs (cs.map f) cs')\/∃es c,b = .mp es c/\Qcf L t=some (.mp es c))
 |[],_,t,b,hb=>by simp[Qcf] at hb
 |(u,.cells cs')::e,h,t,b,hb=>by
  simp only[Qcf] at hb;cases hbe:Nat.beq t u with
  |true =>
   have:=Zaa hbe;subst this;rw[hbe] at hb;simp only[cond_true,Zh] at hb;obtain⟨cs,l,j,i⟩:=h.1
   grind
  |false =>
   rw[hbe] at hb;exact FB.at h.2 t b hb
 |(u,.mp es c)::e,h,t,b,hb=>by
  simp only[Qcf] at hb;cases hbe:Nat.beq t u with
  |true =>
   have:=Zaa hbe;subst this;rw[hbe] at hb;simp only[cond_true,Zh] at hb;exact⟨h.1.2,.inr ⟨es,c,hb.symm,h.1.1⟩⟩
  |false =>
   rw[hbe] at hb;exact FB.at h.2 t b hb
theorem Q77(f:V->V)(t:Nat){E T : List (Nat×V)}{L:List (Nat×Bx)}{v : List (Nat×Bx)}{M0:Mem}{nb:Nat}(hW:WeakSt Γ ⟨look E,Qn Γ.n0 L M0,nb⟩ (Qsl Γ.n0 (Γ.n0+t) f ⟨look E,Qn Γ.n0 L M0,nb⟩))(S:FE f (look E) T)(R:FB f t L v)(P:(L.all fun p=>Nat.beq p.1 t||v.any fun q=>Nat.beq p.1 q.1)=true):
  WeakSt Γ ⟨look E,Qn Γ.n0 L M0,nb⟩ ⟨look T,Qn Γ.n0 (bxs v) M0,nb⟩:=by
 refine WeakSt.trans hW ?_;intro a w g m;have N:∀k,k<Γ.n0->(Qsl Γ.n0 (Γ.n0+t) f ⟨look E,Qn Γ.n0 L M0,nb⟩).M k=M0 k:=by
  intro k P;have n:k≠Γ.n0+t:=by omega
  simp_all[Qsl,if_false,if_true,Qe2]
 have o:∀u cs,Nat.beq u t=false->Qcf L u=some (.cells cs)->(Qsl Γ.n0 (Γ.n0+t) f ⟨look E,Qn Γ.n0 L M0,nb⟩).M (Γ.n0+u)=some (.cells (cs.map f)):=by
  intro u cs n r;have F:u≠t:=fun e=>by subst e;simp at n
  have C:Γ.n0+u≠Γ.n0+t:=by omega
  have B:¬Γ.n0+u<Γ.n0:=by omega
  have A:Qn Γ.n0 L M0 (Γ.n0+u)=some (.cells cs):=by rw[Qdt];exact r
  simp only[Qsl,C,if_false,B,A]
 have s:∀u es c,Nat.beq u t=false->Qcf L u=some (.mp es c)->(Qsl Γ.n0 (Γ.n0+t) f ⟨look E,Qn Γ.n0 L M0,nb⟩).M (Γ.n0+u)=some (.mp es c):=by
  intro u es c n r;have F:u≠t:=fun e=>by subst e;simp at n
  have C:Γ.n0+u≠Γ.n0+t:=by omega
  have B:¬Γ.n0+u<Γ.n0:=by omega
  have A:Qn Γ.n0 L M0 (Γ.n0+u)=some (.mp es c):=by rw[Qdt];exact r
  simp only[Qsl,C,if_false,B,A]
 have j:∀k,k<Γ.n0\/∃u,k=Γ.n0+u:=fun k=>by
  rcases Zak k Γ.n0 with h|h
  ·exact .inl h
  ·exact .inr ⟨k-Γ.n0,by omega⟩
 have i:∀k,There (Qsl Γ.n0 (Γ.n0+t) f ⟨look E,Qn Γ.n0 L M0,nb⟩).M k->There (Qn Γ.n0 (bxs v) M0) k:=by
  intro k z;rcases j k with h|⟨u,rfl⟩
  ·grind [There,Qe2]
  ·simp only[There,Qdt];have B:¬Γ.n0+u<Γ.n0:=by omega
   have C:Γ.n0+u≠Γ.n0+t:=by
    grind [There,Qsl]
   have h7:∃b,Qcf L u=some b:=by
    cases hb:Qcf L u with
    |some b=>exact⟨b,rfl⟩
    |none =>
     have A:Qn Γ.n0 L M0 (Γ.n0+u)=none:=by rw[Qdt];exact hb
     simp only[There,Qsl,C,if_false,B,A] at z;cases z
   obtain⟨b,hb⟩:=h7;obtain⟨p,hp,rfl⟩:=Q08 hb;have:=Zt.1 P p hp;rw[Zat] at this;rcases this with h8|h8
   ·simp_all
   ·obtain⟨q,hq,J⟩:=List.any_eq_true.1 h8
    grind [Nat.eq_of_beq_eq_true,Q2t]
 refine⟨g,⟨⟨fun k b hb=>?_,m.mem.imm⟩,fun t=>(S.at t).rd _ _ _ _ (m.slots t),m.size,m.defers,fun t=>Qf8 i _ ((S.at t).on _ (m.onS t)),fun k cs hb=>?_,m.top,m.fr⟩⟩
 ·rcases j k with h|⟨u,rfl⟩
  ·have l : (Qsl Γ.n0 (Γ.n0+t) f ⟨look E,Qn Γ.n0 L M0,nb⟩).M k=some b:=by grind [Qe2]
   exact m.mem.box k b l
  ·have l : Qcf (bxs v) u=some b:=by rw[<-hb];exact Qdt.symm
   obtain⟨r,⟨cs',cs,rfl,n,F⟩|⟨es,c,rfl,n⟩⟩:=R.at u b l
   ·obtain⟨y,H,x,e,X,W,U⟩:=m.mem.box _ _ (o u cs r n);exact⟨y,H,x,e,X,F.rd _ _ _ _ _ W,U⟩
   ·exact m.mem.box _ _ (s u es c r n)
 ·rcases j k with h|⟨u,rfl⟩
  ·have l : (Qsl Γ.n0 (Γ.n0+t) f ⟨look E,Qn Γ.n0 L M0,nb⟩).M k=some (.cells cs):=by grind [Qe2]
   obtain⟨y,H⟩:=m.onM k cs l;exact⟨ons_mono i _ y,H⟩
  ·have l : Qcf (bxs v) u=some (.cells cs):=by rw[<-hb];exact Qdt.symm
   obtain⟨r,⟨cs',O,J,n,F⟩|⟨es,c,J,n⟩⟩:=R.at u _ l<;>cases J;obtain⟨y,H⟩:=m.onM _ _ (o u O r n);exact⟨ons_mono i _ (F.on _ y),fun I=>absurd I (by omega)⟩
theorem Qr1(t:Nat){E c : List (Nat×V)}{L:List (Nat×Bx)}{b : List (Nat×Bx)}{M0:Mem}{nb:Nat}{cs:List V}(ds:List D)(j:Qcf L t=some (.cells cs))(f:PreD cs ds)(i:FE (frzV (Γ.n0+t) ds) (look E) c)(h:FB (frzV (Γ.n0+t) ds) t L b)(e:(L.all fun p=>Nat.beq p.1 t||b.any fun q=>Nat.beq p.1 q.1)=true):
  WeakSt Γ ⟨look E,Qn Γ.n0 L M0,nb⟩ ⟨look c,Qn Γ.n0 (bxs b) M0,nb⟩ :=
 Q77 (frzV (Γ.n0+t) ds) t (Qblk (σ:=⟨look E,Qn Γ.n0 L M0,nb⟩) (k:=Γ.n0+t) (by omega) (by grind [Qn,Qdt]) f) i h e
theorem Qc4(t:Nat){E c : List (Nat×V)}{L:List (Nat×Bx)}{b : List (Nat×Bx)}{M0:Mem}{nb:Nat}{cs:List V}(ds:List D)(h:Qcf L t=some (.cells cs))(f:toDs cs=some ds)(j:FE (frzV (Γ.n0+t) ds) (look E) c)(i:FB (frzV (Γ.n0+t) ds) t L b)(e:(L.all fun p=>Nat.beq p.1 t||b.any fun q=>Nat.beq p.1 q.1)=true):
  WeakSt Γ ⟨look E,Qn Γ.n0 L M0,nb⟩ ⟨look c,Qn Γ.n0 (bxs b) M0,nb⟩ :=
 Qr1 t ds h (.of f) j i e
theorem fPtr{n0 t u o:Nat}{ds:List D}(h:Nat.beq u t=false):WkV (frzV (n0+t) ds (.ptr (n0+u) o)) (.ptr (n0+u) o):=by
 have:¬n0+u=n0+t:=by
  intro e
  simp_all
 exact .same (by simp only[frzV];rw[if_neg this])
theorem fSlO{n0 t u sz o n c:Nat}{ds:List D}(h:Nat.beq u t=false):WkV (frzV (n0+t) ds (.sl sz (n0+u) o n c)) (.sl sz (n0+u) o n c):=by
 have:¬n0+u=n0+t:=by
  intro e
  simp_all
 exact .same (by simp only[frzV];rw[if_neg this])
theorem fSl{n0 t sz o n c:Nat}{ds:List D}{l:List (List D)}(h:(Nat.ble (o+n*sz) ds.length&&Nat.ble n c)=true)(b:Qi3 sz n ((ds.drop o).take (n*sz))=l):WkV (frzV (n0+t) ds (.sl sz (n0+t) o n c)) (.d (.lst sz l)):=by
 simp only[Zc] at h
 grind [Nat.le_of_ble_eq_true,frzV,frzL,Qbir]
def nilO{α R:Type}[DecidableEq R](l:List α)(K:Bool->Option R):Option R :=
 match l with
 |[]=>if K true=K false then K false else none
 |_::_=>K false
theorem Qbit{α R:Type}[DecidableEq R]{l:List α}{K:Bool->Option R}{r:R}(h:nilO l K=some r)(b:Bool)(hb:b=true->l.length=0):K b=some r:=by
 cases l with
 |nil =>
  simp only[nilO] at h;split at h
  ·rename_i c;cases b with
   |true=>rw[c];exact h
   |false=>exact h
  ·cases h
 |cons x l =>
  cases b with
  |true=>simp at hb
  |false=>exact h
variable{pc d nb:Nat}{os:List COp}{E:List (Nat×V)}{M:Mem}{Q:St->Prop}{gd:Option (Nat×Bool)}{a:Arg}
theorem Rn.isnil{α R:Type}[DecidableEq R]{e:α->List D}{sz:Nat}{xs:List α}{neg:Bool}{J:Bool->Option R}{r:R}(c:Wn E gd)(ha:(a.val (look E)).dem = .d (.lst sz (xs.map e)))(h:nilO xs J=some r)(f:∀b,J b=some r->Rn Γ 9 os ⟨look ((d,.d (.bool (bif neg then !b else b)))::E),M,nb⟩ Q):Rn Γ 9 (⟨some d,.isnil neg,[a],false,gd⟩::os) ⟨look E,M,nb⟩ Q:=by
 refine Rn.cons ?_;unfold COp.run;rw[c.wanted];simp only[show (Abs.K.isnil neg).isCall=false from rfl,show (Abs.K.isnil neg).isNil=true from rfl,Zg,if_false,if_true,COp.runN,COp.xs,Zb,Zi,V.dems,ha,Q4t,Zu,Abs.K.negNil];intro b hb;have j:∀v,Qbe (look E) (some d) v=look ((d,v)::E):=fun v=>Qdd E d v;have i:=f b (Qbit h b hb)
 grind
end Go.Abs
end
section
namespace Go.Abs
open Go
variable{Γ:Env}{σ:St}
def G.ow(g:G)(k n:Nat)(ℓ:Owner)[DecidablePred fun b=>b=g.box k]:G:=⟨g.box,fun b o=>g.imm b o\/(b=g.box k/\o<n),fun b=>if b=g.box k then ℓ else g.own b⟩
section
variable{g:G}{w:World}{k n:Nat}{ℓ0:Owner}(hB:g.own (g.box k) = .box k)
include hB
mutual
theorem Qbo4[DecidablePred fun b=>b=g.box k]:∀(v:V)(ℓ:Owner)(u:Value),ℓ ≠ .box k->RV g w v ℓ u->RV (g.ow k n ℓ0) w v ℓ u
 |.und,_,_,_,_=>by simp[RV]
 |.d x,_,_,_,h=>by
  simp only[RV] at h |-;exact Qgk ⟨fun _ _ h=>.inl h,fun _ _ _=>rfl⟩ x _ h
 |.agg cs,ℓ,u,j,h=>by
  simp only[RV] at h |-;obtain⟨vs,rfl,h,m⟩:=h;exact⟨vs,rfl,RVs_ow cs ℓ 0 vs h,m⟩
 |.tup cs,ℓ,u,j,h=>by
  simp only[RV] at h |-;obtain⟨vs,rfl,h⟩:=h;exact⟨vs,rfl,RVs_ow cs ℓ 0 vs h⟩
 |.own sz l,ℓ,u,j,h=>by
  simp only[RV] at h |-;rcases h with h|⟨b,cap,vals,e,m,i,h3,h4,h5,h6,h7,h8⟩
  ·exact .inl h
  ·have a:b≠g.box k:=by rintro rfl;rw[hB] at i;exact j i.symm
   refine .inr ⟨b,cap,vals,e,m,by simp[G.ow,a,i],h3,h4,h5,h6,fun o=>?_,RDL_mono ⟨fun _ _ h=>.inl h,fun _ _ _=>rfl⟩ sz b l 0 h8⟩;rw[<-h7 o];simp[G.ow,a]
 |.ownT sz l,ℓ,u,j,h=>by
  simp only[RV] at h |-;rcases h with h|⟨b,o0,cap,vals,e,m,i,h3,h4,h5,h6,h7,h8⟩
  ·exact .inl h
  ·have a:b≠g.box k:=by rintro rfl;rw[hB] at i;exact j i.symm
   refine .inr ⟨b,o0,cap,vals,e,m,by simp[G.ow,a,i],h3,h4,h5,h6,fun o=>?_,RDL_mono ⟨fun _ _ h=>.inl h,fun _ _ _=>rfl⟩ sz b l o0 h8⟩;rw[<-h7 o];simp[G.ow,a]
 |.ptr k' o,ℓ,u,j,h=>by simpa[RV,G.ow] using h
 |.nilp,_,_,_,h=>by simpa[RV] using h
 |.f x,_,u,_,h=>by
  simp only[RV] at h |-;refine Qgk (Qbd2 (g:=g) (g':=g.ow k n ℓ0) fun b o m i=>⟨.inl m,?_⟩) x u h;have a:b≠g.box k:=by rintro rfl;rw[hB] at i;cases i
  simp[G.ow,a,i]
 |.nils _,_,_,_,h=>by simpa[RV] using h
 |.cref cs,ℓ,u,j,h=>by
  simp only[RV] at h |-;obtain⟨b,o,rfl,h⟩:=h;exact⟨b,o,rfl,Q0y ⟨fun _ _ h=>.inl h,fun _ _ _=>rfl⟩ b cs o h⟩
 |.sl sz k' o n c,ℓ,u,j,h=>by simpa[RV,G.ow] using h
 |.clo f cs,ℓ,u,j,h=>by
  simp only[RV] at h |-;obtain⟨vs,rfl,h⟩:=h;exact⟨vs,rfl,RVs_ow cs .ext 0 vs h⟩
 |.mp k',ℓ,u,j,h=>by simpa[RV,G.ow] using h
theorem RVs_ow[DecidablePred fun b=>b=g.box k]:∀(cs:List V)(ℓ:Owner)(i:Nat)(us:List Value),RVs g w cs ℓ i us->RVs (g.ow k n ℓ0) w cs ℓ i us
 |[],_,_,_,h=>by simpa[RVs] using h
 |c::cs,ℓ,i,us,h=>by
  simp only[RVs] at h |-;obtain⟨u,a,rfl,l,j⟩:=h;have f:ℓ.sub i ≠ .box k:=by cases ℓ<;>simp[Owner.sub]
  exact⟨u,a,rfl,Qbo4 c (ℓ.sub i) u f l,RVs_ow cs ℓ (i+1) a j⟩
end
end
open Classical in
theorem Qbll{t t0 sz n:Nat}{cs:List V}{ds:List D}(P:σ.M (Γ.n0+t)=some (.cells cs))(hd:toDs cs=some ds)(S:σ.s t0 = .sl sz (Γ.n0+t) 0 n n)(W:(Nat.beq (n*sz) ds.length&&Nat.ble n 65536)=true):
  WeakSt Γ σ ⟨(Qmc Γ.n0 [t] σ).s.put t0 (.own sz (Qi3 sz n ds)),(Qmc Γ.n0 [t] σ).M,σ.nb⟩:=by
 intro a w g l;simp only[Zc] at W;have U:n*sz=ds.length:=Zaa W.1;have hn2:=Zy W.2;have hc:=Q4k l [t];have hB:g.own (g.box (Γ.n0+t)) = .box (Γ.n0+t):=(l.mem.box _ _ P).2.1;obtain⟨hl,hg⟩:=Qux hd;have A:Qjx Γ.n0 [t] (Γ.n0+t)=true:=by simp[Qjx]
 have B:∀j,There (Qmc Γ.n0 [t] σ).M j->j≠Γ.n0+t:=by
  rintro j O rfl;simp[There,Qmc,A] at O
 have hD:RDc (g.ow (Γ.n0+t) (n*sz) (.slot t0 [])).imm w (g.box (Γ.n0+t)) ds 0:=by
  refine Qzi fun j y O=>?_;have X:=(Zm.1 O).1;have I:cs[j]? = some (cs[j]'(by omega)):=Zj _;obtain⟨u,q,p,J⟩:=Qyh l.mem P I;refine⟨.inr ⟨rfl,by omega⟩,u,by simpa using q,?_⟩;exact Qgk ⟨fun _ _ h=>.inl h,fun _ _ _=>rfl⟩ y u (Qwz (hg j _ y I O) p)
 refine⟨g.ow (Γ.n0+t) (n*sz) (.slot t0 []),⟨⟨fun j b hb=>?_,fun b o C=>?_⟩,fun i=>?_,l.size,l.defers,fun i=>?_,hc.onM,l.top,?_⟩⟩
 ·have hjk:=B j (by simp[There,show (Qmc Γ.n0 [t] σ).M j=some b from hb]);obtain⟨q,p,J⟩:=hc.mem.box j b hb;have m:g.box j≠g.box (Γ.n0+t):=by
   intro e;rw[e,hB] at p;cases p;exact hjk rfl
  refine⟨q,by simp[G.ow,m,p],?_⟩;cases b with
  |mp es c =>
   obtain⟨N,z,H⟩:=J;exact⟨N,z,Qbaf (g:=g) (g':=g.ow (Γ.n0+t) (n*sz) (.slot t0 [])) ⟨fun _ _ h=>.inl h,fun _ _ _=>rfl⟩ (fun b i F _=>by have r:b≠g.box (Γ.n0+t):=(by rintro rfl;rw[hB] at F;cases F);exact⟨by simp[G.ow,r,F],rfl,fun o=>by simp[G.ow,r]⟩) H⟩
  |cells cs2 =>
   obtain⟨f,e,z,H,R⟩:=J;exact⟨f,e,z,RVs_ow hB _ _ _ _ H,R⟩
 ·rcases C with C|⟨rfl,X⟩
  ·obtain⟨q,p⟩:=l.mem.imm b o C;refine⟨q,fun j=>?_⟩;simp only[G.ow];split
   ·simp
   ·exact p j
  ·refine⟨?_,fun j=>by simp[G.ow]⟩;obtain⟨_,_,f,e,z,_,_⟩:=l.mem.box _ _ P;exact (Zaf.1 z).1
 ·simp only[Sl.put];split
  ·rename_i he;subst he;have h0:=l.slots i;rw[S] at h0;simp only[RV] at h0 |-;obtain⟨_,_,f,e,z,H,R⟩:=l.mem.box _ _ P;have hvl:=Qp0 H;obtain⟨q1,q2,q3⟩:=Qtd n sz ds U.symm;refine .inr ⟨g.box (Γ.n0+t),n,f.toArray,e,by rw[q1];exact h0,by simp[G.ow],z,by omega,by unfold maxLen;omega,⟨by simp;omega,fun u hu=>R u (by simpa using hu)⟩,fun o=>?_,Q3l fun i x hx=>⟨q2 x (Zn hx),Qzi fun j y hy=>?_⟩⟩
   ·have T:¬g.imm (g.box (Γ.n0+t)) o:=fun h=>(l.mem.imm _ _ h).2 _ hB;simp[G.ow,T,q1]
   ·have h4:=q3 i x j y hx hy;have:=Qut hD _ y h4;rw[show 0+(i*sz+j)=0+i*sz+j from by omega] at this;exact this
  ·exact Qbo4 hB _ _ _ (by simp) (hc.slots i)
 ·simp only[Sl.put];split
  ·trivial
  ·exact hc.onS i
 ·have v:=l.fr;refine⟨v.os,v.tape,v.output,v.size,⟨fun b o h=>.inl (v.imm.mono b o h),v.imm.look⟩,v.box,fun b hb ho=>?_⟩;obtain⟨q,p,J⟩:=v.old b hb ho;have m:b≠g.box (Γ.n0+t):=by
   rintro rfl;rw[hB] at q;rw[<-q] at ho;exact ho
  exact⟨by simp[G.ow,m,q],p,fun o=>by simp[G.ow,m,J]⟩
theorem Qqh(t t0:Nat){sz n:Nat}{E j : List (Nat×V)}{L:List (Nat×Bx)}{h : List (Nat×Bx)}{M0:Mem}{nb:Nat}{cs:List V}(ds:List D)(A:Qcf L t=some (.cells cs))(v:toDs cs=some ds)(f:look E t0 = .sl sz (Γ.n0+t) 0 n n)(o:(Nat.beq (n*sz) ds.length&&Nat.ble n 65536)=true){l:List (List D)}(r:Qi3 sz n ds=l)(y:KL Γ.n0 [t] (look E) j)(x:KB Γ.n0 [t] L h)(u:(L.all fun p=>[t].any (Nat.beq p.1)||h.any fun q=>Nat.beq p.1 q.1)=true):
  WeakSt Γ ⟨look E,Qn Γ.n0 L M0,nb⟩ ⟨look ((t0,.own sz l)::j),Qn Γ.n0 (bxs h) M0,nb⟩:=by
 intro a w g m;subst r;have c:∀i,WkV ((Qmc Γ.n0 [t] ⟨look E,Qn Γ.n0 L M0,nb⟩).s.put t0 (.own sz (Qi3 sz n ds)) i) (look ((t0,.own sz (Qi3 sz n ds))::j) i):=by
  intro i;simp only[Sl.put,look];cases hb:Nat.beq i t0 with
  |true=>grind [Nat.eq_of_beq_eq_true,WkV.refl]
  |false =>
   have:i≠t0:=fun e=>by subst e;simp at hb
   simp only[this,if_false,cond_false];exact y.at i
 obtain⟨g1,z⟩:=Qbll (σ:=⟨look E,Qn Γ.n0 L M0,nb⟩) (t:=t) (t0:=t0) (by grind [Qn,Qdt]) v f o a w g m;exact Qbep (Γ:=Γ) (sites:=[t]) (E:=E) c x u a w g1 z
variable{pc d nb:Nat}{os:List COp}{E:List (Nat×V)}{M M0:Mem}{L:List (Nat×Bx)}{Q:St->Prop}{gd:Option (Nat×Bool)}{b:Arg}{α:Type}{e:α->List D}
theorem Rn.app0{t u sz bytes:Nat}{ys p:List α}{f:V}{cs:List V}(y:Wn E gd)(ha:look E t = .sl sz (Γ.n0+u) 0 0 0)(B:Qcf L u=some (.cells cs))(hb:b.val (look E)=f)(z:f.dem=f)(o:Qgy (Qn Γ.n0 L M0) sz f=some (ys.map e))(m:appO ([]:List α) ys=some p)(l:(Nat.ble bytes 128&&Nat.ble 1 sz)=true)(h:Rn Γ pc os ⟨look ((d,.own sz (p.map e))::E),Qn Γ.n0 L M0,nb⟩ Q):Rn Γ pc (⟨some d,.append sz bytes,[.t t,b],true,gd⟩::os) ⟨look E,Qn Γ.n0 L M0,nb⟩ Q:=by
 unfold appO at m;split at m<;>cases m;rename_i F;simp only[Zc] at l;have I:=Zy l.1;have H:0<sz:=Zy l.2;have r:[Arg.t t,b].map (fun x=>x.val (look E))=[V.sl sz (Γ.n0+u) 0 0 0,f]:=by
  simp only[Zb,Zi,hb];rw[show (Arg.t t).val (look E)=_ from ha]
 have A:Qgy (Qn Γ.n0 L M0) sz (.sl sz (Γ.n0+u) 0 0 0)=some []:=by simp[Qgy,Qev B,toDs,Qi3]
 refine Rn.kT y rfl rfl (v:=.own sz (([]++ys).map e)) ?_ (fun i=>?_) h
 ·rw[r];simp only[Ql,A,o]
  grind
 ·rw[r];simp only[Qb2,z,show (V.sl sz (Γ.n0+u) 0 0 0).dem = .sl sz (Γ.n0+u) 0 0 0 from rfl,Q5,show ∀s v,(Arg.t t).putTo s v=s.put t v from fun _ _=>rfl];have q:∀(a:Arg)(v:V)(s:Sl),a.val s=v->a.putTo s v=s:=by
   intro a v s o;cases a with
   |c v=>rfl
   |t j =>
    simp only[Arg.val] at o;funext i;simp_all[Arg.putTo,Sl.put]
  have C:(look E).put t (.sl sz (Γ.n0+u) 0 0 0)=look E:=q (.t t) _ _ ha;rw[C,q b f _ hb,Qdd]
end Go.Abs
namespace Go.Abs
open Go
theorem WkV.nilsO(sz:Nat):WkV (.nils sz) (.own sz []):=⟨fun g w ℓ u h=>by
 simp_all[RV,trivial],fun _ _=>trivial⟩
theorem WkV.nilsD(sz:Nat):WkV (.nils sz) (.d (.lst sz [])):=⟨fun g w ℓ u h=>by
 simp only[RV] at h |-;obtain⟨a,rfl⟩:=h;simp[RD],fun _ _=>trivial⟩
theorem WkVs.rf{g:G}{w:World}{vs a : List V}(h:WkVs vs a):∀{us:List Value},RFs g w vs us->RFs g w a us:=by
 induction h with
 |nil=>exact fun h=>h
 |cons h t c =>
  rintro us ⟨u,us',e,h1,h2⟩;exact⟨u,us',e,fun ℓ=>h.rd _ _ _ _ (h1 ℓ),c h2⟩
theorem RAs.weak{g:G}{w:World}{vs a : List V}(h:WkVs vs a):∀{j:Nat}{us:List Value},RAs g w j vs us->RAs g w j a us:=by
 induction h with
 |nil=>exact fun h=>h
 |cons h t c =>
  rintro j us ⟨u,us',e,h1,h2⟩;exact⟨u,us',e,h.rd _ _ _ _ h1,c h2⟩
theorem ACalls.weakO{P:Program}{f:FuncId}{args args' : List V}{M M' : Mem}{nb a : Nat}{r:V}(h:ACalls P f args' M nb r M' a)(l:WkVs args args'):ACalls P f args M nb r M' a :=
 ⟨h.1,h.2.1,fun w g us m o i j c=>h.2.2 w g us m o i (j.weak l) (l.on _ c)⟩
theorem ACalls.weak{P:Program}{f:FuncId}{args args' : List V}{M M' : Mem}{nb a : Nat}{r:V}(h:ACalls P f args' M nb r M' a)(c:WkVs args args')(i:V.dems args'=args'):ACalls P f args M nb r M' a:=h.weakO c
end Go.Abs
end
section
namespace Go.Abs
open Go
variable{α:Type}
def Qex(g:α->List V)(xs:List α):List V:=(xs.map g).flatten
theorem Ql1(g:α->List V)(x:α)(xs:List α):Qex g (x::xs)=g x++Qex g xs:=by simp[Qex]
theorem Qog{g:α->List V}{sz:Nat}(c:∀x,(g x).length=sz):∀xs:List α,(Qex g xs).length=xs.length*sz
 |[]=>by simp[Qex]
 |x::xs=>by rw[Ql1,Zx,c,Qog c xs,Zs,Zv];omega
theorem Q2v{g:α->List V}{sz:Nat}(c:∀x,(g x).length=sz):∀(xs:List α)(i:Nat),i<=xs.length->(Qex g xs).drop (i*sz)=Qex g (xs.drop i)
 |xs,0,_=>by simp
 |[],i+1,h=>by simp at h
 |x::xs,i+1,h=>by
  rw[Ql1,Zv,Nat.add_comm,Nat.one_mul,<-List.drop_drop,show (g x++Qex g xs).drop sz=Qex g xs from by rw[<-c x];simp];rw[Q2v c xs i (by simpa using h)]
  rfl
theorem Q78{g:α->List V}{sz:Nat}(c:∀x,(g x).length=sz):∀(xs:List α)(i:Nat),i<=xs.length->(Qex g xs).take (i*sz)=Qex g (xs.take i)
 |xs,0,_=>by simp[Qex]
 |[],i+1,h=>by simp at h
 |x::xs,i+1,h=>by
  simp_all[Ql1,Zv,Nat.add_comm,Nat.one_mul,List.take_append,List.take_of_length_le,Q78,List.take_succ_cons]
theorem Qbiu{g:α->List V}{sz:Nat}(e:∀x,(g x).length=sz){xs:List α}{i:Nat}{x:α}(c:xs[i]? = some x):((Qex g xs).drop (i*sz)).take sz=g x:=by
 grind [List.getElem?_eq_some_iff,Q2v,List.drop_eq_getElem_cons,Ql1]
theorem Q5s{g:α->List V}{sz:Nat}(c:∀x,(g x).length=sz){xs:List α}{i:Nat}(y:α)(e:i<xs.length):(Qex g xs).take (i*sz)++g y++(Qex g xs).drop (i*sz+sz)=Qex g (xs.set i y):=by
 rw[Q78 c xs i (by omega),show i*sz+sz=(i+1)*sz from by grind,Q2v c xs (i+1) (by omega)];rw[List.set_eq_take_append_cons_drop,if_pos e];simp[Qex]
theorem Qbiv(g:α->List V)(x:α)(n:Nat):Qex g (List.replicate n x)=rep n (g x):=by simp[Qex,rep]
def mkO(n:Int)(x:α):Option (List α):=if 0<=n/\n<=lim then some (List.replicate n.toNat x) else none
def inO(len:Nat)(i:Int):Option Unit:=if 0<=i/\i<len then some () else none
def setO(l:List α)(i:Int)(y:α):Option (List α):=if 0<=i/\i.toNat<l.length then some (l.set i.toNat y) else none
variable{Γ:Env}{pc d nb:Nat}{os:List COp}{E:List (Nat×V)}{M M0:Mem}{L:List (Nat×Bx)}{Q:St->Prop}{gd:Option (Nat×Bool)}{a b:Arg}{g:α->List V}{xs:List α}{sz:Nat}
theorem Rn.makes{bytes:Nat}{z:List V}{n:Int}{x:α}(e:Wn E gd)(ha:a.val (look E) = .d (.int .i64 n))(hb:b.val (look E) = .d (.int .i64 n))(j:(Qcf L d).isNone=true)(f:g x=z)(hc:(Nat.ble bytes 128&&Nat.beq z.length sz&&Nat.ble 1 sz)=true)(c:mkO n x=some xs)(h:Rn Γ pc os ⟨look ((d,.sl sz (Γ.n0+d) 0 n.toNat n.toNat)::E),Qn Γ.n0 ((d,.cells (Qex g xs))::L) M0,nb⟩ Q):Rn Γ pc (⟨some d,.makes sz bytes z,[a,b],false,gd⟩::os) ⟨look E,Qn Γ.n0 L M0,nb⟩ Q:=by
 unfold mkO at c;split at c<;>cases c;rename_i i;simp only[Zc] at hc;have o:=Zy hc.1.1;have m:z.length=sz:=Zaa hc.1.2;have l:0<sz:=Zy hc.2;refine Rn.k e rfl rfl ?_ h
 simp_all[Zb,Zi,V.dems,V.dem,Ql,Qnq,if_pos,Qef,Qbiv]
theorem Rn.idxA{k len e:Nat}{f:IntKind}{i:Int}(j:Wn E gd)(ha:(a.val (look E)).dem = .sl sz k 0 len e)(hb:b.val (look E) = .d (.int f i))(c:inO len i=some ())(h:Rn Γ pc os ⟨look ((d,.ptr k (0+i.toNat*sz))::E),M,nb⟩ Q):
  Rn Γ pc (⟨some d,.idx sz,[a,b],false,gd⟩::os) ⟨look E,M,nb⟩ Q:=by
 unfold inO at c;split at c<;>cases c;rename_i hc;refine Rn.k j rfl rfl ?_ h
 grind [V.dems,V.dem,Ql]
theorem Rn.lenA{k off len c:Nat}(e:Wn E gd)(ha:(a.val (look E)).dem = .sl sz k off len c)(h:Rn Γ pc os ⟨look ((d,.d (.int .i64 len))::E),M,nb⟩ Q):Rn Γ pc (⟨some d,.len,[a],false,gd⟩::os) ⟨look E,M,nb⟩ Q:=by
 refine Rn.k e rfl rfl ?_ h;simp[ha,V.dems,Ql]
theorem Rn.loadA{k f n:Nat}{j:Bool}{i:Int}{x:α}{v:V}(m:∀x,(g x).length=sz)(p:Wn E gd)(ha:a.val (look E) = .ptr k (0+i.toNat*sz+f))(u:M k=some (.cells (Qex g xs)))(c:getO xs i=some x)(l:Nat.ble (f+max n 1) sz=true)(q:(if j then some (.agg (V.dems (((g x).drop f).take n))) else ((g x)[f]?).map (·.dem))=some v)(h:Rn Γ pc os ⟨look ((d,v)::E),M,nb⟩ Q):Rn Γ pc (⟨some d,.load j n,[a],false,gd⟩::os) ⟨look E,M,nb⟩ Q:=by
 have l:=Zy l;unfold getO at c;split at c<;>try (cases c;done)
 obtain⟨r,o⟩:=Zm.1 c;have s:=Qog m xs;have t:=Qbiu m c;have hb:i.toNat*sz+sz<=xs.length*sz:=by
  grind
 refine Rn.k p rfl rfl ?_ h;simp only[Zb,Zi,V.dems,ha,V.dem,Ql,u];rw[if_pos (by rw[s];omega)];have e:(Qex g xs).drop (0+i.toNat*sz+f)=((Qex g xs).drop (i.toNat*sz)).drop f:=by simp_all
 cases j with
 |true =>
  simp only[if_true,Zh] at q |-
  grind [List.drop_take,Min.min]
 |false =>
  grind
theorem Rn.storeA{t:Nat}{i:Int}{y:α}{ys:List α}{v:V}(f:∀x,(g x).length=sz)(j:Wn E gd)(ha:a.val (look E) = .ptr (Γ.n0+t) (0+i.toNat*sz))(hb:(b.val (look E)).dem=v)(k:Qei v=true)(m:Qcf L t=some (.cells (Qex g xs)))(hc:v.cells=g y)(c:setO xs i y=some ys)(h:Rn Γ pc os ⟨look E,Qn Γ.n0 ((t,.cells (Qex g ys))::L) M0,nb⟩ Q):Rn Γ pc (⟨none,.store sz,[a,b],false,gd⟩::os) ⟨look E,Qn Γ.n0 L M0,nb⟩ Q:=by
 unfold setO at c;split at c<;>cases c;rename_i e;have n:=Qog f xs;have l:i.toNat*sz+sz<=xs.length*sz:=by
  rw[show i.toNat*sz+sz=(i.toNat+1)*sz from by grind];exact Zbi _ e.2
 refine Rn.store (cs':=Qex g (xs.set i.toNat y)) j ha hb k m ?_ ?_ h
 ·simp_all
 ·rw[hc,Zz];exact Q5s f y e.2
theorem Qbmm{f:V->V}(h:∀x,(g x).map f=g x):WkVs ((Qex g xs).map f) (Qex g xs):=by
 refine .same ?_
 grind [Qex,List.map_map,List.map_congr_left]
def lenO(l:List α)(n:Nat):Option Unit:=if l.length=n then some () else none
theorem Qhp{l:List α}{n:Nat}(h:lenO l n=some ()):l.length=n:=by
 grind [lenO]
theorem Q5t:∀{a b:List V}{x y:List D},toDs a=some x->toDs b=some y->toDs (a++b)=some (x++y)
 |[],b,x,y,h,k=>by grind [toDs]
 |v::a,b,x,y,h,k=>by
  simp only[toDs] at h;split at h<;>try (cases h;done)
  rename_i d ds e c;cases h;simp only[Zaq,toDs,e,Q5t c k]
theorem Qtj{e:α->List D}(h:∀x,toDs (g x)=some (e x)):∀xs:List α,toDs (Qex g xs)=some ((xs.map e).flatten)
 |[]=>rfl
 |x::xs=>by rw[Ql1,Zb,Zaz];exact Q5t (h x) (Qtj h xs)
theorem Qz1{e:α->List D}{sz:Nat}(h:∀x,(e x).length=sz):∀xs:List α,Qi3 sz xs.length ((xs.map e).flatten)=xs.map e
 |[]=>rfl
 |x::xs=>by
  simp only[Zs,Qi3,Zb,Zaz];have f:(e x++(xs.map e).flatten).take sz=e x:=by rw[<-h x];simp
  have c:(e x++(xs.map e).flatten).drop sz=(xs.map e).flatten:=by rw[<-h x];simp
  rw[f,c,Qz1 h xs]
theorem Qz2{e:α->List D}{sz:Nat}(h:∀x,(e x).length=sz):∀xs:List α,((xs.map e).flatten).length=xs.length*sz
 |[]=>by simp
 |x::xs=>by simp only[Zb,Zaz,Zx,h,Qz2 h xs,Zs,Zv];omega
theorem fSlA{n0 t n:Nat}{e:α->List D}{xs:List α}(h:∀x,(e x).length=sz)(c:xs.length=n):WkV (frzV (n0+t) ((xs.map e).flatten) (.sl sz (n0+t) 0 n n)) (.d (.lst sz (xs.map e))):=by
 subst c;have f:=Qz2 h xs
 simp_all[List.drop_zero,List.take_of_length_le,frzV,if_true,if_pos,Ze,Qz1,Qbir]
end Go.Abs
end
section
namespace Go.Abs
open Go
def Qvq:D->Bool
 |.lst _ l=>l.isEmpty
 |.mp ..=>false
 |_=>true
def Qov(l:List (List D)):Bool:=l.all fun x=>x.all Qvq
def Qg3:V->Bool
 |.d (.mp ..)=>true
 |.d x=>Qvq x
 |.own _ l=>Qov l
 |.ownT _ l=>Qov l
 |.cref cs=>cs.isEmpty
 |.agg cs=>go cs
 |.tup vs=>go vs
 |.clo _ vs=>go vs
 |_=>true
where go:List V->Bool
 |[]=>true
 |v::vs=>Qg3 v&&go vs
theorem Qber:∀vs:List V,Qg3.go vs=true↔∀v∈vs,Qg3 v=true
 |[]=>by simp[Qg3.go]
 |v::vs=>by simp[Qg3.go,Qber vs]
def Q3t:List (V×V×Nat)->Prop
 |[]=>True
 |x::r=>Qg3 x.1=true/\Qg3 x.2.1=true/\Q3t r
theorem Qyn{imm a : Nat->Nat->Prop}{w:World}{x:D}{u:Value}(hp:Qvq x=true)(h:RD imm w x u):RD a w x u:=by
 cases x with
 |int k n=>simpa[RD] using h
 |bool b=>simpa[RD] using h
 |str s=>simpa[RD] using h
 |lst sz l =>
  simp_all[Qvq,List.isEmpty_iff,RD,trivial]
 |mp es c=>cases hp
theorem Qba6{imm a : Nat->Nat->Prop}{w:World}{b:Nat}(c:∀o,imm b o->a b o):∀{xs:List D}{o:Nat},xs.all Qvq=true->RDc imm w b xs o->RDc a w b xs o
 |[],_,_,_=>by simp[RDc]
 |x::xs,o,hp,h=>by
  simp only[Zbc,Zc] at hp;simp only[RDc] at h |-;obtain⟨j,⟨u,f,e⟩,d⟩:=h;exact⟨c _ j,⟨u,f,Qyn hp.1 e⟩,Qba6 c hp.2 d⟩
theorem Q09{imm a : Nat->Nat->Prop}{w:World}{sz b:Nat}(c:∀o,imm b o->a b o):∀{l:List (List D)}{o:Nat},Qov l=true->RDL imm w sz b l o->RDL a w sz b l o
 |[],_,_,_=>by simp[RDL]
 |x::l,o,hp,h=>by
  simp only[Qov,Zbc,Zc] at hp;simp only[RDL] at h |-;exact⟨h.1,Qba6 c hp.1 h.2.1,Q09 c (by simpa[Qov] using hp.2) h.2.2⟩
theorem Qbes{imm:Nat->Nat->Prop}{w:World}{sz b:Nat}:∀{l:List (List D)}{o:Nat},RDL imm w sz b l o->l.flatten.length=l.length*sz/\∀(j:Nat)y,l.flatten[j]? = some y->∃u,w.cell? ⟨b,o+j,none⟩=some u/\RD imm w y u
 |[],o,_=>by simp
 |x::l,o,h=>by
  simp only[RDL] at h;obtain⟨p,n,m⟩:=h;obtain⟨k,f⟩:=Qbes m;refine⟨by simp[p,k,Zv];omega,fun j y a=>?_⟩;simp only[Zaz] at a;by_cases c:j<x.length
  ·rw[Zay c] at a;obtain⟨_,u,e,d⟩:=Qut n j y a;exact⟨u,e,d⟩
  ·rw[Zau (by omega)] at a;obtain⟨u,e,d⟩:=f _ y a;exact⟨u,by rw[show o+j=o+sz+(j-x.length) from by omega];exact e,d⟩
def G.th(g:G)(b κ:Nat)[DecidablePred fun a=>a=b]:G:=⟨fun k=>if k=κ then b else g.box k,fun a o=>g.imm a o/\a ≠ b,fun a=>if a=b then .box κ else g.own a⟩
section
variable{g:G}{w:World}{b κ:Nat}{keep:Owner->Prop}(hB:¬keep (g.own b))(hs:∀ℓ i,keep ℓ->keep (ℓ.sub i))(he:keep .ext)(hm:Qzt w b=none)
include hB hs he hm
mutual
theorem Qbgg[DecidablePred fun j=>j=b]:∀(v:V)(ℓ:Owner)(u:Value),Qg3 v=true->v.on (· ≠ κ)->keep ℓ->RV g w v ℓ u->RV (g.th b κ) w v ℓ u
 |.und,_,_,_,_,_,_=>by simp[RV]
 |.d x,_,u,hp,_,_,h=>by
  cases x with
  |mp es c =>
   simp only[RV,RD] at h |-;obtain⟨j,r,q,p⟩:=h;refine⟨j,r,⟨q,?_⟩,p⟩;rintro rfl;rw[hm] at p;cases p
  |int k n=>simp only[RV] at h |-;exact Qyn (x:=.int k n) rfl h
  |bool b=>simp only[RV] at h |-;exact Qyn (x:=.bool b) rfl h
  |str s=>simp only[RV] at h |-;exact Qyn (x:=.str s) rfl h
  |lst sz l=>simp only[RV] at h |-;exact Qyn (x:=.lst sz l) hp h
 |.agg cs,ℓ,u,hp,ho,m,h=>by
  simp only[RV,Qg3] at hp h |-;obtain⟨vs,rfl,h,q⟩:=h;exact⟨vs,rfl,RVs_th cs ℓ 0 vs hp ho m h,q⟩
 |.tup cs,ℓ,u,hp,ho,m,h=>by
  simp only[RV,Qg3] at hp h |-;obtain⟨vs,rfl,h⟩:=h;exact⟨vs,rfl,RVs_th cs ℓ 0 vs hp ho m h⟩
 |.own sz l,ℓ,u,hp,ho,m,h=>by
  simp only[RV,Qg3] at hp h |-;rcases h with h|⟨j,cap,vals,e,q,p,h3,h4,h5,h6,h7,h8⟩
  ·exact .inl h
  ·have a:j ≠ b:=by rintro rfl;rw[p] at hB;exact hB m
   refine .inr ⟨j,cap,vals,e,q,by simp[G.th,a,p],h3,h4,h5,h6,fun o=>?_,Q09 (fun o ho=>⟨ho,a⟩) hp h8⟩;rw[<-h7 o];simp[G.th,a]
 |.ownT sz l,ℓ,u,hp,ho,m,h=>by
  simp only[RV,Qg3] at hp h |-;rcases h with h|⟨j,o0,cap,vals,e,q,p,h3,h4,h5,h6,h7,h8⟩
  ·exact .inl h
  ·have a:j ≠ b:=by rintro rfl;rw[p] at hB;exact hB m
   refine .inr ⟨j,o0,cap,vals,e,q,by simp[G.th,a,p],h3,h4,h5,h6,fun o=>?_,Q09 (fun o ho=>⟨ho,a⟩) hp h8⟩;rw[<-h7 o];simp[G.th,a]
 |.ptr k' o,ℓ,u,_,ho,m,h=>by
  have:k' ≠ κ:=ho;simpa[RV,G.th,this] using h
 |.nilp,_,_,_,_,_,h=>by simpa[RV] using h
 |.f x,_,u,_,_,_,h=>by
  simp only[RV] at h |-;refine Qgk (Qbd2 (g:=g) (g':=g.th b κ) fun j o q p=>?_) x u h;have a:j ≠ b:=by rintro rfl;rw[p] at hB;exact hB he
  exact⟨⟨q,a⟩,by simp[G.th,a,p]⟩
 |.nils _,_,_,_,_,_,h=>by simpa[RV] using h
 |.cref cs,ℓ,u,hp,_,m,h=>by
  simp only[Qg3,List.isEmpty_iff] at hp;subst hp;simp only[RV] at h |-;obtain⟨j,o,rfl,_⟩:=h;exact⟨j,o,rfl,by simp[RDc]⟩
 |.sl sz k' o n c,ℓ,u,_,ho,m,h=>by
  have:k' ≠ κ:=ho;simpa[RV,G.th,this] using h
 |.clo f cs,ℓ,u,hp,ho,m,h=>by
  simp only[RV,Qg3] at hp h |-;obtain⟨vs,rfl,h⟩:=h;exact⟨vs,rfl,RVs_th cs .ext 0 vs hp ho he h⟩
 |.mp k',ℓ,u,_,ho,m,h=>by
  have:k' ≠ κ:=ho;simpa[RV,G.th,this] using h
theorem RVs_th[DecidablePred fun j=>j=b]:∀(cs:List V)(ℓ:Owner)(i:Nat)(us:List Value),Qg3.go cs=true->V.ons (· ≠ κ) cs->keep ℓ->RVs g w cs ℓ i us->RVs (g.th b κ) w cs ℓ i us
 |[],_,_,_,_,_,_,h=>by simpa[RVs] using h
 |c::cs,ℓ,i,us,hp,ho,d,h=>by
  simp only[Qg3.go,Zc] at hp;simp only[RVs] at h |-;obtain⟨u,a,rfl,f,e⟩:=h;exact⟨u,a,rfl,Qbgg c (ℓ.sub i) u hp.1 ho.1 (hs _ _ d) f,RVs_th cs ℓ (i+1) a hp.2 ho.2 d e⟩
end
end
theorem Qbns{g:G}{w:World}{b κ:Nat}{keep:Owner->Prop}[DecidablePred fun m=>m=b](hB:¬keep (g.own b))(hs:∀ℓ i,keep ℓ->keep (ℓ.sub i))(he:keep .ext)(hm:Qzt w b=none){k:Nat}(c:∀i,keep (.cell k i)):∀{es:List (V×V×Nat)}{a:List MapEntry},Q3t es->RM g w k es a->RM (g.th b κ) w k es a
 |[],_,_,hr=>hr
 |x::r,_,hp,hr=>by
  simp only[RM] at hr |-;obtain⟨e,t,rfl,⟨f,n⟩,⟨d,l⟩,j,h⟩:=hr;exact⟨e,t,rfl,⟨f,Qbgg hB hs he hm _ _ _ hp.1 (Qwv f) he n⟩,⟨d,Qbgg hB hs he hm _ _ _ hp.2.1 (Qbpk d) (c _) l⟩,j,Qbns hB hs he hm c hp.2.2 h⟩
variable{Γ:Env}{σ:St}
def Qb8(l:List (List D))(a:Nat):List V:=l.flatten.map V.d++List.replicate a .und
structure Lone(Γ:Env)(M:Mem):Prop where
 prot:∀b,b<Γ.w0.heap.size->Prot (Γ.g0.own b)\/∃k,k<Γ.n0/\(M k).isSome=true/\b=Γ.g0.box k
 imm:∀b o,Γ.g0.imm b o->b<Γ.w0.heap.size
structure Q79(M:Mem):Prop where
 cells:∀k cs,M k=some (.cells cs)->Qg3.go cs=true
 mps:∀k es c,M k=some (.mp es c)->Q3t es
theorem Lone.old{Γ:Env}{M M' : Mem}{nb:Nat}(h:Lone Γ M){g:G}{w:World}(hm:MR g w M' nb)(hB:∀k,k<Γ.n0->(M k).isSome=true->(M' k).isSome=true)(f:Fr Γ.n0 Γ.g0 Γ.w0 g w){b:Nat}(hb:¬Prot (g.own b))(e:∀k,g.own b ≠ .box k):¬b<Γ.w0.heap.size:=by
 intro a;rcases h.prot b a with hp|⟨k,hk,hk1,rfl⟩
 ·obtain⟨c,_,_⟩:=f.old b a hp;rw[c] at hb;exact hb hp
 ·obtain⟨j,d⟩:=Zab.1 (hB k hk hk1);have c:=(hm.box k j d).2.1;rw[f.box k hk] at c;exact e k c
open Classical in
theorem Qba7{MB:Mem}(hG:Lone Γ MB)(hB:∀k,k<Γ.n0->(MB k).isSome=true->(σ.M k).isSome=true){a:Act}{w:World}{g:G}(hs:SR Γ.n0 Γ.nt Γ.g0 Γ.w0 σ a w g){κ sz:Nat}{l:List (List D)}{ℓ:Owner}{u:Value}(keep:Owner->Prop)(v:¬keep ℓ)(hsub:∀o i,keep o->keep (o.sub i))(he:keep .ext)(A:¬Prot ℓ)(s:∀k,ℓ ≠ .box k)(n:RV g w (.own sz l) ℓ u)(hl:¬ ∃ad,u = .slice ad 0 0)(Q:Qov l=true)(hκ:Γ.n0<=κ)(hκ2:κ<σ.nb)(B:σ.M κ=none):
  ∃c b,l.length<=c/\c<=maxLen/\u = .slice (some ⟨b,0,none⟩) l.length c/\g.own b=ℓ/\(g.th b κ).box κ=b/\BR (g.th b κ) w κ (.cells (Qb8 l ((c-l.length)*sz)))/\Fr Γ.n0 Γ.g0 Γ.w0 (g.th b κ) w /\
   (∀f o,(g.th b κ).imm f o->f<w.heap.size/\∀k,(g.th b κ).own f ≠ .box k)/\(∀k,There σ.M k->k≠κ)/\Qzt w b=none:=by
 simp only[RV] at n;rcases n with⟨h,_⟩|⟨b,H,d,e,rfl,hb,T,h4,h5,⟨h6,X⟩,h7,h8⟩
 ·exact absurd h hl
 have R:¬Prot (g.own b):=by rw[hb];exact A
 have p:=hG.old hs.mem hB hs.fr R (fun k=>by rw[hb];exact s k);have hk' : ¬keep (g.own b):=by rw[hb];exact v
 refine⟨H,b,h4,h5,rfl,hb,by simp[G.th],⟨d.toList,e,by simpa[G.th] using T,?_,X⟩,?_,?_,?_,by simp[Qzt,T]⟩
 ·have h8' : RDL (g.th b κ).imm w sz b l 0->False\/True:=fun _=>.inr trivial;obtain⟨U,W⟩:=Qbes h8;have E:d.toList.length=(Qb8 l ((H-l.length)*sz)).length:=by
   simp only[Qb8,Zx,Zu,List.length_replicate,U,Array.length_toList,h6];rw[<-Zv];congr 1;omega
  refine (Qc8 _ _ _ _).2 ⟨E,fun j c x hc hx=>?_⟩;simp only[Qb8] at hc;by_cases hj:j<l.flatten.length
  ·rw[Zay (by rw[Zu];exact hj),Zag] at hc;obtain⟨y,hy,rfl⟩:=Zd.1 hc;obtain⟨x',t,N⟩:=W j y hy;have z:w.cell? ⟨b,0+j,none⟩=d[j]?:=by simp[World.cell?,T]
   rw[z] at t;have:x=x':=by
    have h9:d[j]? = some x:=by simpa using hx
    rw[h9] at t;exact Zbq t
   subst this;have C:y∈l.flatten:=Zn hy;obtain⟨r,P,O⟩:=List.mem_flatten.1 C;have hp:Qvq y=true:=Zt.1 (Zt.1 Q r P) y O;simp only[RV];exact Qyn hp N
  ·rw[Zau (by rw[Zu];omega)] at hc;have:c = .und:=by
    have:=Zn hc;exact (List.mem_replicate.1 this).2
   subst this;simp[RV]
 ·have q:=hs.fr;refine⟨q.os,q.tape,q.output,q.size,⟨fun f o I=>⟨q.imm.mono f o I,?_⟩,q.imm.look⟩,fun k S=>?_,fun f F ho=>?_⟩
  ·rintro rfl;exact p (hG.imm _ _ I)
  ·have:k≠κ:=by omega
   simp only[G.th,this,if_false];exact q.box k S
  ·have m:f ≠ b:=by rintro rfl;exact p F
   obtain⟨L,J,k3⟩:=q.old f F ho;exact⟨by simp[G.th,m,L],J,fun o=>by simp[G.th,m,k3]⟩
 ·rintro f o ⟨I,m⟩;obtain⟨L,J⟩:=hs.mem.imm f o I;exact⟨L,fun k=>by simp only[G.th,m,if_false];exact J k⟩
 ·rintro k S rfl;simp[There,B] at S
theorem Qbo5{M:Mem}{κ:Nat}(a:∀k,There M k->k≠κ){v:V}(h:v.on fun k=>(M k).isSome=true):v.on (· ≠ κ):=Qf8 (fun k c=>a k c) v h
theorem Qbet{g:G}{w:World}{sz:Nat}{l:List (List D)}{ℓ:Owner}{u:Value}(h:RV g w (.own sz l) ℓ u)(c:∃a,u = .slice a 0 0):l=[]:=by
 obtain⟨a,rfl⟩:=c
 grind [RV,List.eq_nil_of_length_eq_zero]
open Classical in
theorem Tr.thawS{cc:CC}{Q:Ex->St->Prop}{MB:Mem}(hG:Lone Γ MB)(hB:∀k,k<Γ.n0->(MB k).isSome=true->(σ.M k).isSome=true){t κ sz:Nat}{l:List (List D)}(hl:l≠[])(hpl:Qov l=true)(T:σ.s t = .own sz l)(S:Γ.n0<=κ)(u:κ<σ.nb)(I:σ.M κ=none)(U:∀r,r ≠ t->Qg3 (σ.s r)=true)(X:∀k cs,σ.M k=some (.cells cs)->Qg3.go cs=true)(W:∀k es c,σ.M k=some (.mp es c)->Q3t es)(h:∀c,l.length<=c->c<=maxLen->Tr Γ cc ⟨σ.s.put t (.sl sz κ 0 l.length c),σ.M.put κ (.cells (Qb8 l ((c-l.length)*sz))),σ.nb⟩ Q):Tr Γ cc σ Q:=by
 intro R C a w g hs;have f:=hs.slots t;rw[T] at f;have m:∀(o:Owner)i,o ≠ .slot t []->o.sub i ≠ .slot t []:=by intro o i ho;cases o<;>simp_all[Owner.sub]
 obtain⟨c,b,h1,h2,hu,hb,z,hbr,hfr,O,N,A⟩:=Qba7 hG hB hs (fun o=>o ≠ .slot t []) (by simp) m (by simp) (by simp[Prot]) (by simp) f (fun h=>hl (Qbet f h)) hpl S u I;have B : ¬(fun o=>o≠Owner.slot t []) (g.own b):=by simp[hb]
 refine h c h1 h2 R C a w (g.th b κ) ⟨⟨fun k bx d=>?_,O⟩,fun r=>?_,hs.size,hs.defers,fun r=>?_,fun k cs d=>?_,hs.top,hfr⟩
 ·replace d:(σ.M.put κ (.cells (Qb8 l ((c-l.length)*sz)))) k=some bx:=d;by_cases n:k=κ
  ·subst n;rw[Qha] at d;cases d;exact⟨u,by rw[z];simp[G.th],hbr⟩
  ·rw[Qcr _ _ n] at d;obtain⟨k1,k2,k3⟩:=hs.mem.box k bx d;have E:(g.th b κ).box k=g.box k:=by simp[G.th,n]
   have L : g.box k≠b:=by
    rintro rfl;rw[k2] at hb;cases hb
   refine⟨k1,by rw[E];simp[G.th,L,k2],?_⟩;cases bx with
   |mp es c =>
    obtain⟨P,H,F⟩:=k3;exact⟨P,by rw[E];exact H,Qbns B m (by simp) A (fun _=>by simp) (W k es c d) F⟩
   |cells cs =>
    obtain⟨q,e,H,F,q3⟩:=k3;refine⟨q,e,by rw[E];exact H,RVs_th B m (by simp) A cs (.box k) 0 q (X k cs d) ?_ (by simp) F,q3⟩;exact ons_mono (fun j hj=>N j hj) _ (hs.onM k cs d).1
 ·simp only[Sl.put];split
  ·rename_i he;subst he;simp only[RV];rw[z];exact hu
  ·rename_i y;refine Qbgg B m (by simp) A _ _ _ (U r y) (Qbo5 N (hs.onS r)) ?_ (hs.slots r);simp;exact y
 ·simp only[Sl.put];split
  ·show There _ κ;exact There.self
  ·exact Qf8 (fun k d=>There.put d) _ (hs.onS r)
 ·replace d:(σ.M.put κ (.cells (Qb8 l ((c-l.length)*sz)))) k=some (.cells cs):=d;by_cases n:k=κ
  ·subst n;rw[Qha] at d;cases d;have J:∀p:Nat->Prop,V.ons p (Qb8 l ((c-l.length)*sz)):=by
    intro p;rw[Qiq];intro v hv;simp only[Qb8,Zp,Zl,List.mem_replicate] at hv;rcases hv with⟨x,_,rfl⟩|⟨_,rfl⟩<;>trivial
   exact⟨J _,fun _=>J _⟩
  ·rw[Qcr _ _ n] at d;obtain⟨H,F⟩:=hs.onM k cs d;exact⟨ons_mono (fun j hj=>There.put hj) _ H,F⟩
open Classical in
theorem Tr.thawCE{cc:CC}{Q:Ex->St->Prop}{MB:Mem}(hG:Lone Γ MB)(hB:∀k,k<Γ.n0->(MB k).isSome=true->(σ.M k).isSome=true){k0 i κ sz:Nat}{l:List (List D)}{m:List V}(hl:l=[]->Tr Γ cc ⟨σ.s,σ.M.put k0 (.cells (m.set i (.nils sz))),σ.nb⟩ Q)(hpl:Qov l=true)(hk0:Γ.n0<=k0)(z:σ.M k0=some (.cells m))(hi:m[i]? = some (.own sz l))(hκ:Γ.n0<=κ)(S:κ<σ.nb)(E:σ.M κ=none)(hps:∀t',Qg3 (σ.s t')=true)(hpm:∀k cs,σ.M k=some (.cells cs)->Qg3.go (if k=k0 then cs.set i .und else cs)=true)(hpn:∀k es c,σ.M k=some (.mp es c)->Q3t es)(h:∀c,l.length<=c->c<=maxLen->Tr Γ cc ⟨σ.s,(σ.M.put k0 (.cells (m.set i (.sl sz κ 0 l.length c)))).put κ (.cells (Qb8 l ((c-l.length)*sz))),σ.nb⟩ Q):Tr Γ cc σ Q:=by
 intro X L a w g hs;obtain⟨u0,N,T,_⟩:=Qyh hs.mem z hi;have y:∀(o:Owner)j,(o ≠ .cell k0 i/\o ≠ .box k0)->(o.sub j ≠ .cell k0 i/\o.sub j ≠ .box k0):=by
  rintro o j ⟨h1,h2⟩;cases o<;>simp_all[Owner.sub]
 have hnk:k0≠κ:=by rintro rfl;rw[z] at E;cases E
 by_cases hnn:∃ad,u0 = .slice ad 0 0
 ·refine hl (Qbet T hnn) X L a w g ⟨⟨fun k bx f=>?_,hs.mem.imm⟩,hs.slots,hs.size,hs.defers,fun t=>Qf8 (fun _ r=>There.put r) _ (hs.onS t),fun k cs f=>?_,hs.top,hs.fr⟩
  ·replace f:(σ.M.put k0 (.cells (m.set i (.nils sz)))) k=some bx:=f;by_cases n:k=k0
   ·subst n;rw[Qha] at f;cases f;obtain⟨k1,k2,q,e,u,B,q3⟩:=hs.mem.box k _ z;obtain⟨r1,r2⟩:=(Qc8 _ _ _ _).1 B;refine⟨k1,k2,q,e,u,(Qc8 _ _ _ _).2 ⟨by rw[List.length_set];exact r1,fun j d x I hx=>?_⟩,q3⟩;by_cases r:j=i
    ·subst r;rw[List.getElem?_set_self (Zm.1 hi).1] at I;cases I;have J:w.cell? ⟨g.box k,j,none⟩=some x:=by simp[World.cell?,u];simpa using hx
     rw[N] at J;cases J;simp only[RV];exact hnn
    ·rw[List.getElem?_set_ne (Ne.symm r)] at I;exact r2 j d x I hx
   ·rw[Qcr _ _ n] at f;exact hs.mem.box k bx f
  ·replace f:(σ.M.put k0 (.cells (m.set i (.nils sz)))) k=some (.cells cs):=f;by_cases n:k=k0
   ·subst n;rw[Qha] at f;cases f;obtain⟨u,B⟩:=hs.onM k m z;exact⟨Q2q i (ons_mono (fun j r=>There.put r) _ u) trivial,fun H=>absurd H (by omega)⟩
   ·rw[Qcr _ _ n] at f;obtain⟨u,B⟩:=hs.onM k cs f;exact⟨ons_mono (fun j r=>There.put r) _ u,B⟩
 obtain⟨c,b,h1,h2,hu,hb,W,hbr,hfr,himm,hne,P⟩:=Qba7 hG hB hs (fun o=>o ≠ .cell k0 i/\o ≠ .box k0) (by simp) y (by simp) (by simp[Prot]) (by simp) T hnn hpl hκ S E;have R : ¬(fun o=>o≠Owner.cell k0 i/\o ≠ .box k0) (g.own b):=by simp[hb]
 have A:∀j,There σ.M j->There ((σ.M.put k0 (.cells (m.set i (.sl sz κ 0 l.length c)))).put κ (.cells (Qb8 l ((c-l.length)*sz)))) j:=fun j r=>There.put (There.put r);refine h c h1 h2 X L a w (g.th b κ) ⟨⟨fun k bx f=>?_,himm⟩,fun t'=>?_,hs.size,hs.defers,fun t'=>?_,fun k cs f=>?_,hs.top,hfr⟩
 ·replace f:((σ.M.put k0 (.cells (m.set i (.sl sz κ 0 l.length c)))).put κ (.cells (Qb8 l ((c-l.length)*sz)))) k=some bx:=f;by_cases C:k=κ
  ·subst C;rw[Qha] at f;cases f;exact⟨S,by rw[W];simp[G.th],hbr⟩
  ·rw[Qcr _ _ C] at f;have O:(g.th b κ).box k=g.box k:=by simp[G.th,C]
   by_cases n:k=k0
   ·subst n;rw[Qha] at f;cases f;obtain⟨k1,k2,q,e,u,B,q3⟩:=hs.mem.box k _ z;have F : g.box k≠b:=by
     rintro rfl;rw[k2] at hb;cases hb
    refine⟨k1,by rw[O];simp[G.th,F,k2],q,e,by rw[O];exact u,(Qc8 _ _ _ _).2 ⟨?_,fun j d x I hx=>?_⟩,q3⟩
    ·rw[List.length_set];exact Qp0 B
    ·obtain⟨r1,r2⟩:=(Qc8 _ _ _ _).1 B;by_cases r:j=i
     ·subst r;have H:=(Zm.1 hi).1;rw[List.getElem?_set_self H] at I;cases I;have J:w.cell? ⟨g.box k,j,none⟩=some x:=by
       have h9:q.toArray[j]? = some x:=by simpa using hx
       simp[World.cell?,u];simpa using hx
      rw[N] at J;cases J;simp only[RV];rw[W];exact hu
     ·rw[List.getElem?_set_ne (Ne.symm r)] at I;have U:=hpm k m z;rw[if_pos rfl,Qber] at U;have hmem:d∈m.set i .und:=by
       have:(m.set i .und)[j]? = some d:=by rw[List.getElem?_set_ne (Ne.symm r)];exact I
       exact Zn this
      refine Qbgg R y (by simp) P d _ x (U d hmem) ?_ ?_ (r2 j d x I hx)
      ·exact Qf8 (fun j r=>hne j r) _ (Qft (hs.onM k m z).1 I)
      ·simp[Owner.sub];omega
   ·rw[Qcr _ _ n] at f;obtain⟨k1,k2,k3⟩:=hs.mem.box k bx f;have F : g.box k≠b:=by
     rintro rfl;rw[k2] at hb;cases hb
    refine⟨k1,by rw[O];simp[G.th,F,k2],?_⟩;cases bx with
    |mp es c =>
     obtain⟨ents,u,B⟩:=k3;exact⟨ents,by rw[O];exact u,Qbns R y (by simp) P (fun _=>⟨by intro h;injection h with h1;exact n h1,by simp⟩) (hpn k es c f) B⟩
    |cells cs =>
     obtain⟨q,e,u,B,q3⟩:=k3;have hp:=hpm k cs f;rw[if_neg n] at hp;refine⟨q,e,by rw[O];exact u,RVs_th R y (by simp) P cs (.box k) 0 q hp ?_ ⟨by simp,by simpa using n⟩ B,q3⟩;exact ons_mono (fun j r=>hne j r) _ (hs.onM k cs f).1
 ·exact Qbgg R y (by simp) P _ _ _ (hps t') (Qbo5 hne (hs.onS t')) (by simp) (hs.slots t')
 ·exact Qf8 A _ (hs.onS t')
 ·replace f:((σ.M.put k0 (.cells (m.set i (.sl sz κ 0 l.length c)))).put κ (.cells (Qb8 l ((c-l.length)*sz)))) k=some (.cells cs):=f;by_cases C:k=κ
  ·subst C;rw[Qha] at f;cases f;have hno:∀p:Nat->Prop,V.ons p (Qb8 l ((c-l.length)*sz)):=by
    intro p;rw[Qiq];intro v hv;simp only[Qb8,Zp,Zl,List.mem_replicate] at hv;rcases hv with⟨x,_,rfl⟩|⟨_,rfl⟩<;>trivial
   exact⟨hno _,fun _=>hno _⟩
  ·rw[Qcr _ _ C] at f;by_cases n:k=k0
   ·subst n;rw[Qha] at f;cases f;obtain⟨u,B⟩:=hs.onM k m z;refine⟨Q2q i (ons_mono A _ u) ?_,fun H=>absurd H (by omega)⟩;show There _ κ;exact There.self
   ·rw[Qcr _ _ n] at f;obtain⟨u,B⟩:=hs.onM k cs f;exact⟨ons_mono A _ u,B⟩
end Go.Abs
end
section
namespace Go.Abs
open Go Go.Sort
def D.val:D->Value
 |.int k n=>.int k n
 |.bool b=>.bool b
 |.str s=>.string s
 |.lst _ _=>.slice none 0 0
 |.mp ..=>.map none
def D.scalar:D->Bool
 |.lst _ _=>false
 |.mp ..=>false
 |_=>true
theorem Qbeu{imm:Nat->Nat->Prop}{w:World}{x:D}{u:Value}(a:x.scalar=true):RD imm w x u↔u=x.val:=by
 cases x<;>simp[RD,D.val,D.scalar] at a |-
theorem Qbdc{x:D}(a:x.scalar=true):x.val.oneCell'=true:=by cases x<;>simp[D.scalar,D.val] at a |- <;> rfl
def rowV{α:Type}(e:α->List D)(xs:List α):List Value:=(xs.map e).flatten.map D.val
theorem Q5u(w:World)(n a:Nat)(F:Array Value)(os:Array Obj){c:Array Value}{e:TypeId}(h:w.heap[a]? = some (.cells c e (0,0))):(grow (putRow id (Sort.ahead w n) a 0 F) os).heap[a]? = some (.cells (putCells id 0 F c) e (0,0)):=by
 have d:a<w.heap.size:=(Zaf.1 h).1;have b:(putRow id (Sort.ahead w n) a 0 F).heap.size=w.heap.size:=by simp_all
 rw[heap_grow_old _ _ (by rw[b];exact d)];show (w.heap.modify a (onCells (putCells id 0 F)))[a]? = _;rw[Array.getElem?_modify,if_pos rfl,h]
 rfl
theorem Qtk(w:World)(n a:Nat)(F:Array Value)(os:Array Obj){b:Nat}(hb:b≠a)(d:b<w.heap.size):(grow (putRow id (Sort.ahead w n) a 0 F) os).heap[b]? = w.heap[b]?:=by
 have c:(putRow id (Sort.ahead w n) a 0 F).heap.size=w.heap.size:=by simp_all
 rw[heap_grow_old _ _ (by rw[c];exact d)];show (w.heap.modify a (onCells (putCells id 0 F)))[b]? = _
 grind
def Qbiw{α:Type}(P:Program)(f:FuncId)(e:α->List D)(ex:Array Value)(srt:List α->List α):Prop :=
 ∀(a b:Nat)(xs:List α)(w:World),(∀j,j<(rowV e xs).length->w.cell? ⟨a,j,none⟩=(rowV e xs)[j]? /\ w.frozen? ⟨a,j,none⟩=false)->a<w.heap.size->xs.length<4611686018427387904 ->
  Calls P f (#[.slice (some ⟨a,0,none⟩) xs.length b]++ex) w fun c w'=>c = .returned (.tuple #[])/\∃n os,w'=grow (putRow id (Sort.ahead w n) a 0 (rowV e (srt xs)).toArray) os
theorem Q9n{α:Type}{e:α->List D}{sz:Nat}(a:∀x,(e x).length=sz)(xs:List α):(rowV e xs).length=xs.length*sz:=by
 simp only[rowV,Zu]
 induction xs with
 |nil=>simp
 |cons x xs b=>grind
theorem Q8a{α:Type}{P:Program}{f:FuncId}{e:α->List D}{sz:Nat}(E:∀x,(e x).length=sz)(hsc:∀x,(e x).all D.scalar=true){srt:List α->List α}(W:∀xs,(srt xs).length=xs.length){ex:Array Value}{exV:List V}(hex:∀g w us,RFs g w exV us->us=ex.toList)(hb:Qh0 P f=true)(hK:Qbiw P f e ex srt)(xs:List α)(c k0:Nat)(M:Mem)(nb:Nat)(hM:M k0=some (.cells (Qb8 (xs.map e) ((c-xs.length)*sz))))(hsz:xs.length<4611686018427387904)(hexf:V.dems exV=exV:=by rfl):
  ACalls P f (.sl sz k0 0 xs.length c::exV) M nb (.tup []) (M.put k0 (.cells (Qb8 ((srt xs).map e) ((c-xs.length)*sz)))) nb:=by
 refine ACalls.mk' hb (Ze _) (by simp only[V.dems,V.dem,hexf]) fun w g us hm L hus hfl hons=>?_;obtain⟨u0,us',rfl,hu0,T⟩:=hus;have h0:=Q64.1 hu0;subst h0;have h1:=hex _ _ _ T;obtain⟨hk0,C,m,et,hh,hrv,hone⟩:=hm.box k0 _ hM;have O:g.box k0<w.heap.size:=(Zaf.1 hh).1;obtain⟨hvl,hvr⟩:=(Qc8 _ _ _ _).1 hrv;have X:∀(l:List α),∀y∈(l.map e).flatten,y.scalar=true:=by
  grind
 have B : ∀l:List α,(l.map e).flatten.length=l.length*sz:=fun l=>by have:=Q9n E l;rw[rowV,Zu] at this;exact this
 have hcell:∀j,j<(rowV e xs).length->m[j]? = (rowV e xs)[j]?:=by
  intro j r;rw[Q9n E] at r;have hjf:j<(xs.map e).flatten.length:=by rw[B];exact r
  have hjv:j<m.length:=by
   grind [Qb8,List.length_append,List.length_map]
  have hc:(Qb8 (xs.map e) ((c-xs.length)*sz))[j]? = some (.d (xs.map e).flatten[j]):=by
   grind [Qb8,List.getElem?_append_left,List.length_map,List.getElem?_eq_getElem]
  grind [List.getElem?_eq_getElem,RV,Qbeu,List.getElem_mem,rowV]
 have Q:=hK (g.box k0) c xs w (fun j r=>⟨by grind [Go.World.cell?],by simp[World.frozen?,hh]⟩) O hsz;have S:(Value.slice (some ⟨g.box k0,0,none⟩) xs.length c::us').toArray = #[.slice (some ⟨g.box k0,0,none⟩) xs.length c]++ex:=by
  grind
 rw[S];refine Q.mono ?_;rintro e' w' ⟨rfl,n,os,rfl⟩;generalize hF:(rowV e (srt xs)).toArray=F;have hFs:F.size=xs.length*sz:=by grind [Q9n]
 have J:=Q5u w n (g.box k0) F os hh;have a:∀b,b≠g.box k0->b<w.heap.size->(grow (putRow id (Sort.ahead w n) (g.box k0) 0 F) os).heap[b]? = w.heap[b]?:=fun b hb O=>Qtk w n _ F os hb O;have q:w.heap.size<=(grow (putRow id (Sort.ahead w n) (g.box k0) 0 F) os).heap.size:=by
  grind
 generalize N : grow (putRow id (Sort.ahead w n) (g.box k0) 0 F) os=w' at J a q;have I:Imm g.imm g.imm w w':=by
  refine⟨fun _ _ h=>h,fun b o h=>?_⟩;obtain⟨k1,k2⟩:=hm.imm b o h;have u:b≠g.box k0:=by grind
  exact Qew (a b u k1)
 have A:Kept g w g w' (There M) (fun o=>o ≠ .box k0):=⟨I,fun _ _=>rfl,fun b hb hl=>⟨rfl,a b (by grind) hl,fun _=>Zk⟩⟩;have U:∀(o:Owner)i,o ≠ .box k0->o.sub i ≠ .box k0:=by intro o i _;cases o<;>simp[Owner.sub]
 have hnew:∀p:Nat->Prop,V.ons p (Qb8 ((srt xs).map e) ((c-xs.length)*sz)):=by
  intro p;rw[Qiq];intro v hv;simp only[Qb8,Zp,Zl,List.mem_replicate] at hv;rcases hv with⟨x,_,rfl⟩|⟨_,rfl⟩<;>trivial
 refine⟨_,g,rfl,⟨fun k b H=>?_,fun b o h=>⟨Zbk (hm.imm b o h).1 q,(hm.imm b o h).2⟩⟩,⟨[],rfl,rfl⟩,trivial,fun k cs H=>?_,?_⟩
 ·by_cases z:k=k0
  ·subst z;rw[Qha] at H;cases H;refine⟨hk0,C,(putCells id 0 F m.toArray).toList,et,by simpa using J,(Qc8 _ _ _ _).2 ⟨?_,fun j cc x hc hx=>?_⟩,fun x hx=>?_⟩
   ·grind [Qb8,List.length_append,List.length_map,List.length_replicate,Go.Sort.putCells]
   ·have t : (putCells id 0 F m.toArray)[j]? = some x:=by simpa using hx
    simp only[putCells,Array.getElem?_mapIdx,List.getElem?_toArray,Zd] at t;obtain⟨y,hy,rfl⟩:=t;simp only[Qb8] at hc;by_cases r:j<((srt xs).map e).flatten.length
    ·rw[Zay (by grind),Zag,Zj r,Zad,Zh] at hc;subst hc;rw[B,W] at r;have hjF:j<F.size:=by rw[hFs];exact r
     rw[if_pos ⟨Zw _,by omega⟩];have hj2:j<((srt xs).map e).flatten.length:=by rw[B,W];exact r
     simp only[RV];rw[Qbeu (X (srt xs) _ (Zr hj2))];simp only[Nat.sub_zero,id]
     grind [rowV]
    grind [List.getElem?_append_right,List.length_map,List.mem_of_getElem?,RV]
   ·obtain⟨j,r⟩:=List.getElem?_of_mem hx;have t : (putCells id 0 F m.toArray)[j]? = some x:=by simpa using r
    simp only[putCells,Array.getElem?_mapIdx,List.getElem?_toArray,Zd] at t;obtain⟨y,hy,rfl⟩:=t
    grind [id,rowV,Qbdc,List.getElem_mem,List.mem_of_getElem?]
  ·rw[Qcr _ _ z] at H;obtain⟨k1,k2,k3⟩:=hm.box k b H;cases b with
   |mp es c =>
    obtain⟨ents,R,q2⟩:=k3;have u:g.box k≠g.box k0:=by
     grind
    exact⟨k1,k2,ents,(a _ u (Zaf.1 R).1).trans R,Qll (g:=g) (g':=g) A (fun _=>by simp) q2⟩
   |cells cs =>
    obtain⟨s,e2,R,q2,q3⟩:=k3;have u:g.box k≠g.box k0:=by
     grind
    refine⟨k1,k2,s,e2,(a _ u (Zaf.1 R).1).trans R,?_,q3⟩;exact RVs_mono A U (by simp) cs (.box k) 0 s (by simpa using z) (L k cs H) q2
 ·by_cases z:k=k0
  ·grind [Qha]
  ·rw[Qcr _ _ z] at H;exact ons_mono (fun j r=>There.put r) _ (L k cs H)
 ·refine⟨by rw[<-N];rfl,by rw[<-N];rfl,by rw[<-N];rfl,q,I,fun _ _=>rfl,fun b hb ho=>⟨rfl,a b ?_ hb,fun _=>Zk⟩⟩;rintro rfl;rw[C] at ho;exact ho
end Go.Abs
end
